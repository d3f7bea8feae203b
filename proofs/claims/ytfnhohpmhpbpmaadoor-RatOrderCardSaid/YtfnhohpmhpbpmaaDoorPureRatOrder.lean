/- RatOrder: of any three the order is one, and sums keep it; products by what is above 0, too, and others turn it; the plain law behind the printed walk. No condition beyond the statement's own guards. -/
import Derived.Test.YtfnhohpmhpbpmaaDoorGx18
import Derived.Test.YtfnhohpmhpbpmaaDoorGRatLaws
namespace Go.Proofs.YtfnhohpmhpbpmaaDoor.Pure
open Go.RowKit Go.Proofs.YtfnhohpmhpbpmaaDoor.G Go.Proofs.YtfnhohpmhpbpmaaDoorW.PrintWords Go.Proofs.YtfnhohpmhpbpmaaDoorW.PrintLast

theorem lt_asymm' {a b : Rat} (h : a < b) : ¬ b < a := by grind
theorem cmpQ_lt {a b : Rat} (h : a < b) : cmpQ a b = -1 := if_pos h
theorem cmpQ_gt {a b : Rat} (h : b < a) : cmpQ a b = 1 := by unfold cmpQ; rw [if_neg (lt_asymm' h), if_pos h]
theorem cmpQ_eq (a : Rat) : cmpQ a a = 0 := by unfold cmpQ; rw [if_neg Rat.lt_irrefl, if_neg Rat.lt_irrefl]
theorem three (a b : Rat) : a < b ∨ a = b ∨ b < a := by grind
theorem cmpQ_neg (a b : Rat) : cmpQ a b = wrap64 (-cmpQ b a) := by
  rcases three a b with h | h | h
  · rw [cmpQ_lt h, cmpQ_gt h]; unfold wrap64; decide
  · rw [h, cmpQ_eq]; unfold wrap64; decide
  · rw [cmpQ_gt h, cmpQ_lt h]; unfold wrap64; decide
theorem cmpQ_add (a b c : Rat) : cmpQ (a + c) (b + c) = cmpQ a b := by
  rcases three a b with h | h | h
  · rw [cmpQ_lt h, cmpQ_lt (Rat.add_lt_add_right.2 h)]
  · rw [h, cmpQ_eq, cmpQ_eq]
  · rw [cmpQ_gt h, cmpQ_gt (Rat.add_lt_add_right.2 h)]
theorem neg_lt {a b c : Rat} (hc : c < 0) (h : a < b) : b * c < a * c := by
  have h1 : 0 < -c := by grind
  have h2 := Rat.mul_lt_mul_of_pos_right h h1
  rw [Rat.mul_neg, Rat.mul_neg] at h2
  exact Rat.neg_lt_neg_iff.1 h2
theorem cmpQ_mul (a b c : Rat) : cmpQ (a * c) (b * c) = wrap64 (cmpQ a b * cmpQ c 0) := by
  rcases three c 0 with hc | hc | hc
  · rw [cmpQ_lt hc]
    rcases three a b with h | h | h
    · rw [cmpQ_lt h, cmpQ_gt (neg_lt hc h)]; unfold wrap64; decide
    · rw [h, cmpQ_eq, cmpQ_eq]; unfold wrap64; decide
    · rw [cmpQ_gt h, cmpQ_lt (neg_lt hc h)]; unfold wrap64; decide
  · rw [hc, Rat.mul_zero, Rat.mul_zero, cmpQ_eq, Int.mul_zero]; unfold wrap64; decide
  · rw [cmpQ_gt hc]
    rcases three a b with h | h | h
    · rw [cmpQ_lt h, cmpQ_lt (Rat.mul_lt_mul_of_pos_right h hc)]; unfold wrap64; decide
    · rw [h, cmpQ_eq, cmpQ_eq]; unfold wrap64; decide
    · rw [cmpQ_gt h, cmpQ_gt (Rat.mul_lt_mul_of_pos_right h hc)]; unfold wrap64; decide
theorem Order_j1 (a b c : Rat) (ba : Bd 160 a) (bb : Bd 160 b) (bc : Bd 160 c) : Ev (fun k => tribunallaw03_RatOrder.j1 k true (ratS a) (ratS b) (ratS c) false) true := by
  have bac := ba.add bc
  have bbc := bb.add bc
  have mac := ba.mul bc
  have mbc := bb.mul bc
  have last : Ev (fun _ => (tribunallaw03_plus.f (ratS a) (ratS c)).bind fun t => (tribunallaw03_plus.f (ratS b) (ratS c)).bind fun u => (rat_Cmp.f t u).bind fun v => if v = cmpQ a b then (tribunallaw03_times.f (ratS a) (ratS c)).bind fun t => (tribunallaw03_times.f (ratS b) (ratS c)).bind fun u => (rat_Cmp.f t u).bind fun v => some (v == wrap64 (cmpQ a b * cmpQ c 0)) else none) true := by
    refine Ev.bind (Ev.const (rPlus ba bc (by omega))) (Ev.bind (Ev.const (rPlus bb bc (by omega))) (Ev.bind (Ev.const (rCmp bac bbc (by omega) (by omega))) (Ev.pos (cmpQ_add a b c) ?_)))
    refine Ev.bind (Ev.const (rTimes ba bc (by omega))) (Ev.bind (Ev.const (rTimes bb bc (by omega))) (Ev.bind (Ev.const (rCmp mac mbc (by omega) (by omega))) (Ev.const ?_)))
    rw [cmpQ_mul]
    simp
  apply Ev.step
  · intro k; rw [tribunallaw03_RatOrder.j1]
  · rw [rat0]
    refine Ev.no (Ev.bind (Ev.const (rCmp ba bb (by omega) (by omega))) (Ev.bind (Ev.const (rCmp bc bd0 (by omega) (by omega))) (Ev.yes (Ev.bind (Ev.const (rCmp bb ba (by omega) (by omega))) (Ev.pos (cmpQ_neg a b) ?_)))))
    by_cases h1 : cmpQ a b > 0
    · exact Ev.pos h1 last
    · refine Ev.neg h1 (Ev.bind (Ev.const (rCmp bb bc (by omega) (by omega))) ?_)
      by_cases h2 : cmpQ b c > 0
      · exact Ev.pos h2 last
      · refine Ev.neg h2 (Ev.bind (Ev.const (rCmp ba bc (by omega) (by omega))) (Ev.pos ?_ last))
        rcases three a b with g | g | g
        · rcases three b c with i | i | i
          · rw [cmpQ_lt (show a < c by grind)]; decide
          · rw [cmpQ_lt (show a < c by grind)]; decide
          · rw [cmpQ_gt i] at h2; exact absurd (by decide) h2
        · rw [g]; omega
        · rw [cmpQ_gt g] at h1; exact absurd (by decide) h1
theorem Order_out (x y z : ByteArray) : Ev (fun k => tribunallaw03_RatOrder.j1 k true x y z true) true := by
  apply Ev.step
  · intro k; rw [tribunallaw03_RatOrder.j1]
  · exact Ev.yes (Ev.now _)
theorem RatOrder : tribunallaw03_RatOrder.Pure := by
  intro x y z hx hy hz
  refine Ev.rounds (g := fun k => tribunallaw03_RatOrder.f k x y z) ?_
  unfold tribunallaw03_RatOrder.f
  refine Ev.bind (Ev.const head_true) ?_
  have great : Ev (fun k => tribunallaw03_RatOrder.j0 k x y z true true) true := by
    apply Ev.step
    · intro k; rw [tribunallaw03_RatOrder.j0]
    · exact Ev.yes (Ev.now _)
  by_cases hxy : x.size ≤ 160 ∧ y.size ≤ 160
  · refine Ev.bind (Ev.const (great_of hxy.1 hxy.2)) (Ev.no ?_)
    by_cases h : z.size ≤ 160
    · rw [show decide ((z.size : Int) > 160) = false from decide_eq_false (by omega)]
      apply Ev.step
      · intro k; rw [tribunallaw03_RatOrder.j0]
      · refine Ev.no (Ev.bind (Ev.const (rNorm_eq x (by omega))) (Ev.bind (Ev.const (rNorm_eq y (by omega))) (Ev.bind (Ev.const (rNorm_eq z (by omega))) ?_)))
        rcases norm_cases x 160 hxy.1 (by omega) with ⟨a, ea, ba⟩ | ⟨e, he, ee⟩
        · rw [ea]
          refine Ev.pos rfl ?_
          rcases norm_cases y 160 hxy.2 (by omega) with ⟨b, eb, bb⟩ | ⟨e, he, ee⟩
          · rw [eb]
            refine Ev.pos rfl ?_
            rcases norm_cases z 160 h (by omega) with ⟨c, ec, bc⟩ | ⟨e, he, ee⟩
            · rw [ec]
              exact Order_j1 a b c ba bb bc
            · rw [ee, show (e != 0) = true from bne_iff_ne.2 he]
              exact Order_out _ _ _
          · rw [ee]
            exact Ev.neg he (Order_out _ _ _)
        · rw [ee]
          exact Ev.neg he (Order_out _ _ _)
    · rw [show decide ((z.size : Int) > 160) = true from decide_eq_true (by omega)]
      exact great
  · exact Ev.bind (Ev.const (great_not hxy)) (Ev.yes great)
end Go.Proofs.YtfnhohpmhpbpmaaDoor.Pure
