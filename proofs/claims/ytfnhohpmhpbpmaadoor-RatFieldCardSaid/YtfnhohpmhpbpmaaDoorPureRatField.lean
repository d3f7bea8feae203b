/- RatField: sums and products go in any order, and products over sums; what is taken away, or divided by, goes back; the plain law behind the printed walk. No condition beyond the statement's own guards. -/
import Derived.Test.YtfnhohpmhpbpmaaDoorGx16
import Derived.Test.YtfnhohpmhpbpmaaDoorGRatLaws
namespace Go.Proofs.YtfnhohpmhpbpmaaDoor.Pure
open Go.RowKit Go.Proofs.YtfnhohpmhpbpmaaDoor.G Go.Proofs.YtfnhohpmhpbpmaaDoorW.PrintWords Go.Proofs.YtfnhohpmhpbpmaaDoorW.PrintLast

theorem zero_text (b : Rat) : (ratS b).toList = ([48] : List UInt8) ↔ b = 0 := by
  rw [← toList_mk [48], toList_inj]
  show ratS b = (⟨#[48]⟩ : ByteArray) ↔ _
  rw [rat0, ratS_inj]
theorem Field_j2 (a b : Rat) (ba : Bd 160 a) (bb : Bd 160 b) : Ev (fun k => tribunallaw03_RatField.j2 k true (ratS a) (ratS b) false) true := by
  have bab := ba.add bb
  have mab := ba.mul bb
  apply Ev.step
  · intro k; rw [tribunallaw03_RatField.j2]
  · refine Ev.no (Ev.bind (Ev.const (rPlus ba bb (by omega))) (Ev.bind (Ev.const (rSub bab bb (by omega))) (Ev.bind (Ev.const (rTimes ba bb (by omega))) (Ev.bind (Ev.const (rDiv mab bb (by omega) (by omega))) (Ev.bind (Ev.const (rNeg ba (by omega))) ?_)))))
    rw [Rat.add_sub_cancel]
    refine Ev.yes (Ev.pos rfl (Ev.pos rfl ?_))
    have last : Ev (fun _ => (tribunallaw03_plus.f (ratS a) (ratS (-a))).bind fun t => if t.toList = ([48] : List UInt8) then (tribunallaw03_plus.f (ratS a) (⟨#[48]⟩ : ByteArray)).bind fun t => if t.toList = (ratS a).toList then (tribunallaw03_times.f (ratS a) (⟨#[49]⟩ : ByteArray)).bind fun t => some (t.toList == (ratS a).toList) else none else none) true := by
      refine Ev.bind (Ev.const (rPlus ba ba.neg (by omega))) (Ev.pos ?_ ?_)
      · rw [zero_text, Rat.add_neg_cancel]
      · rw [rat0, rat1]
        refine Ev.bind (Ev.const (rPlus ba bd0 (by omega))) (Ev.pos (by rw [Rat.add_zero]) (Ev.bind (Ev.const (rTimes ba bd1 (by omega))) (Ev.const ?_)))
        rw [Rat.mul_one]
        simp
    by_cases h0 : b = 0
    · refine Ev.pos ((zero_text b).2 h0) ?_
      rw [if_pos h0]
      exact Ev.pos rfl (Ev.pos rfl last)
    · refine Ev.neg (fun h => h0 ((zero_text b).1 h)) ?_
      rw [if_neg h0, Rat.mul_div_cancel h0]
      exact Ev.pos rfl (Ev.pos rfl (Ev.pos rfl last))
theorem Field_j1 (a b c : Rat) (ba : Bd 160 a) (bb : Bd 160 b) (bc : Bd 160 c) : Ev (fun k => tribunallaw03_RatField.j1 k true (ratS a) (ratS b) (ratS c) false) true := by
  have bab := ba.add bb
  have mab := ba.mul bb
  have bbc := bb.add bc
  have mbc := bb.mul bc
  have mac := ba.mul bc
  apply Ev.step
  · intro k; rw [tribunallaw03_RatField.j1]
  · refine Ev.no (Ev.bind (Ev.const (rPlus ba bb (by omega))) (Ev.bind (Ev.const (rPlus bb ba (by omega))) (Ev.pos (by rw [Rat.add_comm]) ?_)))
    refine Ev.bind (Ev.const (rTimes ba bb (by omega))) (Ev.bind (Ev.const (rTimes bb ba (by omega))) (Ev.pos (by rw [Rat.mul_comm]) ?_))
    refine Ev.bind (Ev.const (rPlus ba bb (by omega))) (Ev.bind (Ev.const (rPlus bab bc (by omega))) (Ev.bind (Ev.const (rPlus bb bc (by omega))) (Ev.bind (Ev.const (rPlus ba bbc (by omega))) (Ev.pos (by rw [Rat.add_assoc]) ?_))))
    refine Ev.bind (Ev.const (rTimes ba bb (by omega))) (Ev.bind (Ev.const (rTimes mab bc (by omega))) (Ev.bind (Ev.const (rTimes bb bc (by omega))) (Ev.bind (Ev.const (rTimes ba mbc (by omega))) (Ev.pos (by rw [Rat.mul_assoc]) ?_))))
    refine Ev.bind (Ev.const (rPlus bb bc (by omega))) (Ev.bind (Ev.const (rTimes ba bbc (by omega))) (Ev.bind (Ev.const (rTimes ba bb (by omega))) (Ev.bind (Ev.const (rTimes ba bc (by omega))) (Ev.bind (Ev.const (rPlus mab mac (by omega))) ?_))))
    rw [Rat.mul_add, show ((ratS (a * b + a * c)).toList != (ratS (a * b + a * c)).toList) = false from by simp]
    exact Field_j2 a b ba bb
theorem Field_out (x y : ByteArray) (z : ByteArray) : Ev (fun k => tribunallaw03_RatField.j1 k true x y z true) true := by
  apply Ev.step
  · intro k; rw [tribunallaw03_RatField.j1]
  · exact Ev.yes (Ev.now _)
theorem RatField : tribunallaw03_RatField.Pure := by
  intro x y z hx hy hz
  refine Ev.rounds (g := fun k => tribunallaw03_RatField.f k x y z) ?_
  unfold tribunallaw03_RatField.f
  refine Ev.bind (Ev.const head_true) ?_
  have great : Ev (fun k => tribunallaw03_RatField.j0 k x y z true true) true := by
    apply Ev.step
    · intro k; rw [tribunallaw03_RatField.j0]
    · exact Ev.yes (Ev.now _)
  by_cases hxy : x.size ≤ 160 ∧ y.size ≤ 160
  · refine Ev.bind (Ev.const (great_of hxy.1 hxy.2)) (Ev.no ?_)
    by_cases h : z.size ≤ 160
    · rw [show decide ((z.size : Int) > 160) = false from decide_eq_false (by omega)]
      apply Ev.step
      · intro k; rw [tribunallaw03_RatField.j0]
      · refine Ev.no (Ev.bind (Ev.const (rNorm_eq x (by omega))) (Ev.bind (Ev.const (rNorm_eq y (by omega))) (Ev.bind (Ev.const (rNorm_eq z (by omega))) ?_)))
        rcases norm_cases x 160 hxy.1 (by omega) with ⟨a, ea, ba⟩ | ⟨e, he, ee⟩
        · rw [ea]
          refine Ev.pos rfl ?_
          rcases norm_cases y 160 hxy.2 (by omega) with ⟨b, eb, bb⟩ | ⟨e, he, ee⟩
          · rw [eb]
            refine Ev.pos rfl ?_
            rcases norm_cases z 160 h (by omega) with ⟨c, ec, bc⟩ | ⟨e, he, ee⟩
            · rw [ec]
              exact Field_j1 a b c ba bb bc
            · rw [ee, show (e != 0) = true from bne_iff_ne.2 he]
              exact Field_out _ _ _
          · rw [ee]
            exact Ev.neg he (Field_out _ _ _)
        · rw [ee]
          exact Ev.neg he (Field_out _ _ _)
    · rw [show decide ((z.size : Int) > 160) = true from decide_eq_true (by omega)]
      exact great
  · exact Ev.bind (Ev.const (great_not hxy)) (Ev.yes great)
end Go.Proofs.YtfnhohpmhpbpmaaDoor.Pure
