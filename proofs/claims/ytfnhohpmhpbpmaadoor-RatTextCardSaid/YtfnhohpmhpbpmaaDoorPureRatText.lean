/- RatText: the text of a number is right, and its own; two that are the same have one text; what is answered is right; the plain law behind the printed walk. No condition beyond the statement's own guards. -/
import Derived.Test.YtfnhohpmhpbpmaaDoorGx17
import Derived.Test.YtfnhohpmhpbpmaaDoorGRatLaws
namespace Go.Proofs.YtfnhohpmhpbpmaaDoor.Pure
open Go.RowKit Go.Proofs.YtfnhohpmhpbpmaaDoor.G Go.Proofs.YtfnhohpmhpbpmaaDoorW.PrintWords Go.Proofs.YtfnhohpmhpbpmaaDoorW.PrintLast

theorem norm_right (s : ByteArray) (hs : s.size ≤ 900) : rat_Right.f s = some ((normS s).2 == 0 && decide ((normS s).1 = s)) := by
  unfold rat_Right.f
  rw [if_pos (small_of (by omega))]
  congr 1
  by_cases h1 : rightP s = true
  · have hr := h1
    unfold rightP at hr
    rw [Bool.and_eq_true] at hr
    by_cases h3 : (partsS s).2.2.toList = [48]
    · have hn : normS s = (⟨#[]⟩, 21) := by unfold normS; rw [if_neg (show ¬ rightP s = false by rw [h1]; simp), if_neg (by omega), if_pos h3]
      have h0 : decN (partsS s).2.2 = 0 := by
        have : (partsS s).2.2 = textS 0 := toList_inj.1 (by rw [h3, toList0])
        rw [this, dec_text]
      rw [hn]
      unfold getS
      rw [if_neg (fun h => by have := h.2.2.1; omega)]
      rfl
    · have hn : normS s = (strS (partsS s).1 (decN (partsS s).2.1) (decN (partsS s).2.2), 0) := by unfold normS; rw [if_neg (show ¬ rightP s = false by rw [h1]; simp), if_neg (by omega), if_neg h3]
      have hq : 0 < decN (partsS s).2.2 := by
        refine Nat.pos_of_ne_zero fun h0 => h3 ?_
        have h4 := text_dec _ hr.2
        rw [h0] at h4
        rw [← h4]
        exact toList0
      rw [hn]
      unfold getS
      by_cases h4 : strS (partsS s).1 (decN (partsS s).2.1) (decN (partsS s).2.2) = s
      · rw [if_pos ⟨h1, by omega, hq, h4⟩, decide_eq_true h4]
        rfl
      · rw [if_neg (fun h => h4 h.2.2.2), decide_eq_false h4]
        rfl
  · have h2 : rightP s = false := by simpa using h1
    have hn : normS s = (⟨#[]⟩, 12) := by unfold normS; rw [if_pos h2]
    rw [hn]
    unfold getS
    rw [if_neg (fun h => h1 h.1)]
    rfl
theorem cmp_zero (a b : Rat) : (cmpQ a b == 0) = decide (a = b) := by
  unfold cmpQ
  by_cases h : a < b
  · rw [if_pos h, decide_eq_false (Rat.ne_of_lt h)]; rfl
  · rw [if_neg h]
    by_cases g : b < a
    · rw [if_pos g, decide_eq_false (Rat.ne_of_gt g)]; rfl
    · rw [if_neg g, decide_eq_true (by grind)]; rfl
theorem zero_beq (b : Rat) : ((ratS b).toList == ([48] : List UInt8)) = decide (b = 0) := by
  rw [← toList_mk [48], toList_beq, show (⟨⟨[48]⟩⟩ : ByteArray) = ratS 0 from rat0, Bool.eq_iff_iff, decide_eq_true_iff, decide_eq_true_iff]
  exact ratS_inj
theorem rat_beq (a b : Rat) : ((ratS a).toList == (ratS b).toList) = decide (a = b) := by
  rw [toList_beq, Bool.eq_iff_iff, decide_eq_true_iff, decide_eq_true_iff]
  exact ratS_inj
theorem Text_j1 (a b : Rat) (ba : Bd 160 a) (bb : Bd 160 b) : Ev (fun k => tribunallaw03_RatText.j1 k true (ratS a) (ratS b) false) true := by
  have hs := ba.size
  apply Ev.step
  · intro k; rw [tribunallaw03_RatText.j1]
  · refine Ev.no (Ev.bind (Ev.const (rNorm_eq _ (by omega))) ?_)
    rw [norm_rat (by omega)]
    refine Ev.bind (Ev.const (rSub ba bb (by omega))) (Ev.yes (Ev.bind (Ev.const (rRight ba (by omega))) (Ev.yes (Ev.pos rfl (Ev.pos rfl (Ev.bind (Ev.const (rCmp ba bb (by omega) (by omega))) ?_))))))
    refine Ev.pos (by rw [cmp_zero, rat_beq]; simp) (Ev.pos ?_ ?_)
    · rw [zero_beq, rat_beq, beq_iff_eq, Bool.eq_iff_iff, decide_eq_true_iff, decide_eq_true_iff]
      grind
    · exact Ev.bind (Ev.const (rRight (ba.sub bb) (by omega))) (Ev.yes (Ev.bind (Ev.const (rTimes ba bb (by omega))) (Ev.bind (Ev.const (rRight (ba.mul bb) (by omega))) (Ev.now _))))
theorem Text_out (x y : ByteArray) : Ev (fun k => tribunallaw03_RatText.j1 k true x y true) true := by
  apply Ev.step
  · intro k; rw [tribunallaw03_RatText.j1]
  · exact Ev.yes (Ev.now _)
theorem RatText : tribunallaw03_RatText.Pure := by
  intro x y hx hy
  refine Ev.rounds (g := fun k => tribunallaw03_RatText.f k x y) ?_
  unfold tribunallaw03_RatText.f
  refine Ev.bind (Ev.const head_true) ?_
  by_cases hxy : x.size ≤ 160 ∧ y.size ≤ 160
  · refine Ev.bind (Ev.const (great_of hxy.1 hxy.2)) (Ev.no (Ev.bind (Ev.const (rNorm_eq x (by omega))) (Ev.bind (Ev.const (rNorm_eq y (by omega))) (Ev.bind (Ev.const (norm_right x (by omega))) ?_))))
    rcases norm_cases x 160 hxy.1 (by omega) with ⟨a, ea, ba⟩ | ⟨e, he, ee⟩
    · rw [ea]
      refine Ev.pos rfl (Ev.neg (by rw [toList_beq]; simp) ?_)
      apply Ev.step
      · intro k; rw [tribunallaw03_RatText.j0]
      · refine Ev.no (Ev.pos rfl ?_)
        rcases norm_cases y 160 hxy.2 (by omega) with ⟨b, eb, bb⟩ | ⟨e, he, ee⟩
        · rw [eb]
          exact Text_j1 a b ba bb
        · rw [ee, show (e != 0) = true from bne_iff_ne.2 he]
          exact Text_out _ _
    · rw [ee]
      refine Ev.neg he (Ev.neg (by rw [show (e == 0) = false from beq_eq_false_iff_ne.2 he]; simp) ?_)
      apply Ev.step
      · intro k; rw [tribunallaw03_RatText.j0]
      · refine Ev.neg (by simp) (Ev.neg he (Text_out _ _))
  · exact Ev.bind (Ev.const (great_not hxy)) (Ev.yes (Ev.now _))
end Go.Proofs.YtfnhohpmhpbpmaaDoor.Pure
