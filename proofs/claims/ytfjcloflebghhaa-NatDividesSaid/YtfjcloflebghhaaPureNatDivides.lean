/- NatDivides: what is left is less than what was divided by, and both make up the number; the plain law behind the printed walk. No condition beyond the statement's own guards. -/
import Derived.Test.YtfjcloflebghhaaGx9
import Derived.Test.YtfjcloflebghhaaGNatLaws
namespace Go.Proofs.Ytfjcloflebghhaa.Pure
open Go.RowKit Go.Proofs.Ytfjcloflebghhaa.G Go.Proofs.YtfjcloflebghhaaW.PrintWords Go.Proofs.YtfjcloflebghhaaW.PrintLast

theorem NatDivides : tribunallaw01_NatDivides.Pure := by
  intro a b la _ wa lb _ wb
  have ha := wfL_of wa
  have hb := wfL_of wb
  clear la lb
  refine Ev.rounds (g := fun k => tribunallaw01_NatDivides.f k a b) ?_
  unfold tribunallaw01_NatDivides.f
  refine Ev.bind (Ev.const rfl) ?_
  by_cases hg : a.length ≤ 20 ∧ b.length ≤ 20
  · obtain ⟨la, lb⟩ := hg
    refine Ev.bind (Ev.const (show tribunallaw01_Great.f a b = some false by unfold tribunallaw01_Great.f; rw [if_neg (by omega)]; simp; omega)) (Ev.no ?_)
    refine Ev.bind (eDiv ha hb (by omega) (by omega)) (Ev.bind (eNorm hb (by omega)) ?_)
    have s1 := sh_val ha
    have s2 := sh_val hb
    unfold divR
    by_cases h0 : valN b = 0
    · rw [if_pos h0, h0, limbs_zero]
      exact Ev.pos rfl (Ev.yes (Ev.no (Ev.pos rfl (Ev.now _))))
    · rw [if_neg h0]
      have s6 := sh_mono (Nat.div_le_self (valN a) (valN b))
      have s7 := sh_mono (Nat.mod_le (valN a) (valN b))
      have s8 := sh_mul (valN a / valN b) (valN b)
      have hl := Nat.mod_lt (valN a) (Nat.pos_of_ne_zero h0)
      refine Ev.neg (by rw [limbs_pos h0]; simp only [List.length_cons]; omega) (Ev.yes (Ev.yes ?_))
      refine Ev.bind (eCmp (wfL_limbs _) hb (by rw [sh_len]; omega) (by omega)) (Ev.pos (by rw [valN_limbs]; unfold cmpN; rw [if_pos hl]; decide) ?_)
      refine Ev.bind (eMul (wfL_limbs _) hb (by rw [sh_len]; omega) (by omega)) ?_
      rw [valN_limbs]
      refine Ev.bind (nAdd (by omega) (by omega)) ?_
      rw [show valN a / valN b * valN b + valN a % valN b = valN a from by rw [Nat.mul_comm]; exact Nat.div_add_mod _ _]
      exact Ev.bind (eNorm ha (by omega)) (Ev.bind (Same_self _ (by rw [sh_len]; omega)) (Ev.now _))
  · refine Ev.bind (Ev.const (show tribunallaw01_Great.f a b = some true by unfold tribunallaw01_Great.f; split <;> simp; omega)) (Ev.yes ?_)
    exact Ev.now _
end Go.Proofs.Ytfjcloflebghhaa.Pure
