/- NatBack: what is added may be taken away again, what is multiplied divided; the plain law behind the printed walk. No condition beyond the statement's own guards. -/
import Derived.Test.YtfjcloflebghhaaGx10
import Derived.Test.YtfjcloflebghhaaGNatLaws
namespace Go.Proofs.Ytfjcloflebghhaa.Pure
open Go.RowKit Go.Proofs.Ytfjcloflebghhaa.G Go.Proofs.YtfjcloflebghhaaW.PrintWords Go.Proofs.YtfjcloflebghhaaW.PrintLast

theorem NatBack : tribunallaw01_NatBack.Pure := by
  intro a b la _ wa lb _ wb
  have ha := wfL_of wa
  have hb := wfL_of wb
  clear la lb
  refine Ev.rounds (g := fun k => tribunallaw01_NatBack.f k a b) ?_
  unfold tribunallaw01_NatBack.f
  refine Ev.bind (Ev.const rfl) ?_
  by_cases hg : a.length ≤ 20 ∧ b.length ≤ 20
  · obtain ⟨la, lb⟩ := hg
    refine Ev.bind (Ev.const (show tribunallaw01_Great.f a b = some false by unfold tribunallaw01_Great.f; rw [if_neg (by omega)]; simp; omega)) (Ev.no ?_)
    have s1 := sh_val ha
    have s2 := sh_val hb
    have s3 := sh_add (valN a) (valN b)
    have s4 := sh_add (valN a) 1
    have s5 := sh_mul (valN a) (valN b)
    have h1 : sh 1 ≤ 1 := sh_le (by decide)
    have o1 : Ev (fun k => nat_Of.f k 1) (limbs 1) := nat_Of_is 1 (by omega) (by omega)
    refine Ev.bind (eAdd ha hb (by omega) (by omega)) ?_
    refine Ev.bind (eSub (wfL_limbs _) hb (by rw [sh_len]; omega) (by omega)) (Ev.bind o1 ?_)
    refine Ev.bind (eAdd ha (wfL_limbs 1) (by omega) (by rw [sh_len]; omega)) ?_
    rw [valN_limbs, valN_limbs]
    refine Ev.bind (eSub ha (wfL_limbs _) (by omega) (by rw [sh_len]; omega)) ?_
    rw [valN_limbs]
    refine Ev.bind (eMul ha hb (by omega) (by omega)) ?_
    refine Ev.bind (eDiv (wfL_limbs _) hb (by rw [sh_len]; omega) (by omega)) (Ev.bind (eNorm hb (by omega)) ?_)
    rw [valN_limbs]
    have e1 : subR (valN a + valN b) (valN b) = (limbs (valN a), true) := by unfold subR; rw [if_neg (by omega), Nat.add_sub_cancel]
    have e2 : subR (valN a) (valN a + 1) = ([], false) := by unfold subR; rw [if_pos (by omega)]
    rw [e1, e2]
    by_cases h0 : valN b = 0
    · have e3 : divR (valN a * valN b) (valN b) = ([], [], false) := by unfold divR; rw [if_pos h0]
      rw [e3, h0, limbs_zero]
      exact Ev.pos rfl (Ev.yes (Ev.no (Ev.yes (Ev.bind (eNorm ha (by omega)) (Ev.bind (Same_self _ (by rw [sh_len]; omega)) (Ev.now _))))))
    · have e3 : divR (valN a * valN b) (valN b) = (limbs (valN a), [], true) := by
        unfold divR
        rw [if_neg h0, Nat.mul_div_cancel _ (Nat.pos_of_ne_zero h0), Nat.mul_mod_left, limbs_zero]
      rw [e3]
      refine Ev.neg (by rw [limbs_pos h0]; simp only [List.length_cons]; omega) (Ev.yes (Ev.yes (Ev.bind (eNorm ha (by omega)) (Ev.bind (Same_self _ (by rw [sh_len]; omega)) (Ev.yes (Ev.no (Ev.yes ?_)))))))
      exact Ev.bind (eNorm ha (by omega)) (Ev.bind (Same_self _ (by rw [sh_len]; omega)) (Ev.yes (Ev.now _)))
  · refine Ev.bind (Ev.const (show tribunallaw01_Great.f a b = some true by unfold tribunallaw01_Great.f; split <;> simp; omega)) (Ev.yes ?_)
    exact Ev.now _
end Go.Proofs.Ytfjcloflebghhaa.Pure
