/- NatTells: of any two numbers, which is greater, their sum, difference, product, quotient and rest, their greatest divisor, their limbs in short, are the reference's; the plain law behind the printed walk. No condition beyond the statement's own guards (at most 20 limbs each). -/
import Derived.Test.YtfjcloflebghhaaGx7
import Derived.Test.YtfjcloflebghhaaGNatLaws
namespace Go.Proofs.Ytfjcloflebghhaa.Pure
open Go.RowKit Go.Proofs.Ytfjcloflebghhaa.G Go.Proofs.YtfjcloflebghhaaW.PrintWords Go.Proofs.YtfjcloflebghhaaW.PrintLast

theorem NatTells : tribunallaw01_NatTells.Pure := by
  intro a b n la _ wa lb _ wb wn
  have ha := wfL_of wa
  have hb := wfL_of wb
  have hn : 0 ≤ n ∧ n < 18446744073709551616 := by
    simp [Lit.wf, IntKind.min, IntKind.max, IntKind.bits, IntKind.signed] at wn
    omega
  clear la lb
  refine Ev.rounds (g := fun k => tribunallaw01_NatTells.f k a b n) ?_
  unfold tribunallaw01_NatTells.f
  refine Ev.bind (Ev.const rfl) ?_
  by_cases hg : a.length ≤ 20 ∧ b.length ≤ 20
  · obtain ⟨la, lb⟩ := hg
    refine Ev.bind (Ev.const (show tribunallaw01_Great.f a b = some false by unfold tribunallaw01_Great.f; rw [if_neg (by omega)]; simp; omega)) (Ev.no ?_)
    refine Ev.bind (eSub ha hb (by omega) (by omega)) (Ev.bind (eRSub ha hb (by omega) (by omega)) (Ev.bind (eDiv ha hb (by omega) (by omega)) (Ev.bind (eRDiv ha hb (by omega) (by omega)) (Ev.yes ?_))))
    refine Ev.bind (eCmp ha hb (by omega) (by omega)) (Ev.bind (eRCmp ha hb (by omega) (by omega)) (Ev.pos rfl ?_))
    have s1 := sh_val ha
    have s2 := sh_val hb
    have s3 := sh_add (valN a) (valN b)
    have s4 := sh_mul (valN a) (valN b)
    have s5 := sh_mono (Nat.sub_le (valN a) (valN b))
    have s6 := sh_mono (Nat.div_le_self (valN a) (valN b))
    have s7 := sh_mono (Nat.mod_le (valN a) (valN b))
    have s8 := sh_add (Nat.gcd (valN a) (valN b)) 0
    have hsub : (subR (valN a) (valN b)).1.length ≤ 100 := by
      unfold subR
      split
      · simp
      · show sh _ ≤ 100; omega
    have hdiv : (divR (valN a) (valN b)).1.length ≤ 100 ∧ (divR (valN a) (valN b)).2.1.length ≤ 100 := by
      unfold divR
      split
      · simp
      · exact ⟨by show sh _ ≤ 100; omega, by show sh _ ≤ 100; omega⟩
    have hgcd : sh (Nat.gcd (valN a) (valN b)) ≤ 100 := by
      rcases Nat.eq_zero_or_pos (valN a) with h | h
      · rw [h, Nat.gcd_zero_left]; omega
      · have := sh_mono (Nat.le_of_dvd h (Nat.gcd_dvd_left (valN a) (valN b)))
        omega
    refine Ev.bind (eAdd ha hb (by omega) (by omega)) (Ev.bind (eRAdd ha hb (by omega) (by omega)) (Ev.bind (Same_self _ (by rw [sh_len]; omega)) (Ev.yes ?_)))
    refine Ev.bind (Same_self _ (by omega)) (Ev.yes (Ev.pos (by simp) ?_))
    refine Ev.bind (eMul ha hb (by omega) (by omega)) (Ev.bind (eRMul ha hb (by omega) (by omega)) (Ev.bind (Same_self _ (by rw [sh_len]; omega)) (Ev.yes ?_)))
    refine Ev.bind (Same_self _ (by omega)) (Ev.yes (Ev.bind (Same_self _ (by omega)) (Ev.yes (Ev.pos (by simp) ?_))))
    refine Ev.bind (eGcd ha hb (by omega) (by omega)) (Ev.bind (eRGcd ha hb (by omega) (by omega)) (Ev.bind (Same_self _ (by rw [sh_len]; omega)) (Ev.yes ?_)))
    refine Ev.bind (eNorm ha (by omega)) (Ev.bind (eRNorm ha (by omega)) (Ev.bind (Same_self _ (by rw [sh_len]; omega)) (Ev.yes ?_)))
    have hs : sh n.toNat ≤ 2 := sh_le (by omega)
    exact Ev.bind (nat_Of_is n hn.1 hn.2) (Ev.bind (ROf_is n hn.1 hn.2) (Ev.bind (Same_self _ (by rw [sh_len]; omega)) (Ev.now _)))
  · refine Ev.bind (Ev.const (show tribunallaw01_Great.f a b = some true by unfold tribunallaw01_Great.f; split <;> simp; omega)) (Ev.yes ?_)
    exact Ev.now _
end Go.Proofs.Ytfjcloflebghhaa.Pure
