/- NatCommon: the greatest number that divides both divides both, what is left of them has none but 1, times a third one it is that many times as great; the plain law behind the printed walk. No condition beyond the statement's own guards. -/
import Derived.Test.YtfjcloflebghhaaGx12
import Derived.Test.YtfjcloflebghhaaGNatLaws
namespace Go.Proofs.Ytfjcloflebghhaa.Pure
open Go.RowKit Go.Proofs.Ytfjcloflebghhaa.G Go.Proofs.YtfjcloflebghhaaW.PrintWords Go.Proofs.YtfjcloflebghhaaW.PrintLast

theorem NatCommon : tribunallaw01_NatCommon.Pure := by
  intro a b c la _ wa lb _ wb lc _ wc
  have ha := wfL_of wa
  have hb := wfL_of wb
  have hc := wfL_of wc
  clear la lb lc
  refine Ev.rounds (g := fun k => tribunallaw01_NatCommon.f k a b c) ?_
  unfold tribunallaw01_NatCommon.f
  refine Ev.bind (Ev.const rfl) ?_
  have great : Ev (fun k => tribunallaw01_NatCommon.j0 k a b c true true) true := by
    apply Ev.step
    · intro k; rw [tribunallaw01_NatCommon.j0]
    · exact Ev.yes (Ev.now _)
  by_cases la : a.length ≤ 12
  · refine Ev.neg (by omega) ?_
    by_cases lb : b.length ≤ 12
    · refine Ev.neg (by omega) ?_
      by_cases lc : c.length ≤ 6
      · rw [show decide ((c.length : Int) > 6) = false from decide_eq_false (by omega)]
        have s1 := sh_val ha
        have s2 := sh_val hb
        have s3 := sh_val hc
        have s4 := sh_mul (valN a) (valN c)
        have s5 := sh_mul (valN b) (valN c)
        apply Ev.step
        · intro k; rw [tribunallaw01_NatCommon.j0]
        · refine Ev.no (Ev.bind (eGcd ha hb (by omega) (by omega)) ?_)
          by_cases h0 : Nat.gcd (valN a) (valN b) = 0
          · have z := Nat.gcd_eq_zero_iff.1 h0
            rw [h0, limbs_zero]
            refine Ev.pos rfl (Ev.yes (Ev.bind (eNorm ha (by omega)) (Ev.pos (by rw [z.1, limbs_zero]; rfl) (Ev.bind (eNorm hb (by omega)) ?_))))
            rw [z.2, limbs_zero]
            exact Ev.now _
          · have hg0 := Nat.pos_of_ne_zero h0
            have dA := Nat.gcd_dvd_left (valN a) (valN b)
            have dB := Nat.gcd_dvd_right (valN a) (valN b)
            have hG : sh (Nat.gcd (valN a) (valN b)) ≤ 30 := by
              rcases Nat.eq_zero_or_pos (valN a) with h | h
              · rw [h, Nat.gcd_zero_left]; omega
              · have := sh_mono (Nat.le_of_dvd h dA); omega
            have s6 := sh_mono (Nat.div_le_self (valN a) (Nat.gcd (valN a) (valN b)))
            have s7 := sh_mono (Nat.div_le_self (valN b) (Nat.gcd (valN a) (valN b)))
            have s8 := sh_mul (Nat.gcd (valN a) (valN b)) (valN c)
            have h1 : sh 1 ≤ 1 := sh_le (by decide)
            have l1 : limbs 1 = [1] := limbs_lit [1] 1 (by decide) (by decide) (by decide)
            refine Ev.neg (by rw [limbs_pos h0]; simp only [List.length_cons]; omega) ?_
            refine Ev.bind (eDiv ha (wfL_limbs _) (by omega) (by rw [sh_len]; omega)) (Ev.bind (eDiv hb (wfL_limbs _) (by omega) (by rw [sh_len]; omega)) ?_)
            rw [valN_limbs]
            unfold divR
            rw [if_neg h0, if_neg h0, Nat.mod_eq_zero_of_dvd dA, Nat.mod_eq_zero_of_dvd dB, limbs_zero]
            refine Ev.yes (Ev.pos rfl (Ev.pos rfl (Ev.bind (nGcd (by omega) (by omega)) ?_)))
            rw [(show Nat.gcd (valN a / Nat.gcd (valN a) (valN b)) (valN b / Nat.gcd (valN a) (valN b)) = 1 from by rw [Nat.gcd_div dA dB]; exact Nat.div_self hg0), l1]
            refine Ev.bind (Same_self _ (by simp)) (Ev.yes ?_)
            refine Ev.bind (eGcd hb ha (by omega) (by omega)) ?_
            rw [Nat.gcd_comm]
            refine Ev.bind (Same_self _ (by rw [sh_len]; omega)) (Ev.yes ?_)
            refine Ev.bind (eMul ha hc (by omega) (by omega)) (Ev.bind (eMul hb hc (by omega) (by omega)) (Ev.bind (nGcd (by omega) (by omega)) ?_))
            rw [Nat.gcd_mul_right]
            refine Ev.bind (eMul (wfL_limbs _) hc (by rw [sh_len]; omega) (by omega)) ?_
            rw [valN_limbs]
            exact Ev.bind (Same_self _ (by rw [sh_len]; omega)) (Ev.now _)
      · rw [show decide ((c.length : Int) > 6) = true from decide_eq_true (by omega)]
        exact great
    · exact Ev.pos (by omega) great
  · exact Ev.pos (by omega) great
end Go.Proofs.Ytfjcloflebghhaa.Pure
