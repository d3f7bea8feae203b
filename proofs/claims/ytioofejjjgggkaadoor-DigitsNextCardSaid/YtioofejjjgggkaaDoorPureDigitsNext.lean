/- DigitsNext: a digit behind right decimals has them be ten times as much, and that digit, unless they are 0; the plain law behind the printed walk. No condition beyond the statement's own guards. -/
import Derived.Test.YtioofejjjgggkaaDoorGx10
import Derived.Test.YtioofejjjgggkaaDoorGDigLaws
namespace Go.Proofs.YtioofejjjgggkaaDoor.Pure
open Go.RowKit Go.Proofs.YtioofejjjgggkaaDoor.G Go.Proofs.YtioofejjjgggkaaDoorW.PrintWords Go.Proofs.YtioofejjjgggkaaDoorW.PrintLast

theorem textL_step {n d : Nat} (hn : n ≠ 0) (hd : d < 10) : textL (10 * n + d) = textL n ++ [48 + d] := by
  have h0 : 10 * n + d ≠ 0 := by omega
  rw [textL, textL, if_neg h0, if_neg hn, decL_step h0, show (10 * n + d) / 10 = n by omega, show (10 * n + d) % 10 = d by omega]
theorem textS_step {n d : Nat} (hn : n ≠ 0) (hd : d < 10) : textS n ++ strOfNums [((48 + d : Nat) : Int)] = textS (10 * n + d) := bytesN_inj.1 (by
  rw [bytesN_append, bytesN_textS, bytesN_textS, textL_step hn hd]
  congr 1
  exact bytesN_ofN [48 + d] (fun c h => by rw [List.mem_singleton] at h; omega))

theorem DigitsNext : tribunallaw02_DigitsNext.Pure := by
  intro a d0 la la4 wa wd
  have ha := wfL_of wa
  have hd0 : 0 ≤ d0 ∧ d0 < 256 := by
    simp [Lit.wf, IntKind.min, IntKind.max, IntKind.bits, IntKind.signed] at wd
    omega
  clear la
  refine Ev.rounds (g := fun k => tribunallaw02_DigitsNext.f k a d0) ?_
  unfold tribunallaw02_DigitsNext.f
  refine Ev.bind (Ev.const rfl) ?_
  refine Ev.bind (RNorm_is a ha (by omega)) ?_
  obtain ⟨d, hd⟩ : ∃ d : Nat, Int.tmod d0 10 = (d : Int) := ⟨(d0 % 10).toNat, by rw [Int.tmod_eq_emod_of_nonneg hd0.1]; omega⟩
  have hd10 : d < 10 := by rw [Int.tmod_eq_emod_of_nonneg hd0.1] at hd; omega
  rw [hd]
  have great : Ev (fun k => tribunallaw02_DigitsNext.j0 k a true (d : Int) (limbs (valN a)) true) true := by
    apply Ev.step
    · intro k; rw [tribunallaw02_DigitsNext.j0]
    · exact Ev.yes (Ev.now _)
  by_cases l0 : a.length ≤ 60
  · refine Ev.neg (by omega) ?_
    by_cases h0 : valN a = 0
    · rw [show ((((limbs (valN a)).length : Nat) : Int) == 0) = true from by rw [h0, limbs_zero]; rfl]
      exact great
    · rw [show ((((limbs (valN a)).length : Nat) : Int) == 0) = false from by rw [limbs_pos h0]; simp; omega]
      have sa := sh_val ha
      have hw : sh (10 * valN a + d) ≤ 63 := by
        have h1 := sh_add (10 * valN a) d
        have h2 := sh_mul 10 (valN a)
        have h3 : sh 10 ≤ 1 := sh_le (by decide)
        have h4 : sh d ≤ 1 := sh_le (by omega)
        omega
      have hsz : (textS (10 * valN a + d)).size ≤ 1900 := by have := textS_le (n := 10 * valN a + d) (m := 63) (by omega) hw; omega
      have hcat := textS_step h0 hd10
      have e48 : [((48 : Int) + (d : Int)) % 256] = [((48 + d : Nat) : Int)] := by
        rw [show ((48 : Int) + (d : Int)) % 256 = ((48 + d : Nat) : Int) from by omega]
      have P : Ev (fun _ => digits_Parse.f (textS (10 * valN a + d))) (limbs (10 * valN a + d), 0) := by
        have h := eParse (s := textS (10 * valN a + d)) (by omega)
        rwa [parse_text hsz] at h
      have hsum : (textS (valN a)).size + (strOfNums [((48 + d : Nat) : Int)]).size = (textS (10 * valN a + d)).size := by rw [← hcat, ← bytesN_length, ← bytesN_length, ← bytesN_length, bytesN_append, List.length_append]
      apply Ev.step
      · intro k; rw [tribunallaw02_DigitsNext.j0]
      · refine Ev.no (Ev.bind (eText ha (by omega)) (Ev.bind (Ev.now _) ?_))
        rw [e48, hcat]
        refine Ev.pos (by omega) (Ev.bind P (Ev.yes (Ev.pos rfl ?_)))
        have M := eRMul (a := limbs (valN a)) (b := [10]) (wfL_limbs _) (by decide) (by rw [sh_len]; omega) (by simp)
        rw [valN_limbs, show valN [10] = 10 from rfl] at M
        refine Ev.bind M ?_
        have wd : wfL [(d : Int) % 4294967296] := fun x hx => by rw [List.mem_singleton] at hx; subst hx; omega
        have A := eRAdd (a := limbs (valN a * 10)) (b := [(d : Int) % 4294967296]) (wfL_limbs _) wd (by have := sh_mul (valN a) 10; have : sh 10 ≤ 1 := sh_le (by decide); rw [sh_len]; omega) (by simp)
        rw [valN_limbs, show valN [(d : Int) % 4294967296] = d from by simp [valN]; omega, Nat.mul_comm (valN a) 10] at A
        rw [Nat.mul_comm (valN a) 10]
        refine Ev.bind A (Ev.bind (Same_self _ (by rw [sh_len]; omega)) (Ev.now _))
  · exact Ev.pos (by omega) great
end Go.Proofs.YtioofejjjgggkaaDoor.Pure
