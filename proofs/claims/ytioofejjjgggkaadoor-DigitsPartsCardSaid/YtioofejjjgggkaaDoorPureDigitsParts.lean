/- DigitsParts: digits put behind a number's have it be the one times ten to how many they are, and the other; the plain law behind the printed walk. No condition beyond the statement's own guards. -/
import Derived.Test.YtioofejjjgggkaaDoorGx13
import Derived.Test.YtioofejjjgggkaaDoorGDigLaws
namespace Go.Proofs.YtioofejjjgggkaaDoor.Pure
open Go.RowKit Go.Proofs.YtioofejjjgggkaaDoor.G Go.Proofs.YtioofejjjgggkaaDoorW.PrintWords Go.Proofs.YtioofejjjgggkaaDoorW.PrintLast

theorem cat_right {m n : Nat} (hm : m ≠ 0) : rightS (textS m ++ textS n) = true := by
  have h1 := right_text m
  have h2 := right_all (right_text n)
  unfold rightS rightL at h1 ⊢
  rw [bytesN_append]
  rw [bytesN_textS] at h1 h2 ⊢
  rw [Bool.and_eq_true, Bool.or_eq_true, Bool.and_eq_true, decide_eq_true_iff, decide_eq_true_iff, decide_eq_true_iff] at h1
  rw [bytesN_textS, List.all_append, h1.1, h2]
  have hne : textL m ≠ [48] := fun h => by
    have := decF_textL m
    rw [h] at this
    exact hm this.symm
  rcases h1.2 with h | ⟨h3, h4⟩
  · exact absurd h hne
  · have hh : (textL m ++ textL n).getD 0 0 = (textL m).getD 0 0 := by
      cases h : textL m with
      | nil => rw [h] at h3; simp at h3
      | cons c l => rfl
    rw [hh, decide_eq_true h4, decide_eq_true (show 0 < (textL m ++ textL n).length by rw [List.length_append]; omega)]
    simp
theorem cat_dec (m n : Nat) : decN (textS m ++ textS n) = m * 10 ^ (textS n).size + n := by
  rw [decN, bytesN_append, decF_app, decF_at, bytesN_length, show decF 0 (bytesN (textS m)) = m from dec_text m, show decF 0 (bytesN (textS n)) = n from dec_text n]
theorem cat_size (s t : ByteArray) : (s ++ t).size = s.size + t.size := by rw [← bytesN_length, ← bytesN_length, ← bytesN_length, bytesN_append, List.length_append]
theorem ten_sh2 (i : Nat) : sh (10 ^ i) ≤ i + 1 := sh_le (Nat.lt_of_lt_of_le (Nat.pow_lt_pow_right (by decide) (Nat.lt_succ_self i)) (Nat.pow_le_pow_left (by decide) _))

theorem DigitsParts : tribunallaw02_DigitsParts.Pure := by
  intro a b la _ wa lb _ wb
  have ha := wfL_of wa
  have hb := wfL_of wb
  clear la lb
  refine Ev.rounds (g := fun k => tribunallaw02_DigitsParts.f k a b) ?_
  unfold tribunallaw02_DigitsParts.f
  refine Ev.bind (Ev.const rfl) ?_
  have great : Ev (fun k => tribunallaw02_DigitsParts.j0 k a b true true) true := by
    apply Ev.step
    · intro k; rw [tribunallaw02_DigitsParts.j0]
    · exact Ev.yes (Ev.now _)
  by_cases l0 : a.length ≤ 20
  · refine Ev.neg (by omega) ?_
    by_cases l1 : b.length ≤ 20
    · refine Ev.neg (by omega) (Ev.bind (eRNorm ha (by omega)) ?_)
      by_cases h0 : valN a = 0
      · rw [show ((((limbs (valN a)).length : Nat) : Int) == 0) = true from by rw [h0, limbs_zero]; rfl]
        exact great
      · rw [show ((((limbs (valN a)).length : Nat) : Int) == 0) = false from by rw [limbs_pos h0]; simp; omega]
        have sa := sh_val ha
        have sb := sh_val hb
        have za := textS_le (n := valN a) (m := 20) (by omega) (by omega)
        have zb := textS_le (n := valN b) (m := 20) (by omega) (by omega)
        have hcs := cat_size (textS (valN a)) (textS (valN b))
        have P : Ev (fun _ => digits_Parse.f (textS (valN a) ++ textS (valN b))) (limbs (valN a * 10 ^ (textS (valN b)).size + valN b), 0) := by
          have h := eParse (s := textS (valN a) ++ textS (valN b)) (by omega)
          rwa [parse_ok (cat_right h0) (by omega), cat_dec] at h
        obtain ⟨S, hS⟩ : ∃ S, S = textS (valN b) := ⟨_, rfl⟩
        have loop : ∀ d i : Nat, i ≤ S.size → S.size ≤ i + d → Ev (fun k => tribunallaw02_DigitsParts.l0 k a b true S (limbs (valN a * 10 ^ S.size + valN b)) 0 (limbs (10 ^ i)) (i : Int)) true := by
          have fin : ∀ i : Nat, i = S.size → Ev (fun k => tribunallaw02_DigitsParts.l0 k a b true S (limbs (valN a * 10 ^ S.size + valN b)) 0 (limbs (10 ^ i)) (i : Int)) true := by
            intro i hi
            have hp := ten_sh2 i
            have hm := sh_mul (valN a) (10 ^ i)
            have hs := sh_add (valN a * 10 ^ i) (valN b)
            have M := eRMul (a := a) (b := limbs (10 ^ i)) ha (wfL_limbs _) (by omega) (by rw [sh_len, hi]; rw [hi] at hp; rw [hS] at hp ⊢; omega)
            rw [valN_limbs] at M
            have A := eRAdd (a := limbs (valN a * 10 ^ i)) (b := b) (wfL_limbs _) hb (by rw [sh_len]; rw [hi, hS] at *; omega) (by omega)
            rw [valN_limbs] at A
            apply Ev.step
            · intro k; rw [tribunallaw02_DigitsParts.l0]
            · refine Ev.neg (by omega) (Ev.yes (Ev.pos rfl (Ev.bind M (Ev.bind A ?_))))
              rw [hi]
              exact Ev.bind (Same_self _ (by rw [sh_len]; rw [hi, hS] at *; omega)) (Ev.now _)
          intro d
          induction d with
          | zero => intro i h1 h2; exact fin i (by omega)
          | succ d ih =>
            intro i h1 h2
            by_cases hi : i < S.size
            · have hp := ten_sh2 i
              have M := eRMul (a := limbs (10 ^ i)) (b := [10]) (wfL_limbs _) (by decide) (by rw [sh_len]; rw [hS] at hi; omega) (by simp)
              rw [valN_limbs, show valN [10] = 10 from rfl, ← Nat.pow_succ] at M
              apply Ev.step
              · intro k; rw [tribunallaw02_DigitsParts.l0]
              · refine Ev.pos (by omega) (Ev.bind M ?_)
                have I := ih (i + 1) (by omega) (by omega)
                refine Ev.congr (fun k => ?_) I
                rw [wrap64_id (by rw [hS] at hi; omega) (by rw [hS] at hi; omega)]
                rfl
            · exact fin i (by omega)
        have L := loop S.size 0 (Nat.zero_le _) (by omega)
        rw [Nat.pow_zero, limbs_lit [1] 1 (by decide) (by decide) (by decide)] at L
        apply Ev.step
        · intro k; rw [tribunallaw02_DigitsParts.j0]
        · refine Ev.no (Ev.bind (eText hb (by omega)) (Ev.bind (eText ha (by omega)) (Ev.pos (by omega) (Ev.bind P ?_))))
          rw [← hS]
          exact L
    · exact Ev.pos (by omega) great
  · exact Ev.pos (by omega) great
end Go.Proofs.YtioofejjjgggkaaDoor.Pure
