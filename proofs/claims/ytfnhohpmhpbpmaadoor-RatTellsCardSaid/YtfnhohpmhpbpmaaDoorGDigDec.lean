/- A number's decimals and the number of decimals, there and back, in plain Lean. Conditions: limbs of 32 bits, few of them. -/
import Derived.Test.YtfnhohpmhpbpmaaDoorGx0
import Derived.Test.YtfnhohpmhpbpmaaDoorGDigParse
import Derived.Test.YtfnhohpmhpbpmaaDoorGDigText
namespace Go.Proofs.YtfnhohpmhpbpmaaDoor.G
open Go.RowKit Go.Proofs.YtfnhohpmhpbpmaaDoorW.PrintWords Go.Proofs.YtfnhohpmhpbpmaaDoorW.PrintLast Go.Proofs.YtfnhohpmhpbpmaaDoorW.PrintMore

theorem decL_step {n : Nat} (h : n ≠ 0) : decL n = decL (n / 10) ++ [48 + n % 10] := by
  have h1 := digs_add 1 (nd (n / 10)) n
  rw [Nat.pow_one] at h1
  rw [decL, nd_pos h, h1, decL]
  congr 1
  show [48 + n / 10 ^ 0 % 10] = _
  rw [Nat.pow_zero, Nat.div_one]
theorem nd_le_of {n m : Nat} (h : n < 4294967296 ^ m) : nd n ≤ 10 * m := by
  rw [← nd_lt, Nat.pow_mul]
  exact Nat.lt_of_lt_of_le h (Nat.pow_le_pow_left (by decide) m)
theorem decF_digs (k n : Nat) : decF 0 (digs k n) = n % 10 ^ k := by
  induction k with
  | zero => rw [Nat.pow_zero, Nat.mod_one]; rfl
  | succ k ih =>
    show decF (10 * 0 + (48 + n / 10 ^ k % 10 - 48)) (digs k n) = _
    rw [decF_at, ih, digs_length, Nat.mod_pow_succ, Nat.mul_zero, Nat.zero_add, Nat.add_sub_cancel_left, Nat.mul_comm (10 ^ k), Nat.add_comm]
theorem decF_textL (n : Nat) : decF 0 (textL n) = n := by
  unfold textL
  split
  · rename_i h; rw [h]; rfl
  · rw [decL, decF_digs]
    exact Nat.mod_eq_of_lt ((nd_lt _ _).2 (Nat.le_refl _))
theorem all_digs (k n : Nat) : (digs k n).all isDig = true := by
  rw [List.all_eq_true]
  intro c h
  have := digs_lt k n c h
  simp [isDig]
  omega
theorem nd_bounds {n k : Nat} (h : nd n = k + 1) : 10 ^ k ≤ n ∧ n < 10 ^ (k + 1) := by
  refine ⟨?_, (nd_lt _ _).2 (by omega)⟩
  rcases Nat.lt_or_ge n (10 ^ k) with h2 | h2
  · have := (nd_lt k n).1 h2; omega
  · exact h2
theorem nd_of_bounds {n k : Nat} (h1 : 10 ^ k ≤ n) (h2 : n < 10 ^ (k + 1)) : nd n = k + 1 := by
  have := (nd_lt (k + 1) n).1 h2
  have : ¬ nd n ≤ k := fun h => by have := (nd_lt k n).2 h; omega
  omega
theorem rightL_textL (n : Nat) : rightL (textL n) = true := by
  unfold textL
  split
  · rfl
  · rename_i h0
    obtain ⟨k, hk⟩ : ∃ k, nd n = k + 1 := ⟨_, nd_pos h0⟩
    obtain ⟨h1, h2⟩ := nd_bounds hk
    rw [rightL, decL, all_digs, hk, digs]
    have h3 : 0 < n / 10 ^ k := Nat.div_pos h1 (Nat.pow_pos (by decide))
    have h4 : n / 10 ^ k < 10 := by
      rw [Nat.div_lt_iff_lt_mul (Nat.pow_pos (by decide)), Nat.mul_comm]
      rwa [Nat.pow_succ] at h2
    simp
    omega
theorem digs_decF (l : List Nat) (h : l.all isDig = true) : digs l.length (decF 0 l) = l := by
  induction l with
  | nil => rfl
  | cons c l ih =>
    rw [List.all_cons, Bool.and_eq_true] at h
    have hc : 48 ≤ c ∧ c ≤ 57 := by simpa [isDig] using h.1
    have hlt := decF_lt l h.2
    have hv : decF 0 (c :: l) = (c - 48) * 10 ^ l.length + decF 0 l := by
      show decF (10 * 0 + (c - 48)) l = _
      rw [Nat.mul_zero, Nat.zero_add, decF_at]
    rw [List.length_cons, digs, hv, ← digs_mod l.length l.length _ (Nat.le_refl _), Nat.mul_comm, Nat.mul_add_div (Nat.pow_pos (by decide)), Nat.div_eq_of_lt hlt, Nat.mul_add_mod, Nat.mod_eq_of_lt hlt, ih h.2]
    congr 1
    omega
theorem textL_decF (l : List Nat) (h : rightL l = true) : textL (decF 0 l) = l := by
  unfold rightL at h
  rw [Bool.and_eq_true, Bool.or_eq_true, Bool.and_eq_true, decide_eq_true_iff, decide_eq_true_iff, decide_eq_true_iff] at h
  obtain ⟨hd, h⟩ := h
  rcases h with rfl | ⟨h1, h2⟩
  · rfl
  · cases l with
    | nil => simp at h1
    | cons c l =>
      have hD := digs_decF (c :: l) hd
      have hlt := decF_lt (c :: l) hd
      rw [List.all_cons, Bool.and_eq_true] at hd
      have hc : 48 ≤ c ∧ c ≤ 57 := by simpa [isDig] using hd.1
      have hc2 : c ≠ 48 := h2
      have hv : decF 0 (c :: l) = (c - 48) * 10 ^ l.length + decF 0 l := by
        show decF (10 * 0 + (c - 48)) l = _
        rw [Nat.mul_zero, Nat.zero_add, decF_at]
      have hge : 10 ^ l.length ≤ decF 0 (c :: l) := by
        rw [hv]
        have := Nat.mul_le_mul_right (10 ^ l.length) (show 1 ≤ c - 48 by omega)
        omega
      have hp := Nat.pow_pos (n := l.length) (show 0 < 10 by decide)
      rw [textL, if_neg (by omega), decL, nd_of_bounds hge hlt]
      exact hD
theorem right_text (n : Nat) : rightS (textS n) = true := by rw [rightS, bytesN_textS, rightL_textL]
theorem dec_text (n : Nat) : decN (textS n) = n := by rw [decN, bytesN_textS, decF_textL]
theorem text_dec (s : ByteArray) (h : rightS s = true) : textS (decN s) = s := bytesN_inj.1 (by rw [bytesN_textS]; exact textL_decF _ h)
theorem textL_len (n : Nat) : (textL n).length = if n = 0 then 1 else nd n := by
  unfold textL
  split
  · rfl
  · rw [decL, digs_length]
theorem textS_size (n : Nat) : (textS n).size = if n = 0 then 1 else nd n := by rw [← bytesN_length, bytesN_textS, textL_len]
theorem textS_le {n m : Nat} (hm : 1 ≤ m) (h : sh n ≤ m) : (textS n).size ≤ 10 * m := by
  have := nd_le_of (Nat.lt_of_lt_of_le (lt_sh n) (Nat.pow_le_pow_right (by decide) h))
  rw [textS_size]
  split <;> omega
theorem textS_inj {m n : Nat} : textS m = textS n ↔ m = n := ⟨fun h => by rw [← dec_text m, h, dec_text], fun h => by rw [h]⟩
theorem toList_inj {s t : ByteArray} : s.toList = t.toList ↔ s = t := by
  constructor
  · intro h
    rw [Go.ByteArray.toList_eq, Go.ByteArray.toList_eq] at h
    exact bytesN_inj.1 (by rw [bytesN, bytesN, h])
  · intro h; rw [h]
theorem eText {a : List Int} (ha : wfL a) (la : a.length ≤ 1000) : Ev (fun _ => digits_Text.f a) (textS (valN a)) := Ev.const (by unfold digits_Text.f; rw [if_pos ⟨ha, la⟩])
theorem eRight {s : ByteArray} (h : s.size ≤ 1000000) : Ev (fun _ => digits_Right.f s) (rightS s) := Ev.const (by unfold digits_Right.f; rw [if_pos (by omega)])
theorem eParse {s : ByteArray} (h : s.size ≤ 1000000) : Ev (fun _ => digits_Parse.f s) (parseR s) := Ev.const (by unfold digits_Parse.f; rw [if_pos (by omega)])
theorem parse_ok {s : ByteArray} (h : rightS s = true) (hl : s.size ≤ 1900) : parseR s = (limbs (decN s), 0) := by rw [parseR, if_pos h, if_neg (by omega)]
theorem parse_text {n : Nat} (hl : (textS n).size ≤ 1900) : parseR (textS n) = (limbs n, 0) := by rw [parse_ok (right_text n) hl, dec_text]
theorem right_all {s : ByteArray} (h : rightS s = true) : (bytesN s).all isDig = true := by unfold rightS rightL at h; rw [Bool.and_eq_true] at h; exact h.1
theorem dec_lt {s : ByteArray} (h : rightS s = true) : decN s < 10 ^ s.size := by have := decF_lt _ (right_all h); rwa [bytesN_length] at this
theorem parseR_len (s : ByteArray) : (parseR s).1.length ≤ 1900 := by
  unfold parseR
  split
  · rename_i h
    split
    · simp
    · have := ten_sh _ _ (dec_lt h)
      show (limbs (decN s)).length ≤ 1900
      omega
  · simp
theorem sh_dec {s : ByteArray} (h : rightS s = true) : sh (decN s) ≤ s.size := ten_sh _ _ (dec_lt h)
theorem sh_len10 {s : ByteArray} (h : rightS s = true) : sh (decN s) * 2 ≤ s.size + 2 := by
  have h1 := dec_lt h
  have h2 : decN s < 4294967296 ^ ((s.size + 1) / 2) := by
    refine Nat.lt_of_lt_of_le h1 ?_
    refine Nat.le_trans (Nat.pow_le_pow_right (by decide) (show s.size ≤ 2 * ((s.size + 1) / 2) by omega)) ?_
    rw [Nat.pow_mul]
    exact Nat.pow_le_pow_left (by decide) _
  have := sh_le h2
  omega
end Go.Proofs.YtfnhohpmhpbpmaaDoor.G
