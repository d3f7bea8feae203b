/- DigitsWrong: with a sign, a blank, or a nought ahead of others, nothing is right; the plain law behind the printed walk. No condition beyond the statement's own guards. -/
import Derived.Test.YtioofejjjgggkaaDoorGx11
import Derived.Test.YtioofejjjgggkaaDoorGDigLaws
namespace Go.Proofs.YtioofejjjgggkaaDoor.Pure
open Go.RowKit Go.Proofs.YtioofejjjgggkaaDoor.G Go.Proofs.YtioofejjjgggkaaDoorW.PrintWords Go.Proofs.YtioofejjjgggkaaDoorW.PrintLast

theorem long_right (l : List Nat) (h : 2 ≤ l.length) : rightL l = (l.all isDig && decide (l.getD 0 0 ≠ 48)) := by
  unfold rightL
  rw [decide_eq_false (show ¬ l = [48] from fun e => by rw [e] at h; simp at h), decide_eq_true (show 0 < l.length by omega), Bool.false_or, Bool.true_and]
theorem right_ins (l : List Nat) (hd : l.all isDig = true) (h0 : 0 < l.length) (k c : Nat) (hk : k ≤ l.length) :
    rightL (l.take k ++ [c] ++ l.drop k) = (isDig c && decide (if k = 0 then c ≠ 48 else l.getD 0 0 ≠ 48)) := by
  rw [long_right _ (by simp; omega)]
  have e : (l.take k ++ [c] ++ l.drop k).all isDig = isDig c := by
    have h := hd
    rw [← List.take_append_drop k l, List.all_append, Bool.and_eq_true] at h
    rw [List.all_append, List.all_append, h.1, h.2]
    simp
  rw [e]
  congr 1
  cases k with
  | zero => simp
  | succ k => cases l with
    | nil => simp at h0
    | cons x l => simp
theorem right_cons (l : List Nat) (hl : 0 < l.length) (c : Nat) (hc : c = 48 ∨ isDig c = false) : rightL ([c] ++ l) = false := by
  rw [long_right _ (by simp; omega)]
  rcases hc with rfl | h
  · simp
  · simp [h]

theorem DigitsWrong : tribunallaw02_DigitsWrong.Pure := by
  intro a a1 c0 la la4 wa w1 w2
  have ha := wfL_of wa
  have h1 : 0 ≤ a1 ∧ a1 < 256 := by
    simp [Lit.wf, IntKind.min, IntKind.max, IntKind.bits, IntKind.signed] at w1
    omega
  have h2 : 0 ≤ c0 ∧ c0 < 256 := by
    simp [Lit.wf, IntKind.min, IntKind.max, IntKind.bits, IntKind.signed] at w2
    omega
  obtain ⟨c, rfl⟩ : ∃ c : Nat, c0 = (c : Int) := ⟨c0.toNat, by omega⟩
  unfold tribunallaw02_DigitsWrong.f
  rw [show tribunallaw02_head.f = some true from rfl, Option.bind_some]
  by_cases l0 : a.length ≤ 60
  case neg => rw [if_pos (by omega)]
  rw [if_neg (by omega), show digits_Text.f a = some (textS (valN a)) from by unfold digits_Text.f; rw [if_pos ⟨ha, by omega⟩], Option.bind_some]
  have hsz : (textS (valN a)).size ≤ 600 := textS_le (m := 60) (by omega) (by have := sh_val ha; omega)
  have hr := right_text (valN a)
  have hL := bytesN_textS (valN a)
  have hsl := bytesN_length (textS (valN a))
  have hpos : 0 < (textL (valN a)).length := by
    rw [textL_len]
    split
    · omega
    · rename_i h; rw [nd_pos h]; omega
  rw [hL] at hsl
  have hd : (textL (valN a)).all isDig = true := by have h := right_all hr; rwa [hL] at h
  generalize textL (valN a) = L at *
  generalize textS (valN a) = T at *
  obtain ⟨k, hk, hkl⟩ : ∃ k : Nat, Int.tmod (wrap64 a1) (wrap64 ((T.size : Int) + 1)) = (k : Int) ∧ k ≤ T.size := by
    rw [wrap64_id (by omega) (by omega), wrap64_id (by omega) (by omega), Int.tmod_eq_emod_of_nonneg h1.1]
    refine ⟨(a1 % ((T.size : Int) + 1)).toNat, ?_, ?_⟩
    · rw [Int.toNat_of_nonneg (Int.emod_nonneg _ (by omega))]
    · have := Int.emod_lt_of_pos a1 (show 0 < (T.size : Int) + 1 by omega)
      omega
  have hw : ¬ wrap64 ((T.size : Int) + 1) = 0 := by rw [wrap64_id (by omega) (by omega)]; omega
  simp only [hk, Int.toNat_natCast]
  have hc : bytesN (strOfNums [(c : Int)]) = [c] := bytesN_ofN [c] (fun x h => by rw [List.mem_singleton] at h; omega)
  have hcs : (strOfNums [(c : Int)]).size = 1 := by rw [← bytesN_length, hc]; rfl
  have hx1 : bytesN (T.extract 0 k) = L.take k := by rw [bytesN_take, hL]
  have hx2 : bytesN (T.extract k T.size) = L.drop k := by
    unfold bytesN at hL ⊢
    rw [Go.Lib.extract_to_end, List.map_drop, hL]
  have s1 : (T.extract 0 k).size = k := by rw [← bytesN_length, hx1, List.length_take]; omega
  have s2 : (T.extract k T.size).size = T.size - k := by rw [← bytesN_length, hx2, List.length_drop]; omega
  have cat : ∀ s t : ByteArray, (s ++ t).size = s.size + t.size := fun s t => by rw [← bytesN_length, ← bytesN_length, ← bytesN_length, bytesN_append, List.length_append]
  have R : digits_Right.f (T.extract 0 k ++ strOfNums [(c : Int)] ++ T.extract k T.size) = some (isDig c && decide (if k = 0 then c ≠ 48 else L.getD 0 0 ≠ 48)) := by
    unfold digits_Right.f
    rw [if_pos (by rw [cat, cat]; omega), rightS, bytesN_append, bytesN_append, hx1, hc, hx2, right_ins L hd hpos k c (by omega)]
  have R0 : digits_Right.f ((⟨#[48]⟩ : ByteArray) ++ T) = some false := by
    unfold digits_Right.f
    rw [if_pos (by rw [cat, show (⟨#[48]⟩ : ByteArray).size = 1 from rfl]; omega), rightS, bytesN_append, hL, show bytesN (⟨#[48]⟩ : ByteArray) = [48] from rfl, right_cons L hpos 48 (.inl rfl)]
  have R1 : digits_Right.f ((⟨#[45]⟩ : ByteArray) ++ T) = some false := by
    unfold digits_Right.f
    rw [if_pos (by rw [cat, show (⟨#[45]⟩ : ByteArray).size = 1 from rfl]; omega), rightS, bytesN_append, hL, show bytesN (⟨#[45]⟩ : ByteArray) = [45] from rfl, right_cons L hpos 45 (.inr rfl)]
  have hb : bt T 0 = ((L.getD 0 0 : Nat) : Int) := by have h := bt_nat T 0; rw [hL] at h; exact h
  rw [if_neg hw, if_pos (by omega), if_pos (by omega), Option.bind_some, if_pos (by omega), if_pos (by rw [cat]; omega)]
  simp only [R, R0, R1, Option.bind_some, hb]
  clear R R0 R1 hb hx1 hx2 s1 s2 hc hcs hr hk hw cat hL
  generalize L.getD 0 0 = g
  by_cases d : 48 ≤ c ∧ c ≤ 57
  · have hdig : isDig c = true := by simp [isDig]; omega
    rw [if_pos (by omega), if_pos (by omega), hdig]
    by_cases k0 : k = 0
    · rw [if_neg (by omega), if_pos (by omega), if_pos trivial, if_pos (by rw [k0]; simp; by_cases c = 48 <;> simp [*] <;> omega), if_pos (by omega)]
      rfl
    · rw [if_pos (by omega), if_pos (by omega)]
      by_cases g0 : g = 48
      · rw [if_pos (by omega), if_neg (by omega), if_pos trivial, if_pos (by simp [k0, g0]), if_pos (by omega)]
        rfl
      · rw [if_neg (by omega), if_pos trivial, if_pos (by simp [k0, g0]), if_pos (by omega)]
        rfl
  · have hdig : isDig c = false := by simp [isDig]; omega
    rw [hdig]
    by_cases d1 : 48 ≤ c
    · rw [if_pos (by omega), if_neg (by omega), if_pos trivial, if_pos (by simp), if_pos (by omega)]
      rfl
    · rw [if_neg (by omega), if_pos trivial, if_pos (by simp), if_pos (by omega)]
      rfl
end Go.Proofs.YtioofejjjgggkaaDoor.Pure
