/- DigitsOrder: of two right decimals the longer one is greater, of two as long the one that is greater by bytes; the plain law behind the printed walk. No condition beyond the statement's own guards. -/
import Derived.Test.YtioofejjjgggkaaDoorGx9
import Derived.Test.YtioofejjjgggkaaDoorGDigLaws
namespace Go.Proofs.YtioofejjjgggkaaDoor.Pure
open Go.RowKit Go.Proofs.YtioofejjjgggkaaDoor.G Go.Proofs.YtioofejjjgggkaaDoorW.PrintWords Go.Proofs.YtioofejjjgggkaaDoorW.PrintLast

theorem nd_mono {m n : Nat} (h : m ≤ n) : nd m ≤ nd n := (nd_lt _ _).1 (Nat.lt_of_le_of_lt h ((nd_lt _ _).2 (Nat.le_refl _)))
theorem textS_mono {m n : Nat} (h : m ≤ n) : (textS m).size ≤ (textS n).size := by
  have h2 := nd_mono h
  rw [textS_size, textS_size]
  by_cases hm : m = 0
  · rw [if_pos hm]
    by_cases hn : n = 0
    · rw [if_pos hn]; omega
    · rw [if_neg hn, nd_pos hn]; omega
  · rw [if_neg hm, if_neg (by omega)]; exact h2
theorem less_digits : ∀ (x y : List UInt8), x.length = y.length → (x.map UInt8.toNat).all isDig = true → (y.map UInt8.toNat).all isDig = true → Op.bytesLess x y = decide (decF 0 (x.map UInt8.toNat) < decF 0 (y.map UInt8.toNat))
  | [], [], _, _, _ => rfl
  | [], _ :: _, h, _, _ => by simp at h
  | _ :: _, [], h, _, _ => by simp at h
  | a :: x, b :: y, h, hx, hy => by
    have hl : x.length = y.length := by simpa using h
    rw [List.map_cons, List.all_cons, Bool.and_eq_true] at hx hy
    have ih := less_digits x y hl hx.2 hy.2
    have ha : 48 ≤ a.toNat ∧ a.toNat ≤ 57 := by simpa [isDig] using hx.1
    have hb : 48 ≤ b.toNat ∧ b.toNat ≤ 57 := by simpa [isDig] using hy.1
    have lx := decF_lt _ hx.2
    have ly := decF_lt _ hy.2
    rw [List.length_map] at lx ly
    rw [← hl] at ly
    have ex : decF 0 (a.toNat :: x.map UInt8.toNat) = (a.toNat - 48) * 10 ^ x.length + decF 0 (x.map UInt8.toNat) := by
      show decF (10 * 0 + (a.toNat - 48)) _ = _
      rw [Nat.mul_zero, Nat.zero_add, decF_at, List.length_map]
    have ey : decF 0 (b.toNat :: y.map UInt8.toNat) = (b.toNat - 48) * 10 ^ x.length + decF 0 (y.map UInt8.toNat) := by
      show decF (10 * 0 + (b.toNat - 48)) _ = _
      rw [Nat.mul_zero, Nat.zero_add, decF_at, List.length_map, hl]
    rw [Op.bytesLess, List.map_cons, List.map_cons, ex, ey, ih]
    generalize decF 0 (x.map UInt8.toNat) = X at *
    generalize decF 0 (y.map UInt8.toNat) = Y at *
    generalize 10 ^ x.length = T at *
    have e1 : decide (a < b) = decide (a.toNat < b.toNat) := by
      rw [Bool.eq_iff_iff, decide_eq_true_iff, decide_eq_true_iff]
      exact UInt8.lt_iff_toNat_lt
    have e2 : (a == b) = decide (a.toNat = b.toNat) := by
      rw [Bool.eq_iff_iff, beq_iff_eq, decide_eq_true_iff]
      exact UInt8.toNat_inj.symm
    rw [e1, e2]
    rcases Nat.lt_trichotomy a.toNat b.toNat with hlt | heq | hgt
    · have h1 := Nat.mul_le_mul_right T (show a.toNat - 48 + 1 ≤ b.toNat - 48 by omega)
      rw [Nat.add_mul] at h1
      rw [decide_eq_true hlt, decide_eq_true (show (a.toNat - 48) * T + X < (b.toNat - 48) * T + Y by omega)]
      rfl
    · rw [decide_eq_false (by omega), decide_eq_true heq, heq, Bool.false_or, Bool.true_and, Bool.eq_iff_iff, decide_eq_true_iff, decide_eq_true_iff]
      omega
    · have h1 := Nat.mul_le_mul_right T (show b.toNat - 48 + 1 ≤ a.toNat - 48 by omega)
      rw [Nat.add_mul] at h1
      rw [decide_eq_false (by omega), decide_eq_false (by omega), decide_eq_false (show ¬ (a.toNat - 48) * T + X < (b.toNat - 48) * T + Y by omega)]
      rfl
theorem text_all (n : Nat) : (bytesN (textS n)).all isDig = true := right_all (right_text n)
theorem less_text {m n : Nat} (h : (textS m).size = (textS n).size) : Op.bytesLess (textS m).toList (textS n).toList = decide (m < n) := by
  rw [Go.ByteArray.toList_eq, Go.ByteArray.toList_eq]
  refine (less_digits (textS m).data.toList (textS n).data.toList h (text_all m) (text_all n)).trans ?_
  show decide (decN (textS m) < decN (textS n)) = _
  rw [dec_text, dec_text]
theorem cmp_text (m n : Nat) : (cmpN m n == 0) = ((textS m).toList == (textS n).toList) := by
  rw [Bool.eq_iff_iff, beq_iff_eq, beq_iff_eq, toList_inj, textS_inj]
  unfold cmpN
  rcases Nat.lt_trichotomy m n with h | h | h
  · rw [if_pos h]; omega
  · subst h; simp
  · rw [if_neg (by omega), if_pos h]; omega
theorem cmp_lt (m n : Nat) : decide (cmpN m n < 0) = decide (m < n) := by
  unfold cmpN
  rcases Nat.lt_trichotomy m n with h | h | h
  · rw [if_pos h, decide_eq_true h]; rfl
  · subst h; simp
  · rw [if_neg (by omega), if_pos h, decide_eq_false (show ¬ m < n by omega)]; rfl

theorem DigitsOrder : tribunallaw02_DigitsOrder.Pure := by
  intro a b la _ wa lb _ wb
  have ha := wfL_of wa
  have hb := wfL_of wb
  clear la lb
  refine Ev.rounds (g := fun k => tribunallaw02_DigitsOrder.f k a b) ?_
  unfold tribunallaw02_DigitsOrder.f
  refine Ev.bind (Ev.const rfl) ?_
  have great : Ev (fun k => tribunallaw02_DigitsOrder.j0 k a b true true) true := by
    apply Ev.step
    · intro k; rw [tribunallaw02_DigitsOrder.j0]
    · exact Ev.yes (Ev.now _)
  by_cases l0 : a.length ≤ 60
  · refine Ev.neg (by omega) ?_
    by_cases l1 : b.length ≤ 60
    · rw [show decide ((b.length : Int) > 60) = false from decide_eq_false (by omega)]
      have last : Ev (fun _ => some ((cmpN (valN a) (valN b) == 0) == ((textS (valN a)).toList == (textS (valN b)).toList))) true := Ev.const (by rw [cmp_text]; simp)
      apply Ev.step
      · intro k; rw [tribunallaw02_DigitsOrder.j0]
      · refine Ev.no (Ev.bind (eText ha (by omega)) (Ev.bind (eText hb (by omega)) (Ev.bind (eRCmp ha hb (by omega) (by omega)) ?_)))
        by_cases h1 : (textS (valN a)).size < (textS (valN b)).size
        · have hlt : valN a < valN b := by
            rcases Nat.lt_or_ge (valN a) (valN b) with h | h
            · exact h
            · have := textS_mono h; omega
          exact Ev.pos (by omega) (Ev.yes (Ev.pos (by rw [cmp_lt, decide_eq_true hlt]; rfl) last))
        · refine Ev.neg (by omega) ?_
          by_cases h2 : (textS (valN a)).size = (textS (valN b)).size
          · exact Ev.pos (by omega) (Ev.yes (Ev.pos (by rw [cmp_lt, less_text h2]; simp) last))
          · have hge : ¬ valN a < valN b := fun h => by have := textS_mono (Nat.le_of_lt h); omega
            exact Ev.neg (by omega) (Ev.yes (Ev.pos (by rw [cmp_lt, decide_eq_false hge]; rfl) last))
    · rw [show decide ((b.length : Int) > 60) = true from decide_eq_true (by omega)]
      exact great
  · exact Ev.pos (by omega) great
end Go.Proofs.YtioofejjjgggkaaDoor.Pure
