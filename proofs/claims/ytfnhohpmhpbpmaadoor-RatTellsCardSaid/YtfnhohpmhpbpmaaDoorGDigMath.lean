/- Decimals in plain Lean: digits' bytes, their number, the number's text. No condition. -/
import Derived.Test.YtfnhohpmhpbpmaaDoorGx0
import Derived.Test.YtfnhohpmhpbpmaaDoorGEvWords
namespace Go.Proofs.YtfnhohpmhpbpmaaDoor.G
open Go.RowKit Go.Proofs.YtfnhohpmhpbpmaaDoorW.PrintWords Go.Proofs.YtfnhohpmhpbpmaaDoorW.PrintLast Go.Proofs.YtfnhohpmhpbpmaaDoorW.PrintMore

/-- The bytes of a text, as numbers. -/
def bytesN (s : ByteArray) : List Nat := s.data.toList.map UInt8.toNat
theorem bytesN_length (s : ByteArray) : (bytesN s).length = s.size := by rw [bytesN, List.length_map]; rfl
theorem bytesN_get (s : ByteArray) (i : Nat) (h : i < s.size) : (bytesN s).getD i 0 = (s[i]'h).toNat := by
  have h2 : i < s.data.toList.length := h
  unfold bytesN
  rw [List.getD_eq_getElem?_getD, List.getElem?_map, List.getElem?_eq_getElem h2]
  rfl
theorem bytesN_out (s : ByteArray) (i : Nat) (h : ¬ i < s.size) : (bytesN s).getD i 0 = 0 := by
  have h2 : ¬ i < s.data.toList.length := h
  unfold bytesN
  rw [List.getD_eq_getElem?_getD, List.getElem?_map, List.getElem?_eq_none (by omega)]
  rfl
theorem bt_nat (s : ByteArray) (i : Nat) : bt s (i : Int) = (((bytesN s).getD i 0 : Nat) : Int) := by
  unfold bt
  by_cases h : i < s.size
  · rw [dif_pos (show (i : Int).toNat < s.size from h), bytesN_get s i h]
    rfl
  · rw [dif_neg (show ¬ (i : Int).toNat < s.size from h), bytesN_out s i h]
    rfl
theorem bytesN_lt (s : ByteArray) (i : Nat) : (bytesN s).getD i 0 < 256 := by
  by_cases h : i < s.size
  · rw [bytesN_get s i h]
    exact (s[i]'h).toNat_lt
  · rw [bytesN_out s i h]
    omega
def isDig (c : Nat) : Bool := decide (48 ≤ c) && decide (c ≤ 57)
/-- Are these a number's decimals? -/
def rightL (l : List Nat) : Bool := l.all isDig && (decide (l = [48]) || (decide (0 < l.length) && decide (l.getD 0 0 ≠ 48)))
def rightS (s : ByteArray) : Bool := rightL (bytesN s)
/-- The number of decimals. -/
def decF (v : Nat) (l : List Nat) : Nat := l.foldl (fun v c => 10 * v + (c - 48)) v
def decN (s : ByteArray) : Nat := decF 0 (bytesN s)
theorem bytesN_inj {s t : ByteArray} : bytesN s = bytesN t ↔ s = t := by
  constructor
  · intro h
    have h2 : s.data.toList = t.data.toList := (List.map_inj_right (fun x y h => UInt8.toNat_inj.1 h)).1 h
    cases s
    cases t
    rw [Array.toList_inj] at h2
    exact congrArg _ h2
  · intro h
    rw [h]
theorem all_drop {l : List Nat} {p : Nat} (h : p < l.length) : (l.drop p).all isDig = (isDig (l.getD p 0) && (l.drop (p + 1)).all isDig) := by
  rw [List.drop_eq_getElem_cons h, List.all_cons, List.getD_eq_getElem?_getD, List.getElem?_eq_getElem h]
  rfl

/-! The number's text. -/
/-- Its k lowest decimal digits, as bytes. -/
def digs : Nat → Nat → List Nat
  | 0, _ => []
  | k + 1, n => (48 + n / 10 ^ k % 10) :: digs k n
theorem digs_length (k n : Nat) : (digs k n).length = k := by
  induction k with
  | zero => rfl
  | succ k ih => rw [digs, List.length_cons, ih]
theorem digs_add (i m n : Nat) : digs (m + i) n = digs m (n / 10 ^ i) ++ digs i n := by
  induction m with
  | zero => rw [Nat.zero_add, digs, List.nil_append]
  | succ m ih => rw [Nat.succ_add, digs, digs, List.cons_append, ← ih, Nat.div_div_eq_div_mul, ← Nat.pow_add, Nat.add_comm i m]
theorem digs_mod (k m n : Nat) (h : k ≤ m) : digs k (n % 10 ^ m) = digs k n := by
  induction k with
  | zero => rfl
  | succ k ih =>
    rw [digs, digs, ih (by omega)]
    have e : n % 10 ^ m / 10 ^ k % 10 = n / 10 ^ k % 10 := by
      have hp : 10 ^ m = 10 ^ k * (10 * 10 ^ (m - k - 1)) := by rw [← Nat.pow_succ', ← Nat.pow_add]; congr 1; omega
      rw [hp, Nat.mod_mul_right_div_self, Nat.mod_mul_right_mod]
    rw [e]
/-- How many digits it has; none for 0. -/
def nd (n : Nat) : Nat := if h : n = 0 then 0 else nd (n / 10) + 1
decreasing_by omega
theorem nd_zero : nd 0 = 0 := by rw [nd]; rfl
theorem nd_pos {n : Nat} (h : n ≠ 0) : nd n = nd (n / 10) + 1 := by rw [nd, dif_neg h]
theorem nd_lt (k : Nat) : ∀ n, n < 10 ^ k ↔ nd n ≤ k := by
  induction k with
  | zero =>
    intro n
    by_cases h : n = 0
    · rw [h, nd_zero]; simp
    · rw [nd_pos h]
      simp
      omega
  | succ k ih =>
    intro n
    by_cases h : n = 0
    · rw [h, nd_zero]
      have := Nat.pow_pos (n := k + 1) (show 0 < 10 by decide)
      omega
    · rw [nd_pos h, Nat.pow_succ, Nat.add_le_add_iff_right, ← ih (n / 10)]
      omega
def dropZ (l : List Nat) : List Nat := l.dropWhile (fun c => c == 48)
def decL (n : Nat) : List Nat := digs (nd n) n
theorem dropZ_digs (k n : Nat) (h : n < 10 ^ k) : dropZ (digs k n) = decL n := by
  induction k with
  | zero =>
    have : n = 0 := by simpa using h
    subst this
    rw [decL, nd_zero]
    rfl
  | succ k ih =>
    rw [dropZ, digs, List.dropWhile_cons]
    by_cases hk : n < 10 ^ k
    · rw [Nat.div_eq_of_lt hk]
      exact ih hk
    · have h1 := (nd_lt (k + 1) n).1 h
      have h2 : ¬ nd n ≤ k := fun h => hk ((nd_lt k n).2 h)
      have h3 : 0 < n / 10 ^ k := Nat.div_pos (by omega) (Nat.pow_pos (by decide))
      have h4 : n / 10 ^ k < 10 := by
        rw [Nat.div_lt_iff_lt_mul (Nat.pow_pos (by decide)), Nat.mul_comm]
        rwa [Nat.pow_succ] at h
      rw [Nat.mod_eq_of_lt h4, if_neg (by simp; omega), decL, show nd n = k + 1 by omega, digs, Nat.mod_eq_of_lt h4]
/-- A number's decimals. -/
def textL (n : Nat) : List Nat := if n = 0 then [48] else decL n
theorem digs_lt (k n : Nat) : ∀ c ∈ digs k n, 48 ≤ c ∧ c ≤ 57 := by
  induction k with
  | zero => intro c h; cases h
  | succ k ih =>
    intro c h
    rw [digs, List.mem_cons] at h
    rcases h with rfl | h
    · omega
    · exact ih c h
theorem textL_lt (n : Nat) : ∀ c ∈ textL n, 48 ≤ c ∧ c ≤ 57 := by
  unfold textL
  split
  · intro c h; simp at h; omega
  · exact digs_lt _ _
def ofN (l : List Nat) : ByteArray := ⟨(l.map UInt8.ofNat).toArray⟩
theorem bytesN_ofN (l : List Nat) (h : ∀ c ∈ l, c < 256) : bytesN (ofN l) = l := by
  show (l.map UInt8.ofNat).map UInt8.toNat = l
  rw [List.map_map]
  induction l with
  | nil => rfl
  | cons c l ih =>
    rw [List.map_cons, ih (fun x hx => h x (List.mem_cons_of_mem _ hx))]
    congr 1
    have := h c (List.mem_cons_self ..)
    simp
    omega
theorem bytesN_append (s t : ByteArray) : bytesN (s ++ t) = bytesN s ++ bytesN t := by
  unfold bytesN
  rw [← List.map_append]
  congr 1
def textS (n : Nat) : ByteArray := ofN (textL n)
theorem bytesN_textS (n : Nat) : bytesN (textS n) = textL n := bytesN_ofN _ (fun c h => by have := textL_lt n c h; omega)
end Go.Proofs.YtfnhohpmhpbpmaaDoor.G
