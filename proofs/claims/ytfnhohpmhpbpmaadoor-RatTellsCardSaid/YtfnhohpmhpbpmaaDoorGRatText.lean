/- Texts and rational numbers, in plain Lean: a text is right just if it is its number's; what the operations answer. No condition. The text of a rational number, read back; how long it is. No condition. -/
import Derived.Test.YtfnhohpmhpbpmaaDoorGx0
import Derived.Test.YtfnhohpmhpbpmaaDoorGRatTop
namespace Go.Proofs.YtfnhohpmhpbpmaaDoor.G
open Go.RowKit Go.Proofs.YtfnhohpmhpbpmaaDoorW.PrintWords Go.Proofs.YtfnhohpmhpbpmaaDoorW.PrintLast Go.Proofs.YtfnhohpmhpbpmaaDoorW.PrintMore

/-- The number that a sign and two parts are. -/
def valX (x : Num3) : Rat := mkRat (if x.1 = true then -(x.2.1 : Int) else x.2.1) x.2.2
/-- A number's text. -/
def ratS (r : Rat) : ByteArray := tailS (headS (decide (r.num < 0)) r.num.natAbs) r.den
theorem strS_val (n : Bool) (p q : Nat) (hq : q ≠ 0) : strS n p q = ratS (valX (n, p, q)) := by
  have hna : (if n = true then -(p : Int) else p).natAbs = p := by split <;> omega
  have hg : Nat.gcd q p = Nat.gcd p q := Nat.gcd_comm q p
  have hd : (valX (n, p, q)).den = q / Nat.gcd p q := by
    show (mkRat _ q).den = _
    rw [Rat.den_mkRat, if_neg hq, hna, hg]
  have hgp : 0 < Nat.gcd p q := Nat.gcd_pos_of_pos_right p (Nat.pos_of_ne_zero hq)
  have hnum : (valX (n, p, q)).num = if n = true then -((p / Nat.gcd p q : Nat) : Int) else ((p / Nat.gcd p q : Nat) : Int) := by
    show (mkRat _ q).num = _
    rw [Rat.num_mkRat, if_neg hq, hna, hg]
    split
    · rw [Int.neg_ediv_of_dvd (Int.natCast_dvd_natCast.2 (Nat.gcd_dvd_left p q)), Int.natCast_ediv]
    · rw [Int.natCast_ediv]
  unfold strS ratS
  rw [hd, hnum]
  generalize p / Nat.gcd p q = P
  have e1 : (if n = true then -(P : Int) else (P : Int)).natAbs = P := by split <;> omega
  have e2 : (n && decide (P ≠ 0)) = decide ((if n = true then -(P : Int) else (P : Int)) < 0) := by
    cases n
    · rw [if_neg (by simp), decide_eq_false (show ¬ (P : Int) < 0 by omega)]; rfl
    · rw [if_pos rfl, Bool.true_and, Bool.eq_iff_iff, decide_eq_true_iff, decide_eq_true_iff]; omega
  rw [e1, e2]
theorem val_self (r : Rat) : valX (decide (r.num < 0), r.num.natAbs, r.den) = r := by
  show mkRat _ r.den = r
  have : (if decide (r.num < 0) = true then -(r.num.natAbs : Int) else (r.num.natAbs : Int)) = r.num := by
    by_cases h : r.num < 0
    · rw [if_pos (decide_eq_true h)]; omega
    · rw [if_neg (by simpa using h)]; omega
  show mkRat (if decide (r.num < 0) = true then -(r.num.natAbs : Int) else (r.num.natAbs : Int)) r.den = r
  rw [this, Rat.mkRat_self]
def sgn (n : Bool) (p : Nat) : Int := if n = true then -(p : Int) else p
theorem valX_eq (x : Num3) : valX x = mkRat (sgn x.1 x.2.1) x.2.2 := rfl
theorem sgn_add (n m : Bool) (x y : Nat) : sgn (addR n m x y).1 (addR n m x y).2 = sgn n x + sgn m y := by
  unfold addR sgn
  by_cases h : n = m
  · subst h
    rw [if_pos rfl]
    cases n <;> simp <;> omega
  · rw [if_neg h]
    by_cases h2 : x < y
    · rw [if_pos h2]
      cases n <;> cases m <;> simp at h ⊢ <;> omega
    · rw [if_neg h2]
      cases n <;> cases m <;> simp at h ⊢ <;> omega
theorem sgn_mul (n m : Bool) (x y : Nat) : sgn (n != m) (x * y) = sgn n x * sgn m y := by
  unfold sgn
  cases n <;> cases m <;> simp [Int.neg_mul, Int.mul_neg]
theorem sgn_scale (n : Bool) (x y : Nat) : sgn n (x * y) = sgn n x * y := by
  unfold sgn
  cases n <;> simp [Int.neg_mul]
theorem val_add {x y : Num3} (hx : x.2.2 ≠ 0) (hy : y.2.2 ≠ 0) : valX (addX x y) = valX x + valX y := by
  rw [valX_eq, valX_eq, valX_eq, Rat.mkRat_add_mkRat _ _ hx hy]
  show mkRat (sgn (addR x.1 y.1 (x.2.1 * y.2.2) (y.2.1 * x.2.2)).1 (addR x.1 y.1 (x.2.1 * y.2.2) (y.2.1 * x.2.2)).2) (x.2.2 * y.2.2) = _
  rw [sgn_add, sgn_scale, sgn_scale]
theorem val_neg (y : Num3) : valX (!y.1, y.2) = - valX y := by
  rw [valX_eq, valX_eq, Rat.neg_mkRat]
  congr 1
  unfold sgn
  cases y.1 <;> simp
theorem val_sub {x y : Num3} (hx : x.2.2 ≠ 0) (hy : y.2.2 ≠ 0) : valX (subX x y) = valX x - valX y := by
  rw [subX, val_add (y := (!y.1, y.2)) hx hy, val_neg, Rat.sub_eq_add_neg]
theorem val_mul (x y : Num3) : valX (mulX x y) = valX x * valX y := by
  rw [valX_eq, valX_eq, valX_eq, Rat.mkRat_mul_mkRat]
  show mkRat (sgn (x.1 != y.1) (x.2.1 * y.2.1)) (x.2.2 * y.2.2) = _
  rw [sgn_mul]
theorem val_div (x y : Num3) : valX (divX x y) = valX x / valX y := by
  have h : valX (divX x y) = valX x * valX (y.1, y.2.2, y.2.1) := by
    rw [← val_mul]; rfl
  rw [h, Rat.div_def]
  congr 1
  rw [valX_eq, valX_eq, ← Rat.divInt_ofNat, ← Rat.divInt_ofNat, Rat.inv_divInt]
  show Rat.divInt (sgn y.1 y.2.2) (y.2.1 : Nat) = Rat.divInt (y.2.2 : Nat) (sgn y.1 y.2.1)
  unfold sgn
  cases y.1
  · rfl
  · rw [if_pos rfl, if_pos rfl, Rat.divInt_neg']
theorem bytes_head (n : Bool) (p : Nat) : bytesN (headS n p) = (if n = true then [45] else []) ++ textL p := by
  unfold headS
  cases n
  · rw [if_neg (by simp), if_neg (by simp), bytesN_textS]; rfl
  · rw [if_pos rfl, if_pos rfl, bytesN_append, bytesN_textS]; rfl
theorem bytes_tail (s : ByteArray) (q : Nat) : bytesN (tailS s q) = bytesN s ++ (if 1 < q then 47 :: textL q else []) := by
  unfold tailS
  by_cases h : 1 < q
  · rw [if_pos h, if_pos h, bytesN_append, bytesN_append, bytesN_textS]; rfl
  · rw [if_neg h, if_neg h, List.append_nil]
theorem bytes_rat (r : Rat) : bytesN (ratS r) = (if r.num < 0 then [45] else []) ++ (textL r.num.natAbs ++ (if 1 < r.den then 47 :: textL r.den else [])) := by
  unfold ratS
  rw [bytes_tail, bytes_head, List.append_assoc]
  congr 1
  by_cases h : r.num < 0
  · rw [if_pos h, if_pos (decide_eq_true h)]
  · rw [if_neg h, if_neg (by simpa using h)]
theorem textL_cons (n : Nat) : ∃ c l, textL n = c :: l ∧ 48 ≤ c ∧ c ≤ 57 := by
  have h := textL_lt n
  have hl := textL_len n
  cases e : textL n with
  | nil =>
    rw [e] at hl
    by_cases h0 : n = 0
    · rw [if_pos h0] at hl; simp at hl
    · rw [if_neg h0, nd_pos h0] at hl; simp at hl
  | cons c l => exact ⟨c, l, rfl, h c (by rw [e]; simp)⟩
theorem textL_no (n c : Nat) (h : c < 48) : c ∉ textL n := fun hm => by have := textL_lt n c hm; omega
theorem bytes_drop (s : ByteArray) (k : Nat) : bytesN (s.extract k s.size) = (bytesN s).drop k := by
  unfold bytesN
  rw [Go.Lib.extract_to_end, List.map_drop]
theorem signS_neg {s : ByteArray} {l : List Nat} (h : bytesN s = 45 :: l) : ∃ t, signS s = (t, true) ∧ bytesN t = l := by
  have hs : 0 < s.size := by rw [← bytesN_length, h]; simp
  have hb : bt s 0 = 45 := by have := bt_nat s 0; rw [h] at this; exact this
  refine ⟨s.extract 1 s.size, by unfold signS; rw [if_pos ⟨hs, hb⟩], ?_⟩
  rw [bytes_drop, h]
  rfl
theorem signS_pos {s : ByteArray} {c : Nat} {l : List Nat} (h : bytesN s = c :: l) (hc : c ≠ 45) : signS s = (s, false) := by
  have hb : ¬ bt s 0 = 45 := by have := bt_nat s 0; rw [h] at this; rw [show bt s 0 = _ from this]; simp; omega
  unfold signS
  rw [if_neg (fun h => hb h.2)]
theorem index_not (l : List UInt8) (c : UInt8) (h : c.toNat ∉ l.map UInt8.toNat) : Lib.indexByte l c = -1 := by
  induction l with
  | nil => rfl
  | cons b l ih =>
    rw [List.map_cons, List.mem_cons, not_or] at h
    unfold Lib.indexByte
    have hb : ¬ (b == c) = true := fun e => h.1 (by rw [beq_iff_eq.1 e])
    rw [if_neg hb, ih h.2]
    rfl
theorem index_at (a b : List UInt8) (c : UInt8) (h : c.toNat ∉ a.map UInt8.toNat) : Lib.indexByte (a ++ c :: b) c = (a.length : Int) := by
  induction a with
  | nil => unfold Lib.indexByte; simp
  | cons x a ih =>
    rw [List.map_cons, List.mem_cons, not_or] at h
    rw [List.cons_append]
    unfold Lib.indexByte
    have hb : ¬ (x == c) = true := fun e => h.1 (by rw [beq_iff_eq.1 e])
    rw [if_neg hb, ih h.2, if_neg (by rw [beq_iff_eq]; omega), List.length_cons]
    omega
theorem cutS_none {s : ByteArray} (h : 47 ∉ bytesN s) : cutS s = (s, ⟨#[]⟩, false) := by
  have h1 : slashAt s = -1 := index_not s.data.toList 47 h
  unfold cutS
  rw [h1, if_pos (by omega)]
theorem cutS_some {s : ByteArray} {a b : List Nat} (h : bytesN s = a ++ 47 :: b) (ha : 47 ∉ a) : ∃ x y, cutS s = (x, y, true) ∧ bytesN x = a ∧ bytesN y = b := by
  obtain ⟨A, C, e, e1, e2⟩ : ∃ A C, s.data.toList = A ++ C ∧ A.map UInt8.toNat = a ∧ C.map UInt8.toNat = 47 :: b := by
    have := List.map_eq_append_iff.1 h
    exact this
  obtain ⟨c, B, e3, e4, e5⟩ := List.map_eq_cons_iff.1 e2
  have hc : c = 47 := UInt8.toNat_inj.1 e4
  subst hc
  have h1 : slashAt s = (a.length : Int) := by
    unfold slashAt
    rw [e, e3, index_at A B 47 (by rw [e1]; exact ha), ← e1, List.length_map]
  refine ⟨_, _, by unfold cutS; rw [h1, if_neg (by omega), Int.toNat_natCast], ?_, ?_⟩
  · rw [bytesN_take, h, List.take_left']; rfl
  · rw [bytes_drop, h, List.drop_append, List.drop_eq_nil_of_le (by omega), show a.length + 1 - a.length = 1 by omega]
    rfl
theorem of_bytes {s : ByteArray} {n : Nat} (h : bytesN s = textL n) : s = textS n := bytesN_inj.1 (by rw [h, bytesN_textS])
theorem parts_rat (r : Rat) : partsS (ratS r) = (decide (r.num < 0), textS r.num.natAbs, textS r.den) := by
  have hb := bytes_rat r
  obtain ⟨c, l, ec, hc1, hc2⟩ := textL_cons r.num.natAbs
  have hden := r.den_pos
  have one : r.den = 1 → (⟨#[49]⟩ : ByteArray) = textS r.den := fun h => by rw [h]; exact (text_dec (⟨#[49]⟩ : ByteArray) (by decide)).symm
  have key : ∀ t : ByteArray, bytesN t = textL r.num.natAbs ++ (if 1 < r.den then 47 :: textL r.den else []) → ((cutS t).1, if (cutS t).2.2 = true then (cutS t).2.1 else (⟨#[49]⟩ : ByteArray)) = (textS r.num.natAbs, textS r.den) := by
    intro t ht
    by_cases h1 : 1 < r.den
    · rw [if_pos h1] at ht
      obtain ⟨x, y, e, ex, ey⟩ := cutS_some ht (textL_no _ _ (by omega))
      rw [e]
      show (x, if true = true then y else _) = _
      rw [if_pos rfl, of_bytes ex, of_bytes ey]
    · rw [if_neg h1, List.append_nil] at ht
      rw [cutS_none (by rw [ht]; exact textL_no _ _ (by omega))]
      show (t, if false = true then _ else (⟨#[49]⟩ : ByteArray)) = _
      rw [if_neg (by simp), of_bytes ht, one (by omega)]
  unfold partsS
  by_cases hn : r.num < 0
  · rw [if_pos hn] at hb
    obtain ⟨t, e, et⟩ := signS_neg (l := textL r.num.natAbs ++ (if 1 < r.den then 47 :: textL r.den else [])) hb
    rw [e, decide_eq_true hn]
    have := key t et
    rw [Prod.mk.injEq] at this
    rw [← this.1, ← this.2]
  · rw [if_neg hn, List.nil_append] at hb
    have hs : signS (ratS r) = (ratS r, false) := signS_pos (c := c) (l := l ++ (if 1 < r.den then 47 :: textL r.den else [])) (by rw [hb, ec]; rfl) (by omega)
    rw [hs, decide_eq_false hn]
    have := key _ hb
    rw [Prod.mk.injEq] at this
    rw [← this.1, ← this.2]
theorem getS_rat {r : Rat} (h : (ratS r).size ≤ 1900) : getS (ratS r) = some (decide (r.num < 0), r.num.natAbs, r.den) := by
  have hp := parts_rat r
  unfold getS rightP
  rw [hp]
  simp only [right_text, dec_text, Bool.and_self, true_and]
  rw [strS_val _ _ _ (Nat.ne_of_gt r.den_pos), val_self, if_pos ⟨h, r.den_pos, rfl⟩]
theorem getS_val {s : ByteArray} {x : Num3} (h : getS s = some x) : s = ratS (valX x) ∧ s.size ≤ 1900 ∧ x.2.2 ≠ 0 := by
  unfold getS at h
  split at h
  · rename_i hc
    obtain ⟨_, h2, h3, h4⟩ := hc
    obtain rfl := Option.some.inj h
    refine ⟨?_, h2, Nat.ne_of_gt h3⟩
    rw [← strS_val _ _ _ (Nat.ne_of_gt h3), h4]
  · cases h
theorem ratS_inj {a b : Rat} : ratS a = ratS b ↔ a = b := by
  constructor
  · intro h
    have h1 := parts_rat a
    rw [h, parts_rat b] at h1
    rw [Prod.mk.injEq, Prod.mk.injEq] at h1
    rw [← val_self a, ← val_self b, textS_inj.1 h1.2.1, textS_inj.1 h1.2.2, h1.1]
  · intro h; rw [h]
/-- How great a number's parts are. -/
structure Bd (k : Nat) (r : Rat) : Prop where
  n : r.num.natAbs < 10 ^ k
  d : r.den < 10 ^ k
theorem text_max {n k : Nat} (h : n < 10 ^ k) : (textS n).size ≤ k + 1 := by
  have := (nd_lt k n).1 h
  rw [textS_size]
  split <;> omega
theorem Bd.size {k : Nat} {r : Rat} (h : Bd k r) : (ratS r).size ≤ 2 * k + 4 := by
  have h1 := text_max h.n
  have h2 := text_max h.d
  unfold ratS tailS headS
  split <;> split <;> (try simp only [cat_size, show (⟨#[45]⟩ : ByteArray).size = 1 from rfl, show (⟨#[47]⟩ : ByteArray).size = 1 from rfl]) <;> omega
theorem Bd.mono {k m : Nat} {r : Rat} (h : Bd k r) (hm : k ≤ m) : Bd m r := ⟨Nat.lt_of_lt_of_le h.n (Nat.pow_le_pow_right (by decide) hm), Nat.lt_of_lt_of_le h.d (Nat.pow_le_pow_right (by decide) hm)⟩
theorem Bd.of_mk {k : Nat} {a : Int} {b : Nat} (hb : b ≠ 0) (ha : a.natAbs < 10 ^ k) (hk : b < 10 ^ k) : Bd k (mkRat a b) := by
  constructor
  · rw [Rat.num_mkRat, if_neg hb]
    refine Nat.lt_of_le_of_lt ?_ ha
    have hg : 0 < b.gcd a.natAbs := Nat.gcd_pos_of_pos_left _ (Nat.pos_of_ne_zero hb)
    exact Int.natAbs_ediv_le_natAbs a _
  · rw [Rat.den_mkRat, if_neg hb]
    exact Nat.lt_of_le_of_lt (Nat.div_le_self _ _) hk
theorem Bd.neg {k : Nat} {a : Rat} (h : Bd k a) : Bd k (-a) := ⟨by rw [Rat.neg_num, Int.natAbs_neg]; exact h.n, h.d⟩
theorem Bd.mul {k m : Nat} {a b : Rat} (h : Bd k a) (g : Bd m b) : Bd (k + m) (a * b) := by
  rw [Rat.mul_def']
  refine Bd.of_mk (Nat.mul_ne_zero (Nat.ne_of_gt a.den_pos) (Nat.ne_of_gt b.den_pos)) ?_ ?_
  · rw [Int.natAbs_mul, Nat.pow_add]
    exact Nat.mul_lt_mul'' h.n g.n
  · rw [Nat.pow_add]
    exact Nat.mul_lt_mul'' h.d g.d
theorem Bd.add {k m : Nat} {a b : Rat} (h : Bd k a) (g : Bd m b) : Bd (k + m + 1) (a + b) := by
  rw [Rat.add_def']
  have h1 := Nat.mul_lt_mul'' h.n g.d
  have h2 := Nat.mul_lt_mul'' g.n h.d
  have h3 := Nat.mul_lt_mul'' h.d g.d
  rw [Nat.mul_comm (10 ^ m), ← Nat.pow_add] at h2
  rw [← Nat.pow_add] at h1 h3
  refine Bd.of_mk (Nat.mul_ne_zero (Nat.ne_of_gt a.den_pos) (Nat.ne_of_gt b.den_pos)) ?_ ?_
  · have := Int.natAbs_add_le (a.num * b.den) (b.num * a.den)
    rw [Int.natAbs_mul, Int.natAbs_mul, Int.natAbs_natCast, Int.natAbs_natCast] at this
    rw [Nat.pow_succ]
    omega
  · rw [Nat.pow_succ]
    omega
theorem Bd.sub {k m : Nat} {a b : Rat} (h : Bd k a) (g : Bd m b) : Bd (k + m + 1) (a - b) := by
  rw [Rat.sub_eq_add_neg]
  exact h.add g.neg
theorem Bd.inv {k : Nat} {a : Rat} (hk : 1 ≤ k) (h : Bd k a) : Bd k a⁻¹ := by
  constructor
  · rw [Rat.num_inv, Int.natAbs_mul, Int.natAbs_natCast]
    refine Nat.lt_of_le_of_lt ?_ h.d
    rcases Int.sign_trichotomy a.num with e | e | e <;> rw [e] <;> simp
  · rw [Rat.den_inv]
    split
    · exact Nat.lt_of_lt_of_le (by decide : 1 < 10 ^ 1) (Nat.pow_le_pow_right (by decide) hk)
    · exact h.n
theorem Bd.div {k m : Nat} {a b : Rat} (hm : 1 ≤ m) (h : Bd k a) (g : Bd m b) : Bd (k + m) (a / b) := by
  rw [Rat.div_def]
  exact h.mul (g.inv hm)
/-- A number's text, if it is not too long. -/
def toldR (r : Rat) : ByteArray × Int := if (ratS r).size > 1900 then (⟨#[]⟩, 2) else (ratS r, 0)
theorem toldS_val (x : Num3) (h : x.2.2 ≠ 0) : toldS x = toldR (valX x) := by
  unfold toldS toldR
  rw [strS_val x.1 x.2.1 x.2.2 h]
abbrev numX (r : Rat) : Num3 := (decide (r.num < 0), r.num.natAbs, r.den)
theorem numX_val (r : Rat) : valX (numX r) = r := val_self r
theorem numX_den (r : Rat) : (numX r).2.2 ≠ 0 := Nat.ne_of_gt r.den_pos
end Go.Proofs.YtfnhohpmhpbpmaaDoor.G
