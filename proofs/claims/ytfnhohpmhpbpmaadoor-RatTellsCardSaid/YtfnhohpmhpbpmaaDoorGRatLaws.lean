/- What rat's functions answer of texts of numbers; words for the laws of layer 3. Condition: few digits. tribunallaw03.head, whose answer is fixed, answers true. No condition. -/
import Derived.Test.YtfnhohpmhpbpmaaDoorGx0
import Derived.Test.YtfnhohpmhpbpmaaDoorGx9
import Derived.Test.YtfnhohpmhpbpmaaDoorGx1
import Derived.Test.YtfnhohpmhpbpmaaDoorGx11
import Derived.Test.YtfnhohpmhpbpmaaDoorGRatText
namespace Go.Proofs.YtfnhohpmhpbpmaaDoor.G
open Go.RowKit Go.Proofs.YtfnhohpmhpbpmaaDoorW.PrintWords Go.Proofs.YtfnhohpmhpbpmaaDoorW.PrintLast Go.Proofs.YtfnhohpmhpbpmaaDoorW.PrintMore

section
variable {a b : Rat} (ha : (ratS a).size ≤ 1900) (hb : (ratS b).size ≤ 1900)
include ha hb
theorem opS_add : opS addX false (ratS a) (ratS b) = toldR (a + b) := by
  unfold opS
  rw [getS_rat ha, getS_rat hb]
  show toldS (addX (numX a) (numX b)) = _
  rw [toldS_val _ (Nat.mul_ne_zero (numX_den a) (numX_den b)), val_add (numX_den a) (numX_den b), numX_val, numX_val]
theorem opS_sub : opS subX false (ratS a) (ratS b) = toldR (a - b) := by
  unfold opS
  rw [getS_rat ha, getS_rat hb]
  show toldS (subX (numX a) (numX b)) = _
  rw [toldS_val _ (Nat.mul_ne_zero (numX_den a) (numX_den b)), val_sub (numX_den a) (numX_den b), numX_val, numX_val]
theorem opS_mul : opS mulX false (ratS a) (ratS b) = toldR (a * b) := by
  unfold opS
  rw [getS_rat ha, getS_rat hb]
  show toldS (mulX (numX a) (numX b)) = _
  rw [toldS_val _ (Nat.mul_ne_zero (numX_den a) (numX_den b)), val_mul, numX_val, numX_val]
theorem opS_div : opS divX true (ratS a) (ratS b) = if b = 0 then (⟨#[]⟩, 21) else toldR (a / b) := by
  unfold opS
  rw [getS_rat ha, getS_rat hb]
  show (if true = true ∧ b.num.natAbs = 0 then (⟨#[]⟩, 21) else toldS (divX (numX a) (numX b))) = _
  by_cases h0 : b = 0
  · rw [if_pos h0, if_pos ⟨rfl, (by rw [h0]; rfl)⟩]
  · have hn : b.num.natAbs ≠ 0 := fun h => h0 (by rw [Int.natAbs_eq_zero, Rat.num_eq_zero] at h; exact h)
    rw [if_neg h0, if_neg (fun h => hn h.2), toldS_val _ (Nat.mul_ne_zero (numX_den a) hn), val_div, numX_val, numX_val]
def cmpQ (a b : Rat) : Int := if a < b then -1 else if b < a then 1 else 0
theorem cmp_rat : cmpM (getS (ratS a)) (getS (ratS b)) = cmpQ a b := by
  rw [getS_rat ha, getS_rat hb]
  show cmpX (numX a) (numX b) = _
  have hv := val_sub (numX_den a) (numX_den b)
  rw [numX_val, numX_val] at hv
  have hd : (subX (numX a) (numX b)).2.2 ≠ 0 := Nat.mul_ne_zero (numX_den a) (numX_den b)
  unfold cmpX cmpQ
  generalize subX (numX a) (numX b) = z at *
  obtain ⟨n, p, q⟩ := z
  rw [valX_eq] at hv
  simp only [] at hv hd ⊢
  have hq : 0 < (q : Rat) := Rat.natCast_pos.2 (Nat.pos_of_ne_zero hd)
  rw [Rat.mkRat_eq_div] at hv
  have key : ((sgn n p : Int) : Rat) = (a - b) * q := by rw [← hv, Rat.div_mul_cancel (Rat.ne_of_gt hq)]
  by_cases hp : p = 0
  · rw [if_pos hp]
    have h0 : a - b = 0 := by
      rw [← hv, hp]
      cases n <;> simp [sgn, Rat.div_def]
    have he : a = b := by grind
    rw [he, if_neg Rat.lt_irrefl, if_neg Rat.lt_irrefl]
  · rw [if_neg hp]
    cases n
    · have h1 : (0 : Rat) < ((sgn false p : Int) : Rat) := Rat.intCast_pos.2 (by show (0 : Int) < p; omega)
      rw [key] at h1
      have h2 : 0 < a - b := (Rat.mul_pos_iff_of_pos_right hq).1 h1
      have h3 : b < a := (Rat.lt_iff_sub_pos b a).2 h2
      rw [if_neg (by simp), if_neg (show ¬ a < b from by grind), if_pos h3]
    · have h1 : ((sgn true p : Int) : Rat) < 0 := Rat.intCast_neg_iff.2 (by show -(p : Int) < 0; omega)
      rw [key] at h1
      have h2 : a - b < 0 := (Rat.mul_neg_iff_of_pos_right hq).1 h1
      have h3 : a < b := by grind
      rw [if_pos rfl, if_pos h3]
end
theorem rat0 : (⟨#[48]⟩ : ByteArray) = ratS 0 := by
  show _ = tailS (headS (decide ((0 : Rat).num < 0)) (0 : Rat).num.natAbs) (0 : Rat).den
  rfl
theorem rat1 : (⟨#[49]⟩ : ByteArray) = ratS 1 := by
  show _ = tailS (headS (decide ((1 : Rat).num < 0)) (1 : Rat).num.natAbs) (1 : Rat).den
  show _ = textS 1
  exact (text_dec (⟨#[49]⟩ : ByteArray) (by decide)).symm
theorem toldR_bd {k : Nat} {r : Rat} (h : Bd k r) (hk : k ≤ 900) : toldR r = (ratS r, 0) := by
  have := h.size
  unfold toldR
  rw [if_neg (by omega)]
theorem Bd.le {k : Nat} {r : Rat} (h : Bd k r) (hk : k ≤ 900) : (ratS r).size ≤ 1900 := by have := h.size; omega
theorem small_of {s : ByteArray} (h : s.size ≤ 1900) : small s := by unfold small; omega
section
variable {k m : Nat} {a b : Rat} (ha : Bd k a) (hb : Bd m b)
include ha hb
theorem rAdd (h : k + m ≤ 899) : rat_Add.f (ratS a) (ratS b) = some (ratS (a + b), 0) := by
  unfold rat_Add.f
  rw [if_pos ⟨small_of (ha.le (by omega)), small_of (hb.le (by omega))⟩, opS_add (ha.le (by omega)) (hb.le (by omega)), toldR_bd (ha.add hb) (by omega)]
theorem rSub (h : k + m ≤ 899) : rat_Sub.f (ratS a) (ratS b) = some (ratS (a - b), 0) := by
  unfold rat_Sub.f
  rw [if_pos ⟨small_of (ha.le (by omega)), small_of (hb.le (by omega))⟩, opS_sub (ha.le (by omega)) (hb.le (by omega)), toldR_bd (ha.sub hb) (by omega)]
theorem rMul (h : k + m ≤ 899) : rat_Mul.f (ratS a) (ratS b) = some (ratS (a * b), 0) := by
  unfold rat_Mul.f
  rw [if_pos ⟨small_of (ha.le (by omega)), small_of (hb.le (by omega))⟩, opS_mul (ha.le (by omega)) (hb.le (by omega)), toldR_bd (ha.mul hb) (by omega)]
theorem rDiv (h : k + m ≤ 899) (hm : 1 ≤ m) : rat_Div.f (ratS a) (ratS b) = some (if b = 0 then (⟨#[]⟩, 21) else (ratS (a / b), 0)) := by
  unfold rat_Div.f
  rw [if_pos ⟨small_of (ha.le (by omega)), small_of (hb.le (by omega))⟩, opS_div (ha.le (by omega)) (hb.le (by omega)), toldR_bd (ha.div hm hb) (by omega)]
theorem rCmp (h : k ≤ 900) (g : m ≤ 900) : rat_Cmp.f (ratS a) (ratS b) = some (cmpQ a b) := by
  unfold rat_Cmp.f
  rw [if_pos ⟨small_of (ha.le h), small_of (hb.le g)⟩, cmp_rat (ha.le h) (hb.le g)]
theorem rPlus (h : k + m ≤ 899) : tribunallaw03_plus.f (ratS a) (ratS b) = some (ratS (a + b)) := by
  unfold tribunallaw03_plus.f
  rw [rAdd ha hb h]
  rfl
theorem rTimes (h : k + m ≤ 899) : tribunallaw03_times.f (ratS a) (ratS b) = some (ratS (a * b)) := by
  unfold tribunallaw03_times.f
  rw [rMul ha hb h]
  rfl
end
theorem bd0 : Bd 1 0 := ⟨by decide, by decide⟩
theorem bd1 : Bd 1 1 := ⟨by decide, by decide⟩
theorem rNeg {k : Nat} {a : Rat} (ha : Bd k a) (h : k ≤ 898) : rat_Neg.f (ratS a) = some (ratS (-a), 0) := by
  unfold rat_Neg.f
  rw [if_pos (small_of (ha.le (by omega))), rat0, opS_sub (bd0.le (by omega)) (ha.le (by omega)), toldR_bd (bd0.sub ha) (by omega), show (0 : Rat) - a = -a by grind]
theorem rRight {k : Nat} {a : Rat} (ha : Bd k a) (h : k ≤ 900) : rat_Right.f (ratS a) = some true := by
  unfold rat_Right.f
  rw [if_pos (small_of (ha.le h)), getS_rat (ha.le h)]
  rfl
theorem toList0 : (textS 0).toList = [48] := by rw [Go.ByteArray.toList_eq]; rfl
theorem rNorm_eq (s : ByteArray) (hs : s.size ≤ 1900) : rat_Norm.f s = some (normS s) := by
  unfold rat_Norm.f
  rw [if_pos (small_of hs)]
theorem norm_cases (s : ByteArray) (k : Nat) (hs : s.size ≤ k) (hk : 1 ≤ k) : (∃ r, normS s = (ratS r, 0) ∧ Bd k r) ∨ ∃ e, e ≠ 0 ∧ normS s = (⟨#[]⟩, e) := by
  unfold normS
  by_cases h1 : rightP s = false
  · rw [if_pos h1]; exact .inr ⟨12, by decide, rfl⟩
  · rw [if_neg h1]
    by_cases h2 : s.size > 900
    · rw [if_pos h2]; exact .inr ⟨2, by decide, rfl⟩
    · rw [if_neg h2]
      by_cases h3 : (partsS s).2.2.toList = [48]
      · rw [if_pos h3]; exact .inr ⟨21, by decide, rfl⟩
      · rw [if_neg h3]
        refine .inl ⟨valX ((partsS s).1, decN (partsS s).2.1, decN (partsS s).2.2), ?_, ?_⟩
        all_goals
          have hr : rightP s = true := by simpa using h1
          unfold rightP at hr
          rw [Bool.and_eq_true] at hr
          have hq : decN (partsS s).2.2 ≠ 0 := by
            intro h0
            apply h3
            have h4 := text_dec _ hr.2
            rw [h0] at h4
            rw [← h4]
            exact toList0
        · rw [strS_val _ _ _ hq]
        · have hle := partsS_le s
          have l1 := dec_lt hr.1
          have l2 := dec_lt hr.2
          rw [valX_eq]
          refine Bd.of_mk hq ?_ ?_
          · have : (sgn (partsS s).1 (decN (partsS s).2.1)).natAbs = decN (partsS s).2.1 := by unfold sgn; split <;> omega
            show (sgn (partsS s).1 (decN (partsS s).2.1)).natAbs < _
            rw [this]
            exact Nat.lt_of_lt_of_le l1 (Nat.pow_le_pow_right (by decide) (by omega))
          · exact Nat.lt_of_lt_of_le l2 (Nat.pow_le_pow_right (by decide) (by omega))
theorem norm_rat {r : Rat} (h : (ratS r).size ≤ 900) : normS (ratS r) = (ratS r, 0) := by
  have hp := parts_rat r
  have hne : ¬ (textS r.den).toList = [48] := by
    intro he
    have h1 : textS r.den = textS 0 := toList_inj.1 (by rw [he, toList0])
    have := textS_inj.1 h1
    have := r.den_pos
    omega
  unfold normS rightP
  rw [hp]
  simp only [right_text, dec_text, Bool.and_self]
  rw [if_neg (by simp), if_neg (by omega), if_neg hne, strS_val _ _ _ (Nat.ne_of_gt r.den_pos), val_self]
theorem toList_beq {s t : ByteArray} : (s.toList == t.toList) = decide (s = t) := by
  rw [Bool.eq_iff_iff, beq_iff_eq, decide_eq_true_iff]
  exact toList_inj
theorem great_of {s t : ByteArray} (hs : s.size ≤ 160) (ht : t.size ≤ 160) : tribunallaw03_Great.f s t = some false := by
  unfold tribunallaw03_Great.f
  rw [if_neg (by omega), decide_eq_false (by omega)]
theorem great_not {s t : ByteArray} (h : ¬ (s.size ≤ 160 ∧ t.size ≤ 160)) : tribunallaw03_Great.f s t = some true := by
  unfold tribunallaw03_Great.f
  by_cases hs : (s.size : Int) > 160
  · rw [if_pos hs]
  · rw [if_neg hs, decide_eq_true (by omega)]
theorem ratS_lit (r : Rat) (s A B : ByteArray) (hA : rightS A = true) (hB : rightS B = true) (h1 : r.num.natAbs = decN A) (h2 : r.den = decN B)
    (hs : bytesN s = (if r.num < 0 then [45] else []) ++ (bytesN A ++ (if 1 < r.den then 47 :: bytesN B else []))) : ratS r = s := bytesN_inj.1 (by
  rw [bytes_rat, hs, h1, h2, show textL (decN A) = bytesN A from textL_decF _ hA, show textL (decN B) = bytesN B from textL_decF _ hB])
theorem getS_not {s : ByteArray} {t : ByteArray} (h : strS (partsS s).1 (decN (partsS s).2.1) (decN (partsS s).2.2) = t) (hne : t ≠ s) : getS s = none := by
  unfold getS
  rw [if_neg (fun hc => hne (h.symm.trans hc.2.2.2))]
theorem toList_mk (l : List UInt8) : (⟨⟨l⟩⟩ : ByteArray).toList = l := Go.ByteArray.toList_eq _
theorem head_true : tribunallaw03_head.f = some true := by
  have q12 : ratS (mkRat 1 2) = ⟨#[49, 47, 50]⟩ := ratS_lit _ _ ⟨#[49]⟩ ⟨#[50]⟩ (by decide) (by decide) (by decide) (by decide) (by decide)
  have m13 : ratS (mkRat (-1) 3) = ⟨#[45, 49, 47, 51]⟩ := ratS_lit _ _ ⟨#[49]⟩ ⟨#[51]⟩ (by decide) (by decide) (by decide) (by decide) (by decide)
  have m12 : ratS (mkRat (-1) 2) = ⟨#[45, 49, 47, 50]⟩ := ratS_lit _ _ ⟨#[49]⟩ ⟨#[50]⟩ (by decide) (by decide) (by decide) (by decide) (by decide)
  have q13 : ratS (mkRat 1 3) = ⟨#[49, 47, 51]⟩ := ratS_lit _ _ ⟨#[49]⟩ ⟨#[51]⟩ (by decide) (by decide) (by decide) (by decide) (by decide)
  have q16 : ratS (mkRat 1 6) = ⟨#[49, 47, 54]⟩ := ratS_lit _ _ ⟨#[49]⟩ ⟨#[54]⟩ (by decide) (by decide) (by decide) (by decide) (by decide)
  have q3 : ratS 3 = ⟨#[51]⟩ := ratS_lit _ _ ⟨#[51]⟩ ⟨#[49]⟩ (by decide) (by decide) (by decide) (by decide) (by decide)
  have q2 : ratS 2 = ⟨#[50]⟩ := ratS_lit _ _ ⟨#[50]⟩ ⟨#[49]⟩ (by decide) (by decide) (by decide) (by decide) (by decide)
  have m6 : ratS (-6) = ⟨#[45, 54]⟩ := ratS_lit _ _ ⟨#[54]⟩ ⟨#[49]⟩ (by decide) (by decide) (by decide) (by decide) (by decide)
  have m32 : ratS (mkRat (-3) 2) = ⟨#[45, 51, 47, 50]⟩ := ratS_lit _ _ ⟨#[51]⟩ ⟨#[50]⟩ (by decide) (by decide) (by decide) (by decide) (by decide)
  have bd : ∀ (n : Int) (d : Nat), d ≠ 0 → n.natAbs < 10 ^ 1 → d < 10 ^ 1 → Bd 1 (mkRat n d) := fun n d h1 h2 h3 => Bd.of_mk h1 h2 h3
  have e1 : rat_Norm.f ⟨#[45, 54, 47, 52]⟩ = some (⟨#[45, 51, 47, 50]⟩, 0) := by
    rw [rNorm_eq _ (by decide)]
    unfold normS
    rw [if_neg (by decide), if_neg (by decide), if_neg (by rw [show (partsS ⟨#[45, 54, 47, 52]⟩).2.2 = ⟨#[52]⟩ from by decide, toList_mk]; decide), show (partsS ⟨#[45, 54, 47, 52]⟩).1 = true from by decide, show decN (partsS ⟨#[45, 54, 47, 52]⟩).2.1 = 6 from by decide, show decN (partsS ⟨#[45, 54, 47, 52]⟩).2.2 = 4 from by decide, strS_val _ _ _ (by decide), show valX (true, 6, 4) = mkRat (-3) 2 from by decide, m32]
  have e2 : rat_Norm.f ⟨#[49, 47, 48]⟩ = some (⟨#[]⟩, 21) := by
    rw [rNorm_eq _ (by decide)]
    unfold normS
    rw [if_neg (by decide), if_neg (by decide), if_pos (by rw [show (partsS ⟨#[49, 47, 48]⟩).2.2 = ⟨#[48]⟩ from by decide, toList_mk])]
  have e3 : rat_Norm.f ⟨#[49, 47]⟩ = some (⟨#[]⟩, 12) := by
    rw [rNorm_eq _ (by decide)]
    unfold normS
    rw [if_pos (by decide)]
  have e4 : rat_Add.f ⟨#[49, 47, 50]⟩ ⟨#[45, 49, 47, 51]⟩ = some (⟨#[49, 47, 54]⟩, 0) := by
    rw [← q12, ← m13, rAdd (bd 1 2 (by decide) (by decide) (by decide)) (bd (-1) 3 (by decide) (by decide) (by decide)) (by decide), show mkRat 1 2 + mkRat (-1) 3 = mkRat 1 6 from by rw [Rat.mkRat_add_mkRat 1 (-1) (by decide) (by decide)]; decide, q16]
  have e5 : rat_Div.f ⟨#[51]⟩ ⟨#[45, 54]⟩ = some (⟨#[45, 49, 47, 50]⟩, 0) := by
    rw [← q3, ← m6, rDiv (k := 1) (m := 1) ⟨by decide, by decide⟩ ⟨by decide, by decide⟩ (by decide) (by decide), if_neg (by decide), show (3 : Rat) / -6 = mkRat (-1) 2 from by rw [Rat.mkRat_eq_div, show (((-1 : Int) : Rat)) = -1 from rfl, show (((2 : Nat) : Rat)) = 2 from rfl]; grind, m12]
  have e6 : rat_Div.f ⟨#[51]⟩ ⟨#[48]⟩ = some (⟨#[]⟩, 21) := by
    rw [← q3, rat0, rDiv (k := 1) (m := 1) ⟨by decide, by decide⟩ bd0 (by decide) (by decide), if_pos rfl]
  have g1 : getS ⟨#[54, 47, 50]⟩ = none := getS_not (t := ⟨#[51]⟩) (by
    rw [show (partsS ⟨#[54, 47, 50]⟩).1 = false from by decide, show decN (partsS ⟨#[54, 47, 50]⟩).2.1 = 6 from by decide, show decN (partsS ⟨#[54, 47, 50]⟩).2.2 = 2 from by decide, strS_val _ _ _ (by decide), show valX (false, 6, 2) = 3 from by decide, q3]) (by decide)
  have e7 : rat_Mul.f ⟨#[51]⟩ ⟨#[54, 47, 50]⟩ = some (⟨#[]⟩, 1) := by
    unfold rat_Mul.f opS
    rw [if_pos (by decide), g1]
    cases getS ⟨#[51]⟩ <;> rfl
  have e8 : rat_Neg.f ⟨#[48]⟩ = some (⟨#[48]⟩, 0) := by
    have h := rNeg bd0 (by decide)
    rw [← rat0, show -(0 : Rat) = 0 from by decide, ← rat0] at h
    exact h
  have e9 : rat_Cmp.f ⟨#[49, 47, 51]⟩ ⟨#[49, 47, 50]⟩ = some (-1) := by
    rw [← q12, ← q13, rCmp (bd 1 3 (by decide) (by decide) (by decide)) (bd 1 2 (by decide) (by decide) (by decide)) (by decide) (by decide)]
    decide
  have e10 : rat_Cmp.f ⟨#[45, 49, 47, 51]⟩ ⟨#[45, 49, 47, 50]⟩ = some 1 := by
    rw [← m12, ← m13, rCmp (bd (-1) 3 (by decide) (by decide) (by decide)) (bd (-1) 2 (by decide) (by decide) (by decide)) (by decide) (by decide)]
    decide
  have e11 : rat_Right.f ⟨#[48]⟩ = some true := by rw [rat0]; exact rRight bd0 (by decide)
  have e12 : rat_Right.f ⟨#[45, 48]⟩ = some false := by
    unfold rat_Right.f
    rw [if_pos (by decide), getS_not (s := ⟨#[45, 48]⟩) (t := ⟨#[48]⟩) (by
      rw [show (partsS ⟨#[45, 48]⟩).1 = true from by decide, show decN (partsS ⟨#[45, 48]⟩).2.1 = 0 from by decide, show decN (partsS ⟨#[45, 48]⟩).2.2 = 1 from by decide, strS_val _ _ _ (by decide), show valX (true, 0, 1) = 0 from by decide, ← rat0]) (by decide)]
    rfl
  have e13 : rat_Right.f ⟨#[50, 47, 49]⟩ = some false := by
    unfold rat_Right.f
    rw [if_pos (by decide), getS_not (s := ⟨#[50, 47, 49]⟩) (t := ⟨#[50]⟩) (by
      rw [show (partsS ⟨#[50, 47, 49]⟩).1 = false from by decide, show decN (partsS ⟨#[50, 47, 49]⟩).2.1 = 2 from by decide, show decN (partsS ⟨#[50, 47, 49]⟩).2.2 = 1 from by decide, strS_val _ _ _ (by decide), show valX (false, 2, 1) = 2 from by decide, q2]) (by decide)]
    rfl
  unfold tribunallaw03_head.f
  rw [e1, Option.bind_some, e2, Option.bind_some, e3, Option.bind_some, e4, Option.bind_some, e5, Option.bind_some, e6, Option.bind_some, e7, Option.bind_some, e8, Option.bind_some]
  rw [if_pos (toList_mk _), if_pos rfl, if_pos rfl, if_pos rfl, if_pos (toList_mk _), if_pos rfl, if_pos (toList_mk _), if_pos rfl, if_pos rfl, if_pos rfl, if_pos (toList_mk _), if_pos rfl]
  rw [e9, Option.bind_some, if_pos rfl, e10, Option.bind_some, if_pos rfl, e11, Option.bind_some, if_pos rfl, e12, Option.bind_some, if_neg (by simp), e13, Option.bind_some]
  rfl
end Go.Proofs.YtfnhohpmhpbpmaaDoor.G
