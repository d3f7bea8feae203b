/- What the printed functions of tribunalref01 come to, told in numbers. Conditions: limbs of 32 bits, few of them. -/
import Derived.Test.YtfnhohpmhpbpmaaDoorGx0
import Derived.Test.YtfnhohpmhpbpmaaDoorGx2
import Derived.Test.YtfnhohpmhpbpmaaDoorGx3
import Derived.Test.YtfnhohpmhpbpmaaDoorGx4
import Derived.Test.YtfnhohpmhpbpmaaDoorGx5
import Derived.Test.YtfnhohpmhpbpmaaDoorGNatAdd
import Derived.Test.YtfnhohpmhpbpmaaDoorGNatSub
import Derived.Test.YtfnhohpmhpbpmaaDoorGNatDiv
namespace Go.Proofs.YtfnhohpmhpbpmaaDoor.G
open Go.RowKit Go.Proofs.YtfnhohpmhpbpmaaDoorW.PrintWords Go.Proofs.YtfnhohpmhpbpmaaDoorW.PrintLast Go.Proofs.YtfnhohpmhpbpmaaDoorW.PrintMore

theorem RNorm_l0_ev (l : List Int) (hl : l.length < 35184372088832) (n : Nat) : n ≤ l.length → Ev (fun k => tribunalref01_Norm.l0 k l (n : Int)) (normL (l.take n)) := by
  induction n with
  | zero =>
    intro _
    refine Ev.some_ fun k => ?_
    simp only [tribunalref01_Norm.l0]
    rw [if_neg (by omega), Option.bind_some, if_pos (by omega), if_pos (by omega), if_pos (by simp)]
    simp [normL_nil]
  | succ n ih =>
    intro hn
    have ht : l.take (n + 1) = l.take n ++ [atL l n] := by
      rw [List.take_succ_eq_append_getElem (by omega)]
      simp [atL, List.getElem?_eq_getElem (show n < l.length by omega)]
    have hw : wrap64 (((n + 1 : Nat) : Int) - 1) = (n : Nat) := by rw [wrap64_id (by omega) (by omega)]; omega
    by_cases h0 : atL l n = 0
    · rw [ht, normL_snoc, if_pos h0]
      refine Ev.step (fun k => ?_) (ih (by omega))
      simp only [tribunalref01_Norm.l0]
      rw [hw, if_pos (by omega), if_pos (by omega), if_pos (by omega), rd_nat, if_pos h0]
    · refine Ev.some_ fun k => ?_
      simp only [tribunalref01_Norm.l0]
      rw [hw, if_pos (by omega), if_pos (by omega), if_pos (by omega), rd_nat, if_neg h0, Option.bind_some, if_pos (by omega), if_pos (by omega), if_pos (by simp; omega), Int.toNat_natCast, ht, normL_snoc, if_neg h0]
      rfl
theorem RNorm_is (l : List Int) (h : wfL l) (hl : l.length < 35184372088832) : Ev (fun k => tribunalref01_Norm.f k l) (limbs (valN l)) := by
  have := RNorm_l0_ev l hl l.length (Nat.le_refl _)
  rw [List.take_length, normL_limbs h] at this
  exact this
theorem Rlimb_is (l : List Int) (h : wfL l) (i : Nat) : tribunalref01_limb.f l (i : Int) = some (atL l i) := by
  have hr := atL_range h i
  unfold tribunalref01_limb.f
  by_cases hi : (i : Int) < l.length
  · rw [if_pos hi, if_pos (by omega), rd_nat, wrap_u64_id (by omega) (by omega)]
  · rw [if_neg hi, atL_out (by omega)]

theorem atL_val (l : List Int) (h : wfL l) (j : Nat) : (atL l j).toNat = valN l / 4294967296 ^ j % 4294967296 := by
  induction l generalizing j with
  | nil => simp [atL, valN]
  | cons x l ih =>
    have h' := wfL_cons.1 h
    cases j with
    | zero => rw [atL_zero, valN, Nat.pow_zero, Nat.div_one]; omega
    | succ j =>
      rw [atL_succ, ih h'.2 j, valN, Nat.pow_succ, Nat.mul_comm (4294967296 ^ j), ← Nat.div_div_eq_div_mul]
      congr 2
      omega
theorem bit_val (n i : Nat) : (n / 4294967296 ^ (i / 32) % 4294967296 / 2 ^ (i % 32) % 2 = 1) ↔ n.testBit i = true := by
  have e1 : (4294967296 : Nat) ^ (i / 32) = 2 ^ (32 * (i / 32)) := by rw [Nat.pow_mul]
  have e2 : (4294967296 : Nat) = 2 ^ 32 := rfl
  have h1 := Nat.testBit_eq_decide_div_mod_eq (x := n / 2 ^ (32 * (i / 32)) % 2 ^ 32) (i := i % 32)
  have h2 : (n / 2 ^ (32 * (i / 32)) % 2 ^ 32).testBit (i % 32) = n.testBit i := by
    rw [Nat.testBit_mod_two_pow, Nat.testBit_div_two_pow]
    have : i % 32 < 32 := Nat.mod_lt _ (by omega)
    rw [show i % 32 + 32 * (i / 32) = i from by omega]
    simp [this]
  rw [e1]
  rw [h2] at h1
  rw [h1]
  simp
theorem Rbit_is (l : List Int) (h : wfL l) (i : Nat) (hi : i < 4611686018427387904) : tribunalref01_bit.f l (i : Int) = some ((valN l).testBit i) := by
  have e1 : Int.tdiv (i : Int) 32 = ((i / 32 : Nat) : Int) := rfl
  have e2 : Int.tmod (i : Int) 32 = ((i % 32 : Nat) : Int) := rfl
  have hr := atL_range h (i / 32)
  have hb := bit_val (valN l) i
  unfold tribunalref01_bit.f
  rw [e1, e2, wrap64_id (by omega) (by omega)]
  by_cases hlt : ((i / 32 : Nat) : Int) < l.length
  · rw [if_pos hlt, if_pos (by omega), if_pos (by omega), rd_nat]
    have e3 : shr .u32 (atL l (i / 32)) ((i % 32 : Nat) : Int) = (((atL l (i / 32)).toNat / 2 ^ (i % 32) : Nat) : Int) := by
      unfold shr
      rw [Int.toNat_natCast, Nat.min_eq_left (by show i % 32 ≤ 32; omega), Int.natCast_ediv, Int.toNat_of_nonneg hr.1]
      simp
    rw [e3, show ∀ x : Nat, Int.tmod (x : Int) 2 = ((x % 2 : Nat) : Int) from fun _ => rfl, atL_val l h]
    congr 1
    rw [Bool.eq_iff_iff, beq_iff_eq, ← hb]
    omega
  · have hz := atL_out (l := l) (i := i / 32) (by omega)
    have hv := atL_val l h (i / 32)
    rw [hz] at hv
    rw [if_neg hlt]
    congr 1
    rw [show (0 : Int).toNat = 0 from rfl] at hv
    rw [← hv] at hb
    rw [Bool.eq_iff_iff, ← hb]
    simp

theorem testBit_step (n i : Nat) : n / 2 ^ i = 2 * (n / 2 ^ (i + 1)) + (if n.testBit i then 1 else 0) := by
  have h1 := Nat.testBit_eq_decide_div_mod_eq (x := n) (i := i)
  rw [h1, Nat.pow_succ, ← Nat.div_div_eq_div_mul]
  generalize n / 2 ^ i = y
  by_cases h : y % 2 = 1
  · simp [h]; omega
  · simp [h]; omega
theorem RCmp_l0_ev (a b : List Int) (ha : wfL a) (hb : wfL b) (i : Nat) : i ≤ 4611686018427387904 → valN a / 2 ^ i = valN b / 2 ^ i → Ev (fun k => tribunalref01_Cmp.l0 k a b ((i : Int) - 1)) (cmpN (valN a) (valN b)) := by
  induction i with
  | zero =>
    intro _ h
    rw [Nat.pow_zero, Nat.div_one, Nat.div_one] at h
    refine Ev.some_ fun k => ?_
    simp only [tribunalref01_Cmp.l0]
    rw [if_neg (by omega)]
    unfold cmpN
    rw [if_neg (by omega), if_neg (by omega)]
  | succ i ih =>
    intro hi h
    have ej : (((i + 1 : Nat) : Int) - 1) = (i : Nat) := by omega
    have sa := testBit_step (valN a) i
    have sb := testBit_step (valN b) i
    rw [ej]
    by_cases he : (valN a).testBit i = (valN b).testBit i
    · refine Ev.step (fun k => ?_) (ih (by omega) (by rw [sa, sb, h, he]))
      simp only [tribunalref01_Cmp.l0]
      rw [if_pos (by omega), Rbit_is a ha i (by omega), Rbit_is b hb i (by omega), Option.bind_some, Option.bind_some, he, if_neg (by simp), wrap64_id (by omega) (by omega)]
    · refine Ev.some_ fun k => ?_
      simp only [tribunalref01_Cmp.l0]
      rw [if_pos (by omega), Rbit_is a ha i (by omega), Rbit_is b hb i (by omega), Option.bind_some, Option.bind_some, if_pos (by simpa using he), Option.bind_some]
      cases hba : (valN a).testBit i
      · have hbb : (valN b).testBit i = true := by
          cases h2 : (valN b).testBit i
          · rw [hba, h2] at he; exact absurd rfl he
          · rfl
        rw [hba] at sa
        rw [hbb] at sb
        have : valN a / 2 ^ i < valN b / 2 ^ i := by simp at sa sb; omega
        have : valN a < valN b := by
          rcases Nat.lt_or_ge (valN a) (valN b) with h3 | h3
          · exact h3
          · have := Nat.div_le_div_right (c := 2 ^ i) h3; omega
        rw [show cmpN (valN a) (valN b) = -1 from by unfold cmpN; rw [if_pos this]]; simp
      · have hbb : (valN b).testBit i = false := by
          cases h2 : (valN b).testBit i
          · rfl
          · rw [hba, h2] at he; exact absurd rfl he
        rw [hba] at sa
        rw [hbb] at sb
        have : valN b / 2 ^ i < valN a / 2 ^ i := by simp at sa sb; omega
        have : valN b < valN a := by
          rcases Nat.lt_or_ge (valN b) (valN a) with h3 | h3
          · exact h3
          · have := Nat.div_le_div_right (c := 2 ^ i) h3; omega
        rw [show cmpN (valN a) (valN b) = 1 from by unfold cmpN; rw [if_neg (by omega), if_pos this]]; simp
theorem mx_nat (a b : Nat) : mx (a : Int) (b : Int) = ((max a b : Nat) : Int) := by
  unfold mx
  split <;> omega
theorem valN_lt_two {l : List Int} (h : wfL l) (n : Nat) (hn : l.length ≤ n) : valN l < 2 ^ (32 * n) := by
  have h1 := valN_lt h
  have h2 : 4294967296 ^ l.length ≤ 4294967296 ^ n := Nat.pow_le_pow_right (by omega) hn
  rw [Nat.pow_mul]
  show valN l < 4294967296 ^ n
  omega
theorem RCmp_is (a b : List Int) (ha : wfL a) (hb : wfL b) (la : a.length ≤ 35184372088832) (lb : b.length ≤ 35184372088832) : Ev (fun k => tribunalref01_Cmp.f k a b) (cmpN (valN a) (valN b)) := by
  have h := RCmp_l0_ev a b ha hb (32 * max a.length b.length) (by omega) (by rw [Nat.div_eq_of_lt (valN_lt_two ha _ (by omega)), Nat.div_eq_of_lt (valN_lt_two hb _ (by omega))])
  refine Ev.congr (fun k => ?_) h
  unfold tribunalref01_Cmp.f
  rw [mx_nat, wrap64_id (x := 32 * ((max a.length b.length : Nat) : Int)) (by omega) (by omega), wrap64_id (by omega) (by omega)]
  congr 1

/-! ### Add, Sub -/
theorem tmod_nat {x : Int} (h : 0 ≤ x) (m : Int) : Int.tmod x m = x % m := Int.tmod_eq_emod_of_nonneg h
theorem tdiv_nat {x : Int} (h : 0 ≤ x) (m : Int) : Int.tdiv x m = x / m := Int.tdiv_eq_ediv_of_nonneg h
theorem RAdd_l0_ev (a b : List Int) (ha : wfL a) (hb : wfL b) (la : a.length ≤ 8796093022208) (lb : b.length ≤ 8796093022208) (d : Nat) : ∀ i : Nat, i ≤ max a.length b.length + 1 → max a.length b.length + 1 ≤ i + d →
    Ev (fun k => tribunalref01_Add.l0 k a b (cout (nat_addF a b) i) (cst (nat_addF a b) i) (i : Int)) (limbs (valN a + valN b)) := by
  have fin : ∀ i : Nat, i = max a.length b.length + 1 → Ev (fun k => tribunalref01_Add.l0 k a b (cout (nat_addF a b) i) (cst (nat_addF a b) i) (i : Int)) (limbs (valN a + valN b)) := by
    intro i hi
    subst hi
    have hs := nat_Add_is a b ha hb la lb
    rw [nat_Add.f, if_pos ⟨ha, hb, la, lb⟩] at hs
    injection hs with hs
    rw [normL_limbs (cout_wf _ _)] at hs
    have N := RNorm_is (cout (nat_addF a b) (max a.length b.length + 1)) (cout_wf _ _) (by rw [cout_length]; omega)
    rw [hs] at N
    apply Ev.step
    · intro k
      simp only [tribunalref01_Add.l0]
      rw [mx_nat, if_neg (by omega)]
    · exact Ev.map_ (fun t => t) N
  induction d with
  | zero => intro i h1 h2; exact fin i (by omega)
  | succ d ih =>
    intro i h1 h2
    by_cases hi : i ≤ max a.length b.length
    · refine Ev.step (fun k => ?_) (ih (i + 1) (by omega) (by omega))
      have hx := atL_range ha i
      have hy := atL_range hb i
      have hc := cst_range (nat_addF a b) (nat_addF_range a b ha hb) i
      have hc0 : 0 ≤ cst (nat_addF a b) i := by
        clear ih h1 h2 hi hc
        induction i with
        | zero => simp [cst]
        | succ i ih2 =>
          have := atL_range ha i
          have := atL_range hb i
          have := ih2 (atL_range ha i) (atL_range hb i)
          simp only [cst]
          have : 0 ≤ nat_addF a b i := by unfold nat_addF; omega
          omega
      have hF : nat_addF a b i = atL a i + atL b i := rfl
      simp only [tribunalref01_Add.l0]
      rw [mx_nat, if_pos (by omega), Rlimb_is a ha i, Rlimb_is b hb i, Option.bind_some, Option.bind_some, if_pos (by rw [cout_length]; omega), wrap_u64_id (x := atL a i + atL b i) (by omega) (by omega), wrap_u64_id (x := atL a i + atL b i + cst (nat_addF a b) i) (by omega) (by omega),
        tmod_nat (by omega), tdiv_nat (by omega), wrap_u64_id (by omega) (by omega), wrap64_id (by omega) (by omega), cout_succ, ← hF, show (nat_addF a b i + cst (nat_addF a b) i) % 4294967296 % 4294967296 = (cst (nat_addF a b) i + nat_addF a b i) % 4294967296 from by omega,
        show (nat_addF a b i + cst (nat_addF a b) i) / 4294967296 = cst (nat_addF a b) (i + 1) from by simp only [cst]; rw [Int.add_comm]]
      rfl
    · exact fin i (by omega)
theorem RAdd_is (a b : List Int) (ha : wfL a) (hb : wfL b) (la : a.length ≤ 8796093022208) (lb : b.length ≤ 8796093022208) : Ev (fun k => tribunalref01_Add.f k a b) (limbs (valN a + valN b)) :=
  RAdd_l0_ev a b ha hb la lb _ 0 (by omega) (Nat.le_add_left _ _)

theorem cst_sub (a b : List Int) (ha : wfL a) (hb : wfL b) (i : Nat) : -1 ≤ cst (nat_subF a b) i ∧ cst (nat_subF a b) i ≤ 0 := by
  induction i with
  | zero => simp [cst]
  | succ i ih =>
    have := atL_range ha i
    have := atL_range hb i
    have hF : nat_subF a b i = atL a i - atL b i := rfl
    simp only [cst]
    omega
theorem RSub_l0_ev (a b : List Int) (ha : wfL a) (hb : wfL b) (la : a.length ≤ 8796093022208) (lb : b.length ≤ 8796093022208) (hge : valN b ≤ valN a) (d : Nat) : ∀ i : Nat, i ≤ a.length → a.length ≤ i + d →
    Ev (fun k => tribunalref01_Sub.l0 k a b (cout (nat_subF a b) i) (-cst (nat_subF a b) i) (i : Int)) (limbs (valN a - valN b), true) := by
  have fin : ∀ i : Nat, i = a.length → Ev (fun k => tribunalref01_Sub.l0 k a b (cout (nat_subF a b) i) (-cst (nat_subF a b) i) (i : Int)) (limbs (valN a - valN b), true) := by
    intro i hi
    subst hi
    have hs := nat_Sub_is a b ha hb la lb
    rw [nat_Sub.f, if_pos ⟨ha, hb, la, lb⟩, if_neg (by omega), if_neg (by omega)] at hs
    simp only [Option.some.injEq, Prod.mk.injEq, and_true] at hs
    rw [normL_limbs (cout_wf _ _)] at hs
    have N := RNorm_is (cout (nat_subF a b) a.length) (cout_wf _ _) (by rw [cout_length]; omega)
    rw [hs] at N
    apply Ev.step
    · intro k
      simp only [tribunalref01_Sub.l0]
      rw [if_neg (by omega)]
    · exact Ev.map_ (fun t => (t, true)) N
  induction d with
  | zero => intro i h1 h2; exact fin i (by omega)
  | succ d ih =>
    intro i h1 h2
    by_cases hi : i < a.length
    · refine Ev.step (fun k => ?_) (ih (i + 1) (by omega) (by omega))
      have hx := atL_range ha i
      have hy := atL_range hb i
      have hc := cst_sub a b ha hb i
      have hc2 := cst_sub a b ha hb (i + 1)
      have hF : nat_subF a b i = atL a i - atL b i := rfl
      simp only [tribunalref01_Sub.l0]
      rw [if_pos (by omega), Rlimb_is a ha i, Rlimb_is b hb i, Option.bind_some, Option.bind_some, if_pos (by rw [cout_length]; omega), wrap_u64_id (x := 4294967296 + atL a i) (by omega) (by omega), wrap_u64_id (x := 4294967296 + atL a i - atL b i) (by omega) (by omega),
        wrap_u64_id (x := 4294967296 + atL a i - atL b i - -cst (nat_subF a b) i) (by omega) (by omega), tmod_nat (by omega), tdiv_nat (by omega), wrap_u64_id (x := (4294967296 + atL a i - atL b i - -cst (nat_subF a b) i) / 4294967296) (by omega) (by omega), wrap64_id (by omega) (by omega), cout_succ,
        show (4294967296 + atL a i - atL b i - -cst (nat_subF a b) i) % 4294967296 % 4294967296 = (cst (nat_subF a b) i + nat_subF a b i) % 4294967296 from by omega,
        show 1 - (4294967296 + atL a i - atL b i - -cst (nat_subF a b) i) / 4294967296 = -cst (nat_subF a b) (i + 1) from by simp only [cst]; omega, wrap_u64_id (by omega) (by omega)]
      rfl
    · exact fin i (by omega)
theorem RSub_is (a b : List Int) (ha : wfL a) (hb : wfL b) (la : a.length ≤ 8796093022208) (lb : b.length ≤ 8796093022208) : Ev (fun k => tribunalref01_Sub.f k a b) (if valN a < valN b then ([], false) else (limbs (valN a - valN b), true)) := by
  unfold tribunalref01_Sub.f
  refine Ev.bind (RCmp_is a b ha hb (by omega) (by omega)) ?_
  by_cases h : valN a < valN b
  · rw [if_pos h]
    refine Ev.congr (fun k => ?_) (Ev.now _)
    rw [if_pos (by unfold cmpN; rw [if_pos h]; decide)]
  · have hge : ¬ cmpN (valN a) (valN b) < 0 := by
      unfold cmpN
      rw [if_neg h]
      by_cases h2 : valN b < valN a
      · rw [if_pos h2]; decide
      · rw [if_neg h2]; decide
    rw [if_neg h]
    refine Ev.congr (fun k => ?_) (RSub_l0_ev a b ha hb la lb (by omega) a.length 0 (by omega) (by omega))
    rw [if_neg hge]
    rfl
end Go.Proofs.YtfnhohpmhpbpmaaDoor.G
