/- What the printed functions times, Mul, Div, Gcd and Of of tribunalref01 come to, told in numbers. Conditions: limbs of 32 bits, few of them. -/
import Derived.Test.YtfnhohpmhpbpmaaDoorGx0
import Derived.Test.YtfnhohpmhpbpmaaDoorGx3
import Derived.Test.YtfnhohpmhpbpmaaDoorGx5
import Derived.Test.YtfnhohpmhpbpmaaDoorGRefPure
namespace Go.Proofs.YtfnhohpmhpbpmaaDoor.G
open Go.RowKit Go.Proofs.YtfnhohpmhpbpmaaDoorW.PrintWords Go.Proofs.YtfnhohpmhpbpmaaDoorW.PrintLast Go.Proofs.YtfnhohpmhpbpmaaDoorW.PrintMore

def tmF (a : List Int) (m : Int) (i : Nat) : Int := atL a i * m
def tms (a : List Int) (m : Int) (p : Nat) : List Int := List.replicate p 0 ++ cout (tmF a m) (a.length + 1)
theorem tms_wf (a : List Int) (m : Int) (p : Nat) : wfL (tms a m p) := wfL_append.2 ⟨wfL_replicate p, cout_wf _ _⟩
theorem tms_len (a : List Int) (m : Int) (p : Nat) : (tms a m p).length = p + (a.length + 1) := by simp [tms, cout_length]
theorem fsum_mul (F : Nat → Int) (m : Int) (n : Nat) : fsum (fun i => F i * m) n = fsum F n * m := by
  induction n with
  | zero => simp [fsum]
  | succ n ih => simp only [fsum, ih]; grind
theorem tms_val (a : List Int) (m p : Nat) (ha : wfL a) (hm : m < 4294967296) : valN (tms a (m : Int) p) = 4294967296 ^ p * (valN a * m) := by
  have hl := valN_lt ha
  have hs : fsum (tmF a (m : Int)) (a.length + 1) = ((valN a * m : Nat) : Int) := by
    have : tmF a (m : Int) = fun i => atL a i * (m : Int) := rfl
    rw [this, fsum_mul, fsum_at a ha, List.take_of_length_le (by omega)]
    simp
  have hb : valN a * m < 4294967296 ^ (a.length + 1) := by
    rw [Nat.pow_succ]
    exact Nat.mul_lt_mul'' hl hm
  have hc := carry_val (tmF a (m : Int)) (a.length + 1) (by rw [hs]; omega) (by rw [hs, ← pow_cast]; omega)
  rw [hs] at hc
  rw [tms, valN_append, valN_replicate, List.length_replicate, Nat.zero_add]
  congr 1
  omega
theorem tmF_cst (a : List Int) (m : Nat) (ha : wfL a) (hm : m < 4294967296) (i : Nat) : 0 ≤ cst (tmF a (m : Int)) i ∧ cst (tmF a (m : Int)) i < 4294967296 := by
  induction i with
  | zero => simp [cst]
  | succ i ih =>
    have hx := atL_range ha i
    have h1 : 0 ≤ atL a i * (m : Int) := Int.mul_nonneg hx.1 (by omega)
    have h2 : atL a i * (m : Int) ≤ 4294967295 * (m : Int) := Int.mul_le_mul_of_nonneg_right (by omega) (by omega)
    simp only [cst, tmF]
    omega
theorem times_l0_ev (a : List Int) (m p : Nat) (ha : wfL a) (hm : m < 4294967296) (la : a.length ≤ 4398046511104) (hp : p ≤ 4398046511104) (d : Nat) : ∀ i : Nat, i ≤ a.length + 1 → a.length + 1 ≤ i + d →
    Ev (fun k => tribunalref01_times.l0 k a (m : Int) (List.replicate p 0 ++ cout (tmF a (m : Int)) i) (cst (tmF a (m : Int)) i) (i : Int)) (tms a (m : Int) p) := by
  have fin : ∀ i : Nat, i = a.length + 1 → Ev (fun k => tribunalref01_times.l0 k a (m : Int) (List.replicate p 0 ++ cout (tmF a (m : Int)) i) (cst (tmF a (m : Int)) i) (i : Int)) (tms a (m : Int) p) := by
    intro i hi
    subst hi
    refine Ev.some_ fun k => ?_
    simp only [tribunalref01_times.l0]
    rw [if_neg (by omega)]
    rfl
  induction d with
  | zero => intro i h1 h2; exact fin i (by omega)
  | succ d ih =>
    intro i h1 h2
    by_cases hi : i ≤ a.length
    · refine Ev.step (fun k => ?_) (ih (i + 1) (by omega) (by omega))
      have hx := atL_range ha i
      have hc := tmF_cst a m ha hm i
      have m1 : 0 ≤ atL a i * (m : Int) := Int.mul_nonneg hx.1 (by omega)
      have m2 : atL a i * (m : Int) ≤ 4294967295 * (m : Int) := Int.mul_le_mul_of_nonneg_right (by omega) (by omega)
      have hF : tmF a (m : Int) i = atL a i * (m : Int) := rfl
      simp only [tribunalref01_times.l0]
      rw [if_pos (by omega), Rlimb_is a ha i, Option.bind_some, if_pos (by rw [List.length_append, List.length_replicate, cout_length]; omega), ← hF, wrap_u64_id (x := tmF a (m : Int) i) (by omega) (by omega), wrap_u64_id (x := tmF a (m : Int) i + cst (tmF a (m : Int)) i) (by omega) (by omega),
        tmod_nat (by omega), tdiv_nat (by omega), wrap_u64_id (by omega) (by omega), wrap64_id (by omega) (by omega), cout_succ, show (tmF a (m : Int) i + cst (tmF a (m : Int)) i) % 4294967296 % 4294967296 = (cst (tmF a (m : Int)) i + tmF a (m : Int) i) % 4294967296 from by omega,
        show (tmF a (m : Int) i + cst (tmF a (m : Int)) i) / 4294967296 = cst (tmF a (m : Int)) (i + 1) from by simp only [cst]; rw [Int.add_comm], List.append_assoc]
      rfl
    · exact fin i (by omega)
theorem times_is (a : List Int) (m p : Nat) (ha : wfL a) (hm : m < 4294967296) (la : a.length ≤ 4398046511104) (hp : p ≤ 4398046511104) : Ev (fun k => tribunalref01_times.f k a (m : Int) (p : Int)) (tms a (m : Int) p) := by
  refine Ev.congr (fun k => ?_) (times_l0_ev a m p ha hm la hp _ 0 (by omega) (Nat.le_add_left _ _))
  unfold tribunalref01_times.f
  rw [if_pos (by omega), if_pos (by omega), Int.toNat_natCast]
  simp [cout, cst]

theorem limbs_len_mul {a b : List Int} (ha : wfL a) (hb : wfL b) (i : Nat) : (limbs (valN a * valN (b.take i))).length ≤ a.length + b.length := by
  refine limbs_length_le ?_
  rw [Nat.pow_add]
  exact Nat.mul_lt_mul'' (valN_lt ha) (Nat.lt_of_le_of_lt (valN_take_le b i) (valN_lt hb))
theorem RMul_l0_ev (a b : List Int) (ha : wfL a) (hb : wfL b) (la : a.length ≤ 1099511627776) (lb : b.length ≤ 1099511627776) (d : Nat) : ∀ i : Nat, i ≤ b.length → b.length ≤ i + d →
    Ev (fun k => tribunalref01_Mul.l0 k a b (limbs (valN a * valN (b.take i))) (i : Int)) (limbs (valN a * valN b)) := by
  have fin : ∀ i : Nat, i = b.length → Ev (fun k => tribunalref01_Mul.l0 k a b (limbs (valN a * valN (b.take i))) (i : Int)) (limbs (valN a * valN b)) := by
    intro i hi
    subst hi
    have hlen := limbs_len_mul ha hb b.length
    rw [List.take_length] at *
    have N := RNorm_is (limbs (valN a * valN b)) (wfL_limbs _) (by omega)
    rw [valN_limbs] at N
    apply Ev.step
    · intro k
      simp only [tribunalref01_Mul.l0]
      rw [if_neg (by omega)]
    · exact Ev.map_ (fun t => t) N
  induction d with
  | zero => intro i h1 h2; exact fin i (by omega)
  | succ d ih =>
    intro i h1 h2
    by_cases hi : i < b.length
    · have hx := atL_range hb i
      have hlen := limbs_len_mul ha hb i
      obtain ⟨m, hm⟩ : ∃ m : Nat, (m : Int) = atL b i := ⟨(atL b i).toNat, by omega⟩
      have T := times_is a m i ha (by omega) (by omega) (by omega)
      have A := RAdd_is (limbs (valN a * valN (b.take i))) (tms a (m : Int) i) (wfL_limbs _) (tms_wf _ _ _) (by omega) (by rw [tms_len]; omega)
      rw [valN_limbs, tms_val a m i ha (by omega)] at A
      have hv : valN a * valN (b.take i) + 4294967296 ^ i * (valN a * m) = valN a * valN (b.take (i + 1)) := by
        rw [valN_take_succ, ← hm, Int.toNat_natCast]; grind
      rw [hv] at A
      apply Ev.step
      · intro k
        simp only [tribunalref01_Mul.l0]
        rw [if_pos (by omega), if_pos (by omega), rd_nat, ← hm, wrap_u64_id (by omega) (by omega), wrap64_id (by omega) (by omega)]
      · exact Ev.bind T (Ev.bind A (ih (i + 1) (by omega) (by omega)))
    · exact fin i (by omega)
theorem RMul_is (a b : List Int) (ha : wfL a) (hb : wfL b) (la : a.length ≤ 1099511627776) (lb : b.length ≤ 1099511627776) : Ev (fun k => tribunalref01_Mul.f k a b) (limbs (valN a * valN b)) := by
  have := RMul_l0_ev a b ha hb la lb b.length 0 (by omega) (by omega)
  rw [List.take_zero, show valN [] = 0 from rfl, Nat.mul_zero, limbs_zero] at this
  exact this

/-! ### Div -/
theorem bit_room (Q s : Nat) (hs : s < 32) : Q * 2 ^ (s + 1) % 4294967296 + 2 ^ s < 4294967296 := by
  have e : (4294967296 : Nat) = 2 ^ (s + 1) * 2 ^ (31 - s) := by rw [← Nat.pow_add, show s + 1 + (31 - s) = 32 from by omega]
  have h1 : Q * 2 ^ (s + 1) % 4294967296 = 2 ^ (s + 1) * (Q % 2 ^ (31 - s)) := by
    rw [e, Nat.mul_comm, Nat.mul_mod_mul_left]
  have h2 : Q % 2 ^ (31 - s) + 1 ≤ 2 ^ (31 - s) := Nat.mod_lt _ (Nat.pow_pos (by omega))
  have h3 := Nat.mul_le_mul_left (2 ^ (s + 1)) h2
  rw [← e, Nat.mul_succ] at h3
  have h4 : 2 ^ (s + 1) = 2 ^ s * 2 := Nat.pow_succ ..
  have h5 : 0 < 2 ^ s := Nat.pow_pos (by omega)
  rw [h1]
  omega
structure RDivInv (a : List Int) (n : Nat) (j : Nat) (q r : List Int) : Prop where
  len : q.length = a.length
  wf : wfL q
  val : valN q = valN a / 2 ^ j / n * 2 ^ j
  rest : r = limbs (valN a / 2 ^ j % n)
theorem shl32 (s : Nat) (hs : s < 32) : shl .u32 1 (s : Int) = ((2 ^ s : Nat) : Int) := by
  have hp : (2 : Nat) ^ s ≤ 2 ^ 31 := Nat.pow_le_pow_right (by omega) (by omega)
  have e : ((2 ^ s : Nat) : Int) = 2 ^ s := by simp
  unfold shl
  rw [Int.toNat_natCast, Nat.min_eq_left (by show s ≤ 32; omega), IntKind.wrap_u32, Int.one_mul, ← e]
  generalize (2 : Nat) ^ s = p at *
  omega
theorem RDiv_set {a : List Int} {n i : Nat} {q r : List Int} (hi : i < 32 * a.length) (h : RDivInv a n (i + 1) q r) :
    ∃ v : Int, (atL q (i / 32) + ((2 ^ (i % 32) : Nat) : Int)) % 4294967296 = v ∧ wfL (q.set (i / 32) v) ∧ valN (q.set (i / 32) v) = valN q + 2 ^ i := by
  have hx := atL_range h.wf (i / 32)
  have hl := h.len
  have hval : (atL q (i / 32)).toNat + 2 ^ (i % 32) < 4294967296 := by
    rw [atL_val q h.wf, h.val]
    have e : (4294967296 : Nat) ^ (i / 32) = 2 ^ (32 * (i / 32)) := by rw [Nat.pow_mul]
    have e2 : valN a / 2 ^ (i + 1) / n * 2 ^ (i + 1) / 4294967296 ^ (i / 32) = valN a / 2 ^ (i + 1) / n * 2 ^ (i % 32 + 1) := by
      have e3 : (2 : Nat) ^ (i + 1) = 2 ^ (i % 32 + 1) * 2 ^ (32 * (i / 32)) := by rw [← Nat.pow_add]; congr 1; omega
      rw [e]
      generalize valN a / 2 ^ (i + 1) / n = Q
      rw [e3, ← Nat.mul_assoc, Nat.mul_div_cancel _ (Nat.pow_pos (by omega))]
    rw [e2]
    exact bit_room _ _ (Nat.mod_lt _ (by omega))
  refine ⟨atL q (i / 32) + ((2 ^ (i % 32) : Nat) : Int), ?_, ?_, ?_⟩
  · generalize (2 : Nat) ^ (i % 32) = p at *; omega
  · generalize (2 : Nat) ^ (i % 32) = p at *; exact wfL_set h.wf _ (by omega)
  · have hs := valN_set q (i / 32) (atL q (i / 32) + ((2 ^ (i % 32) : Nat) : Int)) (by omega)
    have e1 : (atL q (i / 32) + ((2 ^ (i % 32) : Nat) : Int)).toNat = (atL q (i / 32)).toNat + 2 ^ (i % 32) := by
      generalize (2 : Nat) ^ (i % 32) = p at *; omega
    have e3 : (2 : Nat) ^ i = 4294967296 ^ (i / 32) * 2 ^ (i % 32) := by
      have e : (4294967296 : Nat) ^ (i / 32) = 2 ^ (32 * (i / 32)) := by rw [Nat.pow_mul]
      rw [e, ← Nat.pow_add]; congr 1; omega
    rw [e1, Nat.mul_add] at hs
    rw [e3]
    omega
theorem div_step (A n i : Nat) : A / 2 ^ i = n * (2 * (A / 2 ^ (i + 1) / n)) + (2 * (A / 2 ^ (i + 1) % n) + (if A.testBit i then 1 else 0)) := by
  have h := testBit_step A i
  have hd := Nat.div_add_mod (A / 2 ^ (i + 1)) n
  generalize A / 2 ^ (i + 1) / n = Q at *
  generalize A / 2 ^ (i + 1) % n = R at *
  generalize A / 2 ^ (i + 1) = B at *
  rw [h, ← hd]
  grind
theorem RDiv_l0_ev (a b : List Int) (ha : wfL a) (hb : wfL b) (la : a.length ≤ 1099511627776) (lb : b.length ≤ 1099511627776) (hn : 0 < valN b) (j : Nat) :
    ∀ (q r : List Int), j ≤ 32 * a.length → RDivInv a (valN b) j q r → Ev (fun k => tribunalref01_Div.l0 k a b q r ((j : Int) - 1)) (limbs (valN a / valN b), limbs (valN a % valN b), true) := by
  induction j with
  | zero =>
    intro q r _ h
    have hv := h.val
    have hr := h.rest
    simp only [Nat.pow_zero, Nat.div_one, Nat.mul_one] at hv hr
    subst hr
    have N1 := RNorm_is q h.wf (by have := h.len; omega)
    rw [hv] at N1
    have hlen : (limbs (valN a % valN b)).length ≤ b.length := limbs_length_le (Nat.lt_trans (Nat.mod_lt _ hn) (valN_lt hb))
    have N2 := RNorm_is (limbs (valN a % valN b)) (wfL_limbs _) (by omega)
    rw [valN_limbs] at N2
    apply Ev.step
    · intro k
      simp only [tribunalref01_Div.l0]
      rw [if_neg (by omega)]
    · exact Ev.bind N1 (Ev.map_ (fun t => (limbs (valN a / valN b), t, true)) N2)
  | succ i ih =>
    intro q r hj h
    obtain ⟨v, hv1, hv2, hv3⟩ := RDiv_set (by omega) h
    have hl := h.len
    have ej : (((i + 1 : Nat) : Int) - 1) = (i : Nat) := by omega
    have e1 : Int.tdiv (i : Int) 32 = ((i / 32 : Nat) : Int) := rfl
    have e2 : Int.tmod (i : Int) 32 = ((i % 32 : Nat) : Int) := rfl
    have hds := div_step (valN a) (valN b) i
    have hval := h.val
    have hmod := Nat.mod_lt (valN a / 2 ^ (i + 1)) hn
    have hr := h.rest
    rw [h.rest, ej]
    generalize hQ : valN a / 2 ^ (i + 1) / valN b = Q at *
    generalize hR : valN a / 2 ^ (i + 1) % valN b = R at *
    have hlR : (limbs R).length ≤ b.length := limbs_length_le (Nat.lt_trans hmod (valN_lt hb))
    have A1 := RAdd_is (limbs R) (limbs R) (wfL_limbs _) (wfL_limbs _) (by omega) (by omega)
    rw [valN_limbs] at A1
    -- what is left, with the next bit, x: it is less than twice the divisor
    have key : ∀ x : Nat, valN a / 2 ^ i = valN b * (2 * Q) + x → x < 2 * valN b → (limbs x).length ≤ b.length + 1 →
        Ev (fun k => (tribunalref01_Sub.f k (limbs x) b).bind fun bt => if bt.2 = true then (if 0 ≤ (wrap64 (Int.tdiv (i : Int) 32)) then (if (wrap64 (Int.tdiv (i : Int) 32)) < (q.length : Int) then (if 0 ≤ (Int.tmod (i : Int) 32) then (tribunalref01_Div.l0 k a b (q.set ((wrap64 (Int.tdiv (i : Int) 32)) : Int).toNat (((rd q (wrap64 (Int.tdiv (i : Int) 32))) + (shl .u32 1 (Int.tmod (i : Int) 32))) % 4294967296)) bt.1 (wrap64 ((i : Int) - 1))) else (none)) else (none)) else (none)) else (tribunalref01_Div.l0 k a b q (limbs x) (wrap64 ((i : Int) - 1))))
          (limbs (valN a / valN b), limbs (valN a % valN b), true) := by
      intro x hx1 hx2 hlx
      have S := RSub_is (limbs x) b (wfL_limbs _) hb (by omega) (by omega)
      rw [valN_limbs] at S
      refine Ev.bind S ?_
      by_cases hlt : x < valN b
      · rw [if_pos hlt]
        have q1 : valN a / 2 ^ i / valN b = 2 * Q := by rw [hx1, Nat.mul_add_div hn, Nat.div_eq_of_lt hlt]; rfl
        have q2 : valN a / 2 ^ i % valN b = x := by rw [hx1, Nat.mul_add_mod, Nat.mod_eq_of_lt hlt]
        refine Ev.congr (fun k => ?_) (ih q (limbs x) (by omega) ⟨hl, h.wf, by rw [hval, q1, Nat.pow_succ]; grind, by rw [q2]⟩)
        simp only [Bool.false_eq_true, if_false]
        rw [wrap64_id (by omega) (by omega)]
      · rw [if_neg hlt]
        have q1 : valN a / 2 ^ i / valN b = 2 * Q + 1 := by
          rw [hx1, Nat.mul_add_div hn]
          congr 1
          rw [show x = (x - valN b) + valN b * 1 from by omega, Nat.add_mul_div_left _ _ hn, Nat.div_eq_of_lt (by omega)]
        have q2 : valN a / 2 ^ i % valN b = x - valN b := by
          rw [hx1, Nat.mul_add_mod, Nat.mod_eq_sub_mod (by omega), Nat.mod_eq_of_lt (by omega)]
        refine Ev.congr (fun k => ?_) (ih (q.set (i / 32) v) (limbs (x - valN b)) (by omega) ⟨by rw [List.length_set]; exact hl, hv2, by rw [hv3, hval, q1, Nat.pow_succ]; grind, by rw [q2]⟩)
        simp only [if_true]
        rw [e1, e2, wrap64_id (x := ((i / 32 : Nat) : Int)) (by omega) (by omega), if_pos (by omega), if_pos (by omega), if_pos (by omega), rd_nat, shl32 _ (Nat.mod_lt _ (by omega)), hv1, Int.toNat_natCast, wrap64_id (by omega) (by omega)]
    by_cases hbit : (valN a).testBit i = true
    · rw [hbit] at hds
      simp only [if_true] at hds
      have hl2 : (limbs (R + R)).length ≤ b.length + 1 := by
        refine limbs_length_le ?_
        have := valN_lt hb
        rw [Nat.pow_succ]
        omega
      have hl3 : (limbs (R + R + 1)).length ≤ b.length + 1 := by
        refine limbs_length_le ?_
        have := valN_lt hb
        rw [Nat.pow_succ]
        omega
      have A2 := RAdd_is (limbs (R + R)) [1] (wfL_limbs _) (wfL_cons.2 ⟨by omega, wfL_nil⟩) (by omega) (by simp)
      rw [valN_limbs, show valN [1] = 1 from rfl] at A2
      apply Ev.step
      · intro k
        simp only [tribunalref01_Div.l0]
        rw [if_pos (by omega), Rbit_is a ha i (by omega), hbit]
      · refine Ev.bind A1 ?_
        apply Ev.congr
        · intro k
          rw [Option.bind_some, if_pos rfl]
        · exact Ev.bind A2 (key (R + R + 1) (by omega) (by omega) hl3)
    · rw [Bool.not_eq_true] at hbit
      rw [hbit] at hds
      simp only [Bool.false_eq_true, if_false, Nat.add_zero] at hds
      have hl2 : (limbs (R + R)).length ≤ b.length + 1 := by
        refine limbs_length_le ?_
        have := valN_lt hb
        rw [Nat.pow_succ]
        omega
      apply Ev.step
      · intro k
        simp only [tribunalref01_Div.l0]
        rw [if_pos (by omega), Rbit_is a ha i (by omega), hbit]
      · refine Ev.bind A1 ?_
        apply Ev.congr
        · intro k
          rw [Option.bind_some, if_neg (by simp)]
        · exact key (R + R) (by omega) (by omega) hl2
theorem RDiv_is (a b : List Int) (ha : wfL a) (hb : wfL b) (la : a.length ≤ 274877906944) (lb : b.length ≤ 274877906944) :
    Ev (fun k => tribunalref01_Div.f k a b) (if valN b = 0 then ([], [], false) else (limbs (valN a / valN b), limbs (valN a % valN b), true)) := by
  unfold tribunalref01_Div.f
  refine Ev.bind (RNorm_is b hb (by omega)) ?_
  by_cases h0 : valN b = 0
  · rw [if_pos h0, h0, limbs_zero]
    exact Ev.congr (fun k => by simp) (Ev.now _)
  · rw [if_neg h0]
    have hl : 0 < (limbs (valN b)).length := by rw [limbs_pos h0]; simp
    have hz : valN a / 2 ^ (32 * a.length) = 0 := Nat.div_eq_of_lt (valN_lt_two ha _ (Nat.le_refl _))
    refine Ev.congr (fun k => ?_) (RDiv_l0_ev a b ha hb (by omega) (by omega) (by omega) (32 * a.length) (List.replicate a.length 0) [] (by omega) ⟨by simp, wfL_replicate _, by rw [hz, valN_replicate]; simp, by rw [hz]; simp [limbs_zero]⟩)
    rw [if_neg (by omega), if_pos (by omega), if_pos (by omega), Int.toNat_natCast, wrap64_id (x := 32 * (a.length : Int)) (by omega) (by omega), wrap64_id (by omega) (by omega)]
    congr 1

theorem RGcd_l0_ev (n : Nat) : ∀ m : Nat, (limbs m).length ≤ 274877906944 → (limbs n).length ≤ 274877906944 → Ev (fun k => tribunalref01_Gcd.l0 k (limbs m) (limbs n)) (limbs (Nat.gcd n m)) := by
  induction n using Nat.strongRecOn with
  | _ n ih =>
    intro m lm ln
    by_cases h0 : n = 0
    · subst h0
      rw [Nat.gcd_zero_left]
      refine Ev.some_ fun k => ?_
      simp only [tribunalref01_Gcd.l0]
      rw [if_neg (by rw [limbs_zero]; simp)]
    · have hl : 0 < (limbs n).length := by rw [limbs_pos h0]; simp
      have D := RDiv_is (limbs m) (limbs n) (wfL_limbs m) (wfL_limbs n) lm ln
      rw [valN_limbs, valN_limbs, if_neg h0] at D
      have hr : m % n < n := Nat.mod_lt _ (by omega)
      have hr2 := limbs_length_mono (Nat.le_of_lt hr)
      have I := ih (m % n) hr n ln (by omega)
      rw [← Nat.gcd_rec] at I
      apply Ev.step
      · intro k
        simp only [tribunalref01_Gcd.l0]
        rw [if_pos (by omega)]
      · exact Ev.bind D I
theorem RGcd_is (a b : List Int) (ha : wfL a) (hb : wfL b) (la : a.length ≤ 274877906944) (lb : b.length ≤ 274877906944) : Ev (fun k => tribunalref01_Gcd.f k a b) (limbs (Nat.gcd (valN a) (valN b))) := by
  have Ha := RNorm_is a ha (by omega)
  have Hb := RNorm_is b hb (by omega)
  have hla : (limbs (valN a)).length ≤ a.length := by rw [← normL_limbs ha]; exact normL_length_le a
  have hlb : (limbs (valN b)).length ≤ b.length := by rw [← normL_limbs hb]; exact normL_length_le b
  rw [Nat.gcd_comm]
  unfold tribunalref01_Gcd.f
  exact Ev.bind Ha (Ev.bind Hb (RGcd_l0_ev _ _ (by omega) (by omega)))
end Go.Proofs.YtfnhohpmhpbpmaaDoor.G
