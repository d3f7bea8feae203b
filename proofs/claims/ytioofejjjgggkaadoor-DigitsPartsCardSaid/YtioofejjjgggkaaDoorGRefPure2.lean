/- What the printed functions times, Mul, Div, Gcd and Of of tribunalref01 come to, told in numbers. Conditions: limbs of 32 bits, few of them. -/
import Derived.Test.YtioofejjjgggkaaDoorGx0
import Derived.Test.YtioofejjjgggkaaDoorGx2
import Derived.Test.YtioofejjjgggkaaDoorGRefPure
namespace Go.Proofs.YtioofejjjgggkaaDoor.G
open Go.RowKit Go.Proofs.YtioofejjjgggkaaDoorW.PrintWords Go.Proofs.YtioofejjjgggkaaDoorW.PrintLast Go.Proofs.YtioofejjjgggkaaDoorW.PrintMore

def tmF (a : List Int) (m : Int) (i : Nat) : Int := atL a i * m
def tms (a : List Int) (m : Int) (p : Nat) : List Int := List.replicate p 0 ++ cout (tmF a m) (a.length + 1)
theorem tms_wf (a : List Int) (m : Int) (p : Nat) : wfL (tms a m p) := wfL_append.2 ⟨wfL_replicate p, cout_wf _ _⟩
theorem tms_len (a : List Int) (m : Int) (p : Nat) : (tms a m p).length = p + (a.length + 1) := by simp [tms, cout_length]
theorem fsum_mul (F : Nat → Int) (m : Int) (n : Nat) : fsum (fun i => F i * m) n = fsum F n * m := by
  induction n with
  | zero => simp [fsum]
  | succ n ih => simp only [fsum, ih]; grind
theorem tms_val (a : List Int) (m p : Nat) (ha : wfL a) (hm : m < 4294967296) : valN (tms a (m : Int) p) = 4294967296 ^ p * (valN a * m) := by
  have hl := valN_lt ha
  have hs : fsum (tmF a (m : Int)) (a.length + 1) = ((valN a * m : Nat) : Int) := by
    have : tmF a (m : Int) = fun i => atL a i * (m : Int) := rfl
    rw [this, fsum_mul, fsum_at a ha, List.take_of_length_le (by omega)]
    simp
  have hb : valN a * m < 4294967296 ^ (a.length + 1) := by
    rw [Nat.pow_succ]
    exact Nat.mul_lt_mul'' hl hm
  have hc := carry_val (tmF a (m : Int)) (a.length + 1) (by rw [hs]; omega) (by rw [hs, ← pow_cast]; omega)
  rw [hs] at hc
  rw [tms, valN_append, valN_replicate, List.length_replicate, Nat.zero_add]
  congr 1
  omega
theorem tmF_cst (a : List Int) (m : Nat) (ha : wfL a) (hm : m < 4294967296) (i : Nat) : 0 ≤ cst (tmF a (m : Int)) i ∧ cst (tmF a (m : Int)) i < 4294967296 := by
  induction i with
  | zero => simp [cst]
  | succ i ih =>
    have hx := atL_range ha i
    have h1 : 0 ≤ atL a i * (m : Int) := Int.mul_nonneg hx.1 (by omega)
    have h2 : atL a i * (m : Int) ≤ 4294967295 * (m : Int) := Int.mul_le_mul_of_nonneg_right (by omega) (by omega)
    simp only [cst, tmF]
    omega
theorem times_l0_ev (a : List Int) (m p : Nat) (ha : wfL a) (hm : m < 4294967296) (la : a.length ≤ 4398046511104) (hp : p ≤ 4398046511104) (d : Nat) : ∀ i : Nat, i ≤ a.length + 1 → a.length + 1 ≤ i + d →
    Ev (fun k => tribunalref01_times.l0 k a (m : Int) (List.replicate p 0 ++ cout (tmF a (m : Int)) i) (cst (tmF a (m : Int)) i) (i : Int)) (tms a (m : Int) p) := by
  have fin : ∀ i : Nat, i = a.length + 1 → Ev (fun k => tribunalref01_times.l0 k a (m : Int) (List.replicate p 0 ++ cout (tmF a (m : Int)) i) (cst (tmF a (m : Int)) i) (i : Int)) (tms a (m : Int) p) := by
    intro i hi
    subst hi
    refine Ev.some_ fun k => ?_
    simp only [tribunalref01_times.l0]
    rw [if_neg (by omega)]
    rfl
  induction d with
  | zero => intro i h1 h2; exact fin i (by omega)
  | succ d ih =>
    intro i h1 h2
    by_cases hi : i ≤ a.length
    · refine Ev.step (fun k => ?_) (ih (i + 1) (by omega) (by omega))
      have hx := atL_range ha i
      have hc := tmF_cst a m ha hm i
      have m1 : 0 ≤ atL a i * (m : Int) := Int.mul_nonneg hx.1 (by omega)
      have m2 : atL a i * (m : Int) ≤ 4294967295 * (m : Int) := Int.mul_le_mul_of_nonneg_right (by omega) (by omega)
      have hF : tmF a (m : Int) i = atL a i * (m : Int) := rfl
      simp only [tribunalref01_times.l0]
      rw [if_pos (by omega), Rlimb_is a ha i, Option.bind_some, if_pos (by rw [List.length_append, List.length_replicate, cout_length]; omega), ← hF, wrap_u64_id (x := tmF a (m : Int) i) (by omega) (by omega), wrap_u64_id (x := tmF a (m : Int) i + cst (tmF a (m : Int)) i) (by omega) (by omega),
        tmod_nat (by omega), tdiv_nat (by omega), wrap_u64_id (by omega) (by omega), wrap64_id (by omega) (by omega), cout_succ, show (tmF a (m : Int) i + cst (tmF a (m : Int)) i) % 4294967296 % 4294967296 = (cst (tmF a (m : Int)) i + tmF a (m : Int) i) % 4294967296 from by omega,
        show (tmF a (m : Int) i + cst (tmF a (m : Int)) i) / 4294967296 = cst (tmF a (m : Int)) (i + 1) from by simp only [cst]; rw [Int.add_comm], List.append_assoc]
      rfl
    · exact fin i (by omega)
theorem times_is (a : List Int) (m p : Nat) (ha : wfL a) (hm : m < 4294967296) (la : a.length ≤ 4398046511104) (hp : p ≤ 4398046511104) : Ev (fun k => tribunalref01_times.f k a (m : Int) (p : Int)) (tms a (m : Int) p) := by
  refine Ev.congr (fun k => ?_) (times_l0_ev a m p ha hm la hp _ 0 (by omega) (Nat.le_add_left _ _))
  unfold tribunalref01_times.f
  rw [if_pos (by omega), if_pos (by omega), Int.toNat_natCast]
  simp [cout, cst]

theorem limbs_len_mul {a b : List Int} (ha : wfL a) (hb : wfL b) (i : Nat) : (limbs (valN a * valN (b.take i))).length ≤ a.length + b.length := by
  refine limbs_length_le ?_
  rw [Nat.pow_add]
  exact Nat.mul_lt_mul'' (valN_lt ha) (Nat.lt_of_le_of_lt (valN_take_le b i) (valN_lt hb))
theorem RMul_l0_ev (a b : List Int) (ha : wfL a) (hb : wfL b) (la : a.length ≤ 1099511627776) (lb : b.length ≤ 1099511627776) (d : Nat) : ∀ i : Nat, i ≤ b.length → b.length ≤ i + d →
    Ev (fun k => tribunalref01_Mul.l0 k a b (limbs (valN a * valN (b.take i))) (i : Int)) (limbs (valN a * valN b)) := by
  have fin : ∀ i : Nat, i = b.length → Ev (fun k => tribunalref01_Mul.l0 k a b (limbs (valN a * valN (b.take i))) (i : Int)) (limbs (valN a * valN b)) := by
    intro i hi
    subst hi
    have hlen := limbs_len_mul ha hb b.length
    rw [List.take_length] at *
    have N := RNorm_is (limbs (valN a * valN b)) (wfL_limbs _) (by omega)
    rw [valN_limbs] at N
    apply Ev.step
    · intro k
      simp only [tribunalref01_Mul.l0]
      rw [if_neg (by omega)]
    · exact Ev.map_ (fun t => t) N
  induction d with
  | zero => intro i h1 h2; exact fin i (by omega)
  | succ d ih =>
    intro i h1 h2
    by_cases hi : i < b.length
    · have hx := atL_range hb i
      have hlen := limbs_len_mul ha hb i
      obtain ⟨m, hm⟩ : ∃ m : Nat, (m : Int) = atL b i := ⟨(atL b i).toNat, by omega⟩
      have T := times_is a m i ha (by omega) (by omega) (by omega)
      have A := RAdd_is (limbs (valN a * valN (b.take i))) (tms a (m : Int) i) (wfL_limbs _) (tms_wf _ _ _) (by omega) (by rw [tms_len]; omega)
      rw [valN_limbs, tms_val a m i ha (by omega)] at A
      have hv : valN a * valN (b.take i) + 4294967296 ^ i * (valN a * m) = valN a * valN (b.take (i + 1)) := by
        rw [valN_take_succ, ← hm, Int.toNat_natCast]; grind
      rw [hv] at A
      apply Ev.step
      · intro k
        simp only [tribunalref01_Mul.l0]
        rw [if_pos (by omega), if_pos (by omega), rd_nat, ← hm, wrap_u64_id (by omega) (by omega), wrap64_id (by omega) (by omega)]
      · exact Ev.bind T (Ev.bind A (ih (i + 1) (by omega) (by omega)))
    · exact fin i (by omega)
theorem RMul_is (a b : List Int) (ha : wfL a) (hb : wfL b) (la : a.length ≤ 1099511627776) (lb : b.length ≤ 1099511627776) : Ev (fun k => tribunalref01_Mul.f k a b) (limbs (valN a * valN b)) := by
  have := RMul_l0_ev a b ha hb la lb b.length 0 (by omega) (by omega)
  rw [List.take_zero, show valN [] = 0 from rfl, Nat.mul_zero, limbs_zero] at this
  exact this

/-! ### Div -/
theorem bit_room (Q s : Nat) (hs : s < 32) : Q * 2 ^ (s + 1) % 4294967296 + 2 ^ s < 4294967296 := by
  have e : (4294967296 : Nat) = 2 ^ (s + 1) * 2 ^ (31 - s) := by rw [← Nat.pow_add, show s + 1 + (31 - s) = 32 from by omega]
  have h1 : Q * 2 ^ (s + 1) % 4294967296 = 2 ^ (s + 1) * (Q % 2 ^ (31 - s)) := by
    rw [e, Nat.mul_comm, Nat.mul_mod_mul_left]
  have h2 : Q % 2 ^ (31 - s) + 1 ≤ 2 ^ (31 - s) := Nat.mod_lt _ (Nat.pow_pos (by omega))
  have h3 := Nat.mul_le_mul_left (2 ^ (s + 1)) h2
  rw [← e, Nat.mul_succ] at h3
  have h4 : 2 ^ (s + 1) = 2 ^ s * 2 := Nat.pow_succ ..
  have h5 : 0 < 2 ^ s := Nat.pow_pos (by omega)
  rw [h1]
  omega
structure RDivInv (a : List Int) (n : Nat) (j : Nat) (q r : List Int) : Prop where
  len : q.length = a.length
  wf : wfL q
  val : valN q = valN a / 2 ^ j / n * 2 ^ j
  rest : r = limbs (valN a / 2 ^ j % n)
theorem shl32 (s : Nat) (hs : s < 32) : shl .u32 1 (s : Int) = ((2 ^ s : Nat) : Int) := by
  have hp : (2 : Nat) ^ s ≤ 2 ^ 31 := Nat.pow_le_pow_right (by omega) (by omega)
  have e : ((2 ^ s : Nat) : Int) = 2 ^ s := by simp
  unfold shl
  rw [Int.toNat_natCast, Nat.min_eq_left (by show s ≤ 32; omega), IntKind.wrap_u32, Int.one_mul, ← e]
  generalize (2 : Nat) ^ s = p at *
  omega
theorem RDiv_set {a : List Int} {n i : Nat} {q r : List Int} (hi : i < 32 * a.length) (h : RDivInv a n (i + 1) q r) :
    ∃ v : Int, (atL q (i / 32) + ((2 ^ (i % 32) : Nat) : Int)) % 4294967296 = v ∧ wfL (q.set (i / 32) v) ∧ valN (q.set (i / 32) v) = valN q + 2 ^ i := by
  have hx := atL_range h.wf (i / 32)
  have hl := h.len
  have hval : (atL q (i / 32)).toNat + 2 ^ (i % 32) < 4294967296 := by
    rw [atL_val q h.wf, h.val]
    have e : (4294967296 : Nat) ^ (i / 32) = 2 ^ (32 * (i / 32)) := by rw [Nat.pow_mul]
    have e2 : valN a / 2 ^ (i + 1) / n * 2 ^ (i + 1) / 4294967296 ^ (i / 32) = valN a / 2 ^ (i + 1) / n * 2 ^ (i % 32 + 1) := by
      have e3 : (2 : Nat) ^ (i + 1) = 2 ^ (i % 32 + 1) * 2 ^ (32 * (i / 32)) := by rw [← Nat.pow_add]; congr 1; omega
      rw [e]
      generalize valN a / 2 ^ (i + 1) / n = Q
      rw [e3, ← Nat.mul_assoc, Nat.mul_div_cancel _ (Nat.pow_pos (by omega))]
    rw [e2]
    exact bit_room _ _ (Nat.mod_lt _ (by omega))
  refine ⟨atL q (i / 32) + ((2 ^ (i % 32) : Nat) : Int), ?_, ?_, ?_⟩
  · generalize (2 : Nat) ^ (i % 32) = p at *; omega
  · generalize (2 : Nat) ^ (i % 32) = p at *; exact wfL_set h.wf _ (by omega)
  · have hs := valN_set q (i / 32) (atL q (i / 32) + ((2 ^ (i % 32) : Nat) : Int)) (by omega)
    have e1 : (atL q (i / 32) + ((2 ^ (i % 32) : Nat) : Int)).toNat = (atL q (i / 32)).toNat + 2 ^ (i % 32) := by
      generalize (2 : Nat) ^ (i % 32) = p at *; omega
    have e3 : (2 : Nat) ^ i = 4294967296 ^ (i / 32) * 2 ^ (i % 32) := by
      have e : (4294967296 : Nat) ^ (i / 32) = 2 ^ (32 * (i / 32)) := by rw [Nat.pow_mul]
      rw [e, ← Nat.pow_add]; congr 1; omega
    rw [e1, Nat.mul_add] at hs
    rw [e3]
    omega
theorem div_step (A n i : Nat) : A / 2 ^ i = n * (2 * (A / 2 ^ (i + 1) / n)) + (2 * (A / 2 ^ (i + 1) % n) + (if A.testBit i then 1 else 0)) := by
  have h := testBit_step A i
  have hd := Nat.div_add_mod (A / 2 ^ (i + 1)) n
  generalize A / 2 ^ (i + 1) / n = Q at *
  generalize A / 2 ^ (i + 1) % n = R at *
  generalize A / 2 ^ (i + 1) = B at *
  rw [h, ← hd]
  grind
end Go.Proofs.YtioofejjjgggkaaDoor.G
