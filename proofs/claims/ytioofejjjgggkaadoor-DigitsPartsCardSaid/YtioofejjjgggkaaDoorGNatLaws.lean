/- Words for the laws of layer 1: each printed function, told as one step. Conditions: limbs of 32 bits, few of them. -/
import Derived.Test.YtioofejjjgggkaaDoorGx0
import Derived.Test.YtioofejjjgggkaaDoorGRefPure2
import Derived.Test.YtioofejjjgggkaaDoorGRdLits
namespace Go.Proofs.YtioofejjjgggkaaDoor.G
open Go.RowKit Go.Proofs.YtioofejjjgggkaaDoorW.PrintWords Go.Proofs.YtioofejjjgggkaaDoorW.PrintLast Go.Proofs.YtioofejjjgggkaaDoorW.PrintMore

theorem Ev.const {α : Type} {x : Option α} {r : α} (h : x = some r) : Ev (fun _ => x) r := ⟨0, fun _ _ => h⟩
theorem Ev.pos {α : Type} {c : Prop} [Decidable c] {f g : Nat → Option α} {r : α} (h : c) (e : Ev f r) : Ev (fun k => if c then f k else g k) r := Ev.congr (fun _ => if_pos h) e
theorem Ev.neg {α : Type} {c : Prop} [Decidable c] {f g : Nat → Option α} {r : α} (h : ¬ c) (e : Ev g r) : Ev (fun k => if c then f k else g k) r := Ev.congr (fun _ => if_neg h) e
theorem Ev.no {α : Type} {f g : Nat → Option α} {r : α} (e : Ev g r) : Ev (fun k => if false = true then f k else g k) r := Ev.neg (by simp) e
theorem Ev.yes {α : Type} {f g : Nat → Option α} {r : α} (e : Ev f r) : Ev (fun k => if true = true then f k else g k) r := Ev.pos rfl e

/-- As wf tells it. -/
theorem wfL_of {l : List Int} (h : ∀ x ∈ l, (Lit.int .u32 x).wf = true) : wfL l := fun x hx => by
  have := h x hx
  simp [Lit.wf, IntKind.min, IntKind.max, IntKind.bits, IntKind.signed] at this
  omega
def subR (m n : Nat) : List Int × Bool := if m < n then ([], false) else (limbs (m - n), true)
def divR (m n : Nat) : List Int × List Int × Bool := if n = 0 then ([], [], false) else (limbs (m / n), limbs (m % n), true)
/-- How many limbs a number has in short. -/
def sh (n : Nat) : Nat := (limbs n).length
theorem sh_le {n k : Nat} (h : n < 4294967296 ^ k) : sh n ≤ k := limbs_length_le h
theorem sh_mono {m n : Nat} (h : m ≤ n) : sh m ≤ sh n := limbs_length_mono h
theorem lt_sh (n : Nat) : n < 4294967296 ^ sh n := by
  have := valN_lt (wfL_limbs n)
  rwa [valN_limbs] at this
theorem sh_add (m n : Nat) : sh (m + n) ≤ sh m + sh n + 1 := by
  refine sh_le ?_
  have h1 := lt_sh m
  have h2 := lt_sh n
  have h3 : 4294967296 ^ sh m ≤ 4294967296 ^ (sh m + sh n) := Nat.pow_le_pow_right (by omega) (by omega)
  have h4 : 4294967296 ^ sh n ≤ 4294967296 ^ (sh m + sh n) := Nat.pow_le_pow_right (by omega) (by omega)
  rw [Nat.pow_succ]
  omega
theorem sh_mul (m n : Nat) : sh (m * n) ≤ sh m + sh n := by
  refine sh_le ?_
  rw [Nat.pow_add]
  exact Nat.mul_lt_mul'' (lt_sh m) (lt_sh n)
theorem sh_val {l : List Int} (h : wfL l) : sh (valN l) ≤ l.length := by
  unfold sh
  rw [← normL_limbs h]
  exact normL_length_le l
theorem sh_len (n : Nat) : (limbs n).length = sh n := rfl
theorem Same_self (a : List Int) (h : a.length < 4611686018427387904) : Ev (fun k => tribunalref01_Same.f k a a) true := by
  have := Same_is a a h
  rwa [show decide (a = a) = true from by simp] at this

section
variable {a b : List Int} (ha : wfL a) (hb : wfL b) (la : a.length ≤ 1000) (lb : b.length ≤ 1000)
include ha hb la lb
theorem eSub : Ev (fun _ => nat_Sub.f a b) (subR (valN a) (valN b)) := Ev.const (by rw [nat_Sub_is a b ha hb (by omega) (by omega)]; unfold subR; split <;> rfl)
theorem eDiv : Ev (fun k => nat_Div.f k a b) (divR (valN a) (valN b)) := nat_Div_is a b ha hb (by omega) (by omega)
theorem eAdd : Ev (fun _ => nat_Add.f a b) (limbs (valN a + valN b)) := Ev.const (nat_Add_is a b ha hb (by omega) (by omega))
theorem eRAdd : Ev (fun k => tribunalref01_Add.f k a b) (limbs (valN a + valN b)) := RAdd_is a b ha hb (by omega) (by omega)
theorem eMul : Ev (fun k => nat_Mul.f k a b) (limbs (valN a * valN b)) := nat_Mul_is a b ha hb (by omega) (by omega)
theorem eRMul : Ev (fun k => tribunalref01_Mul.f k a b) (limbs (valN a * valN b)) := RMul_is a b ha hb (by omega) (by omega)
theorem eCmp : Ev (fun k => nat_Cmp.f k a b) (cmpN (valN a) (valN b)) := nat_Cmp_is a b ha hb (by omega) (by omega)
theorem eRCmp : Ev (fun k => tribunalref01_Cmp.f k a b) (cmpN (valN a) (valN b)) := RCmp_is a b ha hb (by omega) (by omega)
end
theorem eNorm {a : List Int} (ha : wfL a) (la : a.length ≤ 1000) : Ev (fun k => nat_Norm.f k a) (limbs (valN a)) := nat_Norm_is a ha (by omega)
theorem eRNorm {a : List Int} (ha : wfL a) (la : a.length ≤ 1000) : Ev (fun k => tribunalref01_Norm.f k a) (limbs (valN a)) := RNorm_is a ha (by omega)

/-! The same of numbers in short. -/
section
variable {m n : Nat} (lm : sh m ≤ 1000) (ln : sh n ≤ 1000)
include lm ln
theorem nSub : Ev (fun _ => nat_Sub.f (limbs m) (limbs n)) (subR m n) := by have := eSub (wfL_limbs m) (wfL_limbs n) lm ln; rwa [valN_limbs, valN_limbs] at this
theorem nDiv : Ev (fun k => nat_Div.f k (limbs m) (limbs n)) (divR m n) := by have := eDiv (wfL_limbs m) (wfL_limbs n) lm ln; rwa [valN_limbs, valN_limbs] at this
theorem nAdd : Ev (fun _ => nat_Add.f (limbs m) (limbs n)) (limbs (m + n)) := by have := eAdd (wfL_limbs m) (wfL_limbs n) lm ln; rwa [valN_limbs, valN_limbs] at this
theorem nMul : Ev (fun k => nat_Mul.f k (limbs m) (limbs n)) (limbs (m * n)) := by have := eMul (wfL_limbs m) (wfL_limbs n) lm ln; rwa [valN_limbs, valN_limbs] at this
theorem nCmp : Ev (fun k => nat_Cmp.f k (limbs m) (limbs n)) (cmpN m n) := by have := eCmp (wfL_limbs m) (wfL_limbs n) lm ln; rwa [valN_limbs, valN_limbs] at this
end
end Go.Proofs.YtioofejjjgggkaaDoor.G
