/- Each printed function of nat, told as one step. Conditions: limbs of 32 bits, few of them. -/
import Derived.Test.YtfnhohpmhpbpmaaDoorGx0
import Derived.Test.YtfnhohpmhpbpmaaDoorGx7
import Derived.Test.YtfnhohpmhpbpmaaDoorGx8
import Derived.Test.YtfnhohpmhpbpmaaDoorGNatSub
import Derived.Test.YtfnhohpmhpbpmaaDoorGNatAdd
import Derived.Test.YtfnhohpmhpbpmaaDoorGNatDiv
import Derived.Test.YtfnhohpmhpbpmaaDoorGNatSh
namespace Go.Proofs.YtfnhohpmhpbpmaaDoor.G
open Go.RowKit Go.Proofs.YtfnhohpmhpbpmaaDoorW.PrintWords Go.Proofs.YtfnhohpmhpbpmaaDoorW.PrintLast Go.Proofs.YtfnhohpmhpbpmaaDoorW.PrintMore

section
variable {a b : List Int} (ha : wfL a) (hb : wfL b) (la : a.length ≤ 1000) (lb : b.length ≤ 1000)
include ha hb la lb
theorem eSub : Ev (fun _ => nat_Sub.f a b) (subR (valN a) (valN b)) := Ev.const (by rw [nat_Sub_is a b ha hb (by omega) (by omega)]; unfold subR; split <;> rfl)
theorem eDiv : Ev (fun k => nat_Div.f k a b) (divR (valN a) (valN b)) := nat_Div_is a b ha hb (by omega) (by omega)
theorem eAdd : Ev (fun _ => nat_Add.f a b) (limbs (valN a + valN b)) := Ev.const (nat_Add_is a b ha hb (by omega) (by omega))
theorem eMul : Ev (fun k => nat_Mul.f k a b) (limbs (valN a * valN b)) := nat_Mul_is a b ha hb (by omega) (by omega)
theorem eCmp : Ev (fun k => nat_Cmp.f k a b) (cmpN (valN a) (valN b)) := nat_Cmp_is a b ha hb (by omega) (by omega)
theorem eGcd : Ev (fun k => nat_Gcd.f k a b) (limbs (Nat.gcd (valN a) (valN b))) := nat_Gcd_is a b ha hb (by omega) (by omega)
end
theorem eNorm {a : List Int} (ha : wfL a) (la : a.length ≤ 1000) : Ev (fun k => nat_Norm.f k a) (limbs (valN a)) := nat_Norm_is a ha (by omega)

/-! The same of numbers in short. -/
section
variable {m n : Nat} (lm : sh m ≤ 1000) (ln : sh n ≤ 1000)
include lm ln
theorem nSub : Ev (fun _ => nat_Sub.f (limbs m) (limbs n)) (subR m n) := by have := eSub (wfL_limbs m) (wfL_limbs n) lm ln; rwa [valN_limbs, valN_limbs] at this
theorem nDiv : Ev (fun k => nat_Div.f k (limbs m) (limbs n)) (divR m n) := by have := eDiv (wfL_limbs m) (wfL_limbs n) lm ln; rwa [valN_limbs, valN_limbs] at this
theorem nAdd : Ev (fun _ => nat_Add.f (limbs m) (limbs n)) (limbs (m + n)) := by have := eAdd (wfL_limbs m) (wfL_limbs n) lm ln; rwa [valN_limbs, valN_limbs] at this
theorem nMul : Ev (fun k => nat_Mul.f k (limbs m) (limbs n)) (limbs (m * n)) := by have := eMul (wfL_limbs m) (wfL_limbs n) lm ln; rwa [valN_limbs, valN_limbs] at this
theorem nCmp : Ev (fun k => nat_Cmp.f k (limbs m) (limbs n)) (cmpN m n) := by have := eCmp (wfL_limbs m) (wfL_limbs n) lm ln; rwa [valN_limbs, valN_limbs] at this
theorem nGcd : Ev (fun k => nat_Gcd.f k (limbs m) (limbs n)) (limbs (Nat.gcd m n)) := by have := eGcd (wfL_limbs m) (wfL_limbs n) lm ln; rwa [valN_limbs, valN_limbs] at this
end
end Go.Proofs.YtfnhohpmhpbpmaaDoor.G
