/- Each printed function of the reference's layer 1, told as one step. Conditions: limbs of 32 bits, few of them. -/
import Derived.Test.YtfnhohpmhpbpmaaDoorGx0
import Derived.Test.YtfnhohpmhpbpmaaDoorGRefPure2
import Derived.Test.YtfnhohpmhpbpmaaDoorGNatSh
import Derived.Test.YtfnhohpmhpbpmaaDoorGNatNum
namespace Go.Proofs.YtfnhohpmhpbpmaaDoor.G
open Go.RowKit Go.Proofs.YtfnhohpmhpbpmaaDoorW.PrintWords Go.Proofs.YtfnhohpmhpbpmaaDoorW.PrintLast Go.Proofs.YtfnhohpmhpbpmaaDoorW.PrintMore

section
variable {a b : List Int} (ha : wfL a) (hb : wfL b) (la : a.length ≤ 1000) (lb : b.length ≤ 1000)
include ha hb la lb
theorem eRSub : Ev (fun k => tribunalref01_Sub.f k a b) (subR (valN a) (valN b)) := RSub_is a b ha hb (by omega) (by omega)
theorem eRDiv : Ev (fun k => tribunalref01_Div.f k a b) (divR (valN a) (valN b)) := RDiv_is a b ha hb (by omega) (by omega)
theorem eRAdd : Ev (fun k => tribunalref01_Add.f k a b) (limbs (valN a + valN b)) := RAdd_is a b ha hb (by omega) (by omega)
theorem eRMul : Ev (fun k => tribunalref01_Mul.f k a b) (limbs (valN a * valN b)) := RMul_is a b ha hb (by omega) (by omega)
theorem eRCmp : Ev (fun k => tribunalref01_Cmp.f k a b) (cmpN (valN a) (valN b)) := RCmp_is a b ha hb (by omega) (by omega)
theorem eRGcd : Ev (fun k => tribunalref01_Gcd.f k a b) (limbs (Nat.gcd (valN a) (valN b))) := RGcd_is a b ha hb (by omega) (by omega)
end
theorem eRNorm {a : List Int} (ha : wfL a) (la : a.length ≤ 1000) : Ev (fun k => tribunalref01_Norm.f k a) (limbs (valN a)) := RNorm_is a ha (by omega)
end Go.Proofs.YtfnhohpmhpbpmaaDoor.G
