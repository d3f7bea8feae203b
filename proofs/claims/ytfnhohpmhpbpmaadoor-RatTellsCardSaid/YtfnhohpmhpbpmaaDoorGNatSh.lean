/- How many limbs a number has; words for the laws of layer 1. No condition. What a literal's cells read, and small words for reading facts. No condition. -/
import Derived.Test.YtfnhohpmhpbpmaaDoorGx0
import Derived.Test.YtfnhohpmhpbpmaaDoorGNatMath
import Derived.Test.YtfnhohpmhpbpmaaDoorGEvWords
import Derived.Test.YtfnhohpmhpbpmaaDoorGNatPure
import Derived.Lib.Hide
namespace Go.Proofs.YtfnhohpmhpbpmaaDoor.G
open Go.RowKit Go.Proofs.YtfnhohpmhpbpmaaDoorW.PrintWords Go.Proofs.YtfnhohpmhpbpmaaDoorW.PrintLast Go.Proofs.YtfnhohpmhpbpmaaDoorW.PrintMore

/-- As wf tells it. -/
theorem wfL_of {l : List Int} (h : ∀ x ∈ l, (Lit.int .u32 x).wf = true) : wfL l := fun x hx => by
  have := h x hx
  simp [Lit.wf, IntKind.min, IntKind.max, IntKind.bits, IntKind.signed] at this
  omega
def subR (m n : Nat) : List Int × Bool := if m < n then ([], false) else (limbs (m - n), true)
def divR (m n : Nat) : List Int × List Int × Bool := if n = 0 then ([], [], false) else (limbs (m / n), limbs (m % n), true)
/-- How many limbs a number has in short. -/
def sh (n : Nat) : Nat := (limbs n).length
theorem sh_le {n k : Nat} (h : n < 4294967296 ^ k) : sh n ≤ k := limbs_length_le h
theorem sh_mono {m n : Nat} (h : m ≤ n) : sh m ≤ sh n := limbs_length_mono h
theorem lt_sh (n : Nat) : n < 4294967296 ^ sh n := by
  have := valN_lt (wfL_limbs n)
  rwa [valN_limbs] at this
theorem sh_add (m n : Nat) : sh (m + n) ≤ sh m + sh n + 1 := by
  refine sh_le ?_
  have h1 := lt_sh m
  have h2 := lt_sh n
  have h3 : 4294967296 ^ sh m ≤ 4294967296 ^ (sh m + sh n) := Nat.pow_le_pow_right (by omega) (by omega)
  have h4 : 4294967296 ^ sh n ≤ 4294967296 ^ (sh m + sh n) := Nat.pow_le_pow_right (by omega) (by omega)
  rw [Nat.pow_succ]
  omega
theorem sh_mul (m n : Nat) : sh (m * n) ≤ sh m + sh n := by
  refine sh_le ?_
  rw [Nat.pow_add]
  exact Nat.mul_lt_mul'' (lt_sh m) (lt_sh n)
theorem sh_val {l : List Int} (h : wfL l) : sh (valN l) ≤ l.length := by
  unfold sh
  rw [← normL_limbs h]
  exact normL_length_le l
theorem sh_len (n : Nat) : (limbs n).length = sh n := rfl
theorem lit_readsN (w : World) (xs : List Int) (hl : xs.length ≤ 9223372036854775807) : Kd.C (Kd.int .u32) (w.alloc (.cells (xs.map (Value.int .u32)).toArray 71)) (some ⟨w.heap.size, 0, none⟩) xs.length xs := by
  refine ⟨rfl, hl, fun _ => ⟨_, rfl, ?_⟩⟩
  intro j p hj
  obtain ⟨hlt, rfl⟩ := List.getElem?_eq_some_iff.1 hj
  refine ⟨[.int .u32 xs[j]], rfl, rfl, ?_⟩
  intro i u hi
  match i, hi with
  | 0, hi =>
    simp at hi
    subst hi
    rw [add_plain, World.cell?_alloc_at _ _ _ _ rfl]
    simp [Kd.int, Kd.scalar, List.getElem?_eq_getElem hlt]
theorem Rd.lit (w : World) (xs : List Int) (h : wfL xs) (hl : xs.length ≤ 9223372036854775807) : Rd (w.alloc (.cells (xs.map (Value.int .u32)).toArray 71)) (some ⟨w.heap.size, 0, none⟩) xs.length xs := ⟨h, Nat.le_refl _, lit_readsN w xs hl⟩
theorem Rd.nil (w : World) : Rd w none 0 [] := ⟨wfL_nil, Nat.le_refl _, Kd.C_nil _ _⟩
theorem Rd.alloc {w : World} {A : Option Addr} {c : Nat} {l : List Int} (h : Rd w A c l) (o : Obj) : Rd (w.alloc o) A c l := h.below (below_alloc (Below.refl _ _) o)
theorem Rd.of_R {w : World} {base : Nat} {ok : Nat → Prop} {v : Value} {l : List Int} (hw : wfL l) (h : Kd.R (Kd.int .u32) 71 w base ok v l) : ∃ A c, v = .slice A l.length c ∧ Rd w A c l := by
  obtain ⟨A, c, e, hle, hC⟩ := Kd.R_reads h
  exact ⟨A, c, e, hw, hle, hC⟩
theorem limbs_lit (xs : List Int) (n : Nat) (h : wfL xs) (hn : normL xs = xs) (hv : valN xs = n) : limbs n = xs := by rw [← hv]; exact (limbs_norm h hn).symm
theorem len_lit {n k : Nat} (h : n < 4294967296 ^ k) (hk : k ≤ 100) : (limbs n).length ≤ 100 := Nat.le_trans (limbs_length_le h) hk
end Go.Proofs.YtfnhohpmhpbpmaaDoor.G
