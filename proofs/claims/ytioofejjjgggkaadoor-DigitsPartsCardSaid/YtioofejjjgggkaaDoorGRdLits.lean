/- What a literal's cells read, and small words for reading facts. No condition. -/
import Derived.Test.YtioofejjjgggkaaDoorGx0
import Derived.Test.YtioofejjjgggkaaDoorGRefPure
import Derived.Lib.Hide
namespace Go.Proofs.YtioofejjjgggkaaDoor.G
open Go.RowKit Go.Proofs.YtioofejjjgggkaaDoorW.PrintWords Go.Proofs.YtioofejjjgggkaaDoorW.PrintLast Go.Proofs.YtioofejjjgggkaaDoorW.PrintMore

theorem lit_readsN (w : World) (xs : List Int) (hl : xs.length ≤ 9223372036854775807) : Kd.C (Kd.int .u32) (w.alloc (.cells (xs.map (Value.int .u32)).toArray 35)) (some ⟨w.heap.size, 0, none⟩) xs.length xs := by
  refine ⟨rfl, hl, fun _ => ⟨_, rfl, ?_⟩⟩
  intro j p hj
  obtain ⟨hlt, rfl⟩ := List.getElem?_eq_some_iff.1 hj
  refine ⟨[.int .u32 xs[j]], rfl, rfl, ?_⟩
  intro i u hi
  match i, hi with
  | 0, hi =>
    simp at hi
    subst hi
    rw [add_plain, World.cell?_alloc_at _ _ _ _ rfl]
    simp [Kd.int, Kd.scalar, List.getElem?_eq_getElem hlt]
theorem Rd.lit (w : World) (xs : List Int) (h : wfL xs) (hl : xs.length ≤ 9223372036854775807) : Rd (w.alloc (.cells (xs.map (Value.int .u32)).toArray 35)) (some ⟨w.heap.size, 0, none⟩) xs.length xs := ⟨h, Nat.le_refl _, lit_readsN w xs hl⟩
theorem Rd.nil (w : World) : Rd w none 0 [] := ⟨wfL_nil, Nat.le_refl _, Kd.C_nil _ _⟩
theorem Rd.alloc {w : World} {A : Option Addr} {c : Nat} {l : List Int} (h : Rd w A c l) (o : Obj) : Rd (w.alloc o) A c l := h.below (below_alloc (Below.refl _ _) o)
theorem Rd.of_R {w : World} {base : Nat} {ok : Nat → Prop} {v : Value} {l : List Int} (hw : wfL l) (h : Kd.R (Kd.int .u32) 35 w base ok v l) : ∃ A c, v = .slice A l.length c ∧ Rd w A c l := by
  obtain ⟨A, c, e, hle, hC⟩ := Kd.R_reads h
  exact ⟨A, c, e, hw, hle, hC⟩
theorem limbs_lit (xs : List Int) (n : Nat) (h : wfL xs) (hn : normL xs = xs) (hv : valN xs = n) : limbs n = xs := by rw [← hv]; exact (limbs_norm h hn).symm
theorem len_lit {n k : Nat} (h : n < 4294967296 ^ k) (hk : k ≤ 100) : (limbs n).length ≤ 100 := Nat.le_trans (limbs_length_le h) hk
end Go.Proofs.YtioofejjjgggkaaDoor.G
