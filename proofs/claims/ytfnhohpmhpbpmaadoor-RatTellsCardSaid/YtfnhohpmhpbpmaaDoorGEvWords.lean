/- Small words for functions with a number of rounds, and for whole numbers. No condition. -/
import Derived.Test.YtfnhohpmhpbpmaaDoorGx0
namespace Go.Proofs.YtfnhohpmhpbpmaaDoor.G
open Go.RowKit Go.Proofs.YtfnhohpmhpbpmaaDoorW.PrintWords Go.Proofs.YtfnhohpmhpbpmaaDoorW.PrintLast Go.Proofs.YtfnhohpmhpbpmaaDoorW.PrintMore

theorem Ev.some_ {α : Type} {g : Nat → Option α} {r : α} (h : ∀ k, g (k + 1) = some r) : Ev g r := Ev.step h (Ev.now r)
theorem Ev.map_ {α β : Type} {g : Nat → Option α} {a : α} (f : α → β) (h : Ev g a) : Ev (fun k => (g k).bind fun t => some (f t)) (f a) := Ev.bind (f := fun _ t => some (f t)) h (Ev.now _)
theorem Ev.const {α : Type} {x : Option α} {r : α} (h : x = some r) : Ev (fun _ => x) r := ⟨0, fun _ _ => h⟩
theorem Ev.pos {α : Type} {c : Prop} [Decidable c] {f g : Nat → Option α} {r : α} (h : c) (e : Ev f r) : Ev (fun k => if c then f k else g k) r := Ev.congr (fun _ => if_pos h) e
theorem Ev.neg {α : Type} {c : Prop} [Decidable c] {f g : Nat → Option α} {r : α} (h : ¬ c) (e : Ev g r) : Ev (fun k => if c then f k else g k) r := Ev.congr (fun _ => if_neg h) e
theorem Ev.no {α : Type} {f g : Nat → Option α} {r : α} (e : Ev g r) : Ev (fun k => if false = true then f k else g k) r := Ev.neg (by simp) e
theorem Ev.yes {α : Type} {f g : Nat → Option α} {r : α} (e : Ev f r) : Ev (fun k => if true = true then f k else g k) r := Ev.pos rfl e
theorem wrap64_id {x : Int} (h0 : -9223372036854775808 ≤ x) (h1 : x ≤ 9223372036854775807) : wrap64 x = x := by unfold wrap64; omega
end Go.Proofs.YtfnhohpmhpbpmaaDoor.G
