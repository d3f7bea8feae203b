/- RatTells: whether any text is a number's, its number's text, which of two is greater, their sum, difference, product and quotient, are the reference's; the plain law behind the printed walk. No condition beyond the statement's own guards. -/
import Derived.Test.YtfnhohpmhpbpmaaDoorGx10
import Derived.Test.YtfnhohpmhpbpmaaDoorGRatLaws
namespace Go.Proofs.YtfnhohpmhpbpmaaDoor.Pure
open Go.RowKit Go.Proofs.YtfnhohpmhpbpmaaDoor.G Go.Proofs.YtfnhohpmhpbpmaaDoorW.PrintWords Go.Proofs.YtfnhohpmhpbpmaaDoorW.PrintLast

theorem RatTells : tribunallaw03_RatTells.Pure := by
  intro x y _ _
  refine Ev.rounds (g := fun k => tribunallaw03_RatTells.f k x y) ?_
  unfold tribunallaw03_RatTells.f
  refine Ev.bind (Ev.const head_true) ?_
  by_cases h : x.size ≤ 160 ∧ y.size ≤ 160
  · have sx : small x := small_of (by omega)
    have sy : small y := small_of (by omega)
    have fx : few x := Nat.le_trans h.1 (by decide)
    have fy : few y := Nat.le_trans h.2 (by decide)
    have n1 : rat_Norm.f x = some (normS x) := rNorm_eq x (by omega)
    have n2 : tribunalref03_Norm.f x = some (normS x) := by unfold tribunalref03_Norm.f; rw [if_pos fx]
    have a1 : rat_Add.f x y = some (opS addX false x y) := by unfold rat_Add.f; rw [if_pos ⟨sx, sy⟩]
    have a2 : tribunalref03_Add.f x y = some (opS addX false x y) := by unfold tribunalref03_Add.f; rw [if_pos ⟨fx, fy⟩]
    have r1 : rat_Right.f x = some (getS x).isSome := by unfold rat_Right.f; rw [if_pos sx]
    have r2 : tribunalref03_Right.f x = some (getS x).isSome := by unfold tribunalref03_Right.f; rw [if_pos fx]
    have c1 : rat_Cmp.f x y = some (cmpM (getS x) (getS y)) := by unfold rat_Cmp.f; rw [if_pos ⟨sx, sy⟩]
    have c2 : tribunalref03_Cmp.f x y = some (cmpM (getS x) (getS y)) := by unfold tribunalref03_Cmp.f; rw [if_pos ⟨fx, fy⟩]
    have s1 : rat_Sub.f x y = some (opS subX false x y) := by unfold rat_Sub.f; rw [if_pos ⟨sx, sy⟩]
    have s2 : tribunalref03_Sub.f x y = some (opS subX false x y) := by unfold tribunalref03_Sub.f; rw [if_pos ⟨fx, fy⟩]
    have m1 : rat_Mul.f x y = some (opS mulX false x y) := by unfold rat_Mul.f; rw [if_pos ⟨sx, sy⟩]
    have m2 : tribunalref03_Mul.f x y = some (opS mulX false x y) := by unfold tribunalref03_Mul.f; rw [if_pos ⟨fx, fy⟩]
    have d1 : rat_Div.f x y = some (opS divX true x y) := by unfold rat_Div.f; rw [if_pos ⟨sx, sy⟩]
    have d2 : tribunalref03_Div.f x y = some (opS divX true x y) := by unfold tribunalref03_Div.f; rw [if_pos ⟨fx, fy⟩]
    have g1 : rat_Neg.f x = some (opS subX false (⟨#[48]⟩ : ByteArray) x) := by unfold rat_Neg.f; rw [if_pos sx]
    have g2 : tribunalref03_Neg.f x = some (opS subX false (⟨#[48]⟩ : ByteArray) x) := by unfold tribunalref03_Neg.f; rw [if_pos fx]
    refine Ev.bind (Ev.const (great_of h.1 h.2)) (Ev.neg (by simp) ?_)
    refine Ev.bind (Ev.const n1) (Ev.bind (Ev.const n2) (Ev.bind (Ev.const a1) (Ev.bind (Ev.const a2) (Ev.pos rfl (Ev.pos rfl (Ev.pos rfl (Ev.pos rfl (Ev.bind (Ev.const r1) (Ev.bind (Ev.const r2) (Ev.neg (by simp) (Ev.bind (Ev.const c1) (Ev.bind (Ev.const c2) ?_))))))))))))
    rw [bne_self_eq_false]
    apply Ev.step
    · intro k; rw [tribunallaw03_RatTells.j0]
    · refine Ev.neg (by simp) (Ev.bind (Ev.const s1) (Ev.bind (Ev.const s2) (Ev.bind (Ev.const m1) (Ev.bind (Ev.const m2) (Ev.bind (Ev.const d1) (Ev.bind (Ev.const d2) (Ev.bind (Ev.const g1) (Ev.bind (Ev.const g2) ?_))))))))
      refine Ev.pos rfl (Ev.pos rfl (Ev.pos rfl (Ev.pos rfl (Ev.pos rfl (Ev.pos rfl (Ev.pos rfl (Ev.pos rfl (Ev.const ?_))))))))
      rw [beq_self_eq_true]
  · exact Ev.bind (Ev.const (great_not h)) (Ev.pos rfl (Ev.now _))
end Go.Proofs.YtfnhohpmhpbpmaaDoor.Pure
