-- Out of the translation, by a program of this repo (wip/tools/gprint.py). Lean checks it.
import Derived.Test.YtfnhohpmhpbpmaaDoorGx0
import Derived.Test.YtfnhohpmhpbpmaaDoorGRatTop
namespace Go.Proofs.YtfnhohpmhpbpmaaDoor.G
open Go.RowKit Go.Proofs.YtfnhohpmhpbpmaaDoorW.PrintWords Go.Proofs.YtfnhohpmhpbpmaaDoorW.PrintLast Go.Proofs.YtfnhohpmhpbpmaaDoorW.PrintMore
attribute [local go_sem] max2_int min2_int max_two min_two max_three min_three max_four min_four   -- for this text's walks alone
set_option linter.unusedVariables false
set_option linter.unusedSimpArgs false

/-! ### tribunallaw03_head: function 10 -/
def tribunallaw03_head.f  : Option (Bool) := (rat_Norm.f (⟨#[45, 54, 47, 52]⟩ : ByteArray)).bind fun bt215 => ((rat_Norm.f (⟨#[49, 47, 48]⟩ : ByteArray)).bind fun bt217 => ((rat_Norm.f (⟨#[49, 47]⟩ : ByteArray)).bind fun bt219 => ((rat_Add.f (⟨#[49, 47, 50]⟩ : ByteArray) (⟨#[45, 49, 47, 51]⟩ : ByteArray)).bind fun bt221 => ((rat_Div.f (⟨#[51]⟩ : ByteArray) (⟨#[45, 54]⟩ : ByteArray)).bind fun bt223 => ((rat_Div.f (⟨#[51]⟩ : ByteArray) (⟨#[48]⟩ : ByteArray)).bind fun bt225 => ((rat_Mul.f (⟨#[51]⟩ : ByteArray) (⟨#[54, 47, 50]⟩ : ByteArray)).bind fun bt227 => ((rat_Neg.f (⟨#[48]⟩ : ByteArray)).bind fun bt229 => (if bt215.1.toList = ([45, 51, 47, 50] : List UInt8) then (if bt215.2 = 0 then (if bt217.2 = 21 then (if bt219.2 = 12 then (if bt221.1.toList = ([49, 47, 54] : List UInt8) then (if bt221.2 = 0 then (if bt223.1.toList = ([45, 49, 47, 50] : List UInt8) then (if bt223.2 = 0 then (if bt225.2 = 21 then (if bt227.2 = 1 then (if bt229.1.toList = ([48] : List UInt8) then (if bt229.2 = 0 then ((rat_Cmp.f (⟨#[49, 47, 51]⟩ : ByteArray) (⟨#[49, 47, 50]⟩ : ByteArray)).bind fun t231 => (if t231 = (-1) then ((rat_Cmp.f (⟨#[45, 49, 47, 51]⟩ : ByteArray) (⟨#[45, 49, 47, 50]⟩ : ByteArray)).bind fun t232 => (if t232 = 1 then ((rat_Right.f (⟨#[48]⟩ : ByteArray)).bind fun t233 => (if t233 = true then ((rat_Right.f (⟨#[45, 48]⟩ : ByteArray)).bind fun t234 => (if t234 = true then (none) else ((rat_Right.f (⟨#[50, 47, 49]⟩ : ByteArray)).bind fun t235 => (some (!t235))))) else (none))) else (none))) else (none))) else (none)) else (none)) else (none)) else (none)) else (none)) else (none)) else (none)) else (none)) else (none)) else (none)) else (none)) else (none)))))))))
set_option maxHeartbeats 8000000 in
set_option maxRecDepth 100000 in
theorem tribunallaw03_head.calls  (r : Bool) (w : World) (h : tribunallaw03_head.f  = some r) :
    Calls Tryd.prog 10 #[] w fun e w' => e = .returned (.bool r) ∧ Below w.heap.size w w' := by
  have HB := Aside0.mk (Below.refl w.heap.size w)
  have H : ((rat_Norm.f (⟨#[45, 54, 47, 52]⟩ : ByteArray)).bind fun bt215 => ((rat_Norm.f (⟨#[49, 47, 48]⟩ : ByteArray)).bind fun bt217 => ((rat_Norm.f (⟨#[49, 47]⟩ : ByteArray)).bind fun bt219 => ((rat_Add.f (⟨#[49, 47, 50]⟩ : ByteArray) (⟨#[45, 49, 47, 51]⟩ : ByteArray)).bind fun bt221 => ((rat_Div.f (⟨#[51]⟩ : ByteArray) (⟨#[45, 54]⟩ : ByteArray)).bind fun bt223 => ((rat_Div.f (⟨#[51]⟩ : ByteArray) (⟨#[48]⟩ : ByteArray)).bind fun bt225 => ((rat_Mul.f (⟨#[51]⟩ : ByteArray) (⟨#[54, 47, 50]⟩ : ByteArray)).bind fun bt227 => ((rat_Neg.f (⟨#[48]⟩ : ByteArray)).bind fun bt229 => (if bt215.1.toList = ([45, 51, 47, 50] : List UInt8) then (if bt215.2 = 0 then (if bt217.2 = 21 then (if bt219.2 = 12 then (if bt221.1.toList = ([49, 47, 54] : List UInt8) then (if bt221.2 = 0 then (if bt223.1.toList = ([45, 49, 47, 50] : List UInt8) then (if bt223.2 = 0 then (if bt225.2 = 21 then (if bt227.2 = 1 then (if bt229.1.toList = ([48] : List UInt8) then (if bt229.2 = 0 then ((rat_Cmp.f (⟨#[49, 47, 51]⟩ : ByteArray) (⟨#[49, 47, 50]⟩ : ByteArray)).bind fun t231 => (if t231 = (-1) then ((rat_Cmp.f (⟨#[45, 49, 47, 51]⟩ : ByteArray) (⟨#[45, 49, 47, 50]⟩ : ByteArray)).bind fun t232 => (if t232 = 1 then ((rat_Right.f (⟨#[48]⟩ : ByteArray)).bind fun t233 => (if t233 = true then ((rat_Right.f (⟨#[45, 48]⟩ : ByteArray)).bind fun t234 => (if t234 = true then (none) else ((rat_Right.f (⟨#[50, 47, 49]⟩ : ByteArray)).bind fun t235 => (some (!t235))))) else (none))) else (none))) else (none))) else (none)) else (none)) else (none)) else (none)) else (none)) else (none)) else (none)) else (none)) else (none)) else (none)) else (none)) else (none)))))))))) = some r := h
  clear h
  replace H := Option.bind_eq_some_iff.mp H
  obtain ⟨⟨t215, t216⟩, A10, H⟩ := H
  replace H : ((rat_Norm.f (⟨#[49, 47, 48]⟩ : ByteArray)).bind fun bt217 => ((rat_Norm.f (⟨#[49, 47]⟩ : ByteArray)).bind fun bt219 => ((rat_Add.f (⟨#[49, 47, 50]⟩ : ByteArray) (⟨#[45, 49, 47, 51]⟩ : ByteArray)).bind fun bt221 => ((rat_Div.f (⟨#[51]⟩ : ByteArray) (⟨#[45, 54]⟩ : ByteArray)).bind fun bt223 => ((rat_Div.f (⟨#[51]⟩ : ByteArray) (⟨#[48]⟩ : ByteArray)).bind fun bt225 => ((rat_Mul.f (⟨#[51]⟩ : ByteArray) (⟨#[54, 47, 50]⟩ : ByteArray)).bind fun bt227 => ((rat_Neg.f (⟨#[48]⟩ : ByteArray)).bind fun bt229 => (if t215.toList = ([45, 51, 47, 50] : List UInt8) then (if t216 = 0 then (if bt217.2 = 21 then (if bt219.2 = 12 then (if bt221.1.toList = ([49, 47, 54] : List UInt8) then (if bt221.2 = 0 then (if bt223.1.toList = ([45, 49, 47, 50] : List UInt8) then (if bt223.2 = 0 then (if bt225.2 = 21 then (if bt227.2 = 1 then (if bt229.1.toList = ([48] : List UInt8) then (if bt229.2 = 0 then ((rat_Cmp.f (⟨#[49, 47, 51]⟩ : ByteArray) (⟨#[49, 47, 50]⟩ : ByteArray)).bind fun t231 => (if t231 = (-1) then ((rat_Cmp.f (⟨#[45, 49, 47, 51]⟩ : ByteArray) (⟨#[45, 49, 47, 50]⟩ : ByteArray)).bind fun t232 => (if t232 = 1 then ((rat_Right.f (⟨#[48]⟩ : ByteArray)).bind fun t233 => (if t233 = true then ((rat_Right.f (⟨#[45, 48]⟩ : ByteArray)).bind fun t234 => (if t234 = true then (none) else ((rat_Right.f (⟨#[50, 47, 49]⟩ : ByteArray)).bind fun t235 => (some (!t235))))) else (none))) else (none))) else (none))) else (none)) else (none)) else (none)) else (none)) else (none)) else (none)) else (none)) else (none)) else (none)) else (none)) else (none)) else (none))))))))) = some r := H
  have A1 := Aside0.mk A10
  clear A10
  replace H := Option.bind_eq_some_iff.mp H
  obtain ⟨⟨t217, t218⟩, A20, H⟩ := H
  replace H : ((rat_Norm.f (⟨#[49, 47]⟩ : ByteArray)).bind fun bt219 => ((rat_Add.f (⟨#[49, 47, 50]⟩ : ByteArray) (⟨#[45, 49, 47, 51]⟩ : ByteArray)).bind fun bt221 => ((rat_Div.f (⟨#[51]⟩ : ByteArray) (⟨#[45, 54]⟩ : ByteArray)).bind fun bt223 => ((rat_Div.f (⟨#[51]⟩ : ByteArray) (⟨#[48]⟩ : ByteArray)).bind fun bt225 => ((rat_Mul.f (⟨#[51]⟩ : ByteArray) (⟨#[54, 47, 50]⟩ : ByteArray)).bind fun bt227 => ((rat_Neg.f (⟨#[48]⟩ : ByteArray)).bind fun bt229 => (if t215.toList = ([45, 51, 47, 50] : List UInt8) then (if t216 = 0 then (if t218 = 21 then (if bt219.2 = 12 then (if bt221.1.toList = ([49, 47, 54] : List UInt8) then (if bt221.2 = 0 then (if bt223.1.toList = ([45, 49, 47, 50] : List UInt8) then (if bt223.2 = 0 then (if bt225.2 = 21 then (if bt227.2 = 1 then (if bt229.1.toList = ([48] : List UInt8) then (if bt229.2 = 0 then ((rat_Cmp.f (⟨#[49, 47, 51]⟩ : ByteArray) (⟨#[49, 47, 50]⟩ : ByteArray)).bind fun t231 => (if t231 = (-1) then ((rat_Cmp.f (⟨#[45, 49, 47, 51]⟩ : ByteArray) (⟨#[45, 49, 47, 50]⟩ : ByteArray)).bind fun t232 => (if t232 = 1 then ((rat_Right.f (⟨#[48]⟩ : ByteArray)).bind fun t233 => (if t233 = true then ((rat_Right.f (⟨#[45, 48]⟩ : ByteArray)).bind fun t234 => (if t234 = true then (none) else ((rat_Right.f (⟨#[50, 47, 49]⟩ : ByteArray)).bind fun t235 => (some (!t235))))) else (none))) else (none))) else (none))) else (none)) else (none)) else (none)) else (none)) else (none)) else (none)) else (none)) else (none)) else (none)) else (none)) else (none)) else (none)))))))) = some r := H
  have A2 := Aside0.mk A20
  clear A20
  replace H := Option.bind_eq_some_iff.mp H
  obtain ⟨⟨t219, t220⟩, A30, H⟩ := H
  replace H : ((rat_Add.f (⟨#[49, 47, 50]⟩ : ByteArray) (⟨#[45, 49, 47, 51]⟩ : ByteArray)).bind fun bt221 => ((rat_Div.f (⟨#[51]⟩ : ByteArray) (⟨#[45, 54]⟩ : ByteArray)).bind fun bt223 => ((rat_Div.f (⟨#[51]⟩ : ByteArray) (⟨#[48]⟩ : ByteArray)).bind fun bt225 => ((rat_Mul.f (⟨#[51]⟩ : ByteArray) (⟨#[54, 47, 50]⟩ : ByteArray)).bind fun bt227 => ((rat_Neg.f (⟨#[48]⟩ : ByteArray)).bind fun bt229 => (if t215.toList = ([45, 51, 47, 50] : List UInt8) then (if t216 = 0 then (if t218 = 21 then (if t220 = 12 then (if bt221.1.toList = ([49, 47, 54] : List UInt8) then (if bt221.2 = 0 then (if bt223.1.toList = ([45, 49, 47, 50] : List UInt8) then (if bt223.2 = 0 then (if bt225.2 = 21 then (if bt227.2 = 1 then (if bt229.1.toList = ([48] : List UInt8) then (if bt229.2 = 0 then ((rat_Cmp.f (⟨#[49, 47, 51]⟩ : ByteArray) (⟨#[49, 47, 50]⟩ : ByteArray)).bind fun t231 => (if t231 = (-1) then ((rat_Cmp.f (⟨#[45, 49, 47, 51]⟩ : ByteArray) (⟨#[45, 49, 47, 50]⟩ : ByteArray)).bind fun t232 => (if t232 = 1 then ((rat_Right.f (⟨#[48]⟩ : ByteArray)).bind fun t233 => (if t233 = true then ((rat_Right.f (⟨#[45, 48]⟩ : ByteArray)).bind fun t234 => (if t234 = true then (none) else ((rat_Right.f (⟨#[50, 47, 49]⟩ : ByteArray)).bind fun t235 => (some (!t235))))) else (none))) else (none))) else (none))) else (none)) else (none)) else (none)) else (none)) else (none)) else (none)) else (none)) else (none)) else (none)) else (none)) else (none)) else (none))))))) = some r := H
  have A3 := Aside0.mk A30
  clear A30
  replace H := Option.bind_eq_some_iff.mp H
  obtain ⟨⟨t221, t222⟩, A40, H⟩ := H
  replace H : ((rat_Div.f (⟨#[51]⟩ : ByteArray) (⟨#[45, 54]⟩ : ByteArray)).bind fun bt223 => ((rat_Div.f (⟨#[51]⟩ : ByteArray) (⟨#[48]⟩ : ByteArray)).bind fun bt225 => ((rat_Mul.f (⟨#[51]⟩ : ByteArray) (⟨#[54, 47, 50]⟩ : ByteArray)).bind fun bt227 => ((rat_Neg.f (⟨#[48]⟩ : ByteArray)).bind fun bt229 => (if t215.toList = ([45, 51, 47, 50] : List UInt8) then (if t216 = 0 then (if t218 = 21 then (if t220 = 12 then (if t221.toList = ([49, 47, 54] : List UInt8) then (if t222 = 0 then (if bt223.1.toList = ([45, 49, 47, 50] : List UInt8) then (if bt223.2 = 0 then (if bt225.2 = 21 then (if bt227.2 = 1 then (if bt229.1.toList = ([48] : List UInt8) then (if bt229.2 = 0 then ((rat_Cmp.f (⟨#[49, 47, 51]⟩ : ByteArray) (⟨#[49, 47, 50]⟩ : ByteArray)).bind fun t231 => (if t231 = (-1) then ((rat_Cmp.f (⟨#[45, 49, 47, 51]⟩ : ByteArray) (⟨#[45, 49, 47, 50]⟩ : ByteArray)).bind fun t232 => (if t232 = 1 then ((rat_Right.f (⟨#[48]⟩ : ByteArray)).bind fun t233 => (if t233 = true then ((rat_Right.f (⟨#[45, 48]⟩ : ByteArray)).bind fun t234 => (if t234 = true then (none) else ((rat_Right.f (⟨#[50, 47, 49]⟩ : ByteArray)).bind fun t235 => (some (!t235))))) else (none))) else (none))) else (none))) else (none)) else (none)) else (none)) else (none)) else (none)) else (none)) else (none)) else (none)) else (none)) else (none)) else (none)) else (none)))))) = some r := H
  have A4 := Aside0.mk A40
  clear A40
  replace H := Option.bind_eq_some_iff.mp H
  obtain ⟨⟨t223, t224⟩, A50, H⟩ := H
  replace H : ((rat_Div.f (⟨#[51]⟩ : ByteArray) (⟨#[48]⟩ : ByteArray)).bind fun bt225 => ((rat_Mul.f (⟨#[51]⟩ : ByteArray) (⟨#[54, 47, 50]⟩ : ByteArray)).bind fun bt227 => ((rat_Neg.f (⟨#[48]⟩ : ByteArray)).bind fun bt229 => (if t215.toList = ([45, 51, 47, 50] : List UInt8) then (if t216 = 0 then (if t218 = 21 then (if t220 = 12 then (if t221.toList = ([49, 47, 54] : List UInt8) then (if t222 = 0 then (if t223.toList = ([45, 49, 47, 50] : List UInt8) then (if t224 = 0 then (if bt225.2 = 21 then (if bt227.2 = 1 then (if bt229.1.toList = ([48] : List UInt8) then (if bt229.2 = 0 then ((rat_Cmp.f (⟨#[49, 47, 51]⟩ : ByteArray) (⟨#[49, 47, 50]⟩ : ByteArray)).bind fun t231 => (if t231 = (-1) then ((rat_Cmp.f (⟨#[45, 49, 47, 51]⟩ : ByteArray) (⟨#[45, 49, 47, 50]⟩ : ByteArray)).bind fun t232 => (if t232 = 1 then ((rat_Right.f (⟨#[48]⟩ : ByteArray)).bind fun t233 => (if t233 = true then ((rat_Right.f (⟨#[45, 48]⟩ : ByteArray)).bind fun t234 => (if t234 = true then (none) else ((rat_Right.f (⟨#[50, 47, 49]⟩ : ByteArray)).bind fun t235 => (some (!t235))))) else (none))) else (none))) else (none))) else (none)) else (none)) else (none)) else (none)) else (none)) else (none)) else (none)) else (none)) else (none)) else (none)) else (none)) else (none))))) = some r := H
  have A5 := Aside0.mk A50
  clear A50
  replace H := Option.bind_eq_some_iff.mp H
  obtain ⟨⟨t225, t226⟩, A60, H⟩ := H
  replace H : ((rat_Mul.f (⟨#[51]⟩ : ByteArray) (⟨#[54, 47, 50]⟩ : ByteArray)).bind fun bt227 => ((rat_Neg.f (⟨#[48]⟩ : ByteArray)).bind fun bt229 => (if t215.toList = ([45, 51, 47, 50] : List UInt8) then (if t216 = 0 then (if t218 = 21 then (if t220 = 12 then (if t221.toList = ([49, 47, 54] : List UInt8) then (if t222 = 0 then (if t223.toList = ([45, 49, 47, 50] : List UInt8) then (if t224 = 0 then (if t226 = 21 then (if bt227.2 = 1 then (if bt229.1.toList = ([48] : List UInt8) then (if bt229.2 = 0 then ((rat_Cmp.f (⟨#[49, 47, 51]⟩ : ByteArray) (⟨#[49, 47, 50]⟩ : ByteArray)).bind fun t231 => (if t231 = (-1) then ((rat_Cmp.f (⟨#[45, 49, 47, 51]⟩ : ByteArray) (⟨#[45, 49, 47, 50]⟩ : ByteArray)).bind fun t232 => (if t232 = 1 then ((rat_Right.f (⟨#[48]⟩ : ByteArray)).bind fun t233 => (if t233 = true then ((rat_Right.f (⟨#[45, 48]⟩ : ByteArray)).bind fun t234 => (if t234 = true then (none) else ((rat_Right.f (⟨#[50, 47, 49]⟩ : ByteArray)).bind fun t235 => (some (!t235))))) else (none))) else (none))) else (none))) else (none)) else (none)) else (none)) else (none)) else (none)) else (none)) else (none)) else (none)) else (none)) else (none)) else (none)) else (none)))) = some r := H
  have A6 := Aside0.mk A60
  clear A60
  replace H := Option.bind_eq_some_iff.mp H
  obtain ⟨⟨t227, t228⟩, A70, H⟩ := H
  replace H : ((rat_Neg.f (⟨#[48]⟩ : ByteArray)).bind fun bt229 => (if t215.toList = ([45, 51, 47, 50] : List UInt8) then (if t216 = 0 then (if t218 = 21 then (if t220 = 12 then (if t221.toList = ([49, 47, 54] : List UInt8) then (if t222 = 0 then (if t223.toList = ([45, 49, 47, 50] : List UInt8) then (if t224 = 0 then (if t226 = 21 then (if t228 = 1 then (if bt229.1.toList = ([48] : List UInt8) then (if bt229.2 = 0 then ((rat_Cmp.f (⟨#[49, 47, 51]⟩ : ByteArray) (⟨#[49, 47, 50]⟩ : ByteArray)).bind fun t231 => (if t231 = (-1) then ((rat_Cmp.f (⟨#[45, 49, 47, 51]⟩ : ByteArray) (⟨#[45, 49, 47, 50]⟩ : ByteArray)).bind fun t232 => (if t232 = 1 then ((rat_Right.f (⟨#[48]⟩ : ByteArray)).bind fun t233 => (if t233 = true then ((rat_Right.f (⟨#[45, 48]⟩ : ByteArray)).bind fun t234 => (if t234 = true then (none) else ((rat_Right.f (⟨#[50, 47, 49]⟩ : ByteArray)).bind fun t235 => (some (!t235))))) else (none))) else (none))) else (none))) else (none)) else (none)) else (none)) else (none)) else (none)) else (none)) else (none)) else (none)) else (none)) else (none)) else (none)) else (none))) = some r := H
  have A7 := Aside0.mk A70
  clear A70
  replace H := Option.bind_eq_some_iff.mp H
  obtain ⟨⟨t229, t230⟩, A80, H⟩ := H
  replace H : (if t215.toList = ([45, 51, 47, 50] : List UInt8) then (if t216 = 0 then (if t218 = 21 then (if t220 = 12 then (if t221.toList = ([49, 47, 54] : List UInt8) then (if t222 = 0 then (if t223.toList = ([45, 49, 47, 50] : List UInt8) then (if t224 = 0 then (if t226 = 21 then (if t228 = 1 then (if t229.toList = ([48] : List UInt8) then (if t230 = 0 then ((rat_Cmp.f (⟨#[49, 47, 51]⟩ : ByteArray) (⟨#[49, 47, 50]⟩ : ByteArray)).bind fun t231 => (if t231 = (-1) then ((rat_Cmp.f (⟨#[45, 49, 47, 51]⟩ : ByteArray) (⟨#[45, 49, 47, 50]⟩ : ByteArray)).bind fun t232 => (if t232 = 1 then ((rat_Right.f (⟨#[48]⟩ : ByteArray)).bind fun t233 => (if t233 = true then ((rat_Right.f (⟨#[45, 48]⟩ : ByteArray)).bind fun t234 => (if t234 = true then (none) else ((rat_Right.f (⟨#[50, 47, 49]⟩ : ByteArray)).bind fun t235 => (some (!t235))))) else (none))) else (none))) else (none))) else (none)) else (none)) else (none)) else (none)) else (none)) else (none)) else (none)) else (none)) else (none)) else (none)) else (none)) else (none)) = some r := H
  have A8 := Aside0.mk A80
  clear A80
  by_cases c9 : t215.toList = ([45, 51, 47, 50] : List UInt8)
  · rw [if_pos c9] at H
    have c9b0 : (t215.toList == ([45, 51, 47, 50] : List UInt8)) = true := beq_iff_eq.mpr c9
    have c9b1 : (t215.toList != ([45, 51, 47, 50] : List UInt8)) = false := bne_eq_false_iff_eq.mpr c9
    clear c9
    by_cases c10 : t216 = 0
    · rw [if_pos c10] at H
      have c10b0 : (t216 == 0) = true := beq_iff_eq.mpr c10
      have c10b1 : (t216 != 0) = false := bne_eq_false_iff_eq.mpr c10
      clear c10
      by_cases c11 : t218 = 21
      · rw [if_pos c11] at H
        have c11b0 : (t218 == 21) = true := beq_iff_eq.mpr c11
        have c11b1 : (t218 != 21) = false := bne_eq_false_iff_eq.mpr c11
        clear c11
        by_cases c12 : t220 = 12
        · rw [if_pos c12] at H
          have c12b0 : (t220 == 12) = true := beq_iff_eq.mpr c12
          have c12b1 : (t220 != 12) = false := bne_eq_false_iff_eq.mpr c12
          clear c12
          by_cases c13 : t221.toList = ([49, 47, 54] : List UInt8)
          · rw [if_pos c13] at H
            have c13b0 : (t221.toList == ([49, 47, 54] : List UInt8)) = true := beq_iff_eq.mpr c13
            have c13b1 : (t221.toList != ([49, 47, 54] : List UInt8)) = false := bne_eq_false_iff_eq.mpr c13
            clear c13
            by_cases c14 : t222 = 0
            · rw [if_pos c14] at H
              have c14b0 : (t222 == 0) = true := beq_iff_eq.mpr c14
              have c14b1 : (t222 != 0) = false := bne_eq_false_iff_eq.mpr c14
              clear c14
              by_cases c15 : t223.toList = ([45, 49, 47, 50] : List UInt8)
              · rw [if_pos c15] at H
                have c15b0 : (t223.toList == ([45, 49, 47, 50] : List UInt8)) = true := beq_iff_eq.mpr c15
                have c15b1 : (t223.toList != ([45, 49, 47, 50] : List UInt8)) = false := bne_eq_false_iff_eq.mpr c15
                clear c15
                by_cases c16 : t224 = 0
                · rw [if_pos c16] at H
                  have c16b0 : (t224 == 0) = true := beq_iff_eq.mpr c16
                  have c16b1 : (t224 != 0) = false := bne_eq_false_iff_eq.mpr c16
                  clear c16
                  by_cases c17 : t226 = 21
                  · rw [if_pos c17] at H
                    have c17b0 : (t226 == 21) = true := beq_iff_eq.mpr c17
                    have c17b1 : (t226 != 21) = false := bne_eq_false_iff_eq.mpr c17
                    clear c17
                    by_cases c18 : t228 = 1
                    · rw [if_pos c18] at H
                      have c18b0 : (t228 == 1) = true := beq_iff_eq.mpr c18
                      have c18b1 : (t228 != 1) = false := bne_eq_false_iff_eq.mpr c18
                      clear c18
                      by_cases c19 : t229.toList = ([48] : List UInt8)
                      · rw [if_pos c19] at H
                        have c19b0 : (t229.toList == ([48] : List UInt8)) = true := beq_iff_eq.mpr c19
                        have c19b1 : (t229.toList != ([48] : List UInt8)) = false := bne_eq_false_iff_eq.mpr c19
                        clear c19
                        by_cases c20 : t230 = 0
                        · rw [if_pos c20] at H
                          have c20b0 : (t230 == 0) = true := beq_iff_eq.mpr c20
                          have c20b1 : (t230 != 0) = false := bne_eq_false_iff_eq.mpr c20
                          clear c20
                          replace H := Option.bind_eq_some_iff.mp H
                          obtain ⟨t231, A210, H⟩ := H
                          replace H : (if t231 = (-1) then ((rat_Cmp.f (⟨#[45, 49, 47, 51]⟩ : ByteArray) (⟨#[45, 49, 47, 50]⟩ : ByteArray)).bind fun t232 => (if t232 = 1 then ((rat_Right.f (⟨#[48]⟩ : ByteArray)).bind fun t233 => (if t233 = true then ((rat_Right.f (⟨#[45, 48]⟩ : ByteArray)).bind fun t234 => (if t234 = true then (none) else ((rat_Right.f (⟨#[50, 47, 49]⟩ : ByteArray)).bind fun t235 => (some (!t235))))) else (none))) else (none))) else (none)) = some r := H
                          have A21 := Aside0.mk A210
                          clear A210
                          by_cases c22 : t231 = (-1)
                          · rw [if_pos c22] at H
                            have c22b0 : (t231 == (-1)) = true := beq_iff_eq.mpr c22
                            have c22b1 : (t231 != (-1)) = false := bne_eq_false_iff_eq.mpr c22
                            clear c22
                            replace H := Option.bind_eq_some_iff.mp H
                            obtain ⟨t232, A230, H⟩ := H
                            replace H : (if t232 = 1 then ((rat_Right.f (⟨#[48]⟩ : ByteArray)).bind fun t233 => (if t233 = true then ((rat_Right.f (⟨#[45, 48]⟩ : ByteArray)).bind fun t234 => (if t234 = true then (none) else ((rat_Right.f (⟨#[50, 47, 49]⟩ : ByteArray)).bind fun t235 => (some (!t235))))) else (none))) else (none)) = some r := H
                            have A23 := Aside0.mk A230
                            clear A230
                            by_cases c24 : t232 = 1
                            · rw [if_pos c24] at H
                              have c24b0 : (t232 == 1) = true := beq_iff_eq.mpr c24
                              have c24b1 : (t232 != 1) = false := bne_eq_false_iff_eq.mpr c24
                              clear c24
                              replace H := Option.bind_eq_some_iff.mp H
                              obtain ⟨t233, A250, H⟩ := H
                              replace H : (if t233 = true then ((rat_Right.f (⟨#[45, 48]⟩ : ByteArray)).bind fun t234 => (if t234 = true then (none) else ((rat_Right.f (⟨#[50, 47, 49]⟩ : ByteArray)).bind fun t235 => (some (!t235))))) else (none)) = some r := H
                              have A25 := Aside0.mk A250
                              clear A250
                              by_cases c26 : t233 = true
                              · subst c26
                                have H1 : ((rat_Right.f (⟨#[45, 48]⟩ : ByteArray)).bind fun t234 => (if t234 = true then (none) else ((rat_Right.f (⟨#[50, 47, 49]⟩ : ByteArray)).bind fun t235 => (some (!t235))))) = some r := by rw [if_pos rfl] at H; exact H
                                clear H
                                have H := H1
                                clear H1
                                replace H := Option.bind_eq_some_iff.mp H
                                obtain ⟨t234, A270, H⟩ := H
                                replace H : (if t234 = true then (none) else ((rat_Right.f (⟨#[50, 47, 49]⟩ : ByteArray)).bind fun t235 => (some (!t235)))) = some r := H
                                have A27 := Aside0.mk A270
                                clear A270
                                by_cases c28 : t234 = true
                                · subst c28
                                  have H1 : (none) = some r := by rw [if_pos rfl] at H; exact H
                                  clear H
                                  have H := H1
                                  clear H1
                                  exact absurd H (by simp)
                                · replace c28 := Bool.eq_false_iff.mpr c28
                                  subst c28
                                  have H1 : ((rat_Right.f (⟨#[50, 47, 49]⟩ : ByteArray)).bind fun t235 => (some (!t235))) = some r := by rw [if_neg (show ¬ (false = true) by decide)] at H; exact H
                                  clear H
                                  have H := H1
                                  clear H1
                                  replace H := Option.bind_eq_some_iff.mp H
                                  obtain ⟨t235, A290, H⟩ := H
                                  replace H : (some (!t235)) = some r := H
                                  have A29 := Aside0.mk A290
                                  clear A290
                                  obtain rfl := Option.some.inj H
                                  go_enter Tryd.func10, Tryd.ntmps10
                                  go_wp2_with (first | ((with_reducible refine gate_callee (f := 12) rfl ?_); refine goesL_ (some 18) rfl rfl Tryd.func12 (by kernel_rfl) rfl #[.string (⟨#[45, 54, 47, 52]⟩ : ByteArray)] rfl (by (try simp only [List.map_toArray, List.map_cons, List.map_nil]); first | done | rfl | (simp only [List.length_drop, List.length_take]; rfl)) ?_; (with_reducible refine (rat_Norm.calls (⟨#[45, 54, 47, 52]⟩ : ByteArray) t215 t216 _ A1.out).mono ?_); rintro e w30 ⟨rfl, hb⟩; refine ⟨_, rfl, ?_⟩; have n0_ := Aside0.mk (below_step (by repeat (first | (with_reducible first | exact HB.out | apply below_alloc | apply pw_below_drewN | apply below_drew1) | exact HB.out)) hb); clear HB; have HB := n0_; clear n0_; (try clear hb); (try clear hb2); (try clear hk); (try clear hi)) | ((with_reducible refine gate_callee (f := 12) rfl ?_); refine goesL_ (some 22) rfl rfl Tryd.func12 (by kernel_rfl) rfl #[.string (⟨#[49, 47, 48]⟩ : ByteArray)] rfl (by (try simp only [List.map_toArray, List.map_cons, List.map_nil]); first | done | rfl | (simp only [List.length_drop, List.length_take]; rfl)) ?_; (with_reducible refine (rat_Norm.calls (⟨#[49, 47, 48]⟩ : ByteArray) t217 t218 _ A2.out).mono ?_); rintro e w31 ⟨rfl, hb⟩; refine ⟨_, rfl, ?_⟩; have n0_ := Aside0.mk (below_step (by repeat (first | (with_reducible first | exact HB.out | apply below_alloc | apply pw_below_drewN | apply below_drew1) | exact HB.out)) hb); clear HB; have HB := n0_; clear n0_; (try clear hb); (try clear hb2); (try clear hk); (try clear hi)) | ((with_reducible refine gate_callee (f := 12) rfl ?_); refine goesL_ (some 26) rfl rfl Tryd.func12 (by kernel_rfl) rfl #[.string (⟨#[49, 47]⟩ : ByteArray)] rfl (by (try simp only [List.map_toArray, List.map_cons, List.map_nil]); first | done | rfl | (simp only [List.length_drop, List.length_take]; rfl)) ?_; (with_reducible refine (rat_Norm.calls (⟨#[49, 47]⟩ : ByteArray) t219 t220 _ A3.out).mono ?_); rintro e w32 ⟨rfl, hb⟩; refine ⟨_, rfl, ?_⟩; have n0_ := Aside0.mk (below_step (by repeat (first | (with_reducible first | exact HB.out | apply below_alloc | apply pw_below_drewN | apply below_drew1) | exact HB.out)) hb); clear HB; have HB := n0_; clear n0_; (try clear hb); (try clear hb2); (try clear hk); (try clear hi)) | ((with_reducible refine gate_callee (f := 14) rfl ?_); refine goesL_ (some 30) rfl rfl Tryd.func14 (by kernel_rfl) rfl #[.string (⟨#[49, 47, 50]⟩ : ByteArray), .string (⟨#[45, 49, 47, 51]⟩ : ByteArray)] rfl (by (try simp only [List.map_toArray, List.map_cons, List.map_nil]); first | done | rfl | (simp only [List.length_drop, List.length_take]; rfl)) ?_; (with_reducible refine (rat_Add.calls (⟨#[49, 47, 50]⟩ : ByteArray) (⟨#[45, 49, 47, 51]⟩ : ByteArray) t221 t222 _ A4.out).mono ?_); rintro e w33 ⟨rfl, hb⟩; refine ⟨_, rfl, ?_⟩; have n0_ := Aside0.mk (below_step (by repeat (first | (with_reducible first | exact HB.out | apply below_alloc | apply pw_below_drewN | apply below_drew1) | exact HB.out)) hb); clear HB; have HB := n0_; clear n0_; (try clear hb); (try clear hb2); (try clear hk); (try clear hi)) | ((with_reducible refine gate_callee (f := 24) rfl ?_); refine goesL_ (some 34) rfl rfl Tryd.func24 (by kernel_rfl) rfl #[.string (⟨#[51]⟩ : ByteArray), .string (⟨#[45, 54]⟩ : ByteArray)] rfl (by (try simp only [List.map_toArray, List.map_cons, List.map_nil]); first | done | rfl | (simp only [List.length_drop, List.length_take]; rfl)) ?_; (with_reducible refine (rat_Div.calls (⟨#[51]⟩ : ByteArray) (⟨#[45, 54]⟩ : ByteArray) t223 t224 _ A5.out).mono ?_); rintro e w34 ⟨rfl, hb⟩; refine ⟨_, rfl, ?_⟩; have n0_ := Aside0.mk (below_step (by repeat (first | (with_reducible first | exact HB.out | apply below_alloc | apply pw_below_drewN | apply below_drew1) | exact HB.out)) hb); clear HB; have HB := n0_; clear n0_; (try clear hb); (try clear hb2); (try clear hk); (try clear hi)) | ((with_reducible refine gate_callee (f := 24) rfl ?_); refine goesL_ (some 38) rfl rfl Tryd.func24 (by kernel_rfl) rfl #[.string (⟨#[51]⟩ : ByteArray), .string (⟨#[48]⟩ : ByteArray)] rfl (by (try simp only [List.map_toArray, List.map_cons, List.map_nil]); first | done | rfl | (simp only [List.length_drop, List.length_take]; rfl)) ?_; (with_reducible refine (rat_Div.calls (⟨#[51]⟩ : ByteArray) (⟨#[48]⟩ : ByteArray) t225 t226 _ A6.out).mono ?_); rintro e w35 ⟨rfl, hb⟩; refine ⟨_, rfl, ?_⟩; have n0_ := Aside0.mk (below_step (by repeat (first | (with_reducible first | exact HB.out | apply below_alloc | apply pw_below_drewN | apply below_drew1) | exact HB.out)) hb); clear HB; have HB := n0_; clear n0_; (try clear hb); (try clear hb2); (try clear hk); (try clear hi)) | ((with_reducible refine gate_callee (f := 22) rfl ?_); refine goesL_ (some 42) rfl rfl Tryd.func22 (by kernel_rfl) rfl #[.string (⟨#[51]⟩ : ByteArray), .string (⟨#[54, 47, 50]⟩ : ByteArray)] rfl (by (try simp only [List.map_toArray, List.map_cons, List.map_nil]); first | done | rfl | (simp only [List.length_drop, List.length_take]; rfl)) ?_; (with_reducible refine (rat_Mul.calls (⟨#[51]⟩ : ByteArray) (⟨#[54, 47, 50]⟩ : ByteArray) t227 t228 _ A7.out).mono ?_); rintro e w36 ⟨rfl, hb⟩; refine ⟨_, rfl, ?_⟩; have n0_ := Aside0.mk (below_step (by repeat (first | (with_reducible first | exact HB.out | apply below_alloc | apply pw_below_drewN | apply below_drew1) | exact HB.out)) hb); clear HB; have HB := n0_; clear n0_; (try clear hb); (try clear hb2); (try clear hk); (try clear hi)) | ((with_reducible refine gate_callee (f := 26) rfl ?_); refine goesL_ (some 46) rfl rfl Tryd.func26 (by kernel_rfl) rfl #[.string (⟨#[48]⟩ : ByteArray)] rfl (by (try simp only [List.map_toArray, List.map_cons, List.map_nil]); first | done | rfl | (simp only [List.length_drop, List.length_take]; rfl)) ?_; (with_reducible refine (rat_Neg.calls (⟨#[48]⟩ : ByteArray) t229 t230 _ A8.out).mono ?_); rintro e w37 ⟨rfl, hb⟩; refine ⟨_, rfl, ?_⟩; have n0_ := Aside0.mk (below_step (by repeat (first | (with_reducible first | exact HB.out | apply below_alloc | apply pw_below_drewN | apply below_drew1) | exact HB.out)) hb); clear HB; have HB := n0_; clear n0_; (try clear hb); (try clear hb2); (try clear hk); (try clear hi)) | (go_at_call 18; (with_reducible refine (rat_Cmp.calls (⟨#[49, 47, 51]⟩ : ByteArray) (⟨#[49, 47, 50]⟩ : ByteArray) t231 _ A21.out).mono ?_); rintro e w38 ⟨rfl, hb⟩; have n0_ := Aside0.mk (below_step (by repeat (first | (with_reducible first | exact HB.out | apply below_alloc | apply pw_below_drewN | apply below_drew1) | exact HB.out)) hb); clear HB; have HB := n0_; clear n0_; (try clear hb); (try clear hb2); (try clear hk); (try clear hi)) | (go_at_call 18; (with_reducible refine (rat_Cmp.calls (⟨#[45, 49, 47, 51]⟩ : ByteArray) (⟨#[45, 49, 47, 50]⟩ : ByteArray) t232 _ A23.out).mono ?_); rintro e w39 ⟨rfl, hb⟩; have n0_ := Aside0.mk (below_step (by repeat (first | (with_reducible first | exact HB.out | apply below_alloc | apply pw_below_drewN | apply below_drew1) | exact HB.out)) hb); clear HB; have HB := n0_; clear n0_; (try clear hb); (try clear hb2); (try clear hk); (try clear hi)) | (go_at_call 16; (with_reducible refine (rat_Right.calls (⟨#[48]⟩ : ByteArray) true _ A25.out).mono ?_); rintro e w40 ⟨rfl, hb⟩; have n0_ := Aside0.mk (below_step (by repeat (first | (with_reducible first | exact HB.out | apply below_alloc | apply pw_below_drewN | apply below_drew1) | exact HB.out)) hb); clear HB; have HB := n0_; clear n0_; (try clear hb); (try clear hb2); (try clear hk); (try clear hi)) | (go_at_call 16; (with_reducible refine (rat_Right.calls (⟨#[45, 48]⟩ : ByteArray) false _ A27.out).mono ?_); rintro e w41 ⟨rfl, hb⟩; have n0_ := Aside0.mk (below_step (by repeat (first | (with_reducible first | exact HB.out | apply below_alloc | apply pw_below_drewN | apply below_drew1) | exact HB.out)) hb); clear HB; have HB := n0_; clear n0_; (try clear hb); (try clear hb2); (try clear hk); (try clear hi)) | (go_at_call 16; (with_reducible refine (rat_Right.calls (⟨#[50, 47, 49]⟩ : ByteArray) t235 _ A29.out).mono ?_); rintro e w42 ⟨rfl, hb⟩; have n0_ := Aside0.mk (below_step (by repeat (first | (with_reducible first | exact HB.out | apply below_alloc | apply pw_below_drewN | apply below_drew1) | exact HB.out)) hb); clear HB; have HB := n0_; clear n0_; (try clear hb); (try clear hb2); (try clear hk); (try clear hi)))
                                  go_ret
                                  exact ⟨by first | rfl | (simp [errW_none, errW_some] <;> rfl) | (simp [*, errW_none, errW_some] <;> rfl), by repeat (first | (with_reducible first | exact HB.out | apply below_alloc | apply pw_below_drewN | apply below_drew1) | exact HB.out)⟩
                              · replace c26 := Bool.eq_false_iff.mpr c26
                                subst c26
                                have H1 : (none) = some r := by rw [if_neg (show ¬ (false = true) by decide)] at H; exact H
                                clear H
                                have H := H1
                                clear H1
                                exact absurd H (by simp)
                            · rw [if_neg c24] at H
                              exact absurd H (by simp)
                          · rw [if_neg c22] at H
                            exact absurd H (by simp)
                        · rw [if_neg c20] at H
                          exact absurd H (by simp)
                      · rw [if_neg c19] at H
                        exact absurd H (by simp)
                    · rw [if_neg c18] at H
                      exact absurd H (by simp)
                  · rw [if_neg c17] at H
                    exact absurd H (by simp)
                · rw [if_neg c16] at H
                  exact absurd H (by simp)
              · rw [if_neg c15] at H
                exact absurd H (by simp)
            · rw [if_neg c14] at H
              exact absurd H (by simp)
          · rw [if_neg c13] at H
            exact absurd H (by simp)
        · rw [if_neg c12] at H
          exact absurd H (by simp)
      · rw [if_neg c11] at H
        exact absurd H (by simp)
    · rw [if_neg c10] at H
      exact absurd H (by simp)
  · rw [if_neg c9] at H
    exact absurd H (by simp)

end Go.Proofs.YtfnhohpmhpbpmaaDoor.G
