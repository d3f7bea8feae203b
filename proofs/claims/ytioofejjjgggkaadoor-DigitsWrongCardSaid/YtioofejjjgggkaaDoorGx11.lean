-- Out of the translation, by a program of this repo (wip/tools/gprint.py). Lean checks it.
import Derived.Test.YtioofejjjgggkaaDoorGx0
import Derived.Test.YtioofejjjgggkaaDoorGDigRight
import Derived.Test.YtioofejjjgggkaaDoorGDigText
import Derived.Test.YtioofejjjgggkaaDoorGHead02
namespace Go.Proofs.YtioofejjjgggkaaDoor.G
open Go.RowKit Go.Proofs.YtioofejjjgggkaaDoorW.PrintWords Go.Proofs.YtioofejjjgggkaaDoorW.PrintLast Go.Proofs.YtioofejjjgggkaaDoorW.PrintMore
attribute [local go_sem] max2_int min2_int max_two min_two max_three min_three max_four min_four   -- for this text's walks alone
set_option linter.unusedVariables false
set_option linter.unusedSimpArgs false

/-! ### tribunallaw02_DigitsWrong: function 7 -/
def tribunallaw02_DigitsWrong.f (l0 : List Int) (a1 : Int) (a2 : Int) : Option (Bool) := (tribunallaw02_head.f).bind fun t344 => (if (l0.length : Int) > 60 then (some t344) else ((digits_Text.f l0).bind fun t345 => (if (wrap64 ((t345.size : Int) + 1)) = 0 then (none) else (if 0 ≤ (Int.tmod (wrap64 (a1)) (wrap64 ((t345.size : Int) + 1))) then (if (Int.tmod (wrap64 (a1)) (wrap64 ((t345.size : Int) + 1))) ≤ (t345.size : Int) then ((some (([a2] : List Int) : List Int)).bind fun y346 => (if (t345.extract 0 ((Int.tmod (wrap64 (a1)) (wrap64 ((t345.size : Int) + 1))) : Int).toNat).size + (strOfNums y346).size ≤ 9223372036854775807 then (if ((t345.extract 0 ((Int.tmod (wrap64 (a1)) (wrap64 ((t345.size : Int) + 1))) : Int).toNat) ++ (strOfNums y346)).size + (t345.extract ((Int.tmod (wrap64 (a1)) (wrap64 ((t345.size : Int) + 1))) : Int).toNat t345.size).size ≤ 9223372036854775807 then (if a2 ≥ 48 then (if a2 ≤ 57 then (if (Int.tmod (wrap64 (a1)) (wrap64 ((t345.size : Int) + 1))) > 0 then (if 0 < (t345.size : Int) then (if (bt t345 0) = 48 then (if (Int.tmod (wrap64 (a1)) (wrap64 ((t345.size : Int) + 1))) = 0 then (if t344 = true then ((digits_Right.f (((t345.extract 0 ((Int.tmod (wrap64 (a1)) (wrap64 ((t345.size : Int) + 1))) : Int).toNat) ++ (strOfNums y346)) ++ (t345.extract ((Int.tmod (wrap64 (a1)) (wrap64 ((t345.size : Int) + 1))) : Int).toNat t345.size))).bind fun t349 => (if (t349 == (a2 != 48)) = true then (if 1 + t345.size ≤ 9223372036854775807 then ((digits_Right.f ((⟨#[48]⟩ : ByteArray) ++ t345)).bind fun t350 => (if t350 = true then (none) else ((digits_Right.f ((⟨#[45]⟩ : ByteArray) ++ t345)).bind fun t351 => (some (!t351))))) else (none)) else (none))) else (none)) else (if t344 = true then ((digits_Right.f (((t345.extract 0 ((Int.tmod (wrap64 (a1)) (wrap64 ((t345.size : Int) + 1))) : Int).toNat) ++ (strOfNums y346)) ++ (t345.extract ((Int.tmod (wrap64 (a1)) (wrap64 ((t345.size : Int) + 1))) : Int).toNat t345.size))).bind fun t352 => (if (t352 == false) = true then (if 1 + t345.size ≤ 9223372036854775807 then ((digits_Right.f ((⟨#[48]⟩ : ByteArray) ++ t345)).bind fun t353 => (if t353 = true then (none) else ((digits_Right.f ((⟨#[45]⟩ : ByteArray) ++ t345)).bind fun t354 => (some (!t354))))) else (none)) else (none))) else (none))) else (if t344 = true then ((digits_Right.f (((t345.extract 0 ((Int.tmod (wrap64 (a1)) (wrap64 ((t345.size : Int) + 1))) : Int).toNat) ++ (strOfNums y346)) ++ (t345.extract ((Int.tmod (wrap64 (a1)) (wrap64 ((t345.size : Int) + 1))) : Int).toNat t345.size))).bind fun t355 => (if (t355 == true) = true then (if 1 + t345.size ≤ 9223372036854775807 then ((digits_Right.f ((⟨#[48]⟩ : ByteArray) ++ t345)).bind fun t356 => (if t356 = true then (none) else ((digits_Right.f ((⟨#[45]⟩ : ByteArray) ++ t345)).bind fun t357 => (some (!t357))))) else (none)) else (none))) else (none))) else (none)) else (if (Int.tmod (wrap64 (a1)) (wrap64 ((t345.size : Int) + 1))) = 0 then (if t344 = true then ((digits_Right.f (((t345.extract 0 ((Int.tmod (wrap64 (a1)) (wrap64 ((t345.size : Int) + 1))) : Int).toNat) ++ (strOfNums y346)) ++ (t345.extract ((Int.tmod (wrap64 (a1)) (wrap64 ((t345.size : Int) + 1))) : Int).toNat t345.size))).bind fun t358 => (if (t358 == (a2 != 48)) = true then (if 1 + t345.size ≤ 9223372036854775807 then ((digits_Right.f ((⟨#[48]⟩ : ByteArray) ++ t345)).bind fun t359 => (if t359 = true then (none) else ((digits_Right.f ((⟨#[45]⟩ : ByteArray) ++ t345)).bind fun t360 => (some (!t360))))) else (none)) else (none))) else (none)) else (if t344 = true then ((digits_Right.f (((t345.extract 0 ((Int.tmod (wrap64 (a1)) (wrap64 ((t345.size : Int) + 1))) : Int).toNat) ++ (strOfNums y346)) ++ (t345.extract ((Int.tmod (wrap64 (a1)) (wrap64 ((t345.size : Int) + 1))) : Int).toNat t345.size))).bind fun t361 => (if (t361 == false) = true then (if 1 + t345.size ≤ 9223372036854775807 then ((digits_Right.f ((⟨#[48]⟩ : ByteArray) ++ t345)).bind fun t362 => (if t362 = true then (none) else ((digits_Right.f ((⟨#[45]⟩ : ByteArray) ++ t345)).bind fun t363 => (some (!t363))))) else (none)) else (none))) else (none)))) else (if t344 = true then ((digits_Right.f (((t345.extract 0 ((Int.tmod (wrap64 (a1)) (wrap64 ((t345.size : Int) + 1))) : Int).toNat) ++ (strOfNums y346)) ++ (t345.extract ((Int.tmod (wrap64 (a1)) (wrap64 ((t345.size : Int) + 1))) : Int).toNat t345.size))).bind fun t364 => (if (t364 == false) = true then (if 1 + t345.size ≤ 9223372036854775807 then ((digits_Right.f ((⟨#[48]⟩ : ByteArray) ++ t345)).bind fun t365 => (if t365 = true then (none) else ((digits_Right.f ((⟨#[45]⟩ : ByteArray) ++ t345)).bind fun t366 => (some (!t366))))) else (none)) else (none))) else (none))) else (if t344 = true then ((digits_Right.f (((t345.extract 0 ((Int.tmod (wrap64 (a1)) (wrap64 ((t345.size : Int) + 1))) : Int).toNat) ++ (strOfNums y346)) ++ (t345.extract ((Int.tmod (wrap64 (a1)) (wrap64 ((t345.size : Int) + 1))) : Int).toNat t345.size))).bind fun t367 => (if (t367 == false) = true then (if 1 + t345.size ≤ 9223372036854775807 then ((digits_Right.f ((⟨#[48]⟩ : ByteArray) ++ t345)).bind fun t368 => (if t368 = true then (none) else ((digits_Right.f ((⟨#[45]⟩ : ByteArray) ++ t345)).bind fun t369 => (some (!t369))))) else (none)) else (none))) else (none))) else (none)) else (none))) else (none)) else (none)))))
def tribunallaw02_DigitsWrong.T6 : Bool × List (List Nat × List Nat) := (true, [([], []), ([], []), ([0, 1], [0, 1]), ([], []), ([3], [3]), ([4], [4]), ([2, 5], [2, 5]), ([], []), ([], []), ([7, 8], [7, 8]), ([6, 9], [6, 9]), ([10, 0, 1, 2, 3, 4, 5, 6, 7, 8, 9, 10], [10])])
def tribunallaw02_DigitsWrong.B6 : List Nat := [0, 0, 3, 0, 8, 24, 63, 0, 0, 384, 1023, 2047]
theorem tribunallaw02_DigitsWrong.tab6 : rtab .any (opsOf Tryd.f7 6) = tribunallaw02_DigitsWrong.T6 := by kernel_rfl
theorem tribunallaw02_DigitsWrong.bits6 : waitsOk tribunallaw02_DigitsWrong.T6.2 tribunallaw02_DigitsWrong.B6 = true := by kernel_rfl
set_option maxHeartbeats 8000000 in
set_option maxRecDepth 100000 in
theorem tribunallaw02_DigitsWrong.calls (A0 : Option Addr) (c0 : Nat) (l0 : List Int) (a1 : Int) (a2 : Int) (r : Bool) (w : World) (hr0 : Kd.C (Kd.int .u32) w A0 l0.length l0) (hc0 : l0.length ≤ c0) (h : tribunallaw02_DigitsWrong.f l0 a1 a2 = some r) :
    Calls Tryd.prog 7 #[.slice A0 l0.length c0, .int .u8 a1, .int .u8 a2] w fun e w' => e = .returned (.bool r) ∧ Below w.heap.size w w' := by
  have HR0 := Aside0.mk hr0
  have HC0 := Aside0.mk hc0
  clear hr0 hc0
  have HB := Aside0.mk (Below.refl w.heap.size w)
  have H : ((tribunallaw02_head.f).bind fun t344 => (if (l0.length : Int) > 60 then (some t344) else ((digits_Text.f l0).bind fun t345 => (if (wrap64 ((t345.size : Int) + 1)) = 0 then (none) else (if 0 ≤ (Int.tmod (wrap64 (a1)) (wrap64 ((t345.size : Int) + 1))) then (if (Int.tmod (wrap64 (a1)) (wrap64 ((t345.size : Int) + 1))) ≤ (t345.size : Int) then ((some (([a2] : List Int) : List Int)).bind fun y346 => (if (t345.extract 0 ((Int.tmod (wrap64 (a1)) (wrap64 ((t345.size : Int) + 1))) : Int).toNat).size + (strOfNums y346).size ≤ 9223372036854775807 then (if ((t345.extract 0 ((Int.tmod (wrap64 (a1)) (wrap64 ((t345.size : Int) + 1))) : Int).toNat) ++ (strOfNums y346)).size + (t345.extract ((Int.tmod (wrap64 (a1)) (wrap64 ((t345.size : Int) + 1))) : Int).toNat t345.size).size ≤ 9223372036854775807 then (if a2 ≥ 48 then (if a2 ≤ 57 then (if (Int.tmod (wrap64 (a1)) (wrap64 ((t345.size : Int) + 1))) > 0 then (if 0 < (t345.size : Int) then (if (bt t345 0) = 48 then (if (Int.tmod (wrap64 (a1)) (wrap64 ((t345.size : Int) + 1))) = 0 then (if t344 = true then ((digits_Right.f (((t345.extract 0 ((Int.tmod (wrap64 (a1)) (wrap64 ((t345.size : Int) + 1))) : Int).toNat) ++ (strOfNums y346)) ++ (t345.extract ((Int.tmod (wrap64 (a1)) (wrap64 ((t345.size : Int) + 1))) : Int).toNat t345.size))).bind fun t349 => (if (t349 == (a2 != 48)) = true then (if 1 + t345.size ≤ 9223372036854775807 then ((digits_Right.f ((⟨#[48]⟩ : ByteArray) ++ t345)).bind fun t350 => (if t350 = true then (none) else ((digits_Right.f ((⟨#[45]⟩ : ByteArray) ++ t345)).bind fun t351 => (some (!t351))))) else (none)) else (none))) else (none)) else (if t344 = true then ((digits_Right.f (((t345.extract 0 ((Int.tmod (wrap64 (a1)) (wrap64 ((t345.size : Int) + 1))) : Int).toNat) ++ (strOfNums y346)) ++ (t345.extract ((Int.tmod (wrap64 (a1)) (wrap64 ((t345.size : Int) + 1))) : Int).toNat t345.size))).bind fun t352 => (if (t352 == false) = true then (if 1 + t345.size ≤ 9223372036854775807 then ((digits_Right.f ((⟨#[48]⟩ : ByteArray) ++ t345)).bind fun t353 => (if t353 = true then (none) else ((digits_Right.f ((⟨#[45]⟩ : ByteArray) ++ t345)).bind fun t354 => (some (!t354))))) else (none)) else (none))) else (none))) else (if t344 = true then ((digits_Right.f (((t345.extract 0 ((Int.tmod (wrap64 (a1)) (wrap64 ((t345.size : Int) + 1))) : Int).toNat) ++ (strOfNums y346)) ++ (t345.extract ((Int.tmod (wrap64 (a1)) (wrap64 ((t345.size : Int) + 1))) : Int).toNat t345.size))).bind fun t355 => (if (t355 == true) = true then (if 1 + t345.size ≤ 9223372036854775807 then ((digits_Right.f ((⟨#[48]⟩ : ByteArray) ++ t345)).bind fun t356 => (if t356 = true then (none) else ((digits_Right.f ((⟨#[45]⟩ : ByteArray) ++ t345)).bind fun t357 => (some (!t357))))) else (none)) else (none))) else (none))) else (none)) else (if (Int.tmod (wrap64 (a1)) (wrap64 ((t345.size : Int) + 1))) = 0 then (if t344 = true then ((digits_Right.f (((t345.extract 0 ((Int.tmod (wrap64 (a1)) (wrap64 ((t345.size : Int) + 1))) : Int).toNat) ++ (strOfNums y346)) ++ (t345.extract ((Int.tmod (wrap64 (a1)) (wrap64 ((t345.size : Int) + 1))) : Int).toNat t345.size))).bind fun t358 => (if (t358 == (a2 != 48)) = true then (if 1 + t345.size ≤ 9223372036854775807 then ((digits_Right.f ((⟨#[48]⟩ : ByteArray) ++ t345)).bind fun t359 => (if t359 = true then (none) else ((digits_Right.f ((⟨#[45]⟩ : ByteArray) ++ t345)).bind fun t360 => (some (!t360))))) else (none)) else (none))) else (none)) else (if t344 = true then ((digits_Right.f (((t345.extract 0 ((Int.tmod (wrap64 (a1)) (wrap64 ((t345.size : Int) + 1))) : Int).toNat) ++ (strOfNums y346)) ++ (t345.extract ((Int.tmod (wrap64 (a1)) (wrap64 ((t345.size : Int) + 1))) : Int).toNat t345.size))).bind fun t361 => (if (t361 == false) = true then (if 1 + t345.size ≤ 9223372036854775807 then ((digits_Right.f ((⟨#[48]⟩ : ByteArray) ++ t345)).bind fun t362 => (if t362 = true then (none) else ((digits_Right.f ((⟨#[45]⟩ : ByteArray) ++ t345)).bind fun t363 => (some (!t363))))) else (none)) else (none))) else (none)))) else (if t344 = true then ((digits_Right.f (((t345.extract 0 ((Int.tmod (wrap64 (a1)) (wrap64 ((t345.size : Int) + 1))) : Int).toNat) ++ (strOfNums y346)) ++ (t345.extract ((Int.tmod (wrap64 (a1)) (wrap64 ((t345.size : Int) + 1))) : Int).toNat t345.size))).bind fun t364 => (if (t364 == false) = true then (if 1 + t345.size ≤ 9223372036854775807 then ((digits_Right.f ((⟨#[48]⟩ : ByteArray) ++ t345)).bind fun t365 => (if t365 = true then (none) else ((digits_Right.f ((⟨#[45]⟩ : ByteArray) ++ t345)).bind fun t366 => (some (!t366))))) else (none)) else (none))) else (none))) else (if t344 = true then ((digits_Right.f (((t345.extract 0 ((Int.tmod (wrap64 (a1)) (wrap64 ((t345.size : Int) + 1))) : Int).toNat) ++ (strOfNums y346)) ++ (t345.extract ((Int.tmod (wrap64 (a1)) (wrap64 ((t345.size : Int) + 1))) : Int).toNat t345.size))).bind fun t367 => (if (t367 == false) = true then (if 1 + t345.size ≤ 9223372036854775807 then ((digits_Right.f ((⟨#[48]⟩ : ByteArray) ++ t345)).bind fun t368 => (if t368 = true then (none) else ((digits_Right.f ((⟨#[45]⟩ : ByteArray) ++ t345)).bind fun t369 => (some (!t369))))) else (none)) else (none))) else (none))) else (none)) else (none))) else (none)) else (none)))))) = some r := h
  clear h
  replace H := Option.bind_eq_some_iff.mp H
  obtain ⟨t344, A40, H⟩ := H
  replace H : (if (l0.length : Int) > 60 then (some t344) else ((digits_Text.f l0).bind fun t345 => (if (wrap64 ((t345.size : Int) + 1)) = 0 then (none) else (if 0 ≤ (Int.tmod (wrap64 (a1)) (wrap64 ((t345.size : Int) + 1))) then (if (Int.tmod (wrap64 (a1)) (wrap64 ((t345.size : Int) + 1))) ≤ (t345.size : Int) then ((some (([a2] : List Int) : List Int)).bind fun y346 => (if (t345.extract 0 ((Int.tmod (wrap64 (a1)) (wrap64 ((t345.size : Int) + 1))) : Int).toNat).size + (strOfNums y346).size ≤ 9223372036854775807 then (if ((t345.extract 0 ((Int.tmod (wrap64 (a1)) (wrap64 ((t345.size : Int) + 1))) : Int).toNat) ++ (strOfNums y346)).size + (t345.extract ((Int.tmod (wrap64 (a1)) (wrap64 ((t345.size : Int) + 1))) : Int).toNat t345.size).size ≤ 9223372036854775807 then (if a2 ≥ 48 then (if a2 ≤ 57 then (if (Int.tmod (wrap64 (a1)) (wrap64 ((t345.size : Int) + 1))) > 0 then (if 0 < (t345.size : Int) then (if (bt t345 0) = 48 then (if (Int.tmod (wrap64 (a1)) (wrap64 ((t345.size : Int) + 1))) = 0 then (if t344 = true then ((digits_Right.f (((t345.extract 0 ((Int.tmod (wrap64 (a1)) (wrap64 ((t345.size : Int) + 1))) : Int).toNat) ++ (strOfNums y346)) ++ (t345.extract ((Int.tmod (wrap64 (a1)) (wrap64 ((t345.size : Int) + 1))) : Int).toNat t345.size))).bind fun t349 => (if (t349 == (a2 != 48)) = true then (if 1 + t345.size ≤ 9223372036854775807 then ((digits_Right.f ((⟨#[48]⟩ : ByteArray) ++ t345)).bind fun t350 => (if t350 = true then (none) else ((digits_Right.f ((⟨#[45]⟩ : ByteArray) ++ t345)).bind fun t351 => (some (!t351))))) else (none)) else (none))) else (none)) else (if t344 = true then ((digits_Right.f (((t345.extract 0 ((Int.tmod (wrap64 (a1)) (wrap64 ((t345.size : Int) + 1))) : Int).toNat) ++ (strOfNums y346)) ++ (t345.extract ((Int.tmod (wrap64 (a1)) (wrap64 ((t345.size : Int) + 1))) : Int).toNat t345.size))).bind fun t352 => (if (t352 == false) = true then (if 1 + t345.size ≤ 9223372036854775807 then ((digits_Right.f ((⟨#[48]⟩ : ByteArray) ++ t345)).bind fun t353 => (if t353 = true then (none) else ((digits_Right.f ((⟨#[45]⟩ : ByteArray) ++ t345)).bind fun t354 => (some (!t354))))) else (none)) else (none))) else (none))) else (if t344 = true then ((digits_Right.f (((t345.extract 0 ((Int.tmod (wrap64 (a1)) (wrap64 ((t345.size : Int) + 1))) : Int).toNat) ++ (strOfNums y346)) ++ (t345.extract ((Int.tmod (wrap64 (a1)) (wrap64 ((t345.size : Int) + 1))) : Int).toNat t345.size))).bind fun t355 => (if (t355 == true) = true then (if 1 + t345.size ≤ 9223372036854775807 then ((digits_Right.f ((⟨#[48]⟩ : ByteArray) ++ t345)).bind fun t356 => (if t356 = true then (none) else ((digits_Right.f ((⟨#[45]⟩ : ByteArray) ++ t345)).bind fun t357 => (some (!t357))))) else (none)) else (none))) else (none))) else (none)) else (if (Int.tmod (wrap64 (a1)) (wrap64 ((t345.size : Int) + 1))) = 0 then (if t344 = true then ((digits_Right.f (((t345.extract 0 ((Int.tmod (wrap64 (a1)) (wrap64 ((t345.size : Int) + 1))) : Int).toNat) ++ (strOfNums y346)) ++ (t345.extract ((Int.tmod (wrap64 (a1)) (wrap64 ((t345.size : Int) + 1))) : Int).toNat t345.size))).bind fun t358 => (if (t358 == (a2 != 48)) = true then (if 1 + t345.size ≤ 9223372036854775807 then ((digits_Right.f ((⟨#[48]⟩ : ByteArray) ++ t345)).bind fun t359 => (if t359 = true then (none) else ((digits_Right.f ((⟨#[45]⟩ : ByteArray) ++ t345)).bind fun t360 => (some (!t360))))) else (none)) else (none))) else (none)) else (if t344 = true then ((digits_Right.f (((t345.extract 0 ((Int.tmod (wrap64 (a1)) (wrap64 ((t345.size : Int) + 1))) : Int).toNat) ++ (strOfNums y346)) ++ (t345.extract ((Int.tmod (wrap64 (a1)) (wrap64 ((t345.size : Int) + 1))) : Int).toNat t345.size))).bind fun t361 => (if (t361 == false) = true then (if 1 + t345.size ≤ 9223372036854775807 then ((digits_Right.f ((⟨#[48]⟩ : ByteArray) ++ t345)).bind fun t362 => (if t362 = true then (none) else ((digits_Right.f ((⟨#[45]⟩ : ByteArray) ++ t345)).bind fun t363 => (some (!t363))))) else (none)) else (none))) else (none)))) else (if t344 = true then ((digits_Right.f (((t345.extract 0 ((Int.tmod (wrap64 (a1)) (wrap64 ((t345.size : Int) + 1))) : Int).toNat) ++ (strOfNums y346)) ++ (t345.extract ((Int.tmod (wrap64 (a1)) (wrap64 ((t345.size : Int) + 1))) : Int).toNat t345.size))).bind fun t364 => (if (t364 == false) = true then (if 1 + t345.size ≤ 9223372036854775807 then ((digits_Right.f ((⟨#[48]⟩ : ByteArray) ++ t345)).bind fun t365 => (if t365 = true then (none) else ((digits_Right.f ((⟨#[45]⟩ : ByteArray) ++ t345)).bind fun t366 => (some (!t366))))) else (none)) else (none))) else (none))) else (if t344 = true then ((digits_Right.f (((t345.extract 0 ((Int.tmod (wrap64 (a1)) (wrap64 ((t345.size : Int) + 1))) : Int).toNat) ++ (strOfNums y346)) ++ (t345.extract ((Int.tmod (wrap64 (a1)) (wrap64 ((t345.size : Int) + 1))) : Int).toNat t345.size))).bind fun t367 => (if (t367 == false) = true then (if 1 + t345.size ≤ 9223372036854775807 then ((digits_Right.f ((⟨#[48]⟩ : ByteArray) ++ t345)).bind fun t368 => (if t368 = true then (none) else ((digits_Right.f ((⟨#[45]⟩ : ByteArray) ++ t345)).bind fun t369 => (some (!t369))))) else (none)) else (none))) else (none))) else (none)) else (none))) else (none)) else (none))))) = some r := H
  have A4 := Aside0.mk A40
  clear A40
  by_cases c5 : (l0.length : Int) > 60
  · rw [if_pos c5] at H
    have c5b0 : decide (60 < (l0.length : Int)) = true := decide_eq_true c5
    have c5b1 : decide (60 < l0.length) = true := decide_eq_true (by omega)
    clear c5
    obtain rfl := Option.some.inj H
    go_enter Tryd.func7, Tryd.ntmps7
    go_wp2_with (first | ((with_reducible refine gate_callee (f := 10) rfl ?_); refine goesL_ (some 13) rfl rfl Tryd.func10 (by kernel_rfl) rfl #[] rfl (by (try simp only [List.map_toArray, List.map_cons, List.map_nil]); first | done | rfl | (simp only [List.length_drop, List.length_take]; rfl)) ?_; (with_reducible refine (tribunallaw02_head.calls  t344 _ A4.out).mono ?_); rintro e w6 ⟨rfl, hb⟩; refine ⟨_, rfl, ?_⟩; have n0_ := Aside0.mk (below_step (by repeat (first | (with_reducible first | exact HB.out | apply below_alloc | apply pw_below_drewN | apply below_drew1) | exact HB.out)) hb); clear HB; have HB := n0_; clear n0_; (try clear hb); (try clear hb2); (try clear hk); (try clear hi)))
    go_ret
    exact ⟨by first | rfl | (simp [errW_none, errW_some] <;> rfl) | (simp [*, errW_none, errW_some] <;> rfl), by repeat (first | (with_reducible first | exact HB.out | apply below_alloc | apply pw_below_drewN | apply below_drew1) | exact HB.out)⟩
  · rw [if_neg c5] at H
    have c5b0 : decide (60 < (l0.length : Int)) = false := decide_eq_false c5
    have c5b1 : decide (60 < l0.length) = false := decide_eq_false (by omega)
    clear c5
    replace H := Option.bind_eq_some_iff.mp H
    obtain ⟨t345, A70, H⟩ := H
    replace H : (if (wrap64 ((t345.size : Int) + 1)) = 0 then (none) else (if 0 ≤ (Int.tmod (wrap64 (a1)) (wrap64 ((t345.size : Int) + 1))) then (if (Int.tmod (wrap64 (a1)) (wrap64 ((t345.size : Int) + 1))) ≤ (t345.size : Int) then ((some (([a2] : List Int) : List Int)).bind fun y346 => (if (t345.extract 0 ((Int.tmod (wrap64 (a1)) (wrap64 ((t345.size : Int) + 1))) : Int).toNat).size + (strOfNums y346).size ≤ 9223372036854775807 then (if ((t345.extract 0 ((Int.tmod (wrap64 (a1)) (wrap64 ((t345.size : Int) + 1))) : Int).toNat) ++ (strOfNums y346)).size + (t345.extract ((Int.tmod (wrap64 (a1)) (wrap64 ((t345.size : Int) + 1))) : Int).toNat t345.size).size ≤ 9223372036854775807 then (if a2 ≥ 48 then (if a2 ≤ 57 then (if (Int.tmod (wrap64 (a1)) (wrap64 ((t345.size : Int) + 1))) > 0 then (if 0 < (t345.size : Int) then (if (bt t345 0) = 48 then (if (Int.tmod (wrap64 (a1)) (wrap64 ((t345.size : Int) + 1))) = 0 then (if t344 = true then ((digits_Right.f (((t345.extract 0 ((Int.tmod (wrap64 (a1)) (wrap64 ((t345.size : Int) + 1))) : Int).toNat) ++ (strOfNums y346)) ++ (t345.extract ((Int.tmod (wrap64 (a1)) (wrap64 ((t345.size : Int) + 1))) : Int).toNat t345.size))).bind fun t349 => (if (t349 == (a2 != 48)) = true then (if 1 + t345.size ≤ 9223372036854775807 then ((digits_Right.f ((⟨#[48]⟩ : ByteArray) ++ t345)).bind fun t350 => (if t350 = true then (none) else ((digits_Right.f ((⟨#[45]⟩ : ByteArray) ++ t345)).bind fun t351 => (some (!t351))))) else (none)) else (none))) else (none)) else (if t344 = true then ((digits_Right.f (((t345.extract 0 ((Int.tmod (wrap64 (a1)) (wrap64 ((t345.size : Int) + 1))) : Int).toNat) ++ (strOfNums y346)) ++ (t345.extract ((Int.tmod (wrap64 (a1)) (wrap64 ((t345.size : Int) + 1))) : Int).toNat t345.size))).bind fun t352 => (if (t352 == false) = true then (if 1 + t345.size ≤ 9223372036854775807 then ((digits_Right.f ((⟨#[48]⟩ : ByteArray) ++ t345)).bind fun t353 => (if t353 = true then (none) else ((digits_Right.f ((⟨#[45]⟩ : ByteArray) ++ t345)).bind fun t354 => (some (!t354))))) else (none)) else (none))) else (none))) else (if t344 = true then ((digits_Right.f (((t345.extract 0 ((Int.tmod (wrap64 (a1)) (wrap64 ((t345.size : Int) + 1))) : Int).toNat) ++ (strOfNums y346)) ++ (t345.extract ((Int.tmod (wrap64 (a1)) (wrap64 ((t345.size : Int) + 1))) : Int).toNat t345.size))).bind fun t355 => (if (t355 == true) = true then (if 1 + t345.size ≤ 9223372036854775807 then ((digits_Right.f ((⟨#[48]⟩ : ByteArray) ++ t345)).bind fun t356 => (if t356 = true then (none) else ((digits_Right.f ((⟨#[45]⟩ : ByteArray) ++ t345)).bind fun t357 => (some (!t357))))) else (none)) else (none))) else (none))) else (none)) else (if (Int.tmod (wrap64 (a1)) (wrap64 ((t345.size : Int) + 1))) = 0 then (if t344 = true then ((digits_Right.f (((t345.extract 0 ((Int.tmod (wrap64 (a1)) (wrap64 ((t345.size : Int) + 1))) : Int).toNat) ++ (strOfNums y346)) ++ (t345.extract ((Int.tmod (wrap64 (a1)) (wrap64 ((t345.size : Int) + 1))) : Int).toNat t345.size))).bind fun t358 => (if (t358 == (a2 != 48)) = true then (if 1 + t345.size ≤ 9223372036854775807 then ((digits_Right.f ((⟨#[48]⟩ : ByteArray) ++ t345)).bind fun t359 => (if t359 = true then (none) else ((digits_Right.f ((⟨#[45]⟩ : ByteArray) ++ t345)).bind fun t360 => (some (!t360))))) else (none)) else (none))) else (none)) else (if t344 = true then ((digits_Right.f (((t345.extract 0 ((Int.tmod (wrap64 (a1)) (wrap64 ((t345.size : Int) + 1))) : Int).toNat) ++ (strOfNums y346)) ++ (t345.extract ((Int.tmod (wrap64 (a1)) (wrap64 ((t345.size : Int) + 1))) : Int).toNat t345.size))).bind fun t361 => (if (t361 == false) = true then (if 1 + t345.size ≤ 9223372036854775807 then ((digits_Right.f ((⟨#[48]⟩ : ByteArray) ++ t345)).bind fun t362 => (if t362 = true then (none) else ((digits_Right.f ((⟨#[45]⟩ : ByteArray) ++ t345)).bind fun t363 => (some (!t363))))) else (none)) else (none))) else (none)))) else (if t344 = true then ((digits_Right.f (((t345.extract 0 ((Int.tmod (wrap64 (a1)) (wrap64 ((t345.size : Int) + 1))) : Int).toNat) ++ (strOfNums y346)) ++ (t345.extract ((Int.tmod (wrap64 (a1)) (wrap64 ((t345.size : Int) + 1))) : Int).toNat t345.size))).bind fun t364 => (if (t364 == false) = true then (if 1 + t345.size ≤ 9223372036854775807 then ((digits_Right.f ((⟨#[48]⟩ : ByteArray) ++ t345)).bind fun t365 => (if t365 = true then (none) else ((digits_Right.f ((⟨#[45]⟩ : ByteArray) ++ t345)).bind fun t366 => (some (!t366))))) else (none)) else (none))) else (none))) else (if t344 = true then ((digits_Right.f (((t345.extract 0 ((Int.tmod (wrap64 (a1)) (wrap64 ((t345.size : Int) + 1))) : Int).toNat) ++ (strOfNums y346)) ++ (t345.extract ((Int.tmod (wrap64 (a1)) (wrap64 ((t345.size : Int) + 1))) : Int).toNat t345.size))).bind fun t367 => (if (t367 == false) = true then (if 1 + t345.size ≤ 9223372036854775807 then ((digits_Right.f ((⟨#[48]⟩ : ByteArray) ++ t345)).bind fun t368 => (if t368 = true then (none) else ((digits_Right.f ((⟨#[45]⟩ : ByteArray) ++ t345)).bind fun t369 => (some (!t369))))) else (none)) else (none))) else (none))) else (none)) else (none))) else (none)) else (none))) = some r := H
    have A7 := Aside0.mk A70
    clear A70
    by_cases c8 : (wrap64 ((t345.size : Int) + 1)) = 0
    · rw [if_pos c8] at H
      exact absurd H (by simp)
    · rw [if_neg c8] at H
      have c8b0 : ((wrap64 ((t345.size : Int) + 1)) == 0) = false := beq_eq_false_iff_ne.mpr c8
      have c8b1 : ((wrap64 ((t345.size : Int) + 1)) != 0) = true := bne_iff_ne.mpr c8
      obtain ⟨ji9, hji9⟩ : ∃ j_ : Int, (Int.tmod (wrap64 (a1)) (wrap64 ((t345.size : Int) + 1))) = j_ := ⟨_, rfl⟩
      replace H : (if 0 ≤ (ji9) then (if (ji9) ≤ (t345.size : Int) then ((some (([a2] : List Int) : List Int)).bind fun y346 => (if (t345.extract 0 ((ji9) : Int).toNat).size + (strOfNums y346).size ≤ 9223372036854775807 then (if ((t345.extract 0 ((ji9) : Int).toNat) ++ (strOfNums y346)).size + (t345.extract ((ji9) : Int).toNat t345.size).size ≤ 9223372036854775807 then (if a2 ≥ 48 then (if a2 ≤ 57 then (if (ji9) > 0 then (if 0 < (t345.size : Int) then (if (bt t345 0) = 48 then (if (ji9) = 0 then (if t344 = true then ((digits_Right.f (((t345.extract 0 ((ji9) : Int).toNat) ++ (strOfNums y346)) ++ (t345.extract ((ji9) : Int).toNat t345.size))).bind fun t349 => (if (t349 == (a2 != 48)) = true then (if 1 + t345.size ≤ 9223372036854775807 then ((digits_Right.f ((⟨#[48]⟩ : ByteArray) ++ t345)).bind fun t350 => (if t350 = true then (none) else ((digits_Right.f ((⟨#[45]⟩ : ByteArray) ++ t345)).bind fun t351 => (some (!t351))))) else (none)) else (none))) else (none)) else (if t344 = true then ((digits_Right.f (((t345.extract 0 ((ji9) : Int).toNat) ++ (strOfNums y346)) ++ (t345.extract ((ji9) : Int).toNat t345.size))).bind fun t352 => (if (t352 == false) = true then (if 1 + t345.size ≤ 9223372036854775807 then ((digits_Right.f ((⟨#[48]⟩ : ByteArray) ++ t345)).bind fun t353 => (if t353 = true then (none) else ((digits_Right.f ((⟨#[45]⟩ : ByteArray) ++ t345)).bind fun t354 => (some (!t354))))) else (none)) else (none))) else (none))) else (if t344 = true then ((digits_Right.f (((t345.extract 0 ((ji9) : Int).toNat) ++ (strOfNums y346)) ++ (t345.extract ((ji9) : Int).toNat t345.size))).bind fun t355 => (if (t355 == true) = true then (if 1 + t345.size ≤ 9223372036854775807 then ((digits_Right.f ((⟨#[48]⟩ : ByteArray) ++ t345)).bind fun t356 => (if t356 = true then (none) else ((digits_Right.f ((⟨#[45]⟩ : ByteArray) ++ t345)).bind fun t357 => (some (!t357))))) else (none)) else (none))) else (none))) else (none)) else (if (ji9) = 0 then (if t344 = true then ((digits_Right.f (((t345.extract 0 ((ji9) : Int).toNat) ++ (strOfNums y346)) ++ (t345.extract ((ji9) : Int).toNat t345.size))).bind fun t358 => (if (t358 == (a2 != 48)) = true then (if 1 + t345.size ≤ 9223372036854775807 then ((digits_Right.f ((⟨#[48]⟩ : ByteArray) ++ t345)).bind fun t359 => (if t359 = true then (none) else ((digits_Right.f ((⟨#[45]⟩ : ByteArray) ++ t345)).bind fun t360 => (some (!t360))))) else (none)) else (none))) else (none)) else (if t344 = true then ((digits_Right.f (((t345.extract 0 ((ji9) : Int).toNat) ++ (strOfNums y346)) ++ (t345.extract ((ji9) : Int).toNat t345.size))).bind fun t361 => (if (t361 == false) = true then (if 1 + t345.size ≤ 9223372036854775807 then ((digits_Right.f ((⟨#[48]⟩ : ByteArray) ++ t345)).bind fun t362 => (if t362 = true then (none) else ((digits_Right.f ((⟨#[45]⟩ : ByteArray) ++ t345)).bind fun t363 => (some (!t363))))) else (none)) else (none))) else (none)))) else (if t344 = true then ((digits_Right.f (((t345.extract 0 ((ji9) : Int).toNat) ++ (strOfNums y346)) ++ (t345.extract ((ji9) : Int).toNat t345.size))).bind fun t364 => (if (t364 == false) = true then (if 1 + t345.size ≤ 9223372036854775807 then ((digits_Right.f ((⟨#[48]⟩ : ByteArray) ++ t345)).bind fun t365 => (if t365 = true then (none) else ((digits_Right.f ((⟨#[45]⟩ : ByteArray) ++ t345)).bind fun t366 => (some (!t366))))) else (none)) else (none))) else (none))) else (if t344 = true then ((digits_Right.f (((t345.extract 0 ((ji9) : Int).toNat) ++ (strOfNums y346)) ++ (t345.extract ((ji9) : Int).toNat t345.size))).bind fun t367 => (if (t367 == false) = true then (if 1 + t345.size ≤ 9223372036854775807 then ((digits_Right.f ((⟨#[48]⟩ : ByteArray) ++ t345)).bind fun t368 => (if t368 = true then (none) else ((digits_Right.f ((⟨#[45]⟩ : ByteArray) ++ t345)).bind fun t369 => (some (!t369))))) else (none)) else (none))) else (none))) else (none)) else (none))) else (none)) else (none)) = some r := by first | (rw [hji9] at H; exact H) | (simp only [hji9] at H ⊢; exact H)
      (try rw [hji9] at A4)
      (try rw [hji9] at A7)
      by_cases c10 : 0 ≤ (ji9)
      · rw [if_pos c10] at H
        have c10b0 := eq_true c10
        have c10b1 : decide (0 ≤ (ji9)) = true := decide_eq_true c10
        clear c10
        by_cases c11 : (ji9) ≤ (t345.size : Int)
        · rw [if_pos c11] at H
          have c11b0 := eq_true c11
          have c11b1 : decide ((ji9) ≤ (t345.size : Int)) = true := decide_eq_true c11
          clear c11
          obtain ⟨y346, hy346⟩ : ∃ y_ : List Int, y_ = (([a2] : List Int)) := ⟨_, rfl⟩
          replace H : (if (t345.extract 0 ((ji9) : Int).toNat).size + (strOfNums y346).size ≤ 9223372036854775807 then (if ((t345.extract 0 ((ji9) : Int).toNat) ++ (strOfNums y346)).size + (t345.extract ((ji9) : Int).toNat t345.size).size ≤ 9223372036854775807 then (if a2 ≥ 48 then (if a2 ≤ 57 then (if (ji9) > 0 then (if 0 < (t345.size : Int) then (if (bt t345 0) = 48 then (if (ji9) = 0 then (if t344 = true then ((digits_Right.f (((t345.extract 0 ((ji9) : Int).toNat) ++ (strOfNums y346)) ++ (t345.extract ((ji9) : Int).toNat t345.size))).bind fun t349 => (if (t349 == (a2 != 48)) = true then (if 1 + t345.size ≤ 9223372036854775807 then ((digits_Right.f ((⟨#[48]⟩ : ByteArray) ++ t345)).bind fun t350 => (if t350 = true then (none) else ((digits_Right.f ((⟨#[45]⟩ : ByteArray) ++ t345)).bind fun t351 => (some (!t351))))) else (none)) else (none))) else (none)) else (if t344 = true then ((digits_Right.f (((t345.extract 0 ((ji9) : Int).toNat) ++ (strOfNums y346)) ++ (t345.extract ((ji9) : Int).toNat t345.size))).bind fun t352 => (if (t352 == false) = true then (if 1 + t345.size ≤ 9223372036854775807 then ((digits_Right.f ((⟨#[48]⟩ : ByteArray) ++ t345)).bind fun t353 => (if t353 = true then (none) else ((digits_Right.f ((⟨#[45]⟩ : ByteArray) ++ t345)).bind fun t354 => (some (!t354))))) else (none)) else (none))) else (none))) else (if t344 = true then ((digits_Right.f (((t345.extract 0 ((ji9) : Int).toNat) ++ (strOfNums y346)) ++ (t345.extract ((ji9) : Int).toNat t345.size))).bind fun t355 => (if (t355 == true) = true then (if 1 + t345.size ≤ 9223372036854775807 then ((digits_Right.f ((⟨#[48]⟩ : ByteArray) ++ t345)).bind fun t356 => (if t356 = true then (none) else ((digits_Right.f ((⟨#[45]⟩ : ByteArray) ++ t345)).bind fun t357 => (some (!t357))))) else (none)) else (none))) else (none))) else (none)) else (if (ji9) = 0 then (if t344 = true then ((digits_Right.f (((t345.extract 0 ((ji9) : Int).toNat) ++ (strOfNums y346)) ++ (t345.extract ((ji9) : Int).toNat t345.size))).bind fun t358 => (if (t358 == (a2 != 48)) = true then (if 1 + t345.size ≤ 9223372036854775807 then ((digits_Right.f ((⟨#[48]⟩ : ByteArray) ++ t345)).bind fun t359 => (if t359 = true then (none) else ((digits_Right.f ((⟨#[45]⟩ : ByteArray) ++ t345)).bind fun t360 => (some (!t360))))) else (none)) else (none))) else (none)) else (if t344 = true then ((digits_Right.f (((t345.extract 0 ((ji9) : Int).toNat) ++ (strOfNums y346)) ++ (t345.extract ((ji9) : Int).toNat t345.size))).bind fun t361 => (if (t361 == false) = true then (if 1 + t345.size ≤ 9223372036854775807 then ((digits_Right.f ((⟨#[48]⟩ : ByteArray) ++ t345)).bind fun t362 => (if t362 = true then (none) else ((digits_Right.f ((⟨#[45]⟩ : ByteArray) ++ t345)).bind fun t363 => (some (!t363))))) else (none)) else (none))) else (none)))) else (if t344 = true then ((digits_Right.f (((t345.extract 0 ((ji9) : Int).toNat) ++ (strOfNums y346)) ++ (t345.extract ((ji9) : Int).toNat t345.size))).bind fun t364 => (if (t364 == false) = true then (if 1 + t345.size ≤ 9223372036854775807 then ((digits_Right.f ((⟨#[48]⟩ : ByteArray) ++ t345)).bind fun t365 => (if t365 = true then (none) else ((digits_Right.f ((⟨#[45]⟩ : ByteArray) ++ t345)).bind fun t366 => (some (!t366))))) else (none)) else (none))) else (none))) else (if t344 = true then ((digits_Right.f (((t345.extract 0 ((ji9) : Int).toNat) ++ (strOfNums y346)) ++ (t345.extract ((ji9) : Int).toNat t345.size))).bind fun t367 => (if (t367 == false) = true then (if 1 + t345.size ≤ 9223372036854775807 then ((digits_Right.f ((⟨#[48]⟩ : ByteArray) ++ t345)).bind fun t368 => (if t368 = true then (none) else ((digits_Right.f ((⟨#[45]⟩ : ByteArray) ++ t345)).bind fun t369 => (some (!t369))))) else (none)) else (none))) else (none))) else (none)) else (none)) = some r := by first | (rw [hy346]; with_reducible exact H) | (have H2_ := (Option.bind_some _ _).symm.trans H; rw [hy346]; with_reducible exact H2_) | (have H2_ := (Option.bind_some _ _).symm.trans H; with_reducible exact H2_) | with_reducible exact H | (rw [hy346]; exact H) | exact H
          have Ny346 := Aside0.mk hy346
          clear hy346
          by_cases c12 : (t345.extract 0 ((ji9) : Int).toNat).size + (strOfNums y346).size ≤ 9223372036854775807
          · rw [if_pos c12] at H
            have c12b0 := eq_true c12
            have c12b1 : decide ((t345.extract 0 ((ji9) : Int).toNat).size + (strOfNums y346).size ≤ 9223372036854775807) = true := decide_eq_true c12
            try have c12b2 : (9223372036854775807 < (t345.extract 0 ((ji9) : Int).toNat).size + (strOfNums y346).size) = False := eq_false (Nat.not_lt.2 c12)
            have c13b0 := eq_true (of_decide_eq_true (by first | (with_reducible assumption) | assumption) : 0 ≤ (ji9))
            have c14b0 := eq_true (of_decide_eq_true (by first | (with_reducible assumption) | assumption) : (ji9) ≤ (t345.size : Int))
            by_cases c15 : ((t345.extract 0 ((ji9) : Int).toNat) ++ (strOfNums y346)).size + (t345.extract ((ji9) : Int).toNat t345.size).size ≤ 9223372036854775807
            · rw [if_pos c15] at H
              have c15b0 := eq_true c15
              have c15b1 : decide (((t345.extract 0 ((ji9) : Int).toNat) ++ (strOfNums y346)).size + (t345.extract ((ji9) : Int).toNat t345.size).size ≤ 9223372036854775807) = true := decide_eq_true c15
              try have c15b2 : (9223372036854775807 < ((t345.extract 0 ((ji9) : Int).toNat) ++ (strOfNums y346)).size + (t345.extract ((ji9) : Int).toNat t345.size).size) = False := eq_false (Nat.not_lt.2 c15)
              by_cases c16 : a2 ≥ 48
              · rw [if_pos c16] at H
                have c16b0 : decide (48 ≤ a2) = true := decide_eq_true c16
                clear c16
                by_cases c17 : a2 ≤ 57
                · rw [if_pos c17] at H
                  have c17b0 : decide (a2 ≤ 57) = true := decide_eq_true c17
                  clear c17
                  by_cases c18 : (ji9) > 0
                  · rw [if_pos c18] at H
                    have c18b0 : decide (0 < (ji9)) = true := decide_eq_true c18
                    clear c18
                    by_cases c19 : 0 < (t345.size : Int)
                    · rw [if_pos c19] at H
                      have c19b0 : decide (0 < (t345.size : Int)) = true := decide_eq_true c19
                      have c19b1 : decide (0 < t345.size) = true := decide_eq_true (by omega)
                      clear c19
                      by_cases c21 : (bt t345 0) = 48
                      · rw [if_pos c21] at H
                        have c21b0 : ((bt t345 0) == 48) = true := beq_iff_eq.mpr c21
                        have c21b1 : ((bt t345 0) != 48) = false := bne_eq_false_iff_eq.mpr c21
                        clear c21
                        by_cases c22 : (ji9) = 0
                        · rw [if_pos c22] at H
                          have c22b0 : ((ji9) == 0) = true := beq_iff_eq.mpr c22
                          have c22b1 : ((ji9) != 0) = false := bne_eq_false_iff_eq.mpr c22
                          clear c22
                          by_cases c23 : t344 = true
                          · subst c23
                            have H1 : ((digits_Right.f (((t345.extract 0 ((ji9) : Int).toNat) ++ (strOfNums y346)) ++ (t345.extract ((ji9) : Int).toNat t345.size))).bind fun t349 => (if (t349 == (a2 != 48)) = true then (if 1 + t345.size ≤ 9223372036854775807 then ((digits_Right.f ((⟨#[48]⟩ : ByteArray) ++ t345)).bind fun t350 => (if t350 = true then (none) else ((digits_Right.f ((⟨#[45]⟩ : ByteArray) ++ t345)).bind fun t351 => (some (!t351))))) else (none)) else (none))) = some r := by rw [if_pos rfl] at H; exact H
                            clear H
                            have H := H1
                            clear H1
                            replace H := Option.bind_eq_some_iff.mp H
                            obtain ⟨t349, A240, H⟩ := H
                            replace H : (if (t349 == (a2 != 48)) = true then (if 1 + t345.size ≤ 9223372036854775807 then ((digits_Right.f ((⟨#[48]⟩ : ByteArray) ++ t345)).bind fun t350 => (if t350 = true then (none) else ((digits_Right.f ((⟨#[45]⟩ : ByteArray) ++ t345)).bind fun t351 => (some (!t351))))) else (none)) else (none)) = some r := H
                            have A24 := Aside0.mk A240
                            clear A240
                            by_cases c25 : (t349 == (a2 != 48)) = true
                            · rw [if_pos c25] at H
                              have c25b0 : (t349 == (a2 != 48)) = true := c25
                              (try (have c25b1 : decide (t349 = (a2 != 48)) = true := by simpa using c25))
                              (try (have c25b2 : (t349 == (a2 != 48)) = true := by simpa using c25))
                              clear c25
                              by_cases c26 : 1 + t345.size ≤ 9223372036854775807
                              · rw [if_pos c26] at H
                                have c26b0 := eq_true c26
                                have c26b1 : decide (1 + t345.size ≤ 9223372036854775807) = true := decide_eq_true c26
                                try have c26b2 : (9223372036854775807 < 1 + t345.size) = False := eq_false (Nat.not_lt.2 c26)
                                replace H := Option.bind_eq_some_iff.mp H
                                obtain ⟨t350, A270, H⟩ := H
                                replace H : (if t350 = true then (none) else ((digits_Right.f ((⟨#[45]⟩ : ByteArray) ++ t345)).bind fun t351 => (some (!t351)))) = some r := H
                                have A27 := Aside0.mk A270
                                clear A270
                                by_cases c28 : t350 = true
                                · subst c28
                                  have H1 : (none) = some r := by rw [if_pos rfl] at H; exact H
                                  clear H
                                  have H := H1
                                  clear H1
                                  exact absurd H (by simp)
                                · replace c28 := Bool.eq_false_iff.mpr c28
                                  subst c28
                                  have H1 : ((digits_Right.f ((⟨#[45]⟩ : ByteArray) ++ t345)).bind fun t351 => (some (!t351))) = some r := by rw [if_neg (show ¬ (false = true) by decide)] at H; exact H
                                  clear H
                                  have H := H1
                                  clear H1
                                  replace H := Option.bind_eq_some_iff.mp H
                                  obtain ⟨t351, A290, H⟩ := H
                                  replace H : (some (!t351)) = some r := H
                                  have A29 := Aside0.mk A290
                                  clear A290
                                  obtain rfl := Option.some.inj H
                                  have w9_ : wrap64 ((t345.size : Int) + 1) = (t345.size : Int) + 1 := by unfold wrap64; omega
                                  rw [w9_] at hji9
                                  clear w9_
                                  have s9_ : (t345.extract 0 ji9.toNat).size = ji9.toNat := by rw [ByteArray.size_extract]; have h0_ : 0 ≤ ji9 := of_decide_eq_true (by assumption); have h1_ : ji9 ≤ (t345.size : Int) := of_decide_eq_true (by assumption); omega
                                  have f9_ : (9223372036854775807 < ji9.toNat + (strOfNums y346).size) = False := by have h_ : (t345.extract 0 ji9.toNat).size + (strOfNums y346).size ≤ 9223372036854775807 := (by assumption); rw [s9_] at h_; exact eq_false (Nat.not_lt.2 h_)
                                  have g9_ : (9223372036854775807 < ji9.toNat + (strOfNums y346).size + (t345.size - ji9.toNat)) = False := by have h_ : ((t345.extract 0 ji9.toNat) ++ (strOfNums y346)).size + (t345.extract ji9.toNat t345.size).size ≤ 9223372036854775807 := (by assumption); rw [ByteArray.size_append, s9_, ByteArray.size_extract] at h_; exact eq_false (Nat.not_lt.2 (by omega))
                                  clear s9_
                                  go_enter Tryd.func7, Tryd.ntmps7
                                  try go_wp2_with (first | ((with_reducible refine gate_callee (f := 10) rfl ?_); refine goesL_ (some 13) rfl rfl Tryd.func10 (by kernel_rfl) rfl #[] rfl (by (try simp only [List.map_toArray, List.map_cons, List.map_nil]); first | done | rfl | (simp only [List.length_drop, List.length_take]; rfl)) ?_; (with_reducible refine (tribunallaw02_head.calls  true _ A4.out).mono ?_); rintro e w30 ⟨rfl, hb⟩; refine ⟨_, rfl, ?_⟩; have n0_ := Aside0.mk (below_step (by repeat (first | (with_reducible first | exact HB.out | apply below_alloc | apply pw_below_drewN | apply below_drew1) | exact HB.out)) hb); clear HB; have HB := n0_; clear n0_; (try clear hb); (try clear hb2); (try clear hk); (try clear hi)) | ((with_reducible refine gate_callee (f := 13) rfl ?_); refine goesL_ (some 19) rfl rfl Tryd.func13 (by kernel_rfl) rfl #[.slice A0 l0.length c0] rfl (by (try simp only [List.map_toArray, List.map_cons, List.map_nil]); first | done | rfl | (simp only [List.length_drop, List.length_take]; rfl)) ?_; (with_reducible refine (digits_Text.calls _ _ l0 t345 _ ?side1 ?side2 A7.out).mono ?_); (case side1 => repeat (first | exact (Kd.C_below HR0.out HB.out) | (with_reducible refine Kd.C_alloc ?_ _) | (with_reducible refine Kd.C_drewN ?_ _) | (with_reducible refine Kd.C_drew ?_))); (case side2 => exact HC0.out); rintro e w31 ⟨rfl, hb⟩; refine ⟨_, rfl, ?_⟩; have n0_ := Aside0.mk (below_step (by repeat (first | (with_reducible first | exact HB.out | apply below_alloc | apply pw_below_drewN | apply below_drew1) | exact HB.out)) hb); clear HB; have HB := n0_; clear n0_; (try clear hb); (try clear hb2); (try clear hk); (try clear hi)))
                                  have n0_ := Aside0.mk (below_drew1 HB.out)
                                  clear HB
                                  have HB := n0_
                                  clear n0_
                                  refine start_ (n := 12) (S := fun w' => True) (ds := []) #[false, false, false, false, false, false, false, false, false, false, false, false] (by kernel_rfl) rfl rfl trivial (fun hHeld => ?_); refine with_tabW tribunallaw02_DigitsWrong.tab6 tribunallaw02_DigitsWrong.bits6 (fun HT_ HW_ => ?_)
                                  generalize w31.drew = w32 at HB hHeld ⊢
                                  refine pure_ (i := 0) (N := some 26) (v := ?_) (a' := ?_) #[true, false, false, false, false, false, false, false, false, false, false, false] rfl rfl (any_of HT_.out (by kernel_rfl)) (fun _ _ _ h => h) (Or.inl ⟨by rfl, ?_⟩) ?_ ?_
                                  rotate_left
                                  · intro w'
                                    go_simp
                                    with_reducible rfl
                                  rotate_left
                                  · simp only [Act.put, List.setIfInBounds_toArray, List.set_cons_zero, List.set_cons_succ, i64_w, i32_w]
                                    rfl
                                  refine pure_ (i := 1) (N := some 27) (v := ?_) (a' := ?_) #[true, true, false, false, false, false, false, false, false, false, false, false] rfl rfl (any_of HT_.out (by kernel_rfl)) (fun _ _ _ h => h) (Or.inl ⟨by rfl, ?_⟩) ?_ ?_
                                  rotate_left
                                  · intro w'
                                    go_simp
                                    with_reducible rfl
                                  rotate_left
                                  · simp only [Act.put, List.setIfInBounds_toArray, List.set_cons_zero, List.set_cons_succ, i64_w, i32_w]
                                    rfl
                                  refine pure_ (i := 2) (N := some 28) (v := ?_) (a' := ?_) #[true, true, true, false, false, false, false, false, false, false, false, false] rfl rfl (any_of HT_.out (by kernel_rfl)) (fun _ _ _ h => h) (Or.inl ⟨by rfl, ?_⟩) ?_ ?_
                                  rotate_left
                                  · intro w'
                                    go_simp
                                    with_reducible rfl
                                  rotate_left
                                  · simp only [Act.put, List.setIfInBounds_toArray, List.set_cons_zero, List.set_cons_succ, i64_w, i32_w]
                                    rfl
                                  refine pure_ (i := 3) (N := some 29) (v := ?_) (a' := ?_) #[true, true, true, true, false, false, false, false, false, false, false, false] rfl rfl (any_of HT_.out (by kernel_rfl)) (fun _ _ _ h => h) (Or.inl ⟨by rfl, ?_⟩) ?_ ?_
                                  rotate_left
                                  · intro w'
                                    go_simp
                                    with_reducible rfl
                                  rotate_left
                                  · simp only [Act.put, List.setIfInBounds_toArray, List.set_cons_zero, List.set_cons_succ, i64_w, i32_w]
                                    rfl
                                  refine pure_ (i := 7) (N := some 33) (v := ?_) (a' := ?_) #[true, true, true, true, false, false, false, true, false, false, false, false] rfl rfl (any_of HT_.out (by kernel_rfl)) (fun _ _ _ h => h) (Or.inl ⟨by rfl, ?_⟩) ?_ ?_
                                  rotate_left
                                  · intro w'
                                    go_simp
                                    with_reducible rfl
                                  rotate_left
                                  · simp only [Act.put, List.setIfInBounds_toArray, List.set_cons_zero, List.set_cons_succ, i64_w, i32_w]
                                    rfl
                                  refine pure_ (i := 8) (N := some 34) (v := ?_) (a' := ?_) #[true, true, true, true, false, false, false, true, true, false, false, false] rfl rfl (any_of HT_.out (by kernel_rfl)) (fun _ _ _ h => h) (Or.inl ⟨by rfl, ?_⟩) ?_ ?_
                                  rotate_left
                                  · intro w'
                                    go_simp
                                    with_reducible rfl
                                  rotate_left
                                  · simp only [Act.put, List.setIfInBounds_toArray, List.set_cons_zero, List.set_cons_succ, i64_w, i32_w]
                                    rfl
                                  refine pure_ (i := 9) (N := some 35) (v := ?_) (a' := ?_) #[true, true, true, true, false, false, false, true, true, true, false, false] rfl rfl (any_of HT_.out (by kernel_rfl)) (fun _ _ _ h => h) (Or.inl ⟨by rfl, ?_⟩) ?_ ?_
                                  rotate_left
                                  · intro w'
                                    go_simp
                                    with_reducible rfl
                                  rotate_left
                                  · simp only [Act.put, List.setIfInBounds_toArray, List.set_cons_zero, List.set_cons_succ, i64_w, i32_w]
                                    rfl
                                  refine one_ (i := 4) (N := some 30) #[true, true, true, true, true, false, false, true, true, true, false, false] rfl rfl (one_of HT_.out (by kernel_rfl)) (by decide) (fun K hK => ?_)
                                  refine Kd.R_lit_step (Kd.int .u8) _ 5 ?hg (N := 30) ?hd (xs := ([a2] : List Int)) (inner := [.int .u8 a2]) (ok := fun _ => True) (okp := fun _ => True) ?hr ?hp (fun _ hk => hk) trivial (Below.refl _ _) (Nat.le_refl _) (by simp) ?_; (case hd => rfl); (case hg => rfl); (case hr => first | (go_simp; done) | (go_simp; rfl) | (go_simp; simp only [Kd_u32u8])); (case hp => exact (Reps.one (show Kd.M (Kd.int .u8) _ _ _ a2 [.int .u8 a2] from rfl) (Reps.none _ _)))
                                  intro v347 w33 ho34 hb hg_ hnew_
                                  clear hg_ hnew_
                                  (first | rw [← Ny346.out] at ho34 | (simp only [Int.reduceToNat] at ho34; rw [← Ny346.out] at ho34))
                                  have n0_ := Aside0.mk (Kd.R_lower ho34 (below_size (by repeat (first | (with_reducible first | exact HB.out | apply below_alloc | apply pw_below_drewN | apply below_drew1) | exact HB.out))))
                                  have n1_ := Aside0.mk (below_step (by repeat (first | (with_reducible first | exact HB.out | apply below_alloc | apply pw_below_drewN | apply below_drew1) | exact HB.out)) hb)
                                  clear HB
                                  have HO348 := n0_
                                  have HB := n1_
                                  clear n0_ n1_
                                  clear hb ho34
                                  refine hK.out _ _ trivial (fun hHeld => ?_)
                                  clear hK K
                                  refine norm_ (a' := ?_) ?_ ?_
                                  rotate_left
                                  · show Act.put _ (some 30) _ = _
                                    simp only [Act.put, List.setIfInBounds_toArray, List.set_cons_zero, List.set_cons_succ, i64_w, i32_w]
                                    rfl
                                  refine one_ (i := 5) (N := some 31) #[true, true, true, true, true, true, false, true, true, true, false, false] rfl rfl (one_of HT_.out (by kernel_rfl)) (by decide) (fun K hK => ?_)
                                  have hcv35 := own_string (P := Tryd.prog) Tryd.underlying33 Tryd.underlying5 Tryd.underlying9 (Kd.own_of_R HO348.out)
                                  refine value_ (w1 := ?_) (v := ?_) (by rfl) rfl ?_ ?_
                                  rotate_left 2
                                  · go_simp
                                    constructor
                                    · rfl
                                    · rfl
                                  clear hcv35
                                  refine hK.out _ _ trivial (fun hHeld => ?_)
                                  clear hK K
                                  refine norm_ (a' := ?_) ?_ ?_
                                  rotate_left
                                  · show Act.put _ (some 31) _ = _
                                    simp only [Act.put, List.setIfInBounds_toArray, List.set_cons_zero, List.set_cons_succ, i64_w, i32_w]
                                    rfl
                                  refine pure_ (i := 6) (N := some 32) (v := ?_) (a' := ?_) #[true, true, true, true, true, true, true, true, true, true, false, false] rfl rfl (any_of HT_.out (by kernel_rfl)) (fun _ _ _ h => h) (Or.inl ⟨by rfl, ?_⟩) ?_ ?_
                                  rotate_left
                                  · intro w'
                                    go_simp
                                    with_reducible rfl
                                  rotate_left
                                  · simp only [Act.put, List.setIfInBounds_toArray, List.set_cons_zero, List.set_cons_succ, i64_w, i32_w]
                                    rfl
                                  refine pure_ (i := 10) (N := some 36) (v := ?_) (a' := ?_) #[true, true, true, true, true, true, true, true, true, true, true, false] rfl rfl (any_of HT_.out (by kernel_rfl)) (fun _ _ _ h => h) (Or.inl ⟨by rfl, ?_⟩) ?_ ?_
                                  rotate_left
                                  · intro w'
                                    go_simp
                                    with_reducible rfl
                                  rotate_left
                                  · simp only [Act.put, List.setIfInBounds_toArray, List.set_cons_zero, List.set_cons_succ, i64_w, i32_w]
                                    rfl
                                  refine pure_ (i := 11) (N := some 10) (v := ?_) (a' := ?_) #[true, true, true, true, true, true, true, true, true, true, true, true] rfl rfl (any_of HT_.out (by kernel_rfl)) (fun _ _ _ h => h) (Or.inl ⟨by rfl, ?_⟩) ?_ ?_
                                  rotate_left
                                  · intro w'
                                    go_simp
                                    with_reducible rfl
                                  rotate_left
                                  · simp only [Act.put, List.setIfInBounds_toArray, List.set_cons_zero, List.set_cons_succ, i64_w, i32_w]
                                    rfl
                                  refine done_ (done_of HT_.out (by kernel_rfl)) ?_
                                  have p20 : 0 ≤ (0 : Int) := (by omega)
                                  have q20 : 0 < t345.size := (by have : (0 : Int) < (t345.size : Int) := of_decide_eq_true (by first | (with_reducible assumption) | assumption); omega)
                                  have hx20 : ∀ h : 0 < t345.size, ((t345[0]'h).toNat : Int) = bt t345 0 := bt_at t345 0
                                  clear p20
                                  have qi20 : (0 < (t345.size : Int)) = True := eq_true (of_decide_eq_true (by first | (with_reducible assumption) | assumption))
                                  replace q20 := eq_true q20
                                  try go_wp2_with (first | (go_at_call 16; (with_reducible refine (digits_Right.calls (((t345.extract 0 ((ji9) : Int).toNat) ++ (strOfNums y346)) ++ (t345.extract ((ji9) : Int).toNat t345.size)) t349 _ A24.out).mono ?_); rintro e w36 ⟨rfl, hb⟩; have n0_ := Aside0.mk (Kd.R_below (by (with_reducible repeat (first | apply Kd.R_alloc | apply Kd.R_drewN | apply Kd.R_drew)); exact HO348.out) hb); have n1_ := Aside0.mk (below_step (by repeat (first | (with_reducible first | exact HB.out | apply below_alloc | apply pw_below_drewN | apply below_drew1) | exact HB.out)) hb); clear HO348; clear HB; have HO348 := n0_; have HB := n1_; clear n0_ n1_; (try clear hb); (try clear hb2); (try clear hk); (try clear hi)) | (go_at_call 16; (with_reducible refine (digits_Right.calls ((⟨#[48]⟩ : ByteArray) ++ t345) false _ A27.out).mono ?_); rintro e w37 ⟨rfl, hb⟩; have n0_ := Aside0.mk (Kd.R_below (by (with_reducible repeat (first | apply Kd.R_alloc | apply Kd.R_drewN | apply Kd.R_drew)); exact HO348.out) hb); have n1_ := Aside0.mk (below_step (by repeat (first | (with_reducible first | exact HB.out | apply below_alloc | apply pw_below_drewN | apply below_drew1) | exact HB.out)) hb); clear HO348; clear HB; have HO348 := n0_; have HB := n1_; clear n0_ n1_; (try clear hb); (try clear hb2); (try clear hk); (try clear hi)) | (go_at_call 16; (with_reducible refine (digits_Right.calls ((⟨#[45]⟩ : ByteArray) ++ t345) t351 _ A29.out).mono ?_); rintro e w38 ⟨rfl, hb⟩; have n0_ := Aside0.mk (Kd.R_below (by (with_reducible repeat (first | apply Kd.R_alloc | apply Kd.R_drewN | apply Kd.R_drew)); exact HO348.out) hb); have n1_ := Aside0.mk (below_step (by repeat (first | (with_reducible first | exact HB.out | apply below_alloc | apply pw_below_drewN | apply below_drew1) | exact HB.out)) hb); clear HO348; clear HB; have HO348 := n0_; have HB := n1_; clear n0_ n1_; (try clear hb); (try clear hb2); (try clear hk); (try clear hi)))
                                  go_ret
                                  exact ⟨by first | rfl | (simp [errW_none, errW_some] <;> rfl) | (simp only [← hji9]; first | rfl | (simp [errW_none, errW_some] <;> rfl)) | (simp [*, errW_none, errW_some] <;> rfl), by repeat (first | (with_reducible first | exact HB.out | apply below_alloc | apply pw_below_drewN | apply below_drew1) | exact HB.out)⟩
                              · rw [if_neg c26] at H
                                exact absurd H (by simp)
                            · rw [if_neg c25] at H
                              exact absurd H (by simp)
                          · replace c23 := Bool.eq_false_iff.mpr c23
                            subst c23
                            have H1 : (none) = some r := by rw [if_neg (show ¬ (false = true) by decide)] at H; exact H
                            clear H
                            have H := H1
                            clear H1
                            exact absurd H (by simp)
                        · rw [if_neg c22] at H
                          have c22b0 : ((ji9) == 0) = false := beq_eq_false_iff_ne.mpr c22
                          have c22b1 : ((ji9) != 0) = true := bne_iff_ne.mpr c22
                          by_cases c39 : t344 = true
                          · subst c39
                            have H1 : ((digits_Right.f (((t345.extract 0 ((ji9) : Int).toNat) ++ (strOfNums y346)) ++ (t345.extract ((ji9) : Int).toNat t345.size))).bind fun t352 => (if (t352 == false) = true then (if 1 + t345.size ≤ 9223372036854775807 then ((digits_Right.f ((⟨#[48]⟩ : ByteArray) ++ t345)).bind fun t353 => (if t353 = true then (none) else ((digits_Right.f ((⟨#[45]⟩ : ByteArray) ++ t345)).bind fun t354 => (some (!t354))))) else (none)) else (none))) = some r := by rw [if_pos rfl] at H; exact H
                            clear H
                            have H := H1
                            clear H1
                            replace H := Option.bind_eq_some_iff.mp H
                            obtain ⟨t352, A400, H⟩ := H
                            replace H : (if (t352 == false) = true then (if 1 + t345.size ≤ 9223372036854775807 then ((digits_Right.f ((⟨#[48]⟩ : ByteArray) ++ t345)).bind fun t353 => (if t353 = true then (none) else ((digits_Right.f ((⟨#[45]⟩ : ByteArray) ++ t345)).bind fun t354 => (some (!t354))))) else (none)) else (none)) = some r := H
                            have A40 := Aside0.mk A400
                            clear A400
                            by_cases c41 : (t352 == false) = true
                            · rw [if_pos c41] at H
                              have c41b0 : (t352 == false) = true := c41
                              (try (have c41b1 : decide (t352 = false) = true := by simpa using c41))
                              (try (have c41b2 : (t352 == false) = true := by simpa using c41))
                              clear c41
                              by_cases c42 : 1 + t345.size ≤ 9223372036854775807
                              · rw [if_pos c42] at H
                                have c42b0 := eq_true c42
                                have c42b1 : decide (1 + t345.size ≤ 9223372036854775807) = true := decide_eq_true c42
                                try have c42b2 : (9223372036854775807 < 1 + t345.size) = False := eq_false (Nat.not_lt.2 c42)
                                replace H := Option.bind_eq_some_iff.mp H
                                obtain ⟨t353, A430, H⟩ := H
                                replace H : (if t353 = true then (none) else ((digits_Right.f ((⟨#[45]⟩ : ByteArray) ++ t345)).bind fun t354 => (some (!t354)))) = some r := H
                                have A43 := Aside0.mk A430
                                clear A430
                                by_cases c44 : t353 = true
                                · subst c44
                                  have H1 : (none) = some r := by rw [if_pos rfl] at H; exact H
                                  clear H
                                  have H := H1
                                  clear H1
                                  exact absurd H (by simp)
                                · replace c44 := Bool.eq_false_iff.mpr c44
                                  subst c44
                                  have H1 : ((digits_Right.f ((⟨#[45]⟩ : ByteArray) ++ t345)).bind fun t354 => (some (!t354))) = some r := by rw [if_neg (show ¬ (false = true) by decide)] at H; exact H
                                  clear H
                                  have H := H1
                                  clear H1
                                  replace H := Option.bind_eq_some_iff.mp H
                                  obtain ⟨t354, A450, H⟩ := H
                                  replace H : (some (!t354)) = some r := H
                                  have A45 := Aside0.mk A450
                                  clear A450
                                  obtain rfl := Option.some.inj H
                                  have w9_ : wrap64 ((t345.size : Int) + 1) = (t345.size : Int) + 1 := by unfold wrap64; omega
                                  rw [w9_] at hji9
                                  clear w9_
                                  have s9_ : (t345.extract 0 ji9.toNat).size = ji9.toNat := by rw [ByteArray.size_extract]; have h0_ : 0 ≤ ji9 := of_decide_eq_true (by assumption); have h1_ : ji9 ≤ (t345.size : Int) := of_decide_eq_true (by assumption); omega
                                  have f9_ : (9223372036854775807 < ji9.toNat + (strOfNums y346).size) = False := by have h_ : (t345.extract 0 ji9.toNat).size + (strOfNums y346).size ≤ 9223372036854775807 := (by assumption); rw [s9_] at h_; exact eq_false (Nat.not_lt.2 h_)
                                  have g9_ : (9223372036854775807 < ji9.toNat + (strOfNums y346).size + (t345.size - ji9.toNat)) = False := by have h_ : ((t345.extract 0 ji9.toNat) ++ (strOfNums y346)).size + (t345.extract ji9.toNat t345.size).size ≤ 9223372036854775807 := (by assumption); rw [ByteArray.size_append, s9_, ByteArray.size_extract] at h_; exact eq_false (Nat.not_lt.2 (by omega))
                                  clear s9_
                                  go_enter Tryd.func7, Tryd.ntmps7
                                  try go_wp2_with (first | ((with_reducible refine gate_callee (f := 10) rfl ?_); refine goesL_ (some 13) rfl rfl Tryd.func10 (by kernel_rfl) rfl #[] rfl (by (try simp only [List.map_toArray, List.map_cons, List.map_nil]); first | done | rfl | (simp only [List.length_drop, List.length_take]; rfl)) ?_; (with_reducible refine (tribunallaw02_head.calls  true _ A4.out).mono ?_); rintro e w46 ⟨rfl, hb⟩; refine ⟨_, rfl, ?_⟩; have n0_ := Aside0.mk (below_step (by repeat (first | (with_reducible first | exact HB.out | apply below_alloc | apply pw_below_drewN | apply below_drew1) | exact HB.out)) hb); clear HB; have HB := n0_; clear n0_; (try clear hb); (try clear hb2); (try clear hk); (try clear hi)) | ((with_reducible refine gate_callee (f := 13) rfl ?_); refine goesL_ (some 19) rfl rfl Tryd.func13 (by kernel_rfl) rfl #[.slice A0 l0.length c0] rfl (by (try simp only [List.map_toArray, List.map_cons, List.map_nil]); first | done | rfl | (simp only [List.length_drop, List.length_take]; rfl)) ?_; (with_reducible refine (digits_Text.calls _ _ l0 t345 _ ?side1 ?side2 A7.out).mono ?_); (case side1 => repeat (first | exact (Kd.C_below HR0.out HB.out) | (with_reducible refine Kd.C_alloc ?_ _) | (with_reducible refine Kd.C_drewN ?_ _) | (with_reducible refine Kd.C_drew ?_))); (case side2 => exact HC0.out); rintro e w47 ⟨rfl, hb⟩; refine ⟨_, rfl, ?_⟩; have n0_ := Aside0.mk (below_step (by repeat (first | (with_reducible first | exact HB.out | apply below_alloc | apply pw_below_drewN | apply below_drew1) | exact HB.out)) hb); clear HB; have HB := n0_; clear n0_; (try clear hb); (try clear hb2); (try clear hk); (try clear hi)))
                                  have n0_ := Aside0.mk (below_drew1 HB.out)
                                  clear HB
                                  have HB := n0_
                                  clear n0_
                                  refine start_ (n := 12) (S := fun w' => True) (ds := []) #[false, false, false, false, false, false, false, false, false, false, false, false] (by kernel_rfl) rfl rfl trivial (fun hHeld => ?_); refine with_tabW tribunallaw02_DigitsWrong.tab6 tribunallaw02_DigitsWrong.bits6 (fun HT_ HW_ => ?_)
                                  generalize w47.drew = w48 at HB hHeld ⊢
                                  refine pure_ (i := 0) (N := some 26) (v := ?_) (a' := ?_) #[true, false, false, false, false, false, false, false, false, false, false, false] rfl rfl (any_of HT_.out (by kernel_rfl)) (fun _ _ _ h => h) (Or.inl ⟨by rfl, ?_⟩) ?_ ?_
                                  rotate_left
                                  · intro w'
                                    go_simp
                                    with_reducible rfl
                                  rotate_left
                                  · simp only [Act.put, List.setIfInBounds_toArray, List.set_cons_zero, List.set_cons_succ, i64_w, i32_w]
                                    rfl
                                  refine pure_ (i := 1) (N := some 27) (v := ?_) (a' := ?_) #[true, true, false, false, false, false, false, false, false, false, false, false] rfl rfl (any_of HT_.out (by kernel_rfl)) (fun _ _ _ h => h) (Or.inl ⟨by rfl, ?_⟩) ?_ ?_
                                  rotate_left
                                  · intro w'
                                    go_simp
                                    with_reducible rfl
                                  rotate_left
                                  · simp only [Act.put, List.setIfInBounds_toArray, List.set_cons_zero, List.set_cons_succ, i64_w, i32_w]
                                    rfl
                                  refine pure_ (i := 2) (N := some 28) (v := ?_) (a' := ?_) #[true, true, true, false, false, false, false, false, false, false, false, false] rfl rfl (any_of HT_.out (by kernel_rfl)) (fun _ _ _ h => h) (Or.inl ⟨by rfl, ?_⟩) ?_ ?_
                                  rotate_left
                                  · intro w'
                                    go_simp
                                    with_reducible rfl
                                  rotate_left
                                  · simp only [Act.put, List.setIfInBounds_toArray, List.set_cons_zero, List.set_cons_succ, i64_w, i32_w]
                                    rfl
                                  refine pure_ (i := 3) (N := some 29) (v := ?_) (a' := ?_) #[true, true, true, true, false, false, false, false, false, false, false, false] rfl rfl (any_of HT_.out (by kernel_rfl)) (fun _ _ _ h => h) (Or.inl ⟨by rfl, ?_⟩) ?_ ?_
                                  rotate_left
                                  · intro w'
                                    go_simp
                                    with_reducible rfl
                                  rotate_left
                                  · simp only [Act.put, List.setIfInBounds_toArray, List.set_cons_zero, List.set_cons_succ, i64_w, i32_w]
                                    rfl
                                  refine pure_ (i := 7) (N := some 33) (v := ?_) (a' := ?_) #[true, true, true, true, false, false, false, true, false, false, false, false] rfl rfl (any_of HT_.out (by kernel_rfl)) (fun _ _ _ h => h) (Or.inl ⟨by rfl, ?_⟩) ?_ ?_
                                  rotate_left
                                  · intro w'
                                    go_simp
                                    with_reducible rfl
                                  rotate_left
                                  · simp only [Act.put, List.setIfInBounds_toArray, List.set_cons_zero, List.set_cons_succ, i64_w, i32_w]
                                    rfl
                                  refine pure_ (i := 8) (N := some 34) (v := ?_) (a' := ?_) #[true, true, true, true, false, false, false, true, true, false, false, false] rfl rfl (any_of HT_.out (by kernel_rfl)) (fun _ _ _ h => h) (Or.inl ⟨by rfl, ?_⟩) ?_ ?_
                                  rotate_left
                                  · intro w'
                                    go_simp
                                    with_reducible rfl
                                  rotate_left
                                  · simp only [Act.put, List.setIfInBounds_toArray, List.set_cons_zero, List.set_cons_succ, i64_w, i32_w]
                                    rfl
                                  refine pure_ (i := 9) (N := some 35) (v := ?_) (a' := ?_) #[true, true, true, true, false, false, false, true, true, true, false, false] rfl rfl (any_of HT_.out (by kernel_rfl)) (fun _ _ _ h => h) (Or.inl ⟨by rfl, ?_⟩) ?_ ?_
                                  rotate_left
                                  · intro w'
                                    go_simp
                                    with_reducible rfl
                                  rotate_left
                                  · simp only [Act.put, List.setIfInBounds_toArray, List.set_cons_zero, List.set_cons_succ, i64_w, i32_w]
                                    rfl
                                  refine one_ (i := 4) (N := some 30) #[true, true, true, true, true, false, false, true, true, true, false, false] rfl rfl (one_of HT_.out (by kernel_rfl)) (by decide) (fun K hK => ?_)
                                  refine Kd.R_lit_step (Kd.int .u8) _ 5 ?hg (N := 30) ?hd (xs := ([a2] : List Int)) (inner := [.int .u8 a2]) (ok := fun _ => True) (okp := fun _ => True) ?hr ?hp (fun _ hk => hk) trivial (Below.refl _ _) (Nat.le_refl _) (by simp) ?_; (case hd => rfl); (case hg => rfl); (case hr => first | (go_simp; done) | (go_simp; rfl) | (go_simp; simp only [Kd_u32u8])); (case hp => exact (Reps.one (show Kd.M (Kd.int .u8) _ _ _ a2 [.int .u8 a2] from rfl) (Reps.none _ _)))
                                  intro v347 w49 ho50 hb hg_ hnew_
                                  clear hg_ hnew_
                                  (first | rw [← Ny346.out] at ho50 | (simp only [Int.reduceToNat] at ho50; rw [← Ny346.out] at ho50))
                                  have n0_ := Aside0.mk (Kd.R_lower ho50 (below_size (by repeat (first | (with_reducible first | exact HB.out | apply below_alloc | apply pw_below_drewN | apply below_drew1) | exact HB.out))))
                                  have n1_ := Aside0.mk (below_step (by repeat (first | (with_reducible first | exact HB.out | apply below_alloc | apply pw_below_drewN | apply below_drew1) | exact HB.out)) hb)
                                  clear HB
                                  have HO348 := n0_
                                  have HB := n1_
                                  clear n0_ n1_
                                  clear hb ho50
                                  refine hK.out _ _ trivial (fun hHeld => ?_)
                                  clear hK K
                                  refine norm_ (a' := ?_) ?_ ?_
                                  rotate_left
                                  · show Act.put _ (some 30) _ = _
                                    simp only [Act.put, List.setIfInBounds_toArray, List.set_cons_zero, List.set_cons_succ, i64_w, i32_w]
                                    rfl
                                  refine one_ (i := 5) (N := some 31) #[true, true, true, true, true, true, false, true, true, true, false, false] rfl rfl (one_of HT_.out (by kernel_rfl)) (by decide) (fun K hK => ?_)
                                  have hcv51 := own_string (P := Tryd.prog) Tryd.underlying33 Tryd.underlying5 Tryd.underlying9 (Kd.own_of_R HO348.out)
                                  refine value_ (w1 := ?_) (v := ?_) (by rfl) rfl ?_ ?_
                                  rotate_left 2
                                  · go_simp
                                    constructor
                                    · rfl
                                    · rfl
                                  clear hcv51
                                  refine hK.out _ _ trivial (fun hHeld => ?_)
                                  clear hK K
                                  refine norm_ (a' := ?_) ?_ ?_
                                  rotate_left
                                  · show Act.put _ (some 31) _ = _
                                    simp only [Act.put, List.setIfInBounds_toArray, List.set_cons_zero, List.set_cons_succ, i64_w, i32_w]
                                    rfl
                                  refine pure_ (i := 6) (N := some 32) (v := ?_) (a' := ?_) #[true, true, true, true, true, true, true, true, true, true, false, false] rfl rfl (any_of HT_.out (by kernel_rfl)) (fun _ _ _ h => h) (Or.inl ⟨by rfl, ?_⟩) ?_ ?_
                                  rotate_left
                                  · intro w'
                                    go_simp
                                    with_reducible rfl
                                  rotate_left
                                  · simp only [Act.put, List.setIfInBounds_toArray, List.set_cons_zero, List.set_cons_succ, i64_w, i32_w]
                                    rfl
                                  refine pure_ (i := 10) (N := some 36) (v := ?_) (a' := ?_) #[true, true, true, true, true, true, true, true, true, true, true, false] rfl rfl (any_of HT_.out (by kernel_rfl)) (fun _ _ _ h => h) (Or.inl ⟨by rfl, ?_⟩) ?_ ?_
                                  rotate_left
                                  · intro w'
                                    go_simp
                                    with_reducible rfl
                                  rotate_left
                                  · simp only [Act.put, List.setIfInBounds_toArray, List.set_cons_zero, List.set_cons_succ, i64_w, i32_w]
                                    rfl
                                  refine pure_ (i := 11) (N := some 10) (v := ?_) (a' := ?_) #[true, true, true, true, true, true, true, true, true, true, true, true] rfl rfl (any_of HT_.out (by kernel_rfl)) (fun _ _ _ h => h) (Or.inl ⟨by rfl, ?_⟩) ?_ ?_
                                  rotate_left
                                  · intro w'
                                    go_simp
                                    with_reducible rfl
                                  rotate_left
                                  · simp only [Act.put, List.setIfInBounds_toArray, List.set_cons_zero, List.set_cons_succ, i64_w, i32_w]
                                    rfl
                                  refine done_ (done_of HT_.out (by kernel_rfl)) ?_
                                  have p20 : 0 ≤ (0 : Int) := (by omega)
                                  have q20 : 0 < t345.size := (by have : (0 : Int) < (t345.size : Int) := of_decide_eq_true (by first | (with_reducible assumption) | assumption); omega)
                                  have hx20 : ∀ h : 0 < t345.size, ((t345[0]'h).toNat : Int) = bt t345 0 := bt_at t345 0
                                  clear p20
                                  have qi20 : (0 < (t345.size : Int)) = True := eq_true (of_decide_eq_true (by first | (with_reducible assumption) | assumption))
                                  replace q20 := eq_true q20
                                  try go_wp2_with (first | (go_at_call 16; (with_reducible refine (digits_Right.calls (((t345.extract 0 ((ji9) : Int).toNat) ++ (strOfNums y346)) ++ (t345.extract ((ji9) : Int).toNat t345.size)) t352 _ A40.out).mono ?_); rintro e w52 ⟨rfl, hb⟩; have n0_ := Aside0.mk (Kd.R_below (by (with_reducible repeat (first | apply Kd.R_alloc | apply Kd.R_drewN | apply Kd.R_drew)); exact HO348.out) hb); have n1_ := Aside0.mk (below_step (by repeat (first | (with_reducible first | exact HB.out | apply below_alloc | apply pw_below_drewN | apply below_drew1) | exact HB.out)) hb); clear HO348; clear HB; have HO348 := n0_; have HB := n1_; clear n0_ n1_; (try clear hb); (try clear hb2); (try clear hk); (try clear hi)) | (go_at_call 16; (with_reducible refine (digits_Right.calls ((⟨#[48]⟩ : ByteArray) ++ t345) false _ A43.out).mono ?_); rintro e w53 ⟨rfl, hb⟩; have n0_ := Aside0.mk (Kd.R_below (by (with_reducible repeat (first | apply Kd.R_alloc | apply Kd.R_drewN | apply Kd.R_drew)); exact HO348.out) hb); have n1_ := Aside0.mk (below_step (by repeat (first | (with_reducible first | exact HB.out | apply below_alloc | apply pw_below_drewN | apply below_drew1) | exact HB.out)) hb); clear HO348; clear HB; have HO348 := n0_; have HB := n1_; clear n0_ n1_; (try clear hb); (try clear hb2); (try clear hk); (try clear hi)) | (go_at_call 16; (with_reducible refine (digits_Right.calls ((⟨#[45]⟩ : ByteArray) ++ t345) t354 _ A45.out).mono ?_); rintro e w54 ⟨rfl, hb⟩; have n0_ := Aside0.mk (Kd.R_below (by (with_reducible repeat (first | apply Kd.R_alloc | apply Kd.R_drewN | apply Kd.R_drew)); exact HO348.out) hb); have n1_ := Aside0.mk (below_step (by repeat (first | (with_reducible first | exact HB.out | apply below_alloc | apply pw_below_drewN | apply below_drew1) | exact HB.out)) hb); clear HO348; clear HB; have HO348 := n0_; have HB := n1_; clear n0_ n1_; (try clear hb); (try clear hb2); (try clear hk); (try clear hi)))
                                  go_ret
                                  exact ⟨by first | rfl | (simp [errW_none, errW_some] <;> rfl) | (simp only [← hji9]; first | rfl | (simp [errW_none, errW_some] <;> rfl)) | (simp [*, errW_none, errW_some] <;> rfl), by repeat (first | (with_reducible first | exact HB.out | apply below_alloc | apply pw_below_drewN | apply below_drew1) | exact HB.out)⟩
                              · rw [if_neg c42] at H
                                exact absurd H (by simp)
                            · rw [if_neg c41] at H
                              exact absurd H (by simp)
                          · replace c39 := Bool.eq_false_iff.mpr c39
                            subst c39
                            have H1 : (none) = some r := by rw [if_neg (show ¬ (false = true) by decide)] at H; exact H
                            clear H
                            have H := H1
                            clear H1
                            exact absurd H (by simp)
                      · rw [if_neg c21] at H
                        have c21b0 : ((bt t345 0) == 48) = false := beq_eq_false_iff_ne.mpr c21
                        have c21b1 : ((bt t345 0) != 48) = true := bne_iff_ne.mpr c21
                        by_cases c55 : t344 = true
                        · subst c55
                          have H1 : ((digits_Right.f (((t345.extract 0 ((ji9) : Int).toNat) ++ (strOfNums y346)) ++ (t345.extract ((ji9) : Int).toNat t345.size))).bind fun t355 => (if (t355 == true) = true then (if 1 + t345.size ≤ 9223372036854775807 then ((digits_Right.f ((⟨#[48]⟩ : ByteArray) ++ t345)).bind fun t356 => (if t356 = true then (none) else ((digits_Right.f ((⟨#[45]⟩ : ByteArray) ++ t345)).bind fun t357 => (some (!t357))))) else (none)) else (none))) = some r := by rw [if_pos rfl] at H; exact H
                          clear H
                          have H := H1
                          clear H1
                          replace H := Option.bind_eq_some_iff.mp H
                          obtain ⟨t355, A560, H⟩ := H
                          replace H : (if (t355 == true) = true then (if 1 + t345.size ≤ 9223372036854775807 then ((digits_Right.f ((⟨#[48]⟩ : ByteArray) ++ t345)).bind fun t356 => (if t356 = true then (none) else ((digits_Right.f ((⟨#[45]⟩ : ByteArray) ++ t345)).bind fun t357 => (some (!t357))))) else (none)) else (none)) = some r := H
                          have A56 := Aside0.mk A560
                          clear A560
                          by_cases c57 : (t355 == true) = true
                          · rw [if_pos c57] at H
                            have c57b0 : (t355 == true) = true := c57
                            (try (have c57b1 : decide (t355 = true) = true := by simpa using c57))
                            (try (have c57b2 : (t355 == true) = true := by simpa using c57))
                            clear c57
                            by_cases c58 : 1 + t345.size ≤ 9223372036854775807
                            · rw [if_pos c58] at H
                              have c58b0 := eq_true c58
                              have c58b1 : decide (1 + t345.size ≤ 9223372036854775807) = true := decide_eq_true c58
                              try have c58b2 : (9223372036854775807 < 1 + t345.size) = False := eq_false (Nat.not_lt.2 c58)
                              replace H := Option.bind_eq_some_iff.mp H
                              obtain ⟨t356, A590, H⟩ := H
                              replace H : (if t356 = true then (none) else ((digits_Right.f ((⟨#[45]⟩ : ByteArray) ++ t345)).bind fun t357 => (some (!t357)))) = some r := H
                              have A59 := Aside0.mk A590
                              clear A590
                              by_cases c60 : t356 = true
                              · subst c60
                                have H1 : (none) = some r := by rw [if_pos rfl] at H; exact H
                                clear H
                                have H := H1
                                clear H1
                                exact absurd H (by simp)
                              · replace c60 := Bool.eq_false_iff.mpr c60
                                subst c60
                                have H1 : ((digits_Right.f ((⟨#[45]⟩ : ByteArray) ++ t345)).bind fun t357 => (some (!t357))) = some r := by rw [if_neg (show ¬ (false = true) by decide)] at H; exact H
                                clear H
                                have H := H1
                                clear H1
                                replace H := Option.bind_eq_some_iff.mp H
                                obtain ⟨t357, A610, H⟩ := H
                                replace H : (some (!t357)) = some r := H
                                have A61 := Aside0.mk A610
                                clear A610
                                obtain rfl := Option.some.inj H
                                have w9_ : wrap64 ((t345.size : Int) + 1) = (t345.size : Int) + 1 := by unfold wrap64; omega
                                rw [w9_] at hji9
                                clear w9_
                                have s9_ : (t345.extract 0 ji9.toNat).size = ji9.toNat := by rw [ByteArray.size_extract]; have h0_ : 0 ≤ ji9 := of_decide_eq_true (by assumption); have h1_ : ji9 ≤ (t345.size : Int) := of_decide_eq_true (by assumption); omega
                                have f9_ : (9223372036854775807 < ji9.toNat + (strOfNums y346).size) = False := by have h_ : (t345.extract 0 ji9.toNat).size + (strOfNums y346).size ≤ 9223372036854775807 := (by assumption); rw [s9_] at h_; exact eq_false (Nat.not_lt.2 h_)
                                have g9_ : (9223372036854775807 < ji9.toNat + (strOfNums y346).size + (t345.size - ji9.toNat)) = False := by have h_ : ((t345.extract 0 ji9.toNat) ++ (strOfNums y346)).size + (t345.extract ji9.toNat t345.size).size ≤ 9223372036854775807 := (by assumption); rw [ByteArray.size_append, s9_, ByteArray.size_extract] at h_; exact eq_false (Nat.not_lt.2 (by omega))
                                clear s9_
                                go_enter Tryd.func7, Tryd.ntmps7
                                try go_wp2_with (first | ((with_reducible refine gate_callee (f := 10) rfl ?_); refine goesL_ (some 13) rfl rfl Tryd.func10 (by kernel_rfl) rfl #[] rfl (by (try simp only [List.map_toArray, List.map_cons, List.map_nil]); first | done | rfl | (simp only [List.length_drop, List.length_take]; rfl)) ?_; (with_reducible refine (tribunallaw02_head.calls  true _ A4.out).mono ?_); rintro e w62 ⟨rfl, hb⟩; refine ⟨_, rfl, ?_⟩; have n0_ := Aside0.mk (below_step (by repeat (first | (with_reducible first | exact HB.out | apply below_alloc | apply pw_below_drewN | apply below_drew1) | exact HB.out)) hb); clear HB; have HB := n0_; clear n0_; (try clear hb); (try clear hb2); (try clear hk); (try clear hi)) | ((with_reducible refine gate_callee (f := 13) rfl ?_); refine goesL_ (some 19) rfl rfl Tryd.func13 (by kernel_rfl) rfl #[.slice A0 l0.length c0] rfl (by (try simp only [List.map_toArray, List.map_cons, List.map_nil]); first | done | rfl | (simp only [List.length_drop, List.length_take]; rfl)) ?_; (with_reducible refine (digits_Text.calls _ _ l0 t345 _ ?side1 ?side2 A7.out).mono ?_); (case side1 => repeat (first | exact (Kd.C_below HR0.out HB.out) | (with_reducible refine Kd.C_alloc ?_ _) | (with_reducible refine Kd.C_drewN ?_ _) | (with_reducible refine Kd.C_drew ?_))); (case side2 => exact HC0.out); rintro e w63 ⟨rfl, hb⟩; refine ⟨_, rfl, ?_⟩; have n0_ := Aside0.mk (below_step (by repeat (first | (with_reducible first | exact HB.out | apply below_alloc | apply pw_below_drewN | apply below_drew1) | exact HB.out)) hb); clear HB; have HB := n0_; clear n0_; (try clear hb); (try clear hb2); (try clear hk); (try clear hi)))
                                have n0_ := Aside0.mk (below_drew1 HB.out)
                                clear HB
                                have HB := n0_
                                clear n0_
                                refine start_ (n := 12) (S := fun w' => True) (ds := []) #[false, false, false, false, false, false, false, false, false, false, false, false] (by kernel_rfl) rfl rfl trivial (fun hHeld => ?_); refine with_tabW tribunallaw02_DigitsWrong.tab6 tribunallaw02_DigitsWrong.bits6 (fun HT_ HW_ => ?_)
                                generalize w63.drew = w64 at HB hHeld ⊢
                                refine pure_ (i := 0) (N := some 26) (v := ?_) (a' := ?_) #[true, false, false, false, false, false, false, false, false, false, false, false] rfl rfl (any_of HT_.out (by kernel_rfl)) (fun _ _ _ h => h) (Or.inl ⟨by rfl, ?_⟩) ?_ ?_
                                rotate_left
                                · intro w'
                                  go_simp
                                  with_reducible rfl
                                rotate_left
                                · simp only [Act.put, List.setIfInBounds_toArray, List.set_cons_zero, List.set_cons_succ, i64_w, i32_w]
                                  rfl
                                refine pure_ (i := 1) (N := some 27) (v := ?_) (a' := ?_) #[true, true, false, false, false, false, false, false, false, false, false, false] rfl rfl (any_of HT_.out (by kernel_rfl)) (fun _ _ _ h => h) (Or.inl ⟨by rfl, ?_⟩) ?_ ?_
                                rotate_left
                                · intro w'
                                  go_simp
                                  with_reducible rfl
                                rotate_left
                                · simp only [Act.put, List.setIfInBounds_toArray, List.set_cons_zero, List.set_cons_succ, i64_w, i32_w]
                                  rfl
                                refine pure_ (i := 2) (N := some 28) (v := ?_) (a' := ?_) #[true, true, true, false, false, false, false, false, false, false, false, false] rfl rfl (any_of HT_.out (by kernel_rfl)) (fun _ _ _ h => h) (Or.inl ⟨by rfl, ?_⟩) ?_ ?_
                                rotate_left
                                · intro w'
                                  go_simp
                                  with_reducible rfl
                                rotate_left
                                · simp only [Act.put, List.setIfInBounds_toArray, List.set_cons_zero, List.set_cons_succ, i64_w, i32_w]
                                  rfl
                                refine pure_ (i := 3) (N := some 29) (v := ?_) (a' := ?_) #[true, true, true, true, false, false, false, false, false, false, false, false] rfl rfl (any_of HT_.out (by kernel_rfl)) (fun _ _ _ h => h) (Or.inl ⟨by rfl, ?_⟩) ?_ ?_
                                rotate_left
                                · intro w'
                                  go_simp
                                  with_reducible rfl
                                rotate_left
                                · simp only [Act.put, List.setIfInBounds_toArray, List.set_cons_zero, List.set_cons_succ, i64_w, i32_w]
                                  rfl
                                refine pure_ (i := 7) (N := some 33) (v := ?_) (a' := ?_) #[true, true, true, true, false, false, false, true, false, false, false, false] rfl rfl (any_of HT_.out (by kernel_rfl)) (fun _ _ _ h => h) (Or.inl ⟨by rfl, ?_⟩) ?_ ?_
                                rotate_left
                                · intro w'
                                  go_simp
                                  with_reducible rfl
                                rotate_left
                                · simp only [Act.put, List.setIfInBounds_toArray, List.set_cons_zero, List.set_cons_succ, i64_w, i32_w]
                                  rfl
                                refine pure_ (i := 8) (N := some 34) (v := ?_) (a' := ?_) #[true, true, true, true, false, false, false, true, true, false, false, false] rfl rfl (any_of HT_.out (by kernel_rfl)) (fun _ _ _ h => h) (Or.inl ⟨by rfl, ?_⟩) ?_ ?_
                                rotate_left
                                · intro w'
                                  go_simp
                                  with_reducible rfl
                                rotate_left
                                · simp only [Act.put, List.setIfInBounds_toArray, List.set_cons_zero, List.set_cons_succ, i64_w, i32_w]
                                  rfl
                                refine pure_ (i := 9) (N := some 35) (v := ?_) (a' := ?_) #[true, true, true, true, false, false, false, true, true, true, false, false] rfl rfl (any_of HT_.out (by kernel_rfl)) (fun _ _ _ h => h) (Or.inl ⟨by rfl, ?_⟩) ?_ ?_
                                rotate_left
                                · intro w'
                                  go_simp
                                  with_reducible rfl
                                rotate_left
                                · simp only [Act.put, List.setIfInBounds_toArray, List.set_cons_zero, List.set_cons_succ, i64_w, i32_w]
                                  rfl
                                refine one_ (i := 4) (N := some 30) #[true, true, true, true, true, false, false, true, true, true, false, false] rfl rfl (one_of HT_.out (by kernel_rfl)) (by decide) (fun K hK => ?_)
                                refine Kd.R_lit_step (Kd.int .u8) _ 5 ?hg (N := 30) ?hd (xs := ([a2] : List Int)) (inner := [.int .u8 a2]) (ok := fun _ => True) (okp := fun _ => True) ?hr ?hp (fun _ hk => hk) trivial (Below.refl _ _) (Nat.le_refl _) (by simp) ?_; (case hd => rfl); (case hg => rfl); (case hr => first | (go_simp; done) | (go_simp; rfl) | (go_simp; simp only [Kd_u32u8])); (case hp => exact (Reps.one (show Kd.M (Kd.int .u8) _ _ _ a2 [.int .u8 a2] from rfl) (Reps.none _ _)))
                                intro v347 w65 ho66 hb hg_ hnew_
                                clear hg_ hnew_
                                (first | rw [← Ny346.out] at ho66 | (simp only [Int.reduceToNat] at ho66; rw [← Ny346.out] at ho66))
                                have n0_ := Aside0.mk (Kd.R_lower ho66 (below_size (by repeat (first | (with_reducible first | exact HB.out | apply below_alloc | apply pw_below_drewN | apply below_drew1) | exact HB.out))))
                                have n1_ := Aside0.mk (below_step (by repeat (first | (with_reducible first | exact HB.out | apply below_alloc | apply pw_below_drewN | apply below_drew1) | exact HB.out)) hb)
                                clear HB
                                have HO348 := n0_
                                have HB := n1_
                                clear n0_ n1_
                                clear hb ho66
                                refine hK.out _ _ trivial (fun hHeld => ?_)
                                clear hK K
                                refine norm_ (a' := ?_) ?_ ?_
                                rotate_left
                                · show Act.put _ (some 30) _ = _
                                  simp only [Act.put, List.setIfInBounds_toArray, List.set_cons_zero, List.set_cons_succ, i64_w, i32_w]
                                  rfl
                                refine one_ (i := 5) (N := some 31) #[true, true, true, true, true, true, false, true, true, true, false, false] rfl rfl (one_of HT_.out (by kernel_rfl)) (by decide) (fun K hK => ?_)
                                have hcv67 := own_string (P := Tryd.prog) Tryd.underlying33 Tryd.underlying5 Tryd.underlying9 (Kd.own_of_R HO348.out)
                                refine value_ (w1 := ?_) (v := ?_) (by rfl) rfl ?_ ?_
                                rotate_left 2
                                · go_simp
                                  constructor
                                  · rfl
                                  · rfl
                                clear hcv67
                                refine hK.out _ _ trivial (fun hHeld => ?_)
                                clear hK K
                                refine norm_ (a' := ?_) ?_ ?_
                                rotate_left
                                · show Act.put _ (some 31) _ = _
                                  simp only [Act.put, List.setIfInBounds_toArray, List.set_cons_zero, List.set_cons_succ, i64_w, i32_w]
                                  rfl
                                refine pure_ (i := 6) (N := some 32) (v := ?_) (a' := ?_) #[true, true, true, true, true, true, true, true, true, true, false, false] rfl rfl (any_of HT_.out (by kernel_rfl)) (fun _ _ _ h => h) (Or.inl ⟨by rfl, ?_⟩) ?_ ?_
                                rotate_left
                                · intro w'
                                  go_simp
                                  with_reducible rfl
                                rotate_left
                                · simp only [Act.put, List.setIfInBounds_toArray, List.set_cons_zero, List.set_cons_succ, i64_w, i32_w]
                                  rfl
                                refine pure_ (i := 10) (N := some 36) (v := ?_) (a' := ?_) #[true, true, true, true, true, true, true, true, true, true, true, false] rfl rfl (any_of HT_.out (by kernel_rfl)) (fun _ _ _ h => h) (Or.inl ⟨by rfl, ?_⟩) ?_ ?_
                                rotate_left
                                · intro w'
                                  go_simp
                                  with_reducible rfl
                                rotate_left
                                · simp only [Act.put, List.setIfInBounds_toArray, List.set_cons_zero, List.set_cons_succ, i64_w, i32_w]
                                  rfl
                                refine pure_ (i := 11) (N := some 10) (v := ?_) (a' := ?_) #[true, true, true, true, true, true, true, true, true, true, true, true] rfl rfl (any_of HT_.out (by kernel_rfl)) (fun _ _ _ h => h) (Or.inl ⟨by rfl, ?_⟩) ?_ ?_
                                rotate_left
                                · intro w'
                                  go_simp
                                  with_reducible rfl
                                rotate_left
                                · simp only [Act.put, List.setIfInBounds_toArray, List.set_cons_zero, List.set_cons_succ, i64_w, i32_w]
                                  rfl
                                refine done_ (done_of HT_.out (by kernel_rfl)) ?_
                                have p20 : 0 ≤ (0 : Int) := (by omega)
                                have q20 : 0 < t345.size := (by have : (0 : Int) < (t345.size : Int) := of_decide_eq_true (by first | (with_reducible assumption) | assumption); omega)
                                have hx20 : ∀ h : 0 < t345.size, ((t345[0]'h).toNat : Int) = bt t345 0 := bt_at t345 0
                                clear p20
                                have qi20 : (0 < (t345.size : Int)) = True := eq_true (of_decide_eq_true (by first | (with_reducible assumption) | assumption))
                                replace q20 := eq_true q20
                                try go_wp2_with (first | (go_at_call 16; (with_reducible refine (digits_Right.calls (((t345.extract 0 ((ji9) : Int).toNat) ++ (strOfNums y346)) ++ (t345.extract ((ji9) : Int).toNat t345.size)) t355 _ A56.out).mono ?_); rintro e w68 ⟨rfl, hb⟩; have n0_ := Aside0.mk (Kd.R_below (by (with_reducible repeat (first | apply Kd.R_alloc | apply Kd.R_drewN | apply Kd.R_drew)); exact HO348.out) hb); have n1_ := Aside0.mk (below_step (by repeat (first | (with_reducible first | exact HB.out | apply below_alloc | apply pw_below_drewN | apply below_drew1) | exact HB.out)) hb); clear HO348; clear HB; have HO348 := n0_; have HB := n1_; clear n0_ n1_; (try clear hb); (try clear hb2); (try clear hk); (try clear hi)) | (go_at_call 16; (with_reducible refine (digits_Right.calls ((⟨#[48]⟩ : ByteArray) ++ t345) false _ A59.out).mono ?_); rintro e w69 ⟨rfl, hb⟩; have n0_ := Aside0.mk (Kd.R_below (by (with_reducible repeat (first | apply Kd.R_alloc | apply Kd.R_drewN | apply Kd.R_drew)); exact HO348.out) hb); have n1_ := Aside0.mk (below_step (by repeat (first | (with_reducible first | exact HB.out | apply below_alloc | apply pw_below_drewN | apply below_drew1) | exact HB.out)) hb); clear HO348; clear HB; have HO348 := n0_; have HB := n1_; clear n0_ n1_; (try clear hb); (try clear hb2); (try clear hk); (try clear hi)) | (go_at_call 16; (with_reducible refine (digits_Right.calls ((⟨#[45]⟩ : ByteArray) ++ t345) t357 _ A61.out).mono ?_); rintro e w70 ⟨rfl, hb⟩; have n0_ := Aside0.mk (Kd.R_below (by (with_reducible repeat (first | apply Kd.R_alloc | apply Kd.R_drewN | apply Kd.R_drew)); exact HO348.out) hb); have n1_ := Aside0.mk (below_step (by repeat (first | (with_reducible first | exact HB.out | apply below_alloc | apply pw_below_drewN | apply below_drew1) | exact HB.out)) hb); clear HO348; clear HB; have HO348 := n0_; have HB := n1_; clear n0_ n1_; (try clear hb); (try clear hb2); (try clear hk); (try clear hi)))
                                go_ret
                                exact ⟨by first | rfl | (simp [errW_none, errW_some] <;> rfl) | (simp only [← hji9]; first | rfl | (simp [errW_none, errW_some] <;> rfl)) | (simp [*, errW_none, errW_some] <;> rfl), by repeat (first | (with_reducible first | exact HB.out | apply below_alloc | apply pw_below_drewN | apply below_drew1) | exact HB.out)⟩
                            · rw [if_neg c58] at H
                              exact absurd H (by simp)
                          · rw [if_neg c57] at H
                            exact absurd H (by simp)
                        · replace c55 := Bool.eq_false_iff.mpr c55
                          subst c55
                          have H1 : (none) = some r := by rw [if_neg (show ¬ (false = true) by decide)] at H; exact H
                          clear H
                          have H := H1
                          clear H1
                          exact absurd H (by simp)
                    · rw [if_neg c19] at H
                      exact absurd H (by simp)
                  · rw [if_neg c18] at H
                    have c18b0 : decide (0 < (ji9)) = false := decide_eq_false c18
                    clear c18
                    by_cases c71 : (ji9) = 0
                    · rw [if_pos c71] at H
                      have c71b0 : ((ji9) == 0) = true := beq_iff_eq.mpr c71
                      have c71b1 : ((ji9) != 0) = false := bne_eq_false_iff_eq.mpr c71
                      clear c71
                      by_cases c72 : t344 = true
                      · subst c72
                        have H1 : ((digits_Right.f (((t345.extract 0 ((ji9) : Int).toNat) ++ (strOfNums y346)) ++ (t345.extract ((ji9) : Int).toNat t345.size))).bind fun t358 => (if (t358 == (a2 != 48)) = true then (if 1 + t345.size ≤ 9223372036854775807 then ((digits_Right.f ((⟨#[48]⟩ : ByteArray) ++ t345)).bind fun t359 => (if t359 = true then (none) else ((digits_Right.f ((⟨#[45]⟩ : ByteArray) ++ t345)).bind fun t360 => (some (!t360))))) else (none)) else (none))) = some r := by rw [if_pos rfl] at H; exact H
                        clear H
                        have H := H1
                        clear H1
                        replace H := Option.bind_eq_some_iff.mp H
                        obtain ⟨t358, A730, H⟩ := H
                        replace H : (if (t358 == (a2 != 48)) = true then (if 1 + t345.size ≤ 9223372036854775807 then ((digits_Right.f ((⟨#[48]⟩ : ByteArray) ++ t345)).bind fun t359 => (if t359 = true then (none) else ((digits_Right.f ((⟨#[45]⟩ : ByteArray) ++ t345)).bind fun t360 => (some (!t360))))) else (none)) else (none)) = some r := H
                        have A73 := Aside0.mk A730
                        clear A730
                        by_cases c74 : (t358 == (a2 != 48)) = true
                        · rw [if_pos c74] at H
                          have c74b0 : (t358 == (a2 != 48)) = true := c74
                          (try (have c74b1 : decide (t358 = (a2 != 48)) = true := by simpa using c74))
                          (try (have c74b2 : (t358 == (a2 != 48)) = true := by simpa using c74))
                          clear c74
                          by_cases c75 : 1 + t345.size ≤ 9223372036854775807
                          · rw [if_pos c75] at H
                            have c75b0 := eq_true c75
                            have c75b1 : decide (1 + t345.size ≤ 9223372036854775807) = true := decide_eq_true c75
                            try have c75b2 : (9223372036854775807 < 1 + t345.size) = False := eq_false (Nat.not_lt.2 c75)
                            replace H := Option.bind_eq_some_iff.mp H
                            obtain ⟨t359, A760, H⟩ := H
                            replace H : (if t359 = true then (none) else ((digits_Right.f ((⟨#[45]⟩ : ByteArray) ++ t345)).bind fun t360 => (some (!t360)))) = some r := H
                            have A76 := Aside0.mk A760
                            clear A760
                            by_cases c77 : t359 = true
                            · subst c77
                              have H1 : (none) = some r := by rw [if_pos rfl] at H; exact H
                              clear H
                              have H := H1
                              clear H1
                              exact absurd H (by simp)
                            · replace c77 := Bool.eq_false_iff.mpr c77
                              subst c77
                              have H1 : ((digits_Right.f ((⟨#[45]⟩ : ByteArray) ++ t345)).bind fun t360 => (some (!t360))) = some r := by rw [if_neg (show ¬ (false = true) by decide)] at H; exact H
                              clear H
                              have H := H1
                              clear H1
                              replace H := Option.bind_eq_some_iff.mp H
                              obtain ⟨t360, A780, H⟩ := H
                              replace H : (some (!t360)) = some r := H
                              have A78 := Aside0.mk A780
                              clear A780
                              obtain rfl := Option.some.inj H
                              have w9_ : wrap64 ((t345.size : Int) + 1) = (t345.size : Int) + 1 := by unfold wrap64; omega
                              rw [w9_] at hji9
                              clear w9_
                              have s9_ : (t345.extract 0 ji9.toNat).size = ji9.toNat := by rw [ByteArray.size_extract]; have h0_ : 0 ≤ ji9 := of_decide_eq_true (by assumption); have h1_ : ji9 ≤ (t345.size : Int) := of_decide_eq_true (by assumption); omega
                              have f9_ : (9223372036854775807 < ji9.toNat + (strOfNums y346).size) = False := by have h_ : (t345.extract 0 ji9.toNat).size + (strOfNums y346).size ≤ 9223372036854775807 := (by assumption); rw [s9_] at h_; exact eq_false (Nat.not_lt.2 h_)
                              have g9_ : (9223372036854775807 < ji9.toNat + (strOfNums y346).size + (t345.size - ji9.toNat)) = False := by have h_ : ((t345.extract 0 ji9.toNat) ++ (strOfNums y346)).size + (t345.extract ji9.toNat t345.size).size ≤ 9223372036854775807 := (by assumption); rw [ByteArray.size_append, s9_, ByteArray.size_extract] at h_; exact eq_false (Nat.not_lt.2 (by omega))
                              clear s9_
                              go_enter Tryd.func7, Tryd.ntmps7
                              try go_wp2_with (first | ((with_reducible refine gate_callee (f := 10) rfl ?_); refine goesL_ (some 13) rfl rfl Tryd.func10 (by kernel_rfl) rfl #[] rfl (by (try simp only [List.map_toArray, List.map_cons, List.map_nil]); first | done | rfl | (simp only [List.length_drop, List.length_take]; rfl)) ?_; (with_reducible refine (tribunallaw02_head.calls  true _ A4.out).mono ?_); rintro e w79 ⟨rfl, hb⟩; refine ⟨_, rfl, ?_⟩; have n0_ := Aside0.mk (below_step (by repeat (first | (with_reducible first | exact HB.out | apply below_alloc | apply pw_below_drewN | apply below_drew1) | exact HB.out)) hb); clear HB; have HB := n0_; clear n0_; (try clear hb); (try clear hb2); (try clear hk); (try clear hi)) | ((with_reducible refine gate_callee (f := 13) rfl ?_); refine goesL_ (some 19) rfl rfl Tryd.func13 (by kernel_rfl) rfl #[.slice A0 l0.length c0] rfl (by (try simp only [List.map_toArray, List.map_cons, List.map_nil]); first | done | rfl | (simp only [List.length_drop, List.length_take]; rfl)) ?_; (with_reducible refine (digits_Text.calls _ _ l0 t345 _ ?side1 ?side2 A7.out).mono ?_); (case side1 => repeat (first | exact (Kd.C_below HR0.out HB.out) | (with_reducible refine Kd.C_alloc ?_ _) | (with_reducible refine Kd.C_drewN ?_ _) | (with_reducible refine Kd.C_drew ?_))); (case side2 => exact HC0.out); rintro e w80 ⟨rfl, hb⟩; refine ⟨_, rfl, ?_⟩; have n0_ := Aside0.mk (below_step (by repeat (first | (with_reducible first | exact HB.out | apply below_alloc | apply pw_below_drewN | apply below_drew1) | exact HB.out)) hb); clear HB; have HB := n0_; clear n0_; (try clear hb); (try clear hb2); (try clear hk); (try clear hi)))
                              have n0_ := Aside0.mk (below_drew1 HB.out)
                              clear HB
                              have HB := n0_
                              clear n0_
                              refine start_ (n := 12) (S := fun w' => True) (ds := []) #[false, false, false, false, false, false, false, false, false, false, false, false] (by kernel_rfl) rfl rfl trivial (fun hHeld => ?_); refine with_tabW tribunallaw02_DigitsWrong.tab6 tribunallaw02_DigitsWrong.bits6 (fun HT_ HW_ => ?_)
                              generalize w80.drew = w81 at HB hHeld ⊢
                              refine pure_ (i := 0) (N := some 26) (v := ?_) (a' := ?_) #[true, false, false, false, false, false, false, false, false, false, false, false] rfl rfl (any_of HT_.out (by kernel_rfl)) (fun _ _ _ h => h) (Or.inl ⟨by rfl, ?_⟩) ?_ ?_
                              rotate_left
                              · intro w'
                                go_simp
                                with_reducible rfl
                              rotate_left
                              · simp only [Act.put, List.setIfInBounds_toArray, List.set_cons_zero, List.set_cons_succ, i64_w, i32_w]
                                rfl
                              refine pure_ (i := 1) (N := some 27) (v := ?_) (a' := ?_) #[true, true, false, false, false, false, false, false, false, false, false, false] rfl rfl (any_of HT_.out (by kernel_rfl)) (fun _ _ _ h => h) (Or.inl ⟨by rfl, ?_⟩) ?_ ?_
                              rotate_left
                              · intro w'
                                go_simp
                                with_reducible rfl
                              rotate_left
                              · simp only [Act.put, List.setIfInBounds_toArray, List.set_cons_zero, List.set_cons_succ, i64_w, i32_w]
                                rfl
                              refine pure_ (i := 2) (N := some 28) (v := ?_) (a' := ?_) #[true, true, true, false, false, false, false, false, false, false, false, false] rfl rfl (any_of HT_.out (by kernel_rfl)) (fun _ _ _ h => h) (Or.inl ⟨by rfl, ?_⟩) ?_ ?_
                              rotate_left
                              · intro w'
                                go_simp
                                with_reducible rfl
                              rotate_left
                              · simp only [Act.put, List.setIfInBounds_toArray, List.set_cons_zero, List.set_cons_succ, i64_w, i32_w]
                                rfl
                              refine pure_ (i := 3) (N := some 29) (v := ?_) (a' := ?_) #[true, true, true, true, false, false, false, false, false, false, false, false] rfl rfl (any_of HT_.out (by kernel_rfl)) (fun _ _ _ h => h) (Or.inl ⟨by rfl, ?_⟩) ?_ ?_
                              rotate_left
                              · intro w'
                                go_simp
                                with_reducible rfl
                              rotate_left
                              · simp only [Act.put, List.setIfInBounds_toArray, List.set_cons_zero, List.set_cons_succ, i64_w, i32_w]
                                rfl
                              refine pure_ (i := 7) (N := some 33) (v := ?_) (a' := ?_) #[true, true, true, true, false, false, false, true, false, false, false, false] rfl rfl (any_of HT_.out (by kernel_rfl)) (fun _ _ _ h => h) (Or.inl ⟨by rfl, ?_⟩) ?_ ?_
                              rotate_left
                              · intro w'
                                go_simp
                                with_reducible rfl
                              rotate_left
                              · simp only [Act.put, List.setIfInBounds_toArray, List.set_cons_zero, List.set_cons_succ, i64_w, i32_w]
                                rfl
                              refine pure_ (i := 8) (N := some 34) (v := ?_) (a' := ?_) #[true, true, true, true, false, false, false, true, true, false, false, false] rfl rfl (any_of HT_.out (by kernel_rfl)) (fun _ _ _ h => h) (Or.inl ⟨by rfl, ?_⟩) ?_ ?_
                              rotate_left
                              · intro w'
                                go_simp
                                with_reducible rfl
                              rotate_left
                              · simp only [Act.put, List.setIfInBounds_toArray, List.set_cons_zero, List.set_cons_succ, i64_w, i32_w]
                                rfl
                              refine pure_ (i := 9) (N := some 35) (v := ?_) (a' := ?_) #[true, true, true, true, false, false, false, true, true, true, false, false] rfl rfl (any_of HT_.out (by kernel_rfl)) (fun _ _ _ h => h) (Or.inl ⟨by rfl, ?_⟩) ?_ ?_
                              rotate_left
                              · intro w'
                                go_simp
                                with_reducible rfl
                              rotate_left
                              · simp only [Act.put, List.setIfInBounds_toArray, List.set_cons_zero, List.set_cons_succ, i64_w, i32_w]
                                rfl
                              refine one_ (i := 4) (N := some 30) #[true, true, true, true, true, false, false, true, true, true, false, false] rfl rfl (one_of HT_.out (by kernel_rfl)) (by decide) (fun K hK => ?_)
                              refine Kd.R_lit_step (Kd.int .u8) _ 5 ?hg (N := 30) ?hd (xs := ([a2] : List Int)) (inner := [.int .u8 a2]) (ok := fun _ => True) (okp := fun _ => True) ?hr ?hp (fun _ hk => hk) trivial (Below.refl _ _) (Nat.le_refl _) (by simp) ?_; (case hd => rfl); (case hg => rfl); (case hr => first | (go_simp; done) | (go_simp; rfl) | (go_simp; simp only [Kd_u32u8])); (case hp => exact (Reps.one (show Kd.M (Kd.int .u8) _ _ _ a2 [.int .u8 a2] from rfl) (Reps.none _ _)))
                              intro v347 w82 ho83 hb hg_ hnew_
                              clear hg_ hnew_
                              (first | rw [← Ny346.out] at ho83 | (simp only [Int.reduceToNat] at ho83; rw [← Ny346.out] at ho83))
                              have n0_ := Aside0.mk (Kd.R_lower ho83 (below_size (by repeat (first | (with_reducible first | exact HB.out | apply below_alloc | apply pw_below_drewN | apply below_drew1) | exact HB.out))))
                              have n1_ := Aside0.mk (below_step (by repeat (first | (with_reducible first | exact HB.out | apply below_alloc | apply pw_below_drewN | apply below_drew1) | exact HB.out)) hb)
                              clear HB
                              have HO348 := n0_
                              have HB := n1_
                              clear n0_ n1_
                              clear hb ho83
                              refine hK.out _ _ trivial (fun hHeld => ?_)
                              clear hK K
                              refine norm_ (a' := ?_) ?_ ?_
                              rotate_left
                              · show Act.put _ (some 30) _ = _
                                simp only [Act.put, List.setIfInBounds_toArray, List.set_cons_zero, List.set_cons_succ, i64_w, i32_w]
                                rfl
                              refine one_ (i := 5) (N := some 31) #[true, true, true, true, true, true, false, true, true, true, false, false] rfl rfl (one_of HT_.out (by kernel_rfl)) (by decide) (fun K hK => ?_)
                              have hcv84 := own_string (P := Tryd.prog) Tryd.underlying33 Tryd.underlying5 Tryd.underlying9 (Kd.own_of_R HO348.out)
                              refine value_ (w1 := ?_) (v := ?_) (by rfl) rfl ?_ ?_
                              rotate_left 2
                              · go_simp
                                constructor
                                · rfl
                                · rfl
                              clear hcv84
                              refine hK.out _ _ trivial (fun hHeld => ?_)
                              clear hK K
                              refine norm_ (a' := ?_) ?_ ?_
                              rotate_left
                              · show Act.put _ (some 31) _ = _
                                simp only [Act.put, List.setIfInBounds_toArray, List.set_cons_zero, List.set_cons_succ, i64_w, i32_w]
                                rfl
                              refine pure_ (i := 6) (N := some 32) (v := ?_) (a' := ?_) #[true, true, true, true, true, true, true, true, true, true, false, false] rfl rfl (any_of HT_.out (by kernel_rfl)) (fun _ _ _ h => h) (Or.inl ⟨by rfl, ?_⟩) ?_ ?_
                              rotate_left
                              · intro w'
                                go_simp
                                with_reducible rfl
                              rotate_left
                              · simp only [Act.put, List.setIfInBounds_toArray, List.set_cons_zero, List.set_cons_succ, i64_w, i32_w]
                                rfl
                              refine pure_ (i := 10) (N := some 36) (v := ?_) (a' := ?_) #[true, true, true, true, true, true, true, true, true, true, true, false] rfl rfl (any_of HT_.out (by kernel_rfl)) (fun _ _ _ h => h) (Or.inl ⟨by rfl, ?_⟩) ?_ ?_
                              rotate_left
                              · intro w'
                                go_simp
                                with_reducible rfl
                              rotate_left
                              · simp only [Act.put, List.setIfInBounds_toArray, List.set_cons_zero, List.set_cons_succ, i64_w, i32_w]
                                rfl
                              refine pure_ (i := 11) (N := some 10) (v := ?_) (a' := ?_) #[true, true, true, true, true, true, true, true, true, true, true, true] rfl rfl (any_of HT_.out (by kernel_rfl)) (fun _ _ _ h => h) (Or.inl ⟨by rfl, ?_⟩) ?_ ?_
                              rotate_left
                              · intro w'
                                go_simp
                                with_reducible rfl
                              rotate_left
                              · simp only [Act.put, List.setIfInBounds_toArray, List.set_cons_zero, List.set_cons_succ, i64_w, i32_w]
                                rfl
                              refine done_ (done_of HT_.out (by kernel_rfl)) ?_
                              try go_wp2_with (first | (go_at_call 16; (with_reducible refine (digits_Right.calls (((t345.extract 0 ((ji9) : Int).toNat) ++ (strOfNums y346)) ++ (t345.extract ((ji9) : Int).toNat t345.size)) t358 _ A73.out).mono ?_); rintro e w85 ⟨rfl, hb⟩; have n0_ := Aside0.mk (Kd.R_below (by (with_reducible repeat (first | apply Kd.R_alloc | apply Kd.R_drewN | apply Kd.R_drew)); exact HO348.out) hb); have n1_ := Aside0.mk (below_step (by repeat (first | (with_reducible first | exact HB.out | apply below_alloc | apply pw_below_drewN | apply below_drew1) | exact HB.out)) hb); clear HO348; clear HB; have HO348 := n0_; have HB := n1_; clear n0_ n1_; (try clear hb); (try clear hb2); (try clear hk); (try clear hi)) | (go_at_call 16; (with_reducible refine (digits_Right.calls ((⟨#[48]⟩ : ByteArray) ++ t345) false _ A76.out).mono ?_); rintro e w86 ⟨rfl, hb⟩; have n0_ := Aside0.mk (Kd.R_below (by (with_reducible repeat (first | apply Kd.R_alloc | apply Kd.R_drewN | apply Kd.R_drew)); exact HO348.out) hb); have n1_ := Aside0.mk (below_step (by repeat (first | (with_reducible first | exact HB.out | apply below_alloc | apply pw_below_drewN | apply below_drew1) | exact HB.out)) hb); clear HO348; clear HB; have HO348 := n0_; have HB := n1_; clear n0_ n1_; (try clear hb); (try clear hb2); (try clear hk); (try clear hi)) | (go_at_call 16; (with_reducible refine (digits_Right.calls ((⟨#[45]⟩ : ByteArray) ++ t345) t360 _ A78.out).mono ?_); rintro e w87 ⟨rfl, hb⟩; have n0_ := Aside0.mk (Kd.R_below (by (with_reducible repeat (first | apply Kd.R_alloc | apply Kd.R_drewN | apply Kd.R_drew)); exact HO348.out) hb); have n1_ := Aside0.mk (below_step (by repeat (first | (with_reducible first | exact HB.out | apply below_alloc | apply pw_below_drewN | apply below_drew1) | exact HB.out)) hb); clear HO348; clear HB; have HO348 := n0_; have HB := n1_; clear n0_ n1_; (try clear hb); (try clear hb2); (try clear hk); (try clear hi)))
                              go_ret
                              exact ⟨by first | rfl | (simp [errW_none, errW_some] <;> rfl) | (simp only [← hji9]; first | rfl | (simp [errW_none, errW_some] <;> rfl)) | (simp [*, errW_none, errW_some] <;> rfl), by repeat (first | (with_reducible first | exact HB.out | apply below_alloc | apply pw_below_drewN | apply below_drew1) | exact HB.out)⟩
                          · rw [if_neg c75] at H
                            exact absurd H (by simp)
                        · rw [if_neg c74] at H
                          exact absurd H (by simp)
                      · replace c72 := Bool.eq_false_iff.mpr c72
                        subst c72
                        have H1 : (none) = some r := by rw [if_neg (show ¬ (false = true) by decide)] at H; exact H
                        clear H
                        have H := H1
                        clear H1
                        exact absurd H (by simp)
                    · rw [if_neg c71] at H
                      have c71b0 : ((ji9) == 0) = false := beq_eq_false_iff_ne.mpr c71
                      have c71b1 : ((ji9) != 0) = true := bne_iff_ne.mpr c71
                      by_cases c88 : t344 = true
                      · subst c88
                        have H1 : ((digits_Right.f (((t345.extract 0 ((ji9) : Int).toNat) ++ (strOfNums y346)) ++ (t345.extract ((ji9) : Int).toNat t345.size))).bind fun t361 => (if (t361 == false) = true then (if 1 + t345.size ≤ 9223372036854775807 then ((digits_Right.f ((⟨#[48]⟩ : ByteArray) ++ t345)).bind fun t362 => (if t362 = true then (none) else ((digits_Right.f ((⟨#[45]⟩ : ByteArray) ++ t345)).bind fun t363 => (some (!t363))))) else (none)) else (none))) = some r := by rw [if_pos rfl] at H; exact H
                        clear H
                        have H := H1
                        clear H1
                        replace H := Option.bind_eq_some_iff.mp H
                        obtain ⟨t361, A890, H⟩ := H
                        replace H : (if (t361 == false) = true then (if 1 + t345.size ≤ 9223372036854775807 then ((digits_Right.f ((⟨#[48]⟩ : ByteArray) ++ t345)).bind fun t362 => (if t362 = true then (none) else ((digits_Right.f ((⟨#[45]⟩ : ByteArray) ++ t345)).bind fun t363 => (some (!t363))))) else (none)) else (none)) = some r := H
                        have A89 := Aside0.mk A890
                        clear A890
                        by_cases c90 : (t361 == false) = true
                        · rw [if_pos c90] at H
                          have c90b0 : (t361 == false) = true := c90
                          (try (have c90b1 : decide (t361 = false) = true := by simpa using c90))
                          (try (have c90b2 : (t361 == false) = true := by simpa using c90))
                          clear c90
                          by_cases c91 : 1 + t345.size ≤ 9223372036854775807
                          · rw [if_pos c91] at H
                            have c91b0 := eq_true c91
                            have c91b1 : decide (1 + t345.size ≤ 9223372036854775807) = true := decide_eq_true c91
                            try have c91b2 : (9223372036854775807 < 1 + t345.size) = False := eq_false (Nat.not_lt.2 c91)
                            replace H := Option.bind_eq_some_iff.mp H
                            obtain ⟨t362, A920, H⟩ := H
                            replace H : (if t362 = true then (none) else ((digits_Right.f ((⟨#[45]⟩ : ByteArray) ++ t345)).bind fun t363 => (some (!t363)))) = some r := H
                            have A92 := Aside0.mk A920
                            clear A920
                            by_cases c93 : t362 = true
                            · subst c93
                              have H1 : (none) = some r := by rw [if_pos rfl] at H; exact H
                              clear H
                              have H := H1
                              clear H1
                              exact absurd H (by simp)
                            · replace c93 := Bool.eq_false_iff.mpr c93
                              subst c93
                              have H1 : ((digits_Right.f ((⟨#[45]⟩ : ByteArray) ++ t345)).bind fun t363 => (some (!t363))) = some r := by rw [if_neg (show ¬ (false = true) by decide)] at H; exact H
                              clear H
                              have H := H1
                              clear H1
                              replace H := Option.bind_eq_some_iff.mp H
                              obtain ⟨t363, A940, H⟩ := H
                              replace H : (some (!t363)) = some r := H
                              have A94 := Aside0.mk A940
                              clear A940
                              obtain rfl := Option.some.inj H
                              have w9_ : wrap64 ((t345.size : Int) + 1) = (t345.size : Int) + 1 := by unfold wrap64; omega
                              rw [w9_] at hji9
                              clear w9_
                              have s9_ : (t345.extract 0 ji9.toNat).size = ji9.toNat := by rw [ByteArray.size_extract]; have h0_ : 0 ≤ ji9 := of_decide_eq_true (by assumption); have h1_ : ji9 ≤ (t345.size : Int) := of_decide_eq_true (by assumption); omega
                              have f9_ : (9223372036854775807 < ji9.toNat + (strOfNums y346).size) = False := by have h_ : (t345.extract 0 ji9.toNat).size + (strOfNums y346).size ≤ 9223372036854775807 := (by assumption); rw [s9_] at h_; exact eq_false (Nat.not_lt.2 h_)
                              have g9_ : (9223372036854775807 < ji9.toNat + (strOfNums y346).size + (t345.size - ji9.toNat)) = False := by have h_ : ((t345.extract 0 ji9.toNat) ++ (strOfNums y346)).size + (t345.extract ji9.toNat t345.size).size ≤ 9223372036854775807 := (by assumption); rw [ByteArray.size_append, s9_, ByteArray.size_extract] at h_; exact eq_false (Nat.not_lt.2 (by omega))
                              clear s9_
                              go_enter Tryd.func7, Tryd.ntmps7
                              try go_wp2_with (first | ((with_reducible refine gate_callee (f := 10) rfl ?_); refine goesL_ (some 13) rfl rfl Tryd.func10 (by kernel_rfl) rfl #[] rfl (by (try simp only [List.map_toArray, List.map_cons, List.map_nil]); first | done | rfl | (simp only [List.length_drop, List.length_take]; rfl)) ?_; (with_reducible refine (tribunallaw02_head.calls  true _ A4.out).mono ?_); rintro e w95 ⟨rfl, hb⟩; refine ⟨_, rfl, ?_⟩; have n0_ := Aside0.mk (below_step (by repeat (first | (with_reducible first | exact HB.out | apply below_alloc | apply pw_below_drewN | apply below_drew1) | exact HB.out)) hb); clear HB; have HB := n0_; clear n0_; (try clear hb); (try clear hb2); (try clear hk); (try clear hi)) | ((with_reducible refine gate_callee (f := 13) rfl ?_); refine goesL_ (some 19) rfl rfl Tryd.func13 (by kernel_rfl) rfl #[.slice A0 l0.length c0] rfl (by (try simp only [List.map_toArray, List.map_cons, List.map_nil]); first | done | rfl | (simp only [List.length_drop, List.length_take]; rfl)) ?_; (with_reducible refine (digits_Text.calls _ _ l0 t345 _ ?side1 ?side2 A7.out).mono ?_); (case side1 => repeat (first | exact (Kd.C_below HR0.out HB.out) | (with_reducible refine Kd.C_alloc ?_ _) | (with_reducible refine Kd.C_drewN ?_ _) | (with_reducible refine Kd.C_drew ?_))); (case side2 => exact HC0.out); rintro e w96 ⟨rfl, hb⟩; refine ⟨_, rfl, ?_⟩; have n0_ := Aside0.mk (below_step (by repeat (first | (with_reducible first | exact HB.out | apply below_alloc | apply pw_below_drewN | apply below_drew1) | exact HB.out)) hb); clear HB; have HB := n0_; clear n0_; (try clear hb); (try clear hb2); (try clear hk); (try clear hi)))
                              have n0_ := Aside0.mk (below_drew1 HB.out)
                              clear HB
                              have HB := n0_
                              clear n0_
                              refine start_ (n := 12) (S := fun w' => True) (ds := []) #[false, false, false, false, false, false, false, false, false, false, false, false] (by kernel_rfl) rfl rfl trivial (fun hHeld => ?_); refine with_tabW tribunallaw02_DigitsWrong.tab6 tribunallaw02_DigitsWrong.bits6 (fun HT_ HW_ => ?_)
                              generalize w96.drew = w97 at HB hHeld ⊢
                              refine pure_ (i := 0) (N := some 26) (v := ?_) (a' := ?_) #[true, false, false, false, false, false, false, false, false, false, false, false] rfl rfl (any_of HT_.out (by kernel_rfl)) (fun _ _ _ h => h) (Or.inl ⟨by rfl, ?_⟩) ?_ ?_
                              rotate_left
                              · intro w'
                                go_simp
                                with_reducible rfl
                              rotate_left
                              · simp only [Act.put, List.setIfInBounds_toArray, List.set_cons_zero, List.set_cons_succ, i64_w, i32_w]
                                rfl
                              refine pure_ (i := 1) (N := some 27) (v := ?_) (a' := ?_) #[true, true, false, false, false, false, false, false, false, false, false, false] rfl rfl (any_of HT_.out (by kernel_rfl)) (fun _ _ _ h => h) (Or.inl ⟨by rfl, ?_⟩) ?_ ?_
                              rotate_left
                              · intro w'
                                go_simp
                                with_reducible rfl
                              rotate_left
                              · simp only [Act.put, List.setIfInBounds_toArray, List.set_cons_zero, List.set_cons_succ, i64_w, i32_w]
                                rfl
                              refine pure_ (i := 2) (N := some 28) (v := ?_) (a' := ?_) #[true, true, true, false, false, false, false, false, false, false, false, false] rfl rfl (any_of HT_.out (by kernel_rfl)) (fun _ _ _ h => h) (Or.inl ⟨by rfl, ?_⟩) ?_ ?_
                              rotate_left
                              · intro w'
                                go_simp
                                with_reducible rfl
                              rotate_left
                              · simp only [Act.put, List.setIfInBounds_toArray, List.set_cons_zero, List.set_cons_succ, i64_w, i32_w]
                                rfl
                              refine pure_ (i := 3) (N := some 29) (v := ?_) (a' := ?_) #[true, true, true, true, false, false, false, false, false, false, false, false] rfl rfl (any_of HT_.out (by kernel_rfl)) (fun _ _ _ h => h) (Or.inl ⟨by rfl, ?_⟩) ?_ ?_
                              rotate_left
                              · intro w'
                                go_simp
                                with_reducible rfl
                              rotate_left
                              · simp only [Act.put, List.setIfInBounds_toArray, List.set_cons_zero, List.set_cons_succ, i64_w, i32_w]
                                rfl
                              refine pure_ (i := 7) (N := some 33) (v := ?_) (a' := ?_) #[true, true, true, true, false, false, false, true, false, false, false, false] rfl rfl (any_of HT_.out (by kernel_rfl)) (fun _ _ _ h => h) (Or.inl ⟨by rfl, ?_⟩) ?_ ?_
                              rotate_left
                              · intro w'
                                go_simp
                                with_reducible rfl
                              rotate_left
                              · simp only [Act.put, List.setIfInBounds_toArray, List.set_cons_zero, List.set_cons_succ, i64_w, i32_w]
                                rfl
                              refine pure_ (i := 8) (N := some 34) (v := ?_) (a' := ?_) #[true, true, true, true, false, false, false, true, true, false, false, false] rfl rfl (any_of HT_.out (by kernel_rfl)) (fun _ _ _ h => h) (Or.inl ⟨by rfl, ?_⟩) ?_ ?_
                              rotate_left
                              · intro w'
                                go_simp
                                with_reducible rfl
                              rotate_left
                              · simp only [Act.put, List.setIfInBounds_toArray, List.set_cons_zero, List.set_cons_succ, i64_w, i32_w]
                                rfl
                              refine pure_ (i := 9) (N := some 35) (v := ?_) (a' := ?_) #[true, true, true, true, false, false, false, true, true, true, false, false] rfl rfl (any_of HT_.out (by kernel_rfl)) (fun _ _ _ h => h) (Or.inl ⟨by rfl, ?_⟩) ?_ ?_
                              rotate_left
                              · intro w'
                                go_simp
                                with_reducible rfl
                              rotate_left
                              · simp only [Act.put, List.setIfInBounds_toArray, List.set_cons_zero, List.set_cons_succ, i64_w, i32_w]
                                rfl
                              refine one_ (i := 4) (N := some 30) #[true, true, true, true, true, false, false, true, true, true, false, false] rfl rfl (one_of HT_.out (by kernel_rfl)) (by decide) (fun K hK => ?_)
                              refine Kd.R_lit_step (Kd.int .u8) _ 5 ?hg (N := 30) ?hd (xs := ([a2] : List Int)) (inner := [.int .u8 a2]) (ok := fun _ => True) (okp := fun _ => True) ?hr ?hp (fun _ hk => hk) trivial (Below.refl _ _) (Nat.le_refl _) (by simp) ?_; (case hd => rfl); (case hg => rfl); (case hr => first | (go_simp; done) | (go_simp; rfl) | (go_simp; simp only [Kd_u32u8])); (case hp => exact (Reps.one (show Kd.M (Kd.int .u8) _ _ _ a2 [.int .u8 a2] from rfl) (Reps.none _ _)))
                              intro v347 w98 ho99 hb hg_ hnew_
                              clear hg_ hnew_
                              (first | rw [← Ny346.out] at ho99 | (simp only [Int.reduceToNat] at ho99; rw [← Ny346.out] at ho99))
                              have n0_ := Aside0.mk (Kd.R_lower ho99 (below_size (by repeat (first | (with_reducible first | exact HB.out | apply below_alloc | apply pw_below_drewN | apply below_drew1) | exact HB.out))))
                              have n1_ := Aside0.mk (below_step (by repeat (first | (with_reducible first | exact HB.out | apply below_alloc | apply pw_below_drewN | apply below_drew1) | exact HB.out)) hb)
                              clear HB
                              have HO348 := n0_
                              have HB := n1_
                              clear n0_ n1_
                              clear hb ho99
                              refine hK.out _ _ trivial (fun hHeld => ?_)
                              clear hK K
                              refine norm_ (a' := ?_) ?_ ?_
                              rotate_left
                              · show Act.put _ (some 30) _ = _
                                simp only [Act.put, List.setIfInBounds_toArray, List.set_cons_zero, List.set_cons_succ, i64_w, i32_w]
                                rfl
                              refine one_ (i := 5) (N := some 31) #[true, true, true, true, true, true, false, true, true, true, false, false] rfl rfl (one_of HT_.out (by kernel_rfl)) (by decide) (fun K hK => ?_)
                              have hcv100 := own_string (P := Tryd.prog) Tryd.underlying33 Tryd.underlying5 Tryd.underlying9 (Kd.own_of_R HO348.out)
                              refine value_ (w1 := ?_) (v := ?_) (by rfl) rfl ?_ ?_
                              rotate_left 2
                              · go_simp
                                constructor
                                · rfl
                                · rfl
                              clear hcv100
                              refine hK.out _ _ trivial (fun hHeld => ?_)
                              clear hK K
                              refine norm_ (a' := ?_) ?_ ?_
                              rotate_left
                              · show Act.put _ (some 31) _ = _
                                simp only [Act.put, List.setIfInBounds_toArray, List.set_cons_zero, List.set_cons_succ, i64_w, i32_w]
                                rfl
                              refine pure_ (i := 6) (N := some 32) (v := ?_) (a' := ?_) #[true, true, true, true, true, true, true, true, true, true, false, false] rfl rfl (any_of HT_.out (by kernel_rfl)) (fun _ _ _ h => h) (Or.inl ⟨by rfl, ?_⟩) ?_ ?_
                              rotate_left
                              · intro w'
                                go_simp
                                with_reducible rfl
                              rotate_left
                              · simp only [Act.put, List.setIfInBounds_toArray, List.set_cons_zero, List.set_cons_succ, i64_w, i32_w]
                                rfl
                              refine pure_ (i := 10) (N := some 36) (v := ?_) (a' := ?_) #[true, true, true, true, true, true, true, true, true, true, true, false] rfl rfl (any_of HT_.out (by kernel_rfl)) (fun _ _ _ h => h) (Or.inl ⟨by rfl, ?_⟩) ?_ ?_
                              rotate_left
                              · intro w'
                                go_simp
                                with_reducible rfl
                              rotate_left
                              · simp only [Act.put, List.setIfInBounds_toArray, List.set_cons_zero, List.set_cons_succ, i64_w, i32_w]
                                rfl
                              refine pure_ (i := 11) (N := some 10) (v := ?_) (a' := ?_) #[true, true, true, true, true, true, true, true, true, true, true, true] rfl rfl (any_of HT_.out (by kernel_rfl)) (fun _ _ _ h => h) (Or.inl ⟨by rfl, ?_⟩) ?_ ?_
                              rotate_left
                              · intro w'
                                go_simp
                                with_reducible rfl
                              rotate_left
                              · simp only [Act.put, List.setIfInBounds_toArray, List.set_cons_zero, List.set_cons_succ, i64_w, i32_w]
                                rfl
                              refine done_ (done_of HT_.out (by kernel_rfl)) ?_
                              try go_wp2_with (first | (go_at_call 16; (with_reducible refine (digits_Right.calls (((t345.extract 0 ((ji9) : Int).toNat) ++ (strOfNums y346)) ++ (t345.extract ((ji9) : Int).toNat t345.size)) t361 _ A89.out).mono ?_); rintro e w101 ⟨rfl, hb⟩; have n0_ := Aside0.mk (Kd.R_below (by (with_reducible repeat (first | apply Kd.R_alloc | apply Kd.R_drewN | apply Kd.R_drew)); exact HO348.out) hb); have n1_ := Aside0.mk (below_step (by repeat (first | (with_reducible first | exact HB.out | apply below_alloc | apply pw_below_drewN | apply below_drew1) | exact HB.out)) hb); clear HO348; clear HB; have HO348 := n0_; have HB := n1_; clear n0_ n1_; (try clear hb); (try clear hb2); (try clear hk); (try clear hi)) | (go_at_call 16; (with_reducible refine (digits_Right.calls ((⟨#[48]⟩ : ByteArray) ++ t345) false _ A92.out).mono ?_); rintro e w102 ⟨rfl, hb⟩; have n0_ := Aside0.mk (Kd.R_below (by (with_reducible repeat (first | apply Kd.R_alloc | apply Kd.R_drewN | apply Kd.R_drew)); exact HO348.out) hb); have n1_ := Aside0.mk (below_step (by repeat (first | (with_reducible first | exact HB.out | apply below_alloc | apply pw_below_drewN | apply below_drew1) | exact HB.out)) hb); clear HO348; clear HB; have HO348 := n0_; have HB := n1_; clear n0_ n1_; (try clear hb); (try clear hb2); (try clear hk); (try clear hi)) | (go_at_call 16; (with_reducible refine (digits_Right.calls ((⟨#[45]⟩ : ByteArray) ++ t345) t363 _ A94.out).mono ?_); rintro e w103 ⟨rfl, hb⟩; have n0_ := Aside0.mk (Kd.R_below (by (with_reducible repeat (first | apply Kd.R_alloc | apply Kd.R_drewN | apply Kd.R_drew)); exact HO348.out) hb); have n1_ := Aside0.mk (below_step (by repeat (first | (with_reducible first | exact HB.out | apply below_alloc | apply pw_below_drewN | apply below_drew1) | exact HB.out)) hb); clear HO348; clear HB; have HO348 := n0_; have HB := n1_; clear n0_ n1_; (try clear hb); (try clear hb2); (try clear hk); (try clear hi)))
                              go_ret
                              exact ⟨by first | rfl | (simp [errW_none, errW_some] <;> rfl) | (simp only [← hji9]; first | rfl | (simp [errW_none, errW_some] <;> rfl)) | (simp [*, errW_none, errW_some] <;> rfl), by repeat (first | (with_reducible first | exact HB.out | apply below_alloc | apply pw_below_drewN | apply below_drew1) | exact HB.out)⟩
                          · rw [if_neg c91] at H
                            exact absurd H (by simp)
                        · rw [if_neg c90] at H
                          exact absurd H (by simp)
                      · replace c88 := Bool.eq_false_iff.mpr c88
                        subst c88
                        have H1 : (none) = some r := by rw [if_neg (show ¬ (false = true) by decide)] at H; exact H
                        clear H
                        have H := H1
                        clear H1
                        exact absurd H (by simp)
                · rw [if_neg c17] at H
                  have c17b0 : decide (a2 ≤ 57) = false := decide_eq_false c17
                  clear c17
                  by_cases c104 : t344 = true
                  · subst c104
                    have H1 : ((digits_Right.f (((t345.extract 0 ((ji9) : Int).toNat) ++ (strOfNums y346)) ++ (t345.extract ((ji9) : Int).toNat t345.size))).bind fun t364 => (if (t364 == false) = true then (if 1 + t345.size ≤ 9223372036854775807 then ((digits_Right.f ((⟨#[48]⟩ : ByteArray) ++ t345)).bind fun t365 => (if t365 = true then (none) else ((digits_Right.f ((⟨#[45]⟩ : ByteArray) ++ t345)).bind fun t366 => (some (!t366))))) else (none)) else (none))) = some r := by rw [if_pos rfl] at H; exact H
                    clear H
                    have H := H1
                    clear H1
                    replace H := Option.bind_eq_some_iff.mp H
                    obtain ⟨t364, A1050, H⟩ := H
                    replace H : (if (t364 == false) = true then (if 1 + t345.size ≤ 9223372036854775807 then ((digits_Right.f ((⟨#[48]⟩ : ByteArray) ++ t345)).bind fun t365 => (if t365 = true then (none) else ((digits_Right.f ((⟨#[45]⟩ : ByteArray) ++ t345)).bind fun t366 => (some (!t366))))) else (none)) else (none)) = some r := H
                    have A105 := Aside0.mk A1050
                    clear A1050
                    by_cases c106 : (t364 == false) = true
                    · rw [if_pos c106] at H
                      have c106b0 : (t364 == false) = true := c106
                      (try (have c106b1 : decide (t364 = false) = true := by simpa using c106))
                      (try (have c106b2 : (t364 == false) = true := by simpa using c106))
                      clear c106
                      by_cases c107 : 1 + t345.size ≤ 9223372036854775807
                      · rw [if_pos c107] at H
                        have c107b0 := eq_true c107
                        have c107b1 : decide (1 + t345.size ≤ 9223372036854775807) = true := decide_eq_true c107
                        try have c107b2 : (9223372036854775807 < 1 + t345.size) = False := eq_false (Nat.not_lt.2 c107)
                        replace H := Option.bind_eq_some_iff.mp H
                        obtain ⟨t365, A1080, H⟩ := H
                        replace H : (if t365 = true then (none) else ((digits_Right.f ((⟨#[45]⟩ : ByteArray) ++ t345)).bind fun t366 => (some (!t366)))) = some r := H
                        have A108 := Aside0.mk A1080
                        clear A1080
                        by_cases c109 : t365 = true
                        · subst c109
                          have H1 : (none) = some r := by rw [if_pos rfl] at H; exact H
                          clear H
                          have H := H1
                          clear H1
                          exact absurd H (by simp)
                        · replace c109 := Bool.eq_false_iff.mpr c109
                          subst c109
                          have H1 : ((digits_Right.f ((⟨#[45]⟩ : ByteArray) ++ t345)).bind fun t366 => (some (!t366))) = some r := by rw [if_neg (show ¬ (false = true) by decide)] at H; exact H
                          clear H
                          have H := H1
                          clear H1
                          replace H := Option.bind_eq_some_iff.mp H
                          obtain ⟨t366, A1100, H⟩ := H
                          replace H : (some (!t366)) = some r := H
                          have A110 := Aside0.mk A1100
                          clear A1100
                          obtain rfl := Option.some.inj H
                          have w9_ : wrap64 ((t345.size : Int) + 1) = (t345.size : Int) + 1 := by unfold wrap64; omega
                          rw [w9_] at hji9
                          clear w9_
                          have s9_ : (t345.extract 0 ji9.toNat).size = ji9.toNat := by rw [ByteArray.size_extract]; have h0_ : 0 ≤ ji9 := of_decide_eq_true (by assumption); have h1_ : ji9 ≤ (t345.size : Int) := of_decide_eq_true (by assumption); omega
                          have f9_ : (9223372036854775807 < ji9.toNat + (strOfNums y346).size) = False := by have h_ : (t345.extract 0 ji9.toNat).size + (strOfNums y346).size ≤ 9223372036854775807 := (by assumption); rw [s9_] at h_; exact eq_false (Nat.not_lt.2 h_)
                          have g9_ : (9223372036854775807 < ji9.toNat + (strOfNums y346).size + (t345.size - ji9.toNat)) = False := by have h_ : ((t345.extract 0 ji9.toNat) ++ (strOfNums y346)).size + (t345.extract ji9.toNat t345.size).size ≤ 9223372036854775807 := (by assumption); rw [ByteArray.size_append, s9_, ByteArray.size_extract] at h_; exact eq_false (Nat.not_lt.2 (by omega))
                          clear s9_
                          go_enter Tryd.func7, Tryd.ntmps7
                          try go_wp2_with (first | ((with_reducible refine gate_callee (f := 10) rfl ?_); refine goesL_ (some 13) rfl rfl Tryd.func10 (by kernel_rfl) rfl #[] rfl (by (try simp only [List.map_toArray, List.map_cons, List.map_nil]); first | done | rfl | (simp only [List.length_drop, List.length_take]; rfl)) ?_; (with_reducible refine (tribunallaw02_head.calls  true _ A4.out).mono ?_); rintro e w111 ⟨rfl, hb⟩; refine ⟨_, rfl, ?_⟩; have n0_ := Aside0.mk (below_step (by repeat (first | (with_reducible first | exact HB.out | apply below_alloc | apply pw_below_drewN | apply below_drew1) | exact HB.out)) hb); clear HB; have HB := n0_; clear n0_; (try clear hb); (try clear hb2); (try clear hk); (try clear hi)) | ((with_reducible refine gate_callee (f := 13) rfl ?_); refine goesL_ (some 19) rfl rfl Tryd.func13 (by kernel_rfl) rfl #[.slice A0 l0.length c0] rfl (by (try simp only [List.map_toArray, List.map_cons, List.map_nil]); first | done | rfl | (simp only [List.length_drop, List.length_take]; rfl)) ?_; (with_reducible refine (digits_Text.calls _ _ l0 t345 _ ?side1 ?side2 A7.out).mono ?_); (case side1 => repeat (first | exact (Kd.C_below HR0.out HB.out) | (with_reducible refine Kd.C_alloc ?_ _) | (with_reducible refine Kd.C_drewN ?_ _) | (with_reducible refine Kd.C_drew ?_))); (case side2 => exact HC0.out); rintro e w112 ⟨rfl, hb⟩; refine ⟨_, rfl, ?_⟩; have n0_ := Aside0.mk (below_step (by repeat (first | (with_reducible first | exact HB.out | apply below_alloc | apply pw_below_drewN | apply below_drew1) | exact HB.out)) hb); clear HB; have HB := n0_; clear n0_; (try clear hb); (try clear hb2); (try clear hk); (try clear hi)))
                          have n0_ := Aside0.mk (below_drew1 HB.out)
                          clear HB
                          have HB := n0_
                          clear n0_
                          refine start_ (n := 12) (S := fun w' => True) (ds := []) #[false, false, false, false, false, false, false, false, false, false, false, false] (by kernel_rfl) rfl rfl trivial (fun hHeld => ?_); refine with_tabW tribunallaw02_DigitsWrong.tab6 tribunallaw02_DigitsWrong.bits6 (fun HT_ HW_ => ?_)
                          generalize w112.drew = w113 at HB hHeld ⊢
                          refine pure_ (i := 0) (N := some 26) (v := ?_) (a' := ?_) #[true, false, false, false, false, false, false, false, false, false, false, false] rfl rfl (any_of HT_.out (by kernel_rfl)) (fun _ _ _ h => h) (Or.inl ⟨by rfl, ?_⟩) ?_ ?_
                          rotate_left
                          · intro w'
                            go_simp
                            with_reducible rfl
                          rotate_left
                          · simp only [Act.put, List.setIfInBounds_toArray, List.set_cons_zero, List.set_cons_succ, i64_w, i32_w]
                            rfl
                          refine pure_ (i := 1) (N := some 27) (v := ?_) (a' := ?_) #[true, true, false, false, false, false, false, false, false, false, false, false] rfl rfl (any_of HT_.out (by kernel_rfl)) (fun _ _ _ h => h) (Or.inl ⟨by rfl, ?_⟩) ?_ ?_
                          rotate_left
                          · intro w'
                            go_simp
                            with_reducible rfl
                          rotate_left
                          · simp only [Act.put, List.setIfInBounds_toArray, List.set_cons_zero, List.set_cons_succ, i64_w, i32_w]
                            rfl
                          refine pure_ (i := 2) (N := some 28) (v := ?_) (a' := ?_) #[true, true, true, false, false, false, false, false, false, false, false, false] rfl rfl (any_of HT_.out (by kernel_rfl)) (fun _ _ _ h => h) (Or.inl ⟨by rfl, ?_⟩) ?_ ?_
                          rotate_left
                          · intro w'
                            go_simp
                            with_reducible rfl
                          rotate_left
                          · simp only [Act.put, List.setIfInBounds_toArray, List.set_cons_zero, List.set_cons_succ, i64_w, i32_w]
                            rfl
                          refine pure_ (i := 3) (N := some 29) (v := ?_) (a' := ?_) #[true, true, true, true, false, false, false, false, false, false, false, false] rfl rfl (any_of HT_.out (by kernel_rfl)) (fun _ _ _ h => h) (Or.inl ⟨by rfl, ?_⟩) ?_ ?_
                          rotate_left
                          · intro w'
                            go_simp
                            with_reducible rfl
                          rotate_left
                          · simp only [Act.put, List.setIfInBounds_toArray, List.set_cons_zero, List.set_cons_succ, i64_w, i32_w]
                            rfl
                          refine pure_ (i := 7) (N := some 33) (v := ?_) (a' := ?_) #[true, true, true, true, false, false, false, true, false, false, false, false] rfl rfl (any_of HT_.out (by kernel_rfl)) (fun _ _ _ h => h) (Or.inl ⟨by rfl, ?_⟩) ?_ ?_
                          rotate_left
                          · intro w'
                            go_simp
                            with_reducible rfl
                          rotate_left
                          · simp only [Act.put, List.setIfInBounds_toArray, List.set_cons_zero, List.set_cons_succ, i64_w, i32_w]
                            rfl
                          refine pure_ (i := 8) (N := some 34) (v := ?_) (a' := ?_) #[true, true, true, true, false, false, false, true, true, false, false, false] rfl rfl (any_of HT_.out (by kernel_rfl)) (fun _ _ _ h => h) (Or.inl ⟨by rfl, ?_⟩) ?_ ?_
                          rotate_left
                          · intro w'
                            go_simp
                            with_reducible rfl
                          rotate_left
                          · simp only [Act.put, List.setIfInBounds_toArray, List.set_cons_zero, List.set_cons_succ, i64_w, i32_w]
                            rfl
                          refine pure_ (i := 9) (N := some 35) (v := ?_) (a' := ?_) #[true, true, true, true, false, false, false, true, true, true, false, false] rfl rfl (any_of HT_.out (by kernel_rfl)) (fun _ _ _ h => h) (Or.inl ⟨by rfl, ?_⟩) ?_ ?_
                          rotate_left
                          · intro w'
                            go_simp
                            with_reducible rfl
                          rotate_left
                          · simp only [Act.put, List.setIfInBounds_toArray, List.set_cons_zero, List.set_cons_succ, i64_w, i32_w]
                            rfl
                          refine one_ (i := 4) (N := some 30) #[true, true, true, true, true, false, false, true, true, true, false, false] rfl rfl (one_of HT_.out (by kernel_rfl)) (by decide) (fun K hK => ?_)
                          refine Kd.R_lit_step (Kd.int .u8) _ 5 ?hg (N := 30) ?hd (xs := ([a2] : List Int)) (inner := [.int .u8 a2]) (ok := fun _ => True) (okp := fun _ => True) ?hr ?hp (fun _ hk => hk) trivial (Below.refl _ _) (Nat.le_refl _) (by simp) ?_; (case hd => rfl); (case hg => rfl); (case hr => first | (go_simp; done) | (go_simp; rfl) | (go_simp; simp only [Kd_u32u8])); (case hp => exact (Reps.one (show Kd.M (Kd.int .u8) _ _ _ a2 [.int .u8 a2] from rfl) (Reps.none _ _)))
                          intro v347 w114 ho115 hb hg_ hnew_
                          clear hg_ hnew_
                          (first | rw [← Ny346.out] at ho115 | (simp only [Int.reduceToNat] at ho115; rw [← Ny346.out] at ho115))
                          have n0_ := Aside0.mk (Kd.R_lower ho115 (below_size (by repeat (first | (with_reducible first | exact HB.out | apply below_alloc | apply pw_below_drewN | apply below_drew1) | exact HB.out))))
                          have n1_ := Aside0.mk (below_step (by repeat (first | (with_reducible first | exact HB.out | apply below_alloc | apply pw_below_drewN | apply below_drew1) | exact HB.out)) hb)
                          clear HB
                          have HO348 := n0_
                          have HB := n1_
                          clear n0_ n1_
                          clear hb ho115
                          refine hK.out _ _ trivial (fun hHeld => ?_)
                          clear hK K
                          refine norm_ (a' := ?_) ?_ ?_
                          rotate_left
                          · show Act.put _ (some 30) _ = _
                            simp only [Act.put, List.setIfInBounds_toArray, List.set_cons_zero, List.set_cons_succ, i64_w, i32_w]
                            rfl
                          refine one_ (i := 5) (N := some 31) #[true, true, true, true, true, true, false, true, true, true, false, false] rfl rfl (one_of HT_.out (by kernel_rfl)) (by decide) (fun K hK => ?_)
                          have hcv116 := own_string (P := Tryd.prog) Tryd.underlying33 Tryd.underlying5 Tryd.underlying9 (Kd.own_of_R HO348.out)
                          refine value_ (w1 := ?_) (v := ?_) (by rfl) rfl ?_ ?_
                          rotate_left 2
                          · go_simp
                            constructor
                            · rfl
                            · rfl
                          clear hcv116
                          refine hK.out _ _ trivial (fun hHeld => ?_)
                          clear hK K
                          refine norm_ (a' := ?_) ?_ ?_
                          rotate_left
                          · show Act.put _ (some 31) _ = _
                            simp only [Act.put, List.setIfInBounds_toArray, List.set_cons_zero, List.set_cons_succ, i64_w, i32_w]
                            rfl
                          refine pure_ (i := 6) (N := some 32) (v := ?_) (a' := ?_) #[true, true, true, true, true, true, true, true, true, true, false, false] rfl rfl (any_of HT_.out (by kernel_rfl)) (fun _ _ _ h => h) (Or.inl ⟨by rfl, ?_⟩) ?_ ?_
                          rotate_left
                          · intro w'
                            go_simp
                            with_reducible rfl
                          rotate_left
                          · simp only [Act.put, List.setIfInBounds_toArray, List.set_cons_zero, List.set_cons_succ, i64_w, i32_w]
                            rfl
                          refine pure_ (i := 10) (N := some 36) (v := ?_) (a' := ?_) #[true, true, true, true, true, true, true, true, true, true, true, false] rfl rfl (any_of HT_.out (by kernel_rfl)) (fun _ _ _ h => h) (Or.inl ⟨by rfl, ?_⟩) ?_ ?_
                          rotate_left
                          · intro w'
                            go_simp
                            with_reducible rfl
                          rotate_left
                          · simp only [Act.put, List.setIfInBounds_toArray, List.set_cons_zero, List.set_cons_succ, i64_w, i32_w]
                            rfl
                          refine pure_ (i := 11) (N := some 10) (v := ?_) (a' := ?_) #[true, true, true, true, true, true, true, true, true, true, true, true] rfl rfl (any_of HT_.out (by kernel_rfl)) (fun _ _ _ h => h) (Or.inl ⟨by rfl, ?_⟩) ?_ ?_
                          rotate_left
                          · intro w'
                            go_simp
                            with_reducible rfl
                          rotate_left
                          · simp only [Act.put, List.setIfInBounds_toArray, List.set_cons_zero, List.set_cons_succ, i64_w, i32_w]
                            rfl
                          refine done_ (done_of HT_.out (by kernel_rfl)) ?_
                          try go_wp2_with (first | (go_at_call 16; (with_reducible refine (digits_Right.calls (((t345.extract 0 ((ji9) : Int).toNat) ++ (strOfNums y346)) ++ (t345.extract ((ji9) : Int).toNat t345.size)) t364 _ A105.out).mono ?_); rintro e w117 ⟨rfl, hb⟩; have n0_ := Aside0.mk (Kd.R_below (by (with_reducible repeat (first | apply Kd.R_alloc | apply Kd.R_drewN | apply Kd.R_drew)); exact HO348.out) hb); have n1_ := Aside0.mk (below_step (by repeat (first | (with_reducible first | exact HB.out | apply below_alloc | apply pw_below_drewN | apply below_drew1) | exact HB.out)) hb); clear HO348; clear HB; have HO348 := n0_; have HB := n1_; clear n0_ n1_; (try clear hb); (try clear hb2); (try clear hk); (try clear hi)) | (go_at_call 16; (with_reducible refine (digits_Right.calls ((⟨#[48]⟩ : ByteArray) ++ t345) false _ A108.out).mono ?_); rintro e w118 ⟨rfl, hb⟩; have n0_ := Aside0.mk (Kd.R_below (by (with_reducible repeat (first | apply Kd.R_alloc | apply Kd.R_drewN | apply Kd.R_drew)); exact HO348.out) hb); have n1_ := Aside0.mk (below_step (by repeat (first | (with_reducible first | exact HB.out | apply below_alloc | apply pw_below_drewN | apply below_drew1) | exact HB.out)) hb); clear HO348; clear HB; have HO348 := n0_; have HB := n1_; clear n0_ n1_; (try clear hb); (try clear hb2); (try clear hk); (try clear hi)) | (go_at_call 16; (with_reducible refine (digits_Right.calls ((⟨#[45]⟩ : ByteArray) ++ t345) t366 _ A110.out).mono ?_); rintro e w119 ⟨rfl, hb⟩; have n0_ := Aside0.mk (Kd.R_below (by (with_reducible repeat (first | apply Kd.R_alloc | apply Kd.R_drewN | apply Kd.R_drew)); exact HO348.out) hb); have n1_ := Aside0.mk (below_step (by repeat (first | (with_reducible first | exact HB.out | apply below_alloc | apply pw_below_drewN | apply below_drew1) | exact HB.out)) hb); clear HO348; clear HB; have HO348 := n0_; have HB := n1_; clear n0_ n1_; (try clear hb); (try clear hb2); (try clear hk); (try clear hi)))
                          go_ret
                          exact ⟨by first | rfl | (simp [errW_none, errW_some] <;> rfl) | (simp only [← hji9]; first | rfl | (simp [errW_none, errW_some] <;> rfl)) | (simp [*, errW_none, errW_some] <;> rfl), by repeat (first | (with_reducible first | exact HB.out | apply below_alloc | apply pw_below_drewN | apply below_drew1) | exact HB.out)⟩
                      · rw [if_neg c107] at H
                        exact absurd H (by simp)
                    · rw [if_neg c106] at H
                      exact absurd H (by simp)
                  · replace c104 := Bool.eq_false_iff.mpr c104
                    subst c104
                    have H1 : (none) = some r := by rw [if_neg (show ¬ (false = true) by decide)] at H; exact H
                    clear H
                    have H := H1
                    clear H1
                    exact absurd H (by simp)
              · rw [if_neg c16] at H
                have c16b0 : decide (48 ≤ a2) = false := decide_eq_false c16
                clear c16
                by_cases c120 : t344 = true
                · subst c120
                  have H1 : ((digits_Right.f (((t345.extract 0 ((ji9) : Int).toNat) ++ (strOfNums y346)) ++ (t345.extract ((ji9) : Int).toNat t345.size))).bind fun t367 => (if (t367 == false) = true then (if 1 + t345.size ≤ 9223372036854775807 then ((digits_Right.f ((⟨#[48]⟩ : ByteArray) ++ t345)).bind fun t368 => (if t368 = true then (none) else ((digits_Right.f ((⟨#[45]⟩ : ByteArray) ++ t345)).bind fun t369 => (some (!t369))))) else (none)) else (none))) = some r := by rw [if_pos rfl] at H; exact H
                  clear H
                  have H := H1
                  clear H1
                  replace H := Option.bind_eq_some_iff.mp H
                  obtain ⟨t367, A1210, H⟩ := H
                  replace H : (if (t367 == false) = true then (if 1 + t345.size ≤ 9223372036854775807 then ((digits_Right.f ((⟨#[48]⟩ : ByteArray) ++ t345)).bind fun t368 => (if t368 = true then (none) else ((digits_Right.f ((⟨#[45]⟩ : ByteArray) ++ t345)).bind fun t369 => (some (!t369))))) else (none)) else (none)) = some r := H
                  have A121 := Aside0.mk A1210
                  clear A1210
                  by_cases c122 : (t367 == false) = true
                  · rw [if_pos c122] at H
                    have c122b0 : (t367 == false) = true := c122
                    (try (have c122b1 : decide (t367 = false) = true := by simpa using c122))
                    (try (have c122b2 : (t367 == false) = true := by simpa using c122))
                    clear c122
                    by_cases c123 : 1 + t345.size ≤ 9223372036854775807
                    · rw [if_pos c123] at H
                      have c123b0 := eq_true c123
                      have c123b1 : decide (1 + t345.size ≤ 9223372036854775807) = true := decide_eq_true c123
                      try have c123b2 : (9223372036854775807 < 1 + t345.size) = False := eq_false (Nat.not_lt.2 c123)
                      replace H := Option.bind_eq_some_iff.mp H
                      obtain ⟨t368, A1240, H⟩ := H
                      replace H : (if t368 = true then (none) else ((digits_Right.f ((⟨#[45]⟩ : ByteArray) ++ t345)).bind fun t369 => (some (!t369)))) = some r := H
                      have A124 := Aside0.mk A1240
                      clear A1240
                      by_cases c125 : t368 = true
                      · subst c125
                        have H1 : (none) = some r := by rw [if_pos rfl] at H; exact H
                        clear H
                        have H := H1
                        clear H1
                        exact absurd H (by simp)
                      · replace c125 := Bool.eq_false_iff.mpr c125
                        subst c125
                        have H1 : ((digits_Right.f ((⟨#[45]⟩ : ByteArray) ++ t345)).bind fun t369 => (some (!t369))) = some r := by rw [if_neg (show ¬ (false = true) by decide)] at H; exact H
                        clear H
                        have H := H1
                        clear H1
                        replace H := Option.bind_eq_some_iff.mp H
                        obtain ⟨t369, A1260, H⟩ := H
                        replace H : (some (!t369)) = some r := H
                        have A126 := Aside0.mk A1260
                        clear A1260
                        obtain rfl := Option.some.inj H
                        have w9_ : wrap64 ((t345.size : Int) + 1) = (t345.size : Int) + 1 := by unfold wrap64; omega
                        rw [w9_] at hji9
                        clear w9_
                        have s9_ : (t345.extract 0 ji9.toNat).size = ji9.toNat := by rw [ByteArray.size_extract]; have h0_ : 0 ≤ ji9 := of_decide_eq_true (by assumption); have h1_ : ji9 ≤ (t345.size : Int) := of_decide_eq_true (by assumption); omega
                        have f9_ : (9223372036854775807 < ji9.toNat + (strOfNums y346).size) = False := by have h_ : (t345.extract 0 ji9.toNat).size + (strOfNums y346).size ≤ 9223372036854775807 := (by assumption); rw [s9_] at h_; exact eq_false (Nat.not_lt.2 h_)
                        have g9_ : (9223372036854775807 < ji9.toNat + (strOfNums y346).size + (t345.size - ji9.toNat)) = False := by have h_ : ((t345.extract 0 ji9.toNat) ++ (strOfNums y346)).size + (t345.extract ji9.toNat t345.size).size ≤ 9223372036854775807 := (by assumption); rw [ByteArray.size_append, s9_, ByteArray.size_extract] at h_; exact eq_false (Nat.not_lt.2 (by omega))
                        clear s9_
                        go_enter Tryd.func7, Tryd.ntmps7
                        try go_wp2_with (first | ((with_reducible refine gate_callee (f := 10) rfl ?_); refine goesL_ (some 13) rfl rfl Tryd.func10 (by kernel_rfl) rfl #[] rfl (by (try simp only [List.map_toArray, List.map_cons, List.map_nil]); first | done | rfl | (simp only [List.length_drop, List.length_take]; rfl)) ?_; (with_reducible refine (tribunallaw02_head.calls  true _ A4.out).mono ?_); rintro e w127 ⟨rfl, hb⟩; refine ⟨_, rfl, ?_⟩; have n0_ := Aside0.mk (below_step (by repeat (first | (with_reducible first | exact HB.out | apply below_alloc | apply pw_below_drewN | apply below_drew1) | exact HB.out)) hb); clear HB; have HB := n0_; clear n0_; (try clear hb); (try clear hb2); (try clear hk); (try clear hi)) | ((with_reducible refine gate_callee (f := 13) rfl ?_); refine goesL_ (some 19) rfl rfl Tryd.func13 (by kernel_rfl) rfl #[.slice A0 l0.length c0] rfl (by (try simp only [List.map_toArray, List.map_cons, List.map_nil]); first | done | rfl | (simp only [List.length_drop, List.length_take]; rfl)) ?_; (with_reducible refine (digits_Text.calls _ _ l0 t345 _ ?side1 ?side2 A7.out).mono ?_); (case side1 => repeat (first | exact (Kd.C_below HR0.out HB.out) | (with_reducible refine Kd.C_alloc ?_ _) | (with_reducible refine Kd.C_drewN ?_ _) | (with_reducible refine Kd.C_drew ?_))); (case side2 => exact HC0.out); rintro e w128 ⟨rfl, hb⟩; refine ⟨_, rfl, ?_⟩; have n0_ := Aside0.mk (below_step (by repeat (first | (with_reducible first | exact HB.out | apply below_alloc | apply pw_below_drewN | apply below_drew1) | exact HB.out)) hb); clear HB; have HB := n0_; clear n0_; (try clear hb); (try clear hb2); (try clear hk); (try clear hi)))
                        have n0_ := Aside0.mk (below_drew1 HB.out)
                        clear HB
                        have HB := n0_
                        clear n0_
                        refine start_ (n := 12) (S := fun w' => True) (ds := []) #[false, false, false, false, false, false, false, false, false, false, false, false] (by kernel_rfl) rfl rfl trivial (fun hHeld => ?_); refine with_tabW tribunallaw02_DigitsWrong.tab6 tribunallaw02_DigitsWrong.bits6 (fun HT_ HW_ => ?_)
                        generalize w128.drew = w129 at HB hHeld ⊢
                        refine pure_ (i := 0) (N := some 26) (v := ?_) (a' := ?_) #[true, false, false, false, false, false, false, false, false, false, false, false] rfl rfl (any_of HT_.out (by kernel_rfl)) (fun _ _ _ h => h) (Or.inl ⟨by rfl, ?_⟩) ?_ ?_
                        rotate_left
                        · intro w'
                          go_simp
                          with_reducible rfl
                        rotate_left
                        · simp only [Act.put, List.setIfInBounds_toArray, List.set_cons_zero, List.set_cons_succ, i64_w, i32_w]
                          rfl
                        refine pure_ (i := 1) (N := some 27) (v := ?_) (a' := ?_) #[true, true, false, false, false, false, false, false, false, false, false, false] rfl rfl (any_of HT_.out (by kernel_rfl)) (fun _ _ _ h => h) (Or.inl ⟨by rfl, ?_⟩) ?_ ?_
                        rotate_left
                        · intro w'
                          go_simp
                          with_reducible rfl
                        rotate_left
                        · simp only [Act.put, List.setIfInBounds_toArray, List.set_cons_zero, List.set_cons_succ, i64_w, i32_w]
                          rfl
                        refine pure_ (i := 2) (N := some 28) (v := ?_) (a' := ?_) #[true, true, true, false, false, false, false, false, false, false, false, false] rfl rfl (any_of HT_.out (by kernel_rfl)) (fun _ _ _ h => h) (Or.inl ⟨by rfl, ?_⟩) ?_ ?_
                        rotate_left
                        · intro w'
                          go_simp
                          with_reducible rfl
                        rotate_left
                        · simp only [Act.put, List.setIfInBounds_toArray, List.set_cons_zero, List.set_cons_succ, i64_w, i32_w]
                          rfl
                        refine pure_ (i := 3) (N := some 29) (v := ?_) (a' := ?_) #[true, true, true, true, false, false, false, false, false, false, false, false] rfl rfl (any_of HT_.out (by kernel_rfl)) (fun _ _ _ h => h) (Or.inl ⟨by rfl, ?_⟩) ?_ ?_
                        rotate_left
                        · intro w'
                          go_simp
                          with_reducible rfl
                        rotate_left
                        · simp only [Act.put, List.setIfInBounds_toArray, List.set_cons_zero, List.set_cons_succ, i64_w, i32_w]
                          rfl
                        refine pure_ (i := 7) (N := some 33) (v := ?_) (a' := ?_) #[true, true, true, true, false, false, false, true, false, false, false, false] rfl rfl (any_of HT_.out (by kernel_rfl)) (fun _ _ _ h => h) (Or.inl ⟨by rfl, ?_⟩) ?_ ?_
                        rotate_left
                        · intro w'
                          go_simp
                          with_reducible rfl
                        rotate_left
                        · simp only [Act.put, List.setIfInBounds_toArray, List.set_cons_zero, List.set_cons_succ, i64_w, i32_w]
                          rfl
                        refine pure_ (i := 8) (N := some 34) (v := ?_) (a' := ?_) #[true, true, true, true, false, false, false, true, true, false, false, false] rfl rfl (any_of HT_.out (by kernel_rfl)) (fun _ _ _ h => h) (Or.inl ⟨by rfl, ?_⟩) ?_ ?_
                        rotate_left
                        · intro w'
                          go_simp
                          with_reducible rfl
                        rotate_left
                        · simp only [Act.put, List.setIfInBounds_toArray, List.set_cons_zero, List.set_cons_succ, i64_w, i32_w]
                          rfl
                        refine pure_ (i := 9) (N := some 35) (v := ?_) (a' := ?_) #[true, true, true, true, false, false, false, true, true, true, false, false] rfl rfl (any_of HT_.out (by kernel_rfl)) (fun _ _ _ h => h) (Or.inl ⟨by rfl, ?_⟩) ?_ ?_
                        rotate_left
                        · intro w'
                          go_simp
                          with_reducible rfl
                        rotate_left
                        · simp only [Act.put, List.setIfInBounds_toArray, List.set_cons_zero, List.set_cons_succ, i64_w, i32_w]
                          rfl
                        refine one_ (i := 4) (N := some 30) #[true, true, true, true, true, false, false, true, true, true, false, false] rfl rfl (one_of HT_.out (by kernel_rfl)) (by decide) (fun K hK => ?_)
                        refine Kd.R_lit_step (Kd.int .u8) _ 5 ?hg (N := 30) ?hd (xs := ([a2] : List Int)) (inner := [.int .u8 a2]) (ok := fun _ => True) (okp := fun _ => True) ?hr ?hp (fun _ hk => hk) trivial (Below.refl _ _) (Nat.le_refl _) (by simp) ?_; (case hd => rfl); (case hg => rfl); (case hr => first | (go_simp; done) | (go_simp; rfl) | (go_simp; simp only [Kd_u32u8])); (case hp => exact (Reps.one (show Kd.M (Kd.int .u8) _ _ _ a2 [.int .u8 a2] from rfl) (Reps.none _ _)))
                        intro v347 w130 ho131 hb hg_ hnew_
                        clear hg_ hnew_
                        (first | rw [← Ny346.out] at ho131 | (simp only [Int.reduceToNat] at ho131; rw [← Ny346.out] at ho131))
                        have n0_ := Aside0.mk (Kd.R_lower ho131 (below_size (by repeat (first | (with_reducible first | exact HB.out | apply below_alloc | apply pw_below_drewN | apply below_drew1) | exact HB.out))))
                        have n1_ := Aside0.mk (below_step (by repeat (first | (with_reducible first | exact HB.out | apply below_alloc | apply pw_below_drewN | apply below_drew1) | exact HB.out)) hb)
                        clear HB
                        have HO348 := n0_
                        have HB := n1_
                        clear n0_ n1_
                        clear hb ho131
                        refine hK.out _ _ trivial (fun hHeld => ?_)
                        clear hK K
                        refine norm_ (a' := ?_) ?_ ?_
                        rotate_left
                        · show Act.put _ (some 30) _ = _
                          simp only [Act.put, List.setIfInBounds_toArray, List.set_cons_zero, List.set_cons_succ, i64_w, i32_w]
                          rfl
                        refine one_ (i := 5) (N := some 31) #[true, true, true, true, true, true, false, true, true, true, false, false] rfl rfl (one_of HT_.out (by kernel_rfl)) (by decide) (fun K hK => ?_)
                        have hcv132 := own_string (P := Tryd.prog) Tryd.underlying33 Tryd.underlying5 Tryd.underlying9 (Kd.own_of_R HO348.out)
                        refine value_ (w1 := ?_) (v := ?_) (by rfl) rfl ?_ ?_
                        rotate_left 2
                        · go_simp
                          constructor
                          · rfl
                          · rfl
                        clear hcv132
                        refine hK.out _ _ trivial (fun hHeld => ?_)
                        clear hK K
                        refine norm_ (a' := ?_) ?_ ?_
                        rotate_left
                        · show Act.put _ (some 31) _ = _
                          simp only [Act.put, List.setIfInBounds_toArray, List.set_cons_zero, List.set_cons_succ, i64_w, i32_w]
                          rfl
                        refine pure_ (i := 6) (N := some 32) (v := ?_) (a' := ?_) #[true, true, true, true, true, true, true, true, true, true, false, false] rfl rfl (any_of HT_.out (by kernel_rfl)) (fun _ _ _ h => h) (Or.inl ⟨by rfl, ?_⟩) ?_ ?_
                        rotate_left
                        · intro w'
                          go_simp
                          with_reducible rfl
                        rotate_left
                        · simp only [Act.put, List.setIfInBounds_toArray, List.set_cons_zero, List.set_cons_succ, i64_w, i32_w]
                          rfl
                        refine pure_ (i := 10) (N := some 36) (v := ?_) (a' := ?_) #[true, true, true, true, true, true, true, true, true, true, true, false] rfl rfl (any_of HT_.out (by kernel_rfl)) (fun _ _ _ h => h) (Or.inl ⟨by rfl, ?_⟩) ?_ ?_
                        rotate_left
                        · intro w'
                          go_simp
                          with_reducible rfl
                        rotate_left
                        · simp only [Act.put, List.setIfInBounds_toArray, List.set_cons_zero, List.set_cons_succ, i64_w, i32_w]
                          rfl
                        refine pure_ (i := 11) (N := some 10) (v := ?_) (a' := ?_) #[true, true, true, true, true, true, true, true, true, true, true, true] rfl rfl (any_of HT_.out (by kernel_rfl)) (fun _ _ _ h => h) (Or.inl ⟨by rfl, ?_⟩) ?_ ?_
                        rotate_left
                        · intro w'
                          go_simp
                          with_reducible rfl
                        rotate_left
                        · simp only [Act.put, List.setIfInBounds_toArray, List.set_cons_zero, List.set_cons_succ, i64_w, i32_w]
                          rfl
                        refine done_ (done_of HT_.out (by kernel_rfl)) ?_
                        try go_wp2_with (first | (go_at_call 16; (with_reducible refine (digits_Right.calls (((t345.extract 0 ((ji9) : Int).toNat) ++ (strOfNums y346)) ++ (t345.extract ((ji9) : Int).toNat t345.size)) t367 _ A121.out).mono ?_); rintro e w133 ⟨rfl, hb⟩; have n0_ := Aside0.mk (Kd.R_below (by (with_reducible repeat (first | apply Kd.R_alloc | apply Kd.R_drewN | apply Kd.R_drew)); exact HO348.out) hb); have n1_ := Aside0.mk (below_step (by repeat (first | (with_reducible first | exact HB.out | apply below_alloc | apply pw_below_drewN | apply below_drew1) | exact HB.out)) hb); clear HO348; clear HB; have HO348 := n0_; have HB := n1_; clear n0_ n1_; (try clear hb); (try clear hb2); (try clear hk); (try clear hi)) | (go_at_call 16; (with_reducible refine (digits_Right.calls ((⟨#[48]⟩ : ByteArray) ++ t345) false _ A124.out).mono ?_); rintro e w134 ⟨rfl, hb⟩; have n0_ := Aside0.mk (Kd.R_below (by (with_reducible repeat (first | apply Kd.R_alloc | apply Kd.R_drewN | apply Kd.R_drew)); exact HO348.out) hb); have n1_ := Aside0.mk (below_step (by repeat (first | (with_reducible first | exact HB.out | apply below_alloc | apply pw_below_drewN | apply below_drew1) | exact HB.out)) hb); clear HO348; clear HB; have HO348 := n0_; have HB := n1_; clear n0_ n1_; (try clear hb); (try clear hb2); (try clear hk); (try clear hi)) | (go_at_call 16; (with_reducible refine (digits_Right.calls ((⟨#[45]⟩ : ByteArray) ++ t345) t369 _ A126.out).mono ?_); rintro e w135 ⟨rfl, hb⟩; have n0_ := Aside0.mk (Kd.R_below (by (with_reducible repeat (first | apply Kd.R_alloc | apply Kd.R_drewN | apply Kd.R_drew)); exact HO348.out) hb); have n1_ := Aside0.mk (below_step (by repeat (first | (with_reducible first | exact HB.out | apply below_alloc | apply pw_below_drewN | apply below_drew1) | exact HB.out)) hb); clear HO348; clear HB; have HO348 := n0_; have HB := n1_; clear n0_ n1_; (try clear hb); (try clear hb2); (try clear hk); (try clear hi)))
                        go_ret
                        exact ⟨by first | rfl | (simp [errW_none, errW_some] <;> rfl) | (simp only [← hji9]; first | rfl | (simp [errW_none, errW_some] <;> rfl)) | (simp [*, errW_none, errW_some] <;> rfl), by repeat (first | (with_reducible first | exact HB.out | apply below_alloc | apply pw_below_drewN | apply below_drew1) | exact HB.out)⟩
                    · rw [if_neg c123] at H
                      exact absurd H (by simp)
                  · rw [if_neg c122] at H
                    exact absurd H (by simp)
                · replace c120 := Bool.eq_false_iff.mpr c120
                  subst c120
                  have H1 : (none) = some r := by rw [if_neg (show ¬ (false = true) by decide)] at H; exact H
                  clear H
                  have H := H1
                  clear H1
                  exact absurd H (by simp)
            · rw [if_neg c15] at H
              exact absurd H (by simp)
          · rw [if_neg c12] at H
            exact absurd H (by simp)
        · rw [if_neg c11] at H
          exact absurd H (by simp)
      · rw [if_neg c10] at H
        exact absurd H (by simp)

/-- THE ONE PURE STATEMENT of tribunallaw02_DigitsWrong: yours. -/
def tribunallaw02_DigitsWrong.Pure : Prop := ∀ (l0 : List Int) (a1 : Int) (a2 : Int), l0.length ≤ maxLen → l0.length * 4 ≤ 140737488351232 → (∀ x ∈ l0, (Lit.int .u32 x).wf = true) → (Lit.int .u8 a1).wf = true → (Lit.int .u8 a2).wf = true → tribunallaw02_DigitsWrong.f l0 a1 a2 = some true
theorem tribunallaw02_DigitsWrong.walk (P : tribunallaw02_DigitsWrong.Pure) (a0 : Option Addr) (len0 cap0 : Nat) (z0 : List Int) (a1 : Int) (a2 : Int) (w : World) (w0 : (a0 = none ∧ len0 = 0 ∧ cap0 = 0 ∧ z0 = []) ∨ ∃ x, a0 = some x ∧ len0 ≤ cap0 ∧ cap0 ≤ maxLen ∧ z0.length = cap0 ∧ (∀ i, i < z0.length → w.cell? (x.add i) = some (.int .u32 (z0.getD i 0))) ∧ ∀ n ∈ z0, (Lit.int .u32 n).wf = true) (y0 : len0 * 4 ≤ 140737488351232) (w1 : (Lit.int .u8 a1).wf = true) (w2 : (Lit.int .u8 a2).wf = true) :
    Calls Tryd.prog 7 #[.slice a0 len0 cap0, .int .u8 a1, .int .u8 a2] w fun e w' => e = .returned (.bool true) ∧ Below w.heap.size w w' := by
  obtain ⟨l0, rfl, hr0, hm0, hw0, hc0⟩ := ReadsInt.ofRowC w0
  have h := P l0 a1 a2 hm0 y0 hw0 w1 w2
  refine (tribunallaw02_DigitsWrong.calls _ _ l0 a1 a2 true w (Kd.C_of_reads (d := (0 : Int)) (h1 := fun _ => rfl) hr0) hc0 h).mono ?_
  rintro e w' ⟨rfl, hd⟩
  exact ⟨rfl, hd⟩

end Go.Proofs.YtioofejjjgggkaaDoor.G
