-- Out of the translation, by a program of this repo (wip/tools/gprint.py). Lean checks it.
import Derived.Test.YtioofejjjgggkaaDoorGx0
import Derived.Test.YtioofejjjgggkaaDoorGx1
import Derived.Test.YtioofejjjgggkaaDoorGx2
import Derived.Test.YtioofejjjgggkaaDoorGx3
import Derived.Test.YtioofejjjgggkaaDoorGx4
import Derived.Test.YtioofejjjgggkaaDoorGDigParse
import Derived.Test.YtioofejjjgggkaaDoorGDigRight
import Derived.Test.YtioofejjjgggkaaDoorGDigText
import Derived.Test.YtioofejjjgggkaaDoorGHead02
namespace Go.Proofs.YtioofejjjgggkaaDoor.G
open Go.RowKit Go.Proofs.YtioofejjjgggkaaDoorW.PrintWords Go.Proofs.YtioofejjjgggkaaDoorW.PrintLast Go.Proofs.YtioofejjjgggkaaDoorW.PrintMore
attribute [local go_sem] max2_int min2_int max_two min_two max_three min_three max_four min_four   -- for this text's walks alone
set_option linter.unusedVariables false
set_option linter.unusedSimpArgs false

/-! ### tribunallaw02_DigitsTells: function 3 -/
def tribunallaw02_DigitsTells.j0 : Nat → List Int → ByteArray → Bool → Bool → Option (Bool)
  | 0, _, _, _, _ => none
  | k + 1, x0, x1, x5, x18 => if x18 = true then (some x5) else ((digits_Parse.f x1).bind fun bt281 => ((tribunalref02_Parse.f k x1).bind fun bt285 => (if x5 = true then ((digits_Text.f x0).bind fun t289 => ((tribunalref02_Text.f k x0).bind fun t290 => (if t289.toList = t290.toList then ((tribunalref01_Same.f k bt281.1 bt285.1).bind fun t291 => (if t291 = true then (if bt281.2 = bt285.2 then ((digits_Right.f x1).bind fun t292 => ((tribunalref02_Right.f k x1).bind fun t293 => (some (t292 == t293)))) else (none)) else (none))) else (none)))) else (none))))
def tribunallaw02_DigitsTells.f (k : Nat) (l0 : List Int) (a1 : ByteArray) : Option (Bool) := (tribunallaw02_head.f).bind fun t280 => (if (l0.length : Int) > 60 then (tribunallaw02_DigitsTells.j0 k l0 a1 t280 true) else (tribunallaw02_DigitsTells.j0 k l0 a1 t280 (decide ((a1.size : Int) > 2500))))
theorem tribunallaw02_DigitsTells.mono_l : ∀ k, (∀ y0 y1 y2 y3, LeO (tribunallaw02_DigitsTells.j0 k y0 y1 y2 y3) (tribunallaw02_DigitsTells.j0 (k + 1) y0 y1 y2 y3))
  | 0 => fun _ _ _ _ r h => by simp [tribunallaw02_DigitsTells.j0] at h
  | k + 1 => by
    have ih0 := tribunallaw02_DigitsTells.mono_l k
    · intro y0 y1 y2 y3
      unfold tribunallaw02_DigitsTells.j0
      repeat' first
      | (with_reducible exact ih0 _ _ _ _)
      | (with_reducible exact tribunalref01_Same.mono _ _ _)
      | (with_reducible exact tribunalref02_Parse.mono _ _)
      | (with_reducible exact tribunalref02_Right.mono _ _)
      | (with_reducible exact tribunalref02_Text.mono _ _)
      | (with_reducible exact LeO.refl _)
      | (with_reducible exact LeO.none _)
      | (with_reducible refine LeO.ite ?_ ?_)
      | (with_reducible refine LeO.bind ?_ (fun _ => ?_))
      | exact ih0 _ _ _ _
      | exact tribunalref01_Same.mono _ _ _
      | exact tribunalref02_Parse.mono _ _
      | exact tribunalref02_Right.mono _ _
      | exact tribunalref02_Text.mono _ _
      | exact LeO.none _
      | refine LeO.ite ?_ ?_
      | refine LeO.bind ?_ (fun _ => ?_)
theorem tribunallaw02_DigitsTells.mono : ∀ a0 a1 k, LeO (tribunallaw02_DigitsTells.f k a0 a1) (tribunallaw02_DigitsTells.f (k + 1) a0 a1) := by
  intro a0 a1 k
  have ih0 := tribunallaw02_DigitsTells.mono_l k
  unfold tribunallaw02_DigitsTells.f
  repeat' first
      | (with_reducible exact ih0 _ _ _ _)
      | (with_reducible exact tribunalref01_Same.mono _ _ _)
      | (with_reducible exact tribunalref02_Parse.mono _ _)
      | (with_reducible exact tribunalref02_Right.mono _ _)
      | (with_reducible exact tribunalref02_Text.mono _ _)
      | (with_reducible exact LeO.refl _)
      | (with_reducible exact LeO.none _)
      | (with_reducible refine LeO.ite ?_ ?_)
      | (with_reducible refine LeO.bind ?_ (fun _ => ?_))
      | exact ih0 _ _ _ _
      | exact tribunalref01_Same.mono _ _ _
      | exact tribunalref02_Parse.mono _ _
      | exact tribunalref02_Right.mono _ _
      | exact tribunalref02_Text.mono _ _
      | exact LeO.none _
      | refine LeO.ite ?_ ?_
      | refine LeO.bind ?_ (fun _ => ?_)
set_option maxHeartbeats 8000000 in
set_option maxRecDepth 100000 in
theorem tribunallaw02_DigitsTells.calls (k : Nat) (A0 : Option Addr) (c0 : Nat) (l0 : List Int) (a1 : ByteArray) (r : Bool) (w : World) (hr0 : Kd.C (Kd.int .u32) w A0 l0.length l0) (hc0 : l0.length ≤ c0) (h : tribunallaw02_DigitsTells.f k l0 a1 = some r) :
    Calls Tryd.prog 3 #[.slice A0 l0.length c0, .string a1] w fun e w' => e = .returned (.bool r) ∧ Below w.heap.size w w' := by
  have HR0 := Aside0.mk hr0
  have HC0 := Aside0.mk hc0
  clear hr0 hc0
  have HB := Aside0.mk (Below.refl w.heap.size w)
  have H : ((tribunallaw02_head.f).bind fun t280 => (if (l0.length : Int) > 60 then (tribunallaw02_DigitsTells.j0 k l0 a1 t280 true) else (tribunallaw02_DigitsTells.j0 k l0 a1 t280 (decide ((a1.size : Int) > 2500))))) = some r := h
  clear h
  replace H := Option.bind_eq_some_iff.mp H
  obtain ⟨t280, A30, H⟩ := H
  replace H : (if (l0.length : Int) > 60 then (tribunallaw02_DigitsTells.j0 k l0 a1 t280 true) else (tribunallaw02_DigitsTells.j0 k l0 a1 t280 (decide ((a1.size : Int) > 2500)))) = some r := H
  have A3 := Aside0.mk A30
  clear A30
  have HC4 := Aside0.mk H
  clear H
  go_enter Tryd.func3, Tryd.ntmps3
  go_upto_region 2 with (first | ((with_reducible refine gate_callee (f := 10) rfl ?_); refine goesL_ (some 10) rfl rfl Tryd.func10 (by kernel_rfl) rfl #[] rfl (by (try simp only [List.map_toArray, List.map_cons, List.map_nil]); first | done | rfl | (simp only [List.length_drop, List.length_take]; rfl)) ?_; (with_reducible refine (tribunallaw02_head.calls  t280 _ A3.out).mono ?_); rintro e w5 ⟨rfl, hb⟩; refine ⟨_, rfl, ?_⟩; have n0_ := Aside0.mk (below_step (by repeat (first | (with_reducible first | exact HB.out | apply below_alloc | apply pw_below_drewN | apply below_drew1) | exact HB.out)) hb); clear HB; have HB := n0_; clear n0_; (try clear hb); (try clear hb2); (try clear hk); (try clear hi)))
  (try simp only [Act.put, List.setIfInBounds_toArray, List.set_cons_zero, List.set_cons_succ])
  go_cut [18] (fun v18 wc => ∃ (kq : Nat) (x18_3 : Bool), v18 = .bool x18_3 ∧ Aside0 (tribunallaw02_DigitsTells.j0 kq l0 a1 t280 x18_3 = some r) ∧ Aside0 (kq ≤ k) ∧ Aside0 (Below w.heap.size w wc))
  case first =>
    have H := HC4.out
    clear HC4
    by_cases c6 : (l0.length : Int) > 60
    · rw [if_pos c6] at H
      have c6b0 : decide (60 < (l0.length : Int)) = true := decide_eq_true c6
      have c6b1 : decide (60 < l0.length) = true := decide_eq_true (by omega)
      clear c6
      (first | rw [c6b0] | (simp only [i64_w, i32_w]; rw [c6b0]) | skip)
      have H' := Aside0.mk H
      clear H
      go_wp2
      go_meet
      case rel => exact ⟨_, (true), (by first | rfl | (simp; done) | (simp [*]; done)), H', ⟨by first | omega | exact Nat.le_refl _⟩, ⟨by repeat (first | (with_reducible first | exact HB.out | apply below_alloc | apply pw_below_drewN | apply below_drew1) | exact HB.out)⟩⟩
    · rw [if_neg c6] at H
      have c6b0 : decide (60 < (l0.length : Int)) = false := decide_eq_false c6
      have c6b1 : decide (60 < l0.length) = false := decide_eq_false (by omega)
      clear c6
      (first | rw [c6b0] | (simp only [i64_w, i32_w]; rw [c6b0]) | skip)
      have H' := Aside0.mk H
      clear H
      go_wp2
      go_meet
      case rel => exact ⟨_, (decide ((a1.size : Int) > 2500)), (by first | rfl | (simp; done) | (simp [*]; done)), H', ⟨by first | omega | exact Nat.le_refl _⟩, ⟨by repeat (first | (with_reducible first | exact HB.out | apply below_alloc | apply pw_below_drewN | apply below_drew1) | exact HB.out)⟩⟩
  case rest =>
    clear HC4
    try clear c1
    try clear p2
    try clear c3
    try clear c6
    try clear c6b0
    try clear c6b1
    obtain ⟨kq, x18_3, rfl, HA, HJ3, HB⟩ := hcut
    cases kq with
    | zero => exact absurd HA.out (by simp [tribunallaw02_DigitsTells.j0])
    | succ kj3 =>
      have H := HA.out
      clear HA
      simp only [tribunallaw02_DigitsTells.j0] at H
      by_cases c7 : x18_3 = true
      · subst c7
        have H1 : (some t280) = some r := by rw [if_pos rfl] at H; exact H
        clear H
        have H := H1
        clear H1
        obtain rfl := Option.some.inj H
        go_wp2
        go_ret
        exact ⟨by first | rfl | (simp [errW_none, errW_some] <;> rfl) | (simp [*, errW_none, errW_some] <;> rfl), by repeat (first | (with_reducible first | exact HB.out | apply below_alloc | apply pw_below_drewN | apply below_drew1) | exact HB.out)⟩
      · replace c7 := Bool.eq_false_iff.mpr c7
        subst c7
        have H1 : ((digits_Parse.f a1).bind fun bt281 => ((tribunalref02_Parse.f kj3 a1).bind fun bt285 => (if t280 = true then ((digits_Text.f l0).bind fun t289 => ((tribunalref02_Text.f kj3 l0).bind fun t290 => (if t289.toList = t290.toList then ((tribunalref01_Same.f kj3 bt281.1 bt285.1).bind fun t291 => (if t291 = true then (if bt281.2 = bt285.2 then ((digits_Right.f a1).bind fun t292 => ((tribunalref02_Right.f kj3 a1).bind fun t293 => (some (t292 == t293)))) else (none)) else (none))) else (none)))) else (none)))) = some r := by rw [if_neg (show ¬ (false = true) by decide)] at H; exact H
        clear H
        have H := H1
        clear H1
        replace H := Option.bind_eq_some_iff.mp H
        obtain ⟨⟨t281, t282⟩, A80, H⟩ := H
        replace H : ((tribunalref02_Parse.f kj3 a1).bind fun bt285 => (if t280 = true then ((digits_Text.f l0).bind fun t289 => ((tribunalref02_Text.f kj3 l0).bind fun t290 => (if t289.toList = t290.toList then ((tribunalref01_Same.f kj3 t281 bt285.1).bind fun t291 => (if t291 = true then (if t282 = bt285.2 then ((digits_Right.f a1).bind fun t292 => ((tribunalref02_Right.f kj3 a1).bind fun t293 => (some (t292 == t293)))) else (none)) else (none))) else (none)))) else (none))) = some r := H
        have A8 := Aside0.mk A80
        clear A80
        replace H := Option.bind_eq_some_iff.mp H
        obtain ⟨⟨t285, t286⟩, A90, H⟩ := H
        replace H : (if t280 = true then ((digits_Text.f l0).bind fun t289 => ((tribunalref02_Text.f kj3 l0).bind fun t290 => (if t289.toList = t290.toList then ((tribunalref01_Same.f kj3 t281 t285).bind fun t291 => (if t291 = true then (if t282 = t286 then ((digits_Right.f a1).bind fun t292 => ((tribunalref02_Right.f kj3 a1).bind fun t293 => (some (t292 == t293)))) else (none)) else (none))) else (none)))) else (none)) = some r := H
        have A9 := Aside0.mk A90
        clear A90
        by_cases c10 : t280 = true
        · subst c10
          have H1 : ((digits_Text.f l0).bind fun t289 => ((tribunalref02_Text.f kj3 l0).bind fun t290 => (if t289.toList = t290.toList then ((tribunalref01_Same.f kj3 t281 t285).bind fun t291 => (if t291 = true then (if t282 = t286 then ((digits_Right.f a1).bind fun t292 => ((tribunalref02_Right.f kj3 a1).bind fun t293 => (some (t292 == t293)))) else (none)) else (none))) else (none)))) = some r := by rw [if_pos rfl] at H; exact H
          clear H
          have H := H1
          clear H1
          replace H := Option.bind_eq_some_iff.mp H
          obtain ⟨t289, A110, H⟩ := H
          replace H : ((tribunalref02_Text.f kj3 l0).bind fun t290 => (if t289.toList = t290.toList then ((tribunalref01_Same.f kj3 t281 t285).bind fun t291 => (if t291 = true then (if t282 = t286 then ((digits_Right.f a1).bind fun t292 => ((tribunalref02_Right.f kj3 a1).bind fun t293 => (some (t292 == t293)))) else (none)) else (none))) else (none))) = some r := H
          have A11 := Aside0.mk A110
          clear A110
          replace H := Option.bind_eq_some_iff.mp H
          obtain ⟨t290, A120, H⟩ := H
          replace H : (if t289.toList = t290.toList then ((tribunalref01_Same.f kj3 t281 t285).bind fun t291 => (if t291 = true then (if t282 = t286 then ((digits_Right.f a1).bind fun t292 => ((tribunalref02_Right.f kj3 a1).bind fun t293 => (some (t292 == t293)))) else (none)) else (none))) else (none)) = some r := H
          have A12 := Aside0.mk A120
          clear A120
          by_cases c13 : t289.toList = t290.toList
          · rw [if_pos c13] at H
            have c13b0 : (t289.toList == t290.toList) = true := beq_iff_eq.mpr c13
            have c13b1 : (t289.toList != t290.toList) = false := bne_eq_false_iff_eq.mpr c13
            clear c13
            replace H := Option.bind_eq_some_iff.mp H
            obtain ⟨t291, A140, H⟩ := H
            replace H : (if t291 = true then (if t282 = t286 then ((digits_Right.f a1).bind fun t292 => ((tribunalref02_Right.f kj3 a1).bind fun t293 => (some (t292 == t293)))) else (none)) else (none)) = some r := H
            have A14 := Aside0.mk A140
            clear A140
            by_cases c15 : t291 = true
            · subst c15
              have H1 : (if t282 = t286 then ((digits_Right.f a1).bind fun t292 => ((tribunalref02_Right.f kj3 a1).bind fun t293 => (some (t292 == t293)))) else (none)) = some r := by rw [if_pos rfl] at H; exact H
              clear H
              have H := H1
              clear H1
              by_cases c16 : t282 = t286
              · rw [if_pos c16] at H
                have c16b0 : (t282 == t286) = true := beq_iff_eq.mpr c16
                have c16b1 : (t282 != t286) = false := bne_eq_false_iff_eq.mpr c16
                clear c16
                replace H := Option.bind_eq_some_iff.mp H
                obtain ⟨t292, A170, H⟩ := H
                replace H : ((tribunalref02_Right.f kj3 a1).bind fun t293 => (some (t292 == t293))) = some r := H
                have A17 := Aside0.mk A170
                clear A170
                replace H := Option.bind_eq_some_iff.mp H
                obtain ⟨t293, A180, H⟩ := H
                replace H : (some (t292 == t293)) = some r := H
                have A18 := Aside0.mk A180
                clear A180
                obtain rfl := Option.some.inj H
                go_wp2_with (first | ((with_reducible refine gate_callee (f := 11) rfl ?_); refine goesL_ (some 22) rfl rfl Tryd.func11 (by kernel_rfl) rfl #[.string a1] rfl (by (try simp only [List.map_toArray, List.map_cons, List.map_nil]); first | done | rfl | (simp only [List.length_drop, List.length_take]; rfl)) ?_; (with_reducible refine (digits_Parse.calls a1 t281 t282 _ A8.out).mono ?_); rintro e w19 ⟨v283, rfl, ho0, hb⟩; refine ⟨_, rfl, ?_⟩; have n0_ := Aside0.mk (Kd.R_lower ho0 (below_size (by repeat (first | (with_reducible first | exact HB.out | apply below_alloc | apply pw_below_drewN | apply below_drew1) | exact HB.out)))); have n1_ := Aside0.mk (below_step (by repeat (first | (with_reducible first | exact HB.out | apply below_alloc | apply pw_below_drewN | apply below_drew1) | exact HB.out)) hb); clear HB; have HO284 := n0_; have HB := n1_; clear n0_ n1_; (try clear hb); (try clear hb2); (try clear hk); (try clear hi); (try clear ho0)) | ((with_reducible refine gate_callee (f := 12) rfl ?_); refine goesL_ (some 27) rfl rfl Tryd.func12 (by kernel_rfl) rfl #[.string a1] rfl (by (try simp only [List.map_toArray, List.map_cons, List.map_nil]); first | done | rfl | (simp only [List.length_drop, List.length_take]; rfl)) ?_; (with_reducible refine (tribunalref02_Parse.calls kj3 a1 t285 t286 _ A9.out).mono ?_); rintro e w20 ⟨v287, rfl, ho0, hb⟩; refine ⟨_, rfl, ?_⟩; have n0_ := Aside0.mk (Kd.R_elder' (by (with_reducible repeat (first | apply Kd.R_alloc | apply Kd.R_drewN | apply Kd.R_drew)); exact HO284.out) (Kd.R_base ho0) hb); have n1_ := Aside0.mk (Kd.R_lower (Kd.R_new' ho0 (Kd.R_lt (by (with_reducible repeat (first | apply Kd.R_alloc | apply Kd.R_drewN | apply Kd.R_drew)); exact HO284.out))) (below_size (by repeat (first | (with_reducible first | exact HB.out | apply below_alloc | apply pw_below_drewN | apply below_drew1) | exact HB.out)))); have n2_ := Aside0.mk (below_step (by repeat (first | (with_reducible first | exact HB.out | apply below_alloc | apply pw_below_drewN | apply below_drew1) | exact HB.out)) hb); clear HO284; clear HB; have HO284 := n0_; have HO288 := n1_; have HB := n2_; clear n0_ n1_ n2_; (try clear hb); (try clear hb2); (try clear hk); (try clear hi); (try clear ho0)) | (go_at_call 13; (with_reducible refine (digits_Text.calls _ _ l0 t289 _ ?side1 ?side2 A11.out).mono ?_); (case side1 => repeat (first | exact (Kd.C_below HR0.out HB.out) | (with_reducible refine Kd.C_alloc ?_ _) | (with_reducible refine Kd.C_drewN ?_ _) | (with_reducible refine Kd.C_drew ?_))); (case side2 => exact HC0.out); rintro e w21 ⟨rfl, hb⟩; have n0_ := Aside0.mk (Kd.R_below (by (with_reducible repeat (first | apply Kd.R_alloc | apply Kd.R_drewN | apply Kd.R_drew)); exact HO284.out) hb); have n1_ := Aside0.mk (Kd.R_below (by (with_reducible repeat (first | apply Kd.R_alloc | apply Kd.R_drewN | apply Kd.R_drew)); exact HO288.out) hb); have n2_ := Aside0.mk (below_step (by repeat (first | (with_reducible first | exact HB.out | apply below_alloc | apply pw_below_drewN | apply below_drew1) | exact HB.out)) hb); clear HO284; clear HO288; clear HB; have HO284 := n0_; have HO288 := n1_; have HB := n2_; clear n0_ n1_ n2_; (try clear hb); (try clear hb2); (try clear hk); (try clear hi)) | (go_at_call 14; (with_reducible refine (tribunalref02_Text.calls kj3 _ _ l0 t290 _ ?side1 ?side2 A12.out).mono ?_); (case side1 => repeat (first | exact (Kd.C_below HR0.out HB.out) | (with_reducible refine Kd.C_alloc ?_ _) | (with_reducible refine Kd.C_drewN ?_ _) | (with_reducible refine Kd.C_drew ?_))); (case side2 => exact HC0.out); rintro e w22 ⟨rfl, hb⟩; have n0_ := Aside0.mk (Kd.R_below (by (with_reducible repeat (first | apply Kd.R_alloc | apply Kd.R_drewN | apply Kd.R_drew)); exact HO284.out) hb); have n1_ := Aside0.mk (Kd.R_below (by (with_reducible repeat (first | apply Kd.R_alloc | apply Kd.R_drewN | apply Kd.R_drew)); exact HO288.out) hb); have n2_ := Aside0.mk (below_step (by repeat (first | (with_reducible first | exact HB.out | apply below_alloc | apply pw_below_drewN | apply below_drew1) | exact HB.out)) hb); clear HO284; clear HO288; clear HB; have HO284 := n0_; have HO288 := n1_; have HB := n2_; clear n0_ n1_ n2_; (try clear hb); (try clear hb2); (try clear hk); (try clear hi); obtain ⟨Ao23, co23, eo23⟩ := Kd.R_slice HO284.out; subst eo23; obtain ⟨Ao24, co24, eo24⟩ := Kd.R_slice HO288.out; subst eo24) | (go_at_call 15; (with_reducible refine (tribunalref01_Same.calls kj3 _ _ t281 _ _ t285 true _ ?side1 ?side2 ?side3 ?side4 A14.out).mono ?_); (case side1 => repeat (first | exact (Kd.R_reads' HO284.out).2.2 | (with_reducible refine Kd.C_alloc ?_ _) | (with_reducible refine Kd.C_drewN ?_ _) | (with_reducible refine Kd.C_drew ?_))); (case side2 => exact (Kd.R_reads' HO284.out).2.1); (case side3 => repeat (first | exact (Kd.R_reads' HO288.out).2.2 | (with_reducible refine Kd.C_alloc ?_ _) | (with_reducible refine Kd.C_drewN ?_ _) | (with_reducible refine Kd.C_drew ?_))); (case side4 => exact (Kd.R_reads' HO288.out).2.1); rintro e w' ⟨rfl, ⟨nd, rfl⟩⟩) | (go_at_call 16; (with_reducible refine (digits_Right.calls a1 t292 _ A17.out).mono ?_); rintro e w25 ⟨rfl, hb⟩; have n0_ := Aside0.mk (Kd.R_below (by (with_reducible repeat (first | apply Kd.R_alloc | apply Kd.R_drewN | apply Kd.R_drew)); exact HO284.out) hb); have n1_ := Aside0.mk (Kd.R_below (by (with_reducible repeat (first | apply Kd.R_alloc | apply Kd.R_drewN | apply Kd.R_drew)); exact HO288.out) hb); have n2_ := Aside0.mk (below_step (by repeat (first | (with_reducible first | exact HB.out | apply below_alloc | apply pw_below_drewN | apply below_drew1) | exact HB.out)) hb); clear HO284; clear HO288; clear HB; have HO284 := n0_; have HO288 := n1_; have HB := n2_; clear n0_ n1_ n2_; (try clear hb); (try clear hb2); (try clear hk); (try clear hi)) | (go_at_call 17; (with_reducible refine (tribunalref02_Right.calls kj3 a1 t293 _ A18.out).mono ?_); rintro e w' ⟨rfl, ⟨nd, rfl⟩⟩))
                go_ret
                exact ⟨by first | rfl | (simp [errW_none, errW_some] <;> rfl) | (simp [*, errW_none, errW_some] <;> rfl), by repeat (first | (with_reducible first | exact HB.out | apply below_alloc | apply pw_below_drewN | apply below_drew1) | exact HB.out)⟩
              · rw [if_neg c16] at H
                exact absurd H (by simp)
            · replace c15 := Bool.eq_false_iff.mpr c15
              subst c15
              have H1 : (none) = some r := by rw [if_neg (show ¬ (false = true) by decide)] at H; exact H
              clear H
              have H := H1
              clear H1
              exact absurd H (by simp)
          · rw [if_neg c13] at H
            exact absurd H (by simp)
        · replace c10 := Bool.eq_false_iff.mpr c10
          subst c10
          have H1 : (none) = some r := by rw [if_neg (show ¬ (false = true) by decide)] at H; exact H
          clear H
          have H := H1
          clear H1
          exact absurd H (by simp)

/-- THE ONE PURE STATEMENT of tribunallaw02_DigitsTells: yours. -/
def tribunallaw02_DigitsTells.Pure : Prop := ∀ (l0 : List Int) (a1 : ByteArray), l0.length ≤ maxLen → l0.length * 4 ≤ 140737488351232 → (∀ x ∈ l0, (Lit.int .u32 x).wf = true) → a1.size ≤ 140737488351232 → ∃ k, tribunallaw02_DigitsTells.f k l0 a1 = some true
theorem tribunallaw02_DigitsTells.walk (P : tribunallaw02_DigitsTells.Pure) (a0 : Option Addr) (len0 cap0 : Nat) (z0 : List Int) (a1 : ByteArray) (w : World) (w0 : (a0 = none ∧ len0 = 0 ∧ cap0 = 0 ∧ z0 = []) ∨ ∃ x, a0 = some x ∧ len0 ≤ cap0 ∧ cap0 ≤ maxLen ∧ z0.length = cap0 ∧ (∀ i, i < z0.length → w.cell? (x.add i) = some (.int .u32 (z0.getD i 0))) ∧ ∀ n ∈ z0, (Lit.int .u32 n).wf = true) (y0 : len0 * 4 ≤ 140737488351232) (w1 : a1.size ≤ 140737488351232) :
    Calls Tryd.prog 3 #[.slice a0 len0 cap0, .string a1] w fun e w' => e = .returned (.bool true) ∧ Below w.heap.size w w' := by
  obtain ⟨l0, rfl, hr0, hm0, hw0, hc0⟩ := ReadsInt.ofRowC w0
  obtain ⟨k, h⟩ := P l0 a1 hm0 y0 hw0 w1
  refine (tribunallaw02_DigitsTells.calls k _ _ l0 a1 true w (Kd.C_of_reads (d := (0 : Int)) (h1 := fun _ => rfl) hr0) hc0 h).mono ?_
  rintro e w' ⟨rfl, hd⟩
  exact ⟨rfl, hd⟩

end Go.Proofs.YtioofejjjgggkaaDoor.G
