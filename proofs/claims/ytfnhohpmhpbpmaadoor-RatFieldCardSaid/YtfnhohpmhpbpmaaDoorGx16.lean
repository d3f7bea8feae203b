-- Out of the translation, by a program of this repo (wip/tools/gprint.py). Lean checks it.
import Derived.Test.YtfnhohpmhpbpmaaDoorGx0
import Derived.Test.YtfnhohpmhpbpmaaDoorGx1
import Derived.Test.YtfnhohpmhpbpmaaDoorGx13
import Derived.Test.YtfnhohpmhpbpmaaDoorGx15
import Derived.Test.YtfnhohpmhpbpmaaDoorGRatTop
namespace Go.Proofs.YtfnhohpmhpbpmaaDoor.G
open Go.RowKit Go.Proofs.YtfnhohpmhpbpmaaDoorW.PrintWords Go.Proofs.YtfnhohpmhpbpmaaDoorW.PrintLast Go.Proofs.YtfnhohpmhpbpmaaDoorW.PrintMore
attribute [local go_sem] max2_int min2_int max_two min_two max_three min_three max_four min_four   -- for this text's walks alone
set_option linter.unusedVariables false
set_option linter.unusedSimpArgs false

/-! ### tribunallaw03_RatField: function 4 -/
mutual
def tribunallaw03_RatField.j0 : Nat → ByteArray → ByteArray → ByteArray → Bool → Bool → Option (Bool)
  | 0, _, _, _, _, _ => none
  | k + 1, x0, x1, x2, x7, x28 => if x28 = true then (some x7) else ((rat_Norm.f x0).bind fun bt648 => ((rat_Norm.f x1).bind fun bt650 => ((rat_Norm.f x2).bind fun bt652 => (if bt648.2 = 0 then (if bt650.2 = 0 then (tribunallaw03_RatField.j1 k x7 bt648.1 bt650.1 bt652.1 (bt652.2 != 0)) else (tribunallaw03_RatField.j1 k x7 bt648.1 bt650.1 bt652.1 true)) else (tribunallaw03_RatField.j1 k x7 bt648.1 bt650.1 bt652.1 true)))))
def tribunallaw03_RatField.j1 : Nat → Bool → ByteArray → ByteArray → ByteArray → Bool → Option (Bool)
  | 0, _, _, _, _, _ => none
  | k + 1, x7, x8, x10, x12, x54 => if x54 = true then (some x7) else ((tribunallaw03_plus.f x8 x10).bind fun t654 => ((tribunallaw03_plus.f x10 x8).bind fun t655 => (if t654.toList = t655.toList then ((tribunallaw03_times.f x8 x10).bind fun t656 => ((tribunallaw03_times.f x10 x8).bind fun t657 => (if t656.toList = t657.toList then ((tribunallaw03_plus.f x8 x10).bind fun t658 => ((tribunallaw03_plus.f t658 x12).bind fun t659 => ((tribunallaw03_plus.f x10 x12).bind fun t660 => ((tribunallaw03_plus.f x8 t660).bind fun t661 => (if t659.toList = t661.toList then ((tribunallaw03_times.f x8 x10).bind fun t662 => ((tribunallaw03_times.f t662 x12).bind fun t663 => ((tribunallaw03_times.f x10 x12).bind fun t664 => ((tribunallaw03_times.f x8 t664).bind fun t665 => (if t663.toList = t665.toList then ((tribunallaw03_plus.f x10 x12).bind fun t666 => ((tribunallaw03_times.f x8 t666).bind fun t667 => ((tribunallaw03_times.f x8 x10).bind fun t668 => ((tribunallaw03_times.f x8 x12).bind fun t669 => ((tribunallaw03_plus.f t668 t669).bind fun t670 => (tribunallaw03_RatField.j2 k x7 x8 x10 (t667.toList != t670.toList))))))) else (tribunallaw03_RatField.j2 k x7 x8 x10 true)))))) else (tribunallaw03_RatField.j2 k x7 x8 x10 true)))))) else (tribunallaw03_RatField.j2 k x7 x8 x10 true)))) else (tribunallaw03_RatField.j2 k x7 x8 x10 true))))
def tribunallaw03_RatField.j2 : Nat → Bool → ByteArray → ByteArray → Bool → Option (Bool)
  | 0, _, _, _, _ => none
  | k + 1, x7, x8, x10, x112 => if x112 = true then (none) else ((tribunallaw03_plus.f x8 x10).bind fun t671 => ((rat_Sub.f t671 x10).bind fun bt672 => ((tribunallaw03_times.f x8 x10).bind fun t674 => ((rat_Div.f t674 x10).bind fun bt675 => ((rat_Neg.f x8).bind fun bt677 => (if x7 = true then (if bt672.1.toList = x8.toList then (if bt672.2 = 0 then (if x10.toList = ([48] : List UInt8) then (if bt675.2 = 21 then (if bt677.2 = 0 then ((tribunallaw03_plus.f x8 bt677.1).bind fun t679 => (if t679.toList = ([48] : List UInt8) then ((tribunallaw03_plus.f x8 (⟨#[48]⟩ : ByteArray)).bind fun t680 => (if t680.toList = x8.toList then ((tribunallaw03_times.f x8 (⟨#[49]⟩ : ByteArray)).bind fun t681 => (some (t681.toList == x8.toList))) else (none))) else (none))) else (none)) else (none)) else (if bt675.1.toList = x8.toList then (if bt675.2 = 0 then (if bt677.2 = 0 then ((tribunallaw03_plus.f x8 bt677.1).bind fun t682 => (if t682.toList = ([48] : List UInt8) then ((tribunallaw03_plus.f x8 (⟨#[48]⟩ : ByteArray)).bind fun t683 => (if t683.toList = x8.toList then ((tribunallaw03_times.f x8 (⟨#[49]⟩ : ByteArray)).bind fun t684 => (some (t684.toList == x8.toList))) else (none))) else (none))) else (none)) else (none)) else (none))) else (none)) else (none)) else (none)))))))
end
def tribunallaw03_RatField.f (k : Nat) (a0 : ByteArray) (a1 : ByteArray) (a2 : ByteArray) : Option (Bool) := (tribunallaw03_head.f).bind fun t646 => ((tribunallaw03_Great.f a0 a1).bind fun t647 => (if t647 = true then (tribunallaw03_RatField.j0 k a0 a1 a2 t646 true) else (tribunallaw03_RatField.j0 k a0 a1 a2 t646 (decide ((a2.size : Int) > 160)))))
theorem tribunallaw03_RatField.mono_l : ∀ k, (∀ y0 y1 y2 y3 y4, LeO (tribunallaw03_RatField.j0 k y0 y1 y2 y3 y4) (tribunallaw03_RatField.j0 (k + 1) y0 y1 y2 y3 y4)) ∧ (∀ y0 y1 y2 y3 y4, LeO (tribunallaw03_RatField.j1 k y0 y1 y2 y3 y4) (tribunallaw03_RatField.j1 (k + 1) y0 y1 y2 y3 y4)) ∧ (∀ y0 y1 y2 y3, LeO (tribunallaw03_RatField.j2 k y0 y1 y2 y3) (tribunallaw03_RatField.j2 (k + 1) y0 y1 y2 y3))
  | 0 => ⟨fun _ _ _ _ _ r h => by simp [tribunallaw03_RatField.j0] at h, fun _ _ _ _ _ r h => by simp [tribunallaw03_RatField.j1] at h, fun _ _ _ _ r h => by simp [tribunallaw03_RatField.j2] at h⟩
  | k + 1 => by
    obtain ⟨ih0, ih1, ih2⟩ := tribunallaw03_RatField.mono_l k
    refine ⟨?_, ?_, ?_⟩
    · intro y0 y1 y2 y3 y4
      unfold tribunallaw03_RatField.j0
      repeat' first
      | (with_reducible exact ih0 _ _ _ _ _)
      | (with_reducible exact ih1 _ _ _ _ _)
      | (with_reducible exact ih2 _ _ _ _)
      | (with_reducible exact LeO.refl _)
      | (with_reducible exact LeO.none _)
      | (with_reducible refine LeO.ite ?_ ?_)
      | (with_reducible refine LeO.bind ?_ (fun _ => ?_))
      | exact ih0 _ _ _ _ _
      | exact ih1 _ _ _ _ _
      | exact ih2 _ _ _ _
      | exact LeO.none _
      | refine LeO.ite ?_ ?_
      | refine LeO.bind ?_ (fun _ => ?_)
    · intro y0 y1 y2 y3 y4
      unfold tribunallaw03_RatField.j1
      repeat' first
      | (with_reducible exact ih0 _ _ _ _ _)
      | (with_reducible exact ih1 _ _ _ _ _)
      | (with_reducible exact ih2 _ _ _ _)
      | (with_reducible exact LeO.refl _)
      | (with_reducible exact LeO.none _)
      | (with_reducible refine LeO.ite ?_ ?_)
      | (with_reducible refine LeO.bind ?_ (fun _ => ?_))
      | exact ih0 _ _ _ _ _
      | exact ih1 _ _ _ _ _
      | exact ih2 _ _ _ _
      | exact LeO.none _
      | refine LeO.ite ?_ ?_
      | refine LeO.bind ?_ (fun _ => ?_)
    · intro y0 y1 y2 y3
      unfold tribunallaw03_RatField.j2
      repeat' first
      | (with_reducible exact ih0 _ _ _ _ _)
      | (with_reducible exact ih1 _ _ _ _ _)
      | (with_reducible exact ih2 _ _ _ _)
      | (with_reducible exact LeO.refl _)
      | (with_reducible exact LeO.none _)
      | (with_reducible refine LeO.ite ?_ ?_)
      | (with_reducible refine LeO.bind ?_ (fun _ => ?_))
      | exact ih0 _ _ _ _ _
      | exact ih1 _ _ _ _ _
      | exact ih2 _ _ _ _
      | exact LeO.none _
      | refine LeO.ite ?_ ?_
      | refine LeO.bind ?_ (fun _ => ?_)
theorem tribunallaw03_RatField.mono : ∀ a0 a1 a2 k, LeO (tribunallaw03_RatField.f k a0 a1 a2) (tribunallaw03_RatField.f (k + 1) a0 a1 a2) := by
  intro a0 a1 a2 k
  obtain ⟨ih0, ih1, ih2⟩ := tribunallaw03_RatField.mono_l k
  unfold tribunallaw03_RatField.f
  repeat' first
      | (with_reducible exact ih0 _ _ _ _ _)
      | (with_reducible exact ih1 _ _ _ _ _)
      | (with_reducible exact ih2 _ _ _ _)
      | (with_reducible exact LeO.refl _)
      | (with_reducible exact LeO.none _)
      | (with_reducible refine LeO.ite ?_ ?_)
      | (with_reducible refine LeO.bind ?_ (fun _ => ?_))
      | exact ih0 _ _ _ _ _
      | exact ih1 _ _ _ _ _
      | exact ih2 _ _ _ _
      | exact LeO.none _
      | refine LeO.ite ?_ ?_
      | refine LeO.bind ?_ (fun _ => ?_)
set_option maxHeartbeats 8000000 in
set_option maxRecDepth 100000 in
theorem tribunallaw03_RatField.calls (k : Nat) (a0 : ByteArray) (a1 : ByteArray) (a2 : ByteArray) (r : Bool) (w : World) (h : tribunallaw03_RatField.f k a0 a1 a2 = some r) :
    Calls Tryd.prog 4 #[.string a0, .string a1, .string a2] w fun e w' => e = .returned (.bool r) ∧ Below w.heap.size w w' := by
  have HB := Aside0.mk (Below.refl w.heap.size w)
  have H : ((tribunallaw03_head.f).bind fun t646 => ((tribunallaw03_Great.f a0 a1).bind fun t647 => (if t647 = true then (tribunallaw03_RatField.j0 k a0 a1 a2 t646 true) else (tribunallaw03_RatField.j0 k a0 a1 a2 t646 (decide ((a2.size : Int) > 160)))))) = some r := h
  clear h
  replace H := Option.bind_eq_some_iff.mp H
  obtain ⟨t646, A40, H⟩ := H
  replace H : ((tribunallaw03_Great.f a0 a1).bind fun t647 => (if t647 = true then (tribunallaw03_RatField.j0 k a0 a1 a2 t646 true) else (tribunallaw03_RatField.j0 k a0 a1 a2 t646 (decide ((a2.size : Int) > 160))))) = some r := H
  have A4 := Aside0.mk A40
  clear A40
  have HC5 := Aside0.mk H
  clear H
  go_enter Tryd.func4, Tryd.ntmps4
  go_upto_region 2 with (first | ((with_reducible refine gate_callee (f := 10) rfl ?_); refine goesL_ (some 20) rfl rfl Tryd.func10 (by kernel_rfl) rfl #[] rfl (by (try simp only [List.map_toArray, List.map_cons, List.map_nil]); first | done | rfl | (simp only [List.length_drop, List.length_take]; rfl)) ?_; (with_reducible refine (tribunallaw03_head.calls  t646 _ A4.out).mono ?_); rintro e w6 ⟨rfl, hb⟩; refine ⟨_, rfl, ?_⟩; have n0_ := Aside0.mk (below_step (by repeat (first | (with_reducible first | exact HB.out | apply below_alloc | apply pw_below_drewN | apply below_drew1) | exact HB.out)) hb); clear HB; have HB := n0_; clear n0_; (try clear hb); (try clear hb2); (try clear hk); (try clear hi)))
  (try simp only [Act.put, List.setIfInBounds_toArray, List.set_cons_zero, List.set_cons_succ])
  go_cut [28] (fun v28 wc => ∃ (kq : Nat) (x28_4 : Bool), v28 = .bool x28_4 ∧ Aside0 (tribunallaw03_RatField.j0 kq a0 a1 a2 t646 x28_4 = some r) ∧ Aside0 (kq ≤ k) ∧ Aside0 (Below w.heap.size w wc))
  case first =>
    have H := HC5.out
    clear HC5
    replace H := Option.bind_eq_some_iff.mp H
    obtain ⟨t647, A70, H⟩ := H
    replace H : (if t647 = true then (tribunallaw03_RatField.j0 k a0 a1 a2 t646 true) else (tribunallaw03_RatField.j0 k a0 a1 a2 t646 (decide ((a2.size : Int) > 160)))) = some r := H
    have A7 := Aside0.mk A70
    clear A70
    by_cases c8 : t647 = true
    · subst c8
      have H1 : (tribunallaw03_RatField.j0 k a0 a1 a2 t646 true) = some r := by rw [if_pos rfl] at H; exact H
      clear H
      have H := H1
      clear H1
      have H' := Aside0.mk H
      clear H
      go_wp2_with (first | ((with_reducible refine gate_callee (f := 11) rfl ?_); refine goesL_ (some 23) rfl rfl Tryd.func11 (by kernel_rfl) rfl #[.string a0, .string a1] rfl (by (try simp only [List.map_toArray, List.map_cons, List.map_nil]); first | done | rfl | (simp only [List.length_drop, List.length_take]; rfl)) ?_; (with_reducible refine (tribunallaw03_Great.calls a0 a1 true _ A7.out).mono ?_); rintro e w' ⟨rfl, ⟨nd, rfl⟩⟩; refine ⟨_, rfl, ?_⟩))
      go_meet
      case rel => exact ⟨_, (true), (by first | rfl | (simp; done) | (simp [*]; done)), H', ⟨by first | omega | exact Nat.le_refl _⟩, ⟨by repeat (first | (with_reducible first | exact HB.out | apply below_alloc | apply pw_below_drewN | apply below_drew1) | exact HB.out)⟩⟩
    · replace c8 := Bool.eq_false_iff.mpr c8
      subst c8
      have H1 : (tribunallaw03_RatField.j0 k a0 a1 a2 t646 (decide ((a2.size : Int) > 160))) = some r := by rw [if_neg (show ¬ (false = true) by decide)] at H; exact H
      clear H
      have H := H1
      clear H1
      have H' := Aside0.mk H
      clear H
      go_wp2_with (first | ((with_reducible refine gate_callee (f := 11) rfl ?_); refine goesL_ (some 23) rfl rfl Tryd.func11 (by kernel_rfl) rfl #[.string a0, .string a1] rfl (by (try simp only [List.map_toArray, List.map_cons, List.map_nil]); first | done | rfl | (simp only [List.length_drop, List.length_take]; rfl)) ?_; (with_reducible refine (tribunallaw03_Great.calls a0 a1 false _ A7.out).mono ?_); rintro e w' ⟨rfl, ⟨nd, rfl⟩⟩; refine ⟨_, rfl, ?_⟩))
      go_meet
      case rel => exact ⟨_, (decide ((a2.size : Int) > 160)), (by first | rfl | (simp; done) | (simp [*]; done)), H', ⟨by first | omega | exact Nat.le_refl _⟩, ⟨by repeat (first | (with_reducible first | exact HB.out | apply below_alloc | apply pw_below_drewN | apply below_drew1) | exact HB.out)⟩⟩
  case rest =>
    clear HC5
    try clear c1
    try clear p2
    try clear c4
    try clear c8
    obtain ⟨kq, x28_4, rfl, HA, HJ4, HB⟩ := hcut
    cases kq with
    | zero => exact absurd HA.out (by simp [tribunallaw03_RatField.j0])
    | succ kj4 =>
      have H := HA.out
      clear HA
      simp only [tribunallaw03_RatField.j0] at H
      by_cases c9 : x28_4 = true
      · subst c9
        have H1 : (some t646) = some r := by rw [if_pos rfl] at H; exact H
        clear H
        have H := H1
        clear H1
        obtain rfl := Option.some.inj H
        go_wp2
        go_ret
        exact ⟨by first | rfl | (simp [errW_none, errW_some] <;> rfl) | (simp [*, errW_none, errW_some] <;> rfl), by repeat (first | (with_reducible first | exact HB.out | apply below_alloc | apply pw_below_drewN | apply below_drew1) | exact HB.out)⟩
      · replace c9 := Bool.eq_false_iff.mpr c9
        subst c9
        have H1 : ((rat_Norm.f a0).bind fun bt648 => ((rat_Norm.f a1).bind fun bt650 => ((rat_Norm.f a2).bind fun bt652 => (if bt648.2 = 0 then (if bt650.2 = 0 then (tribunallaw03_RatField.j1 kj4 t646 bt648.1 bt650.1 bt652.1 (bt652.2 != 0)) else (tribunallaw03_RatField.j1 kj4 t646 bt648.1 bt650.1 bt652.1 true)) else (tribunallaw03_RatField.j1 kj4 t646 bt648.1 bt650.1 bt652.1 true))))) = some r := by rw [if_neg (show ¬ (false = true) by decide)] at H; exact H
        clear H
        have H := H1
        clear H1
        replace H := Option.bind_eq_some_iff.mp H
        obtain ⟨⟨t648, t649⟩, A100, H⟩ := H
        replace H : ((rat_Norm.f a1).bind fun bt650 => ((rat_Norm.f a2).bind fun bt652 => (if t649 = 0 then (if bt650.2 = 0 then (tribunallaw03_RatField.j1 kj4 t646 t648 bt650.1 bt652.1 (bt652.2 != 0)) else (tribunallaw03_RatField.j1 kj4 t646 t648 bt650.1 bt652.1 true)) else (tribunallaw03_RatField.j1 kj4 t646 t648 bt650.1 bt652.1 true)))) = some r := H
        have A10 := Aside0.mk A100
        clear A100
        replace H := Option.bind_eq_some_iff.mp H
        obtain ⟨⟨t650, t651⟩, A110, H⟩ := H
        replace H : ((rat_Norm.f a2).bind fun bt652 => (if t649 = 0 then (if t651 = 0 then (tribunallaw03_RatField.j1 kj4 t646 t648 t650 bt652.1 (bt652.2 != 0)) else (tribunallaw03_RatField.j1 kj4 t646 t648 t650 bt652.1 true)) else (tribunallaw03_RatField.j1 kj4 t646 t648 t650 bt652.1 true))) = some r := H
        have A11 := Aside0.mk A110
        clear A110
        replace H := Option.bind_eq_some_iff.mp H
        obtain ⟨⟨t652, t653⟩, A120, H⟩ := H
        replace H : (if t649 = 0 then (if t651 = 0 then (tribunallaw03_RatField.j1 kj4 t646 t648 t650 t652 (t653 != 0)) else (tribunallaw03_RatField.j1 kj4 t646 t648 t650 t652 true)) else (tribunallaw03_RatField.j1 kj4 t646 t648 t650 t652 true)) = some r := H
        have A12 := Aside0.mk A120
        clear A120
        have HC13 := Aside0.mk H
        clear H
        go_upto_region 7 with (first | ((with_reducible refine gate_callee (f := 12) rfl ?_); refine goesL_ (some 32) rfl rfl Tryd.func12 (by kernel_rfl) rfl #[.string a0] rfl (by (try simp only [List.map_toArray, List.map_cons, List.map_nil]); first | done | rfl | (simp only [List.length_drop, List.length_take]; rfl)) ?_; (with_reducible refine (rat_Norm.calls a0 t648 t649 _ A10.out).mono ?_); rintro e w14 ⟨rfl, hb⟩; refine ⟨_, rfl, ?_⟩; have n0_ := Aside0.mk (below_step (by repeat (first | (with_reducible first | exact HB.out | apply below_alloc | apply pw_below_drewN | apply below_drew1) | exact HB.out)) hb); clear HB; have HB := n0_; clear n0_; (try clear hb); (try clear hb2); (try clear hk); (try clear hi)) | ((with_reducible refine gate_callee (f := 12) rfl ?_); refine goesL_ (some 37) rfl rfl Tryd.func12 (by kernel_rfl) rfl #[.string a1] rfl (by (try simp only [List.map_toArray, List.map_cons, List.map_nil]); first | done | rfl | (simp only [List.length_drop, List.length_take]; rfl)) ?_; (with_reducible refine (rat_Norm.calls a1 t650 t651 _ A11.out).mono ?_); rintro e w15 ⟨rfl, hb⟩; refine ⟨_, rfl, ?_⟩; have n0_ := Aside0.mk (below_step (by repeat (first | (with_reducible first | exact HB.out | apply below_alloc | apply pw_below_drewN | apply below_drew1) | exact HB.out)) hb); clear HB; have HB := n0_; clear n0_; (try clear hb); (try clear hb2); (try clear hk); (try clear hi)) | ((with_reducible refine gate_callee (f := 12) rfl ?_); refine goesL_ (some 42) rfl rfl Tryd.func12 (by kernel_rfl) rfl #[.string a2] rfl (by (try simp only [List.map_toArray, List.map_cons, List.map_nil]); first | done | rfl | (simp only [List.length_drop, List.length_take]; rfl)) ?_; (with_reducible refine (rat_Norm.calls a2 t652 t653 _ A12.out).mono ?_); rintro e w16 ⟨rfl, hb⟩; refine ⟨_, rfl, ?_⟩; have n0_ := Aside0.mk (below_step (by repeat (first | (with_reducible first | exact HB.out | apply below_alloc | apply pw_below_drewN | apply below_drew1) | exact HB.out)) hb); clear HB; have HB := n0_; clear n0_; (try clear hb); (try clear hb2); (try clear hk); (try clear hi)))
        (try simp only [Act.put, List.setIfInBounds_toArray, List.set_cons_zero, List.set_cons_succ])
        go_cut [54] (fun v54 wc => ∃ (kq : Nat) (x54_12 : Bool), v54 = .bool x54_12 ∧ Aside0 (tribunallaw03_RatField.j1 kq t646 t648 t650 t652 x54_12 = some r) ∧ Aside0 (kq ≤ kj4) ∧ Aside0 (Below w.heap.size w wc))
        case first =>
          have H := HC13.out
          clear HC13
          by_cases c17 : t649 = 0
          · rw [if_pos c17] at H
            have c17b0 : (t649 == 0) = true := beq_iff_eq.mpr c17
            have c17b1 : (t649 != 0) = false := bne_eq_false_iff_eq.mpr c17
            clear c17
            (first | rw [c17b0] | (simp only [i64_w, i32_w]; rw [c17b0]) | skip)
            by_cases c18 : t651 = 0
            · rw [if_pos c18] at H
              have c18b0 : (t651 == 0) = true := beq_iff_eq.mpr c18
              have c18b1 : (t651 != 0) = false := bne_eq_false_iff_eq.mpr c18
              clear c18
              have H' := Aside0.mk H
              clear H
              go_wp2
              go_meet
              case rel => exact ⟨_, ((t653 != 0)), (by first | rfl | (simp; done) | (simp [*]; done)), H', ⟨by have := HJ4.out; first | omega | exact Nat.le_refl _⟩, ⟨by repeat (first | (with_reducible first | exact HB.out | apply below_alloc | apply pw_below_drewN | apply below_drew1) | exact HB.out)⟩⟩
            · rw [if_neg c18] at H
              have c18b0 : (t651 == 0) = false := beq_eq_false_iff_ne.mpr c18
              have c18b1 : (t651 != 0) = true := bne_iff_ne.mpr c18
              have H' := Aside0.mk H
              clear H
              go_wp2
              go_meet
              case rel => exact ⟨_, (true), (by first | rfl | (simp; done) | (simp [*]; done)), H', ⟨by have := HJ4.out; first | omega | exact Nat.le_refl _⟩, ⟨by repeat (first | (with_reducible first | exact HB.out | apply below_alloc | apply pw_below_drewN | apply below_drew1) | exact HB.out)⟩⟩
          · rw [if_neg c17] at H
            have c17b0 : (t649 == 0) = false := beq_eq_false_iff_ne.mpr c17
            have c17b1 : (t649 != 0) = true := bne_iff_ne.mpr c17
            (first | rw [c17b0] | (simp only [i64_w, i32_w]; rw [c17b0]) | skip)
            have H' := Aside0.mk H
            clear H
            go_wp2
            go_meet
            case rel => exact ⟨_, (true), (by first | rfl | (simp; done) | (simp [*]; done)), H', ⟨by have := HJ4.out; first | omega | exact Nat.le_refl _⟩, ⟨by repeat (first | (with_reducible first | exact HB.out | apply below_alloc | apply pw_below_drewN | apply below_drew1) | exact HB.out)⟩⟩
        case rest =>
          clear HC13
          try clear c1
          try clear p2
          try clear c4
          try clear c8
          try clear c9
          try clear c10
          try clear c11
          try clear c12
          try clear c17
          try clear c17b0
          try clear c17b1
          try clear c18
          try clear c18b0
          try clear c18b1
          try clear p2
          obtain ⟨kq, x54_12, rfl, HA, HJ12, HB⟩ := hcut
          cases kq with
          | zero => exact absurd HA.out (by simp [tribunallaw03_RatField.j1])
          | succ kj12 =>
            have H := HA.out
            clear HA
            simp only [tribunallaw03_RatField.j1] at H
            by_cases c19 : x54_12 = true
            · subst c19
              have H1 : (some t646) = some r := by rw [if_pos rfl] at H; exact H
              clear H
              have H := H1
              clear H1
              obtain rfl := Option.some.inj H
              go_wp2
              go_ret
              exact ⟨by first | rfl | (simp [errW_none, errW_some] <;> rfl) | (simp [*, errW_none, errW_some] <;> rfl), by repeat (first | (with_reducible first | exact HB.out | apply below_alloc | apply pw_below_drewN | apply below_drew1) | exact HB.out)⟩
            · replace c19 := Bool.eq_false_iff.mpr c19
              subst c19
              have H1 : ((tribunallaw03_plus.f t648 t650).bind fun t654 => ((tribunallaw03_plus.f t650 t648).bind fun t655 => (if t654.toList = t655.toList then ((tribunallaw03_times.f t648 t650).bind fun t656 => ((tribunallaw03_times.f t650 t648).bind fun t657 => (if t656.toList = t657.toList then ((tribunallaw03_plus.f t648 t650).bind fun t658 => ((tribunallaw03_plus.f t658 t652).bind fun t659 => ((tribunallaw03_plus.f t650 t652).bind fun t660 => ((tribunallaw03_plus.f t648 t660).bind fun t661 => (if t659.toList = t661.toList then ((tribunallaw03_times.f t648 t650).bind fun t662 => ((tribunallaw03_times.f t662 t652).bind fun t663 => ((tribunallaw03_times.f t650 t652).bind fun t664 => ((tribunallaw03_times.f t648 t664).bind fun t665 => (if t663.toList = t665.toList then ((tribunallaw03_plus.f t650 t652).bind fun t666 => ((tribunallaw03_times.f t648 t666).bind fun t667 => ((tribunallaw03_times.f t648 t650).bind fun t668 => ((tribunallaw03_times.f t648 t652).bind fun t669 => ((tribunallaw03_plus.f t668 t669).bind fun t670 => (tribunallaw03_RatField.j2 kj12 t646 t648 t650 (t667.toList != t670.toList))))))) else (tribunallaw03_RatField.j2 kj12 t646 t648 t650 true)))))) else (tribunallaw03_RatField.j2 kj12 t646 t648 t650 true)))))) else (tribunallaw03_RatField.j2 kj12 t646 t648 t650 true)))) else (tribunallaw03_RatField.j2 kj12 t646 t648 t650 true)))) = some r := by rw [if_neg (show ¬ (false = true) by decide)] at H; exact H
              clear H
              have H := H1
              clear H1
              have HC20 := Aside0.mk H
              clear H
              go_upto_region 9 with (fail)
              go_cut [112] (fun v112 wc => ∃ (kq : Nat) (x112_19 : Bool), v112 = .bool x112_19 ∧ Aside0 (tribunallaw03_RatField.j2 kq t646 t648 t650 x112_19 = some r) ∧ Aside0 (kq ≤ kj12) ∧ Aside0 (Below w.heap.size w wc))
              case first =>
                have H := HC20.out
                clear HC20
                replace H := Option.bind_eq_some_iff.mp H
                obtain ⟨t654, A210, H⟩ := H
                replace H : ((tribunallaw03_plus.f t650 t648).bind fun t655 => (if t654.toList = t655.toList then ((tribunallaw03_times.f t648 t650).bind fun t656 => ((tribunallaw03_times.f t650 t648).bind fun t657 => (if t656.toList = t657.toList then ((tribunallaw03_plus.f t648 t650).bind fun t658 => ((tribunallaw03_plus.f t658 t652).bind fun t659 => ((tribunallaw03_plus.f t650 t652).bind fun t660 => ((tribunallaw03_plus.f t648 t660).bind fun t661 => (if t659.toList = t661.toList then ((tribunallaw03_times.f t648 t650).bind fun t662 => ((tribunallaw03_times.f t662 t652).bind fun t663 => ((tribunallaw03_times.f t650 t652).bind fun t664 => ((tribunallaw03_times.f t648 t664).bind fun t665 => (if t663.toList = t665.toList then ((tribunallaw03_plus.f t650 t652).bind fun t666 => ((tribunallaw03_times.f t648 t666).bind fun t667 => ((tribunallaw03_times.f t648 t650).bind fun t668 => ((tribunallaw03_times.f t648 t652).bind fun t669 => ((tribunallaw03_plus.f t668 t669).bind fun t670 => (tribunallaw03_RatField.j2 kj12 t646 t648 t650 (t667.toList != t670.toList))))))) else (tribunallaw03_RatField.j2 kj12 t646 t648 t650 true)))))) else (tribunallaw03_RatField.j2 kj12 t646 t648 t650 true)))))) else (tribunallaw03_RatField.j2 kj12 t646 t648 t650 true)))) else (tribunallaw03_RatField.j2 kj12 t646 t648 t650 true))) = some r := H
                have A21 := Aside0.mk A210
                clear A210
                replace H := Option.bind_eq_some_iff.mp H
                obtain ⟨t655, A220, H⟩ := H
                replace H : (if t654.toList = t655.toList then ((tribunallaw03_times.f t648 t650).bind fun t656 => ((tribunallaw03_times.f t650 t648).bind fun t657 => (if t656.toList = t657.toList then ((tribunallaw03_plus.f t648 t650).bind fun t658 => ((tribunallaw03_plus.f t658 t652).bind fun t659 => ((tribunallaw03_plus.f t650 t652).bind fun t660 => ((tribunallaw03_plus.f t648 t660).bind fun t661 => (if t659.toList = t661.toList then ((tribunallaw03_times.f t648 t650).bind fun t662 => ((tribunallaw03_times.f t662 t652).bind fun t663 => ((tribunallaw03_times.f t650 t652).bind fun t664 => ((tribunallaw03_times.f t648 t664).bind fun t665 => (if t663.toList = t665.toList then ((tribunallaw03_plus.f t650 t652).bind fun t666 => ((tribunallaw03_times.f t648 t666).bind fun t667 => ((tribunallaw03_times.f t648 t650).bind fun t668 => ((tribunallaw03_times.f t648 t652).bind fun t669 => ((tribunallaw03_plus.f t668 t669).bind fun t670 => (tribunallaw03_RatField.j2 kj12 t646 t648 t650 (t667.toList != t670.toList))))))) else (tribunallaw03_RatField.j2 kj12 t646 t648 t650 true)))))) else (tribunallaw03_RatField.j2 kj12 t646 t648 t650 true)))))) else (tribunallaw03_RatField.j2 kj12 t646 t648 t650 true)))) else (tribunallaw03_RatField.j2 kj12 t646 t648 t650 true)) = some r := H
                have A22 := Aside0.mk A220
                clear A220
                by_cases c23 : t654.toList = t655.toList
                · rw [if_pos c23] at H
                  have c23b0 : (t654.toList == t655.toList) = true := beq_iff_eq.mpr c23
                  have c23b1 : (t654.toList != t655.toList) = false := bne_eq_false_iff_eq.mpr c23
                  clear c23
                  (first | rw [c23b0] | (simp only [i64_w, i32_w]; rw [c23b0]) | skip)
                  replace H := Option.bind_eq_some_iff.mp H
                  obtain ⟨t656, A240, H⟩ := H
                  replace H : ((tribunallaw03_times.f t650 t648).bind fun t657 => (if t656.toList = t657.toList then ((tribunallaw03_plus.f t648 t650).bind fun t658 => ((tribunallaw03_plus.f t658 t652).bind fun t659 => ((tribunallaw03_plus.f t650 t652).bind fun t660 => ((tribunallaw03_plus.f t648 t660).bind fun t661 => (if t659.toList = t661.toList then ((tribunallaw03_times.f t648 t650).bind fun t662 => ((tribunallaw03_times.f t662 t652).bind fun t663 => ((tribunallaw03_times.f t650 t652).bind fun t664 => ((tribunallaw03_times.f t648 t664).bind fun t665 => (if t663.toList = t665.toList then ((tribunallaw03_plus.f t650 t652).bind fun t666 => ((tribunallaw03_times.f t648 t666).bind fun t667 => ((tribunallaw03_times.f t648 t650).bind fun t668 => ((tribunallaw03_times.f t648 t652).bind fun t669 => ((tribunallaw03_plus.f t668 t669).bind fun t670 => (tribunallaw03_RatField.j2 kj12 t646 t648 t650 (t667.toList != t670.toList))))))) else (tribunallaw03_RatField.j2 kj12 t646 t648 t650 true)))))) else (tribunallaw03_RatField.j2 kj12 t646 t648 t650 true)))))) else (tribunallaw03_RatField.j2 kj12 t646 t648 t650 true))) = some r := H
                  have A24 := Aside0.mk A240
                  clear A240
                  replace H := Option.bind_eq_some_iff.mp H
                  obtain ⟨t657, A250, H⟩ := H
                  replace H : (if t656.toList = t657.toList then ((tribunallaw03_plus.f t648 t650).bind fun t658 => ((tribunallaw03_plus.f t658 t652).bind fun t659 => ((tribunallaw03_plus.f t650 t652).bind fun t660 => ((tribunallaw03_plus.f t648 t660).bind fun t661 => (if t659.toList = t661.toList then ((tribunallaw03_times.f t648 t650).bind fun t662 => ((tribunallaw03_times.f t662 t652).bind fun t663 => ((tribunallaw03_times.f t650 t652).bind fun t664 => ((tribunallaw03_times.f t648 t664).bind fun t665 => (if t663.toList = t665.toList then ((tribunallaw03_plus.f t650 t652).bind fun t666 => ((tribunallaw03_times.f t648 t666).bind fun t667 => ((tribunallaw03_times.f t648 t650).bind fun t668 => ((tribunallaw03_times.f t648 t652).bind fun t669 => ((tribunallaw03_plus.f t668 t669).bind fun t670 => (tribunallaw03_RatField.j2 kj12 t646 t648 t650 (t667.toList != t670.toList))))))) else (tribunallaw03_RatField.j2 kj12 t646 t648 t650 true)))))) else (tribunallaw03_RatField.j2 kj12 t646 t648 t650 true)))))) else (tribunallaw03_RatField.j2 kj12 t646 t648 t650 true)) = some r := H
                  have A25 := Aside0.mk A250
                  clear A250
                  by_cases c26 : t656.toList = t657.toList
                  · rw [if_pos c26] at H
                    have c26b0 : (t656.toList == t657.toList) = true := beq_iff_eq.mpr c26
                    have c26b1 : (t656.toList != t657.toList) = false := bne_eq_false_iff_eq.mpr c26
                    clear c26
                    replace H := Option.bind_eq_some_iff.mp H
                    obtain ⟨t658, A270, H⟩ := H
                    obtain rfl : t654 = t658 := Option.some.inj (A21.out.symm.trans A270)
                    replace H : ((tribunallaw03_plus.f t654 t652).bind fun t659 => ((tribunallaw03_plus.f t650 t652).bind fun t660 => ((tribunallaw03_plus.f t648 t660).bind fun t661 => (if t659.toList = t661.toList then ((tribunallaw03_times.f t648 t650).bind fun t662 => ((tribunallaw03_times.f t662 t652).bind fun t663 => ((tribunallaw03_times.f t650 t652).bind fun t664 => ((tribunallaw03_times.f t648 t664).bind fun t665 => (if t663.toList = t665.toList then ((tribunallaw03_plus.f t650 t652).bind fun t666 => ((tribunallaw03_times.f t648 t666).bind fun t667 => ((tribunallaw03_times.f t648 t650).bind fun t668 => ((tribunallaw03_times.f t648 t652).bind fun t669 => ((tribunallaw03_plus.f t668 t669).bind fun t670 => (tribunallaw03_RatField.j2 kj12 t646 t648 t650 (t667.toList != t670.toList))))))) else (tribunallaw03_RatField.j2 kj12 t646 t648 t650 true)))))) else (tribunallaw03_RatField.j2 kj12 t646 t648 t650 true))))) = some r := H
                    have A27 := Aside0.mk A270
                    clear A270
                    replace H := Option.bind_eq_some_iff.mp H
                    obtain ⟨t659, A280, H⟩ := H
                    replace H : ((tribunallaw03_plus.f t650 t652).bind fun t660 => ((tribunallaw03_plus.f t648 t660).bind fun t661 => (if t659.toList = t661.toList then ((tribunallaw03_times.f t648 t650).bind fun t662 => ((tribunallaw03_times.f t662 t652).bind fun t663 => ((tribunallaw03_times.f t650 t652).bind fun t664 => ((tribunallaw03_times.f t648 t664).bind fun t665 => (if t663.toList = t665.toList then ((tribunallaw03_plus.f t650 t652).bind fun t666 => ((tribunallaw03_times.f t648 t666).bind fun t667 => ((tribunallaw03_times.f t648 t650).bind fun t668 => ((tribunallaw03_times.f t648 t652).bind fun t669 => ((tribunallaw03_plus.f t668 t669).bind fun t670 => (tribunallaw03_RatField.j2 kj12 t646 t648 t650 (t667.toList != t670.toList))))))) else (tribunallaw03_RatField.j2 kj12 t646 t648 t650 true)))))) else (tribunallaw03_RatField.j2 kj12 t646 t648 t650 true)))) = some r := H
                    have A28 := Aside0.mk A280
                    clear A280
                    replace H := Option.bind_eq_some_iff.mp H
                    obtain ⟨t660, A290, H⟩ := H
                    replace H : ((tribunallaw03_plus.f t648 t660).bind fun t661 => (if t659.toList = t661.toList then ((tribunallaw03_times.f t648 t650).bind fun t662 => ((tribunallaw03_times.f t662 t652).bind fun t663 => ((tribunallaw03_times.f t650 t652).bind fun t664 => ((tribunallaw03_times.f t648 t664).bind fun t665 => (if t663.toList = t665.toList then ((tribunallaw03_plus.f t650 t652).bind fun t666 => ((tribunallaw03_times.f t648 t666).bind fun t667 => ((tribunallaw03_times.f t648 t650).bind fun t668 => ((tribunallaw03_times.f t648 t652).bind fun t669 => ((tribunallaw03_plus.f t668 t669).bind fun t670 => (tribunallaw03_RatField.j2 kj12 t646 t648 t650 (t667.toList != t670.toList))))))) else (tribunallaw03_RatField.j2 kj12 t646 t648 t650 true)))))) else (tribunallaw03_RatField.j2 kj12 t646 t648 t650 true))) = some r := H
                    have A29 := Aside0.mk A290
                    clear A290
                    replace H := Option.bind_eq_some_iff.mp H
                    obtain ⟨t661, A300, H⟩ := H
                    replace H : (if t659.toList = t661.toList then ((tribunallaw03_times.f t648 t650).bind fun t662 => ((tribunallaw03_times.f t662 t652).bind fun t663 => ((tribunallaw03_times.f t650 t652).bind fun t664 => ((tribunallaw03_times.f t648 t664).bind fun t665 => (if t663.toList = t665.toList then ((tribunallaw03_plus.f t650 t652).bind fun t666 => ((tribunallaw03_times.f t648 t666).bind fun t667 => ((tribunallaw03_times.f t648 t650).bind fun t668 => ((tribunallaw03_times.f t648 t652).bind fun t669 => ((tribunallaw03_plus.f t668 t669).bind fun t670 => (tribunallaw03_RatField.j2 kj12 t646 t648 t650 (t667.toList != t670.toList))))))) else (tribunallaw03_RatField.j2 kj12 t646 t648 t650 true)))))) else (tribunallaw03_RatField.j2 kj12 t646 t648 t650 true)) = some r := H
                    have A30 := Aside0.mk A300
                    clear A300
                    by_cases c31 : t659.toList = t661.toList
                    · rw [if_pos c31] at H
                      have c31b0 : (t659.toList == t661.toList) = true := beq_iff_eq.mpr c31
                      have c31b1 : (t659.toList != t661.toList) = false := bne_eq_false_iff_eq.mpr c31
                      clear c31
                      replace H := Option.bind_eq_some_iff.mp H
                      obtain ⟨t662, A320, H⟩ := H
                      obtain rfl : t656 = t662 := Option.some.inj (A24.out.symm.trans A320)
                      replace H : ((tribunallaw03_times.f t656 t652).bind fun t663 => ((tribunallaw03_times.f t650 t652).bind fun t664 => ((tribunallaw03_times.f t648 t664).bind fun t665 => (if t663.toList = t665.toList then ((tribunallaw03_plus.f t650 t652).bind fun t666 => ((tribunallaw03_times.f t648 t666).bind fun t667 => ((tribunallaw03_times.f t648 t650).bind fun t668 => ((tribunallaw03_times.f t648 t652).bind fun t669 => ((tribunallaw03_plus.f t668 t669).bind fun t670 => (tribunallaw03_RatField.j2 kj12 t646 t648 t650 (t667.toList != t670.toList))))))) else (tribunallaw03_RatField.j2 kj12 t646 t648 t650 true))))) = some r := H
                      have A32 := Aside0.mk A320
                      clear A320
                      replace H := Option.bind_eq_some_iff.mp H
                      obtain ⟨t663, A330, H⟩ := H
                      replace H : ((tribunallaw03_times.f t650 t652).bind fun t664 => ((tribunallaw03_times.f t648 t664).bind fun t665 => (if t663.toList = t665.toList then ((tribunallaw03_plus.f t650 t652).bind fun t666 => ((tribunallaw03_times.f t648 t666).bind fun t667 => ((tribunallaw03_times.f t648 t650).bind fun t668 => ((tribunallaw03_times.f t648 t652).bind fun t669 => ((tribunallaw03_plus.f t668 t669).bind fun t670 => (tribunallaw03_RatField.j2 kj12 t646 t648 t650 (t667.toList != t670.toList))))))) else (tribunallaw03_RatField.j2 kj12 t646 t648 t650 true)))) = some r := H
                      have A33 := Aside0.mk A330
                      clear A330
                      replace H := Option.bind_eq_some_iff.mp H
                      obtain ⟨t664, A340, H⟩ := H
                      replace H : ((tribunallaw03_times.f t648 t664).bind fun t665 => (if t663.toList = t665.toList then ((tribunallaw03_plus.f t650 t652).bind fun t666 => ((tribunallaw03_times.f t648 t666).bind fun t667 => ((tribunallaw03_times.f t648 t650).bind fun t668 => ((tribunallaw03_times.f t648 t652).bind fun t669 => ((tribunallaw03_plus.f t668 t669).bind fun t670 => (tribunallaw03_RatField.j2 kj12 t646 t648 t650 (t667.toList != t670.toList))))))) else (tribunallaw03_RatField.j2 kj12 t646 t648 t650 true))) = some r := H
                      have A34 := Aside0.mk A340
                      clear A340
                      replace H := Option.bind_eq_some_iff.mp H
                      obtain ⟨t665, A350, H⟩ := H
                      replace H : (if t663.toList = t665.toList then ((tribunallaw03_plus.f t650 t652).bind fun t666 => ((tribunallaw03_times.f t648 t666).bind fun t667 => ((tribunallaw03_times.f t648 t650).bind fun t668 => ((tribunallaw03_times.f t648 t652).bind fun t669 => ((tribunallaw03_plus.f t668 t669).bind fun t670 => (tribunallaw03_RatField.j2 kj12 t646 t648 t650 (t667.toList != t670.toList))))))) else (tribunallaw03_RatField.j2 kj12 t646 t648 t650 true)) = some r := H
                      have A35 := Aside0.mk A350
                      clear A350
                      by_cases c36 : t663.toList = t665.toList
                      · rw [if_pos c36] at H
                        have c36b0 : (t663.toList == t665.toList) = true := beq_iff_eq.mpr c36
                        have c36b1 : (t663.toList != t665.toList) = false := bne_eq_false_iff_eq.mpr c36
                        clear c36
                        replace H := Option.bind_eq_some_iff.mp H
                        obtain ⟨t666, A370, H⟩ := H
                        obtain rfl : t660 = t666 := Option.some.inj (A29.out.symm.trans A370)
                        replace H : ((tribunallaw03_times.f t648 t660).bind fun t667 => ((tribunallaw03_times.f t648 t650).bind fun t668 => ((tribunallaw03_times.f t648 t652).bind fun t669 => ((tribunallaw03_plus.f t668 t669).bind fun t670 => (tribunallaw03_RatField.j2 kj12 t646 t648 t650 (t667.toList != t670.toList)))))) = some r := H
                        have A37 := Aside0.mk A370
                        clear A370
                        replace H := Option.bind_eq_some_iff.mp H
                        obtain ⟨t667, A380, H⟩ := H
                        replace H : ((tribunallaw03_times.f t648 t650).bind fun t668 => ((tribunallaw03_times.f t648 t652).bind fun t669 => ((tribunallaw03_plus.f t668 t669).bind fun t670 => (tribunallaw03_RatField.j2 kj12 t646 t648 t650 (t667.toList != t670.toList))))) = some r := H
                        have A38 := Aside0.mk A380
                        clear A380
                        replace H := Option.bind_eq_some_iff.mp H
                        obtain ⟨t668, A390, H⟩ := H
                        obtain rfl : t656 = t668 := Option.some.inj (A24.out.symm.trans A390)
                        replace H : ((tribunallaw03_times.f t648 t652).bind fun t669 => ((tribunallaw03_plus.f t656 t669).bind fun t670 => (tribunallaw03_RatField.j2 kj12 t646 t648 t650 (t667.toList != t670.toList)))) = some r := H
                        have A39 := Aside0.mk A390
                        clear A390
                        replace H := Option.bind_eq_some_iff.mp H
                        obtain ⟨t669, A400, H⟩ := H
                        replace H : ((tribunallaw03_plus.f t656 t669).bind fun t670 => (tribunallaw03_RatField.j2 kj12 t646 t648 t650 (t667.toList != t670.toList))) = some r := H
                        have A40 := Aside0.mk A400
                        clear A400
                        replace H := Option.bind_eq_some_iff.mp H
                        obtain ⟨t670, A410, H⟩ := H
                        replace H : (tribunallaw03_RatField.j2 kj12 t646 t648 t650 (t667.toList != t670.toList)) = some r := H
                        have A41 := Aside0.mk A410
                        clear A410
                        have H' := Aside0.mk H
                        clear H
                        go_wp2_with (first | ((with_reducible refine gate_callee (f := 28) rfl ?_); refine goesL_ (some 58) rfl rfl Tryd.func28 (by kernel_rfl) rfl #[.string t648, .string t650] rfl (by (try simp only [List.map_toArray, List.map_cons, List.map_nil]); first | done | rfl | (simp only [List.length_drop, List.length_take]; rfl)) ?_; (with_reducible refine (tribunallaw03_plus.calls t648 t650 t654 _ A21.out).mono ?_); rintro e w42 ⟨rfl, hb⟩; refine ⟨_, rfl, ?_⟩; have n0_ := Aside0.mk (below_step (by repeat (first | (with_reducible first | exact HB.out | apply below_alloc | apply pw_below_drewN | apply below_drew1) | exact HB.out)) hb); clear HB; have HB := n0_; clear n0_; (try clear hb); (try clear hb2); (try clear hk); (try clear hi)) | ((with_reducible refine gate_callee (f := 28) rfl ?_); refine goesL_ (some 61) rfl rfl Tryd.func28 (by kernel_rfl) rfl #[.string t650, .string t648] rfl (by (try simp only [List.map_toArray, List.map_cons, List.map_nil]); first | done | rfl | (simp only [List.length_drop, List.length_take]; rfl)) ?_; (with_reducible refine (tribunallaw03_plus.calls t650 t648 t655 _ A22.out).mono ?_); rintro e w43 ⟨rfl, hb⟩; refine ⟨_, rfl, ?_⟩; have n0_ := Aside0.mk (below_step (by repeat (first | (with_reducible first | exact HB.out | apply below_alloc | apply pw_below_drewN | apply below_drew1) | exact HB.out)) hb); clear HB; have HB := n0_; clear n0_; (try clear hb); (try clear hb2); (try clear hk); (try clear hi)) | (go_at_call 29; (with_reducible refine (tribunallaw03_times.calls t648 t650 t656 _ A24.out).mono ?_); rintro e w44 ⟨rfl, hb⟩; have n0_ := Aside0.mk (below_step (by repeat (first | (with_reducible first | exact HB.out | apply below_alloc | apply pw_below_drewN | apply below_drew1) | exact HB.out)) hb); clear HB; have HB := n0_; clear n0_; (try clear hb); (try clear hb2); (try clear hk); (try clear hi)) | (go_at_call 29; (with_reducible refine (tribunallaw03_times.calls t650 t648 t657 _ A25.out).mono ?_); rintro e w45 ⟨rfl, hb⟩; have n0_ := Aside0.mk (below_step (by repeat (first | (with_reducible first | exact HB.out | apply below_alloc | apply pw_below_drewN | apply below_drew1) | exact HB.out)) hb); clear HB; have HB := n0_; clear n0_; (try clear hb); (try clear hb2); (try clear hk); (try clear hi)) | (go_at_call 28; (with_reducible refine (tribunallaw03_plus.calls t648 t650 t654 _ A27.out).mono ?_); rintro e w46 ⟨rfl, hb⟩; have n0_ := Aside0.mk (below_step (by repeat (first | (with_reducible first | exact HB.out | apply below_alloc | apply pw_below_drewN | apply below_drew1) | exact HB.out)) hb); clear HB; have HB := n0_; clear n0_; (try clear hb); (try clear hb2); (try clear hk); (try clear hi)) | (go_at_call 28; (with_reducible refine (tribunallaw03_plus.calls t654 t652 t659 _ A28.out).mono ?_); rintro e w47 ⟨rfl, hb⟩; have n0_ := Aside0.mk (below_step (by repeat (first | (with_reducible first | exact HB.out | apply below_alloc | apply pw_below_drewN | apply below_drew1) | exact HB.out)) hb); clear HB; have HB := n0_; clear n0_; (try clear hb); (try clear hb2); (try clear hk); (try clear hi)) | (go_at_call 28; (with_reducible refine (tribunallaw03_plus.calls t650 t652 t660 _ A29.out).mono ?_); rintro e w48 ⟨rfl, hb⟩; have n0_ := Aside0.mk (below_step (by repeat (first | (with_reducible first | exact HB.out | apply below_alloc | apply pw_below_drewN | apply below_drew1) | exact HB.out)) hb); clear HB; have HB := n0_; clear n0_; (try clear hb); (try clear hb2); (try clear hk); (try clear hi)) | (go_at_call 28; (with_reducible refine (tribunallaw03_plus.calls t648 t660 t661 _ A30.out).mono ?_); rintro e w49 ⟨rfl, hb⟩; have n0_ := Aside0.mk (below_step (by repeat (first | (with_reducible first | exact HB.out | apply below_alloc | apply pw_below_drewN | apply below_drew1) | exact HB.out)) hb); clear HB; have HB := n0_; clear n0_; (try clear hb); (try clear hb2); (try clear hk); (try clear hi)) | (go_at_call 29; (with_reducible refine (tribunallaw03_times.calls t648 t650 t656 _ A32.out).mono ?_); rintro e w50 ⟨rfl, hb⟩; have n0_ := Aside0.mk (below_step (by repeat (first | (with_reducible first | exact HB.out | apply below_alloc | apply pw_below_drewN | apply below_drew1) | exact HB.out)) hb); clear HB; have HB := n0_; clear n0_; (try clear hb); (try clear hb2); (try clear hk); (try clear hi)) | (go_at_call 29; (with_reducible refine (tribunallaw03_times.calls t656 t652 t663 _ A33.out).mono ?_); rintro e w51 ⟨rfl, hb⟩; have n0_ := Aside0.mk (below_step (by repeat (first | (with_reducible first | exact HB.out | apply below_alloc | apply pw_below_drewN | apply below_drew1) | exact HB.out)) hb); clear HB; have HB := n0_; clear n0_; (try clear hb); (try clear hb2); (try clear hk); (try clear hi)) | (go_at_call 29; (with_reducible refine (tribunallaw03_times.calls t650 t652 t664 _ A34.out).mono ?_); rintro e w52 ⟨rfl, hb⟩; have n0_ := Aside0.mk (below_step (by repeat (first | (with_reducible first | exact HB.out | apply below_alloc | apply pw_below_drewN | apply below_drew1) | exact HB.out)) hb); clear HB; have HB := n0_; clear n0_; (try clear hb); (try clear hb2); (try clear hk); (try clear hi)) | (go_at_call 29; (with_reducible refine (tribunallaw03_times.calls t648 t664 t665 _ A35.out).mono ?_); rintro e w53 ⟨rfl, hb⟩; have n0_ := Aside0.mk (below_step (by repeat (first | (with_reducible first | exact HB.out | apply below_alloc | apply pw_below_drewN | apply below_drew1) | exact HB.out)) hb); clear HB; have HB := n0_; clear n0_; (try clear hb); (try clear hb2); (try clear hk); (try clear hi)) | (go_at_call 28; (with_reducible refine (tribunallaw03_plus.calls t650 t652 t660 _ A37.out).mono ?_); rintro e w54 ⟨rfl, hb⟩; have n0_ := Aside0.mk (below_step (by repeat (first | (with_reducible first | exact HB.out | apply below_alloc | apply pw_below_drewN | apply below_drew1) | exact HB.out)) hb); clear HB; have HB := n0_; clear n0_; (try clear hb); (try clear hb2); (try clear hk); (try clear hi)) | (go_at_call 29; (with_reducible refine (tribunallaw03_times.calls t648 t660 t667 _ A38.out).mono ?_); rintro e w55 ⟨rfl, hb⟩; have n0_ := Aside0.mk (below_step (by repeat (first | (with_reducible first | exact HB.out | apply below_alloc | apply pw_below_drewN | apply below_drew1) | exact HB.out)) hb); clear HB; have HB := n0_; clear n0_; (try clear hb); (try clear hb2); (try clear hk); (try clear hi)) | (go_at_call 29; (with_reducible refine (tribunallaw03_times.calls t648 t650 t656 _ A39.out).mono ?_); rintro e w56 ⟨rfl, hb⟩; have n0_ := Aside0.mk (below_step (by repeat (first | (with_reducible first | exact HB.out | apply below_alloc | apply pw_below_drewN | apply below_drew1) | exact HB.out)) hb); clear HB; have HB := n0_; clear n0_; (try clear hb); (try clear hb2); (try clear hk); (try clear hi)) | (go_at_call 29; (with_reducible refine (tribunallaw03_times.calls t648 t652 t669 _ A40.out).mono ?_); rintro e w57 ⟨rfl, hb⟩; have n0_ := Aside0.mk (below_step (by repeat (first | (with_reducible first | exact HB.out | apply below_alloc | apply pw_below_drewN | apply below_drew1) | exact HB.out)) hb); clear HB; have HB := n0_; clear n0_; (try clear hb); (try clear hb2); (try clear hk); (try clear hi)) | (go_at_call 28; (with_reducible refine (tribunallaw03_plus.calls t656 t669 t670 _ A41.out).mono ?_); rintro e w58 ⟨rfl, hb⟩; have n0_ := Aside0.mk (below_step (by repeat (first | (with_reducible first | exact HB.out | apply below_alloc | apply pw_below_drewN | apply below_drew1) | exact HB.out)) hb); clear HB; have HB := n0_; clear n0_; (try clear hb); (try clear hb2); (try clear hk); (try clear hi)))
                        go_meet
                        case rel => exact ⟨_, ((t667.toList != t670.toList)), (by first | rfl | (simp; done) | (simp [*]; done)), H', ⟨by have := HJ4.out; have := HJ12.out; first | omega | exact Nat.le_refl _⟩, ⟨by repeat (first | (with_reducible first | exact HB.out | apply below_alloc | apply pw_below_drewN | apply below_drew1) | exact HB.out)⟩⟩
                      · rw [if_neg c36] at H
                        have c36b0 : (t663.toList == t665.toList) = false := beq_eq_false_iff_ne.mpr c36
                        have c36b1 : (t663.toList != t665.toList) = true := bne_iff_ne.mpr c36
                        have H' := Aside0.mk H
                        clear H
                        go_wp2_with (first | ((with_reducible refine gate_callee (f := 28) rfl ?_); refine goesL_ (some 58) rfl rfl Tryd.func28 (by kernel_rfl) rfl #[.string t648, .string t650] rfl (by (try simp only [List.map_toArray, List.map_cons, List.map_nil]); first | done | rfl | (simp only [List.length_drop, List.length_take]; rfl)) ?_; (with_reducible refine (tribunallaw03_plus.calls t648 t650 t654 _ A21.out).mono ?_); rintro e w59 ⟨rfl, hb⟩; refine ⟨_, rfl, ?_⟩; have n0_ := Aside0.mk (below_step (by repeat (first | (with_reducible first | exact HB.out | apply below_alloc | apply pw_below_drewN | apply below_drew1) | exact HB.out)) hb); clear HB; have HB := n0_; clear n0_; (try clear hb); (try clear hb2); (try clear hk); (try clear hi)) | ((with_reducible refine gate_callee (f := 28) rfl ?_); refine goesL_ (some 61) rfl rfl Tryd.func28 (by kernel_rfl) rfl #[.string t650, .string t648] rfl (by (try simp only [List.map_toArray, List.map_cons, List.map_nil]); first | done | rfl | (simp only [List.length_drop, List.length_take]; rfl)) ?_; (with_reducible refine (tribunallaw03_plus.calls t650 t648 t655 _ A22.out).mono ?_); rintro e w60 ⟨rfl, hb⟩; refine ⟨_, rfl, ?_⟩; have n0_ := Aside0.mk (below_step (by repeat (first | (with_reducible first | exact HB.out | apply below_alloc | apply pw_below_drewN | apply below_drew1) | exact HB.out)) hb); clear HB; have HB := n0_; clear n0_; (try clear hb); (try clear hb2); (try clear hk); (try clear hi)) | (go_at_call 29; (with_reducible refine (tribunallaw03_times.calls t648 t650 t656 _ A24.out).mono ?_); rintro e w61 ⟨rfl, hb⟩; have n0_ := Aside0.mk (below_step (by repeat (first | (with_reducible first | exact HB.out | apply below_alloc | apply pw_below_drewN | apply below_drew1) | exact HB.out)) hb); clear HB; have HB := n0_; clear n0_; (try clear hb); (try clear hb2); (try clear hk); (try clear hi)) | (go_at_call 29; (with_reducible refine (tribunallaw03_times.calls t650 t648 t657 _ A25.out).mono ?_); rintro e w62 ⟨rfl, hb⟩; have n0_ := Aside0.mk (below_step (by repeat (first | (with_reducible first | exact HB.out | apply below_alloc | apply pw_below_drewN | apply below_drew1) | exact HB.out)) hb); clear HB; have HB := n0_; clear n0_; (try clear hb); (try clear hb2); (try clear hk); (try clear hi)) | (go_at_call 28; (with_reducible refine (tribunallaw03_plus.calls t648 t650 t654 _ A27.out).mono ?_); rintro e w63 ⟨rfl, hb⟩; have n0_ := Aside0.mk (below_step (by repeat (first | (with_reducible first | exact HB.out | apply below_alloc | apply pw_below_drewN | apply below_drew1) | exact HB.out)) hb); clear HB; have HB := n0_; clear n0_; (try clear hb); (try clear hb2); (try clear hk); (try clear hi)) | (go_at_call 28; (with_reducible refine (tribunallaw03_plus.calls t654 t652 t659 _ A28.out).mono ?_); rintro e w64 ⟨rfl, hb⟩; have n0_ := Aside0.mk (below_step (by repeat (first | (with_reducible first | exact HB.out | apply below_alloc | apply pw_below_drewN | apply below_drew1) | exact HB.out)) hb); clear HB; have HB := n0_; clear n0_; (try clear hb); (try clear hb2); (try clear hk); (try clear hi)) | (go_at_call 28; (with_reducible refine (tribunallaw03_plus.calls t650 t652 t660 _ A29.out).mono ?_); rintro e w65 ⟨rfl, hb⟩; have n0_ := Aside0.mk (below_step (by repeat (first | (with_reducible first | exact HB.out | apply below_alloc | apply pw_below_drewN | apply below_drew1) | exact HB.out)) hb); clear HB; have HB := n0_; clear n0_; (try clear hb); (try clear hb2); (try clear hk); (try clear hi)) | (go_at_call 28; (with_reducible refine (tribunallaw03_plus.calls t648 t660 t661 _ A30.out).mono ?_); rintro e w66 ⟨rfl, hb⟩; have n0_ := Aside0.mk (below_step (by repeat (first | (with_reducible first | exact HB.out | apply below_alloc | apply pw_below_drewN | apply below_drew1) | exact HB.out)) hb); clear HB; have HB := n0_; clear n0_; (try clear hb); (try clear hb2); (try clear hk); (try clear hi)) | (go_at_call 29; (with_reducible refine (tribunallaw03_times.calls t648 t650 t656 _ A32.out).mono ?_); rintro e w67 ⟨rfl, hb⟩; have n0_ := Aside0.mk (below_step (by repeat (first | (with_reducible first | exact HB.out | apply below_alloc | apply pw_below_drewN | apply below_drew1) | exact HB.out)) hb); clear HB; have HB := n0_; clear n0_; (try clear hb); (try clear hb2); (try clear hk); (try clear hi)) | (go_at_call 29; (with_reducible refine (tribunallaw03_times.calls t656 t652 t663 _ A33.out).mono ?_); rintro e w68 ⟨rfl, hb⟩; have n0_ := Aside0.mk (below_step (by repeat (first | (with_reducible first | exact HB.out | apply below_alloc | apply pw_below_drewN | apply below_drew1) | exact HB.out)) hb); clear HB; have HB := n0_; clear n0_; (try clear hb); (try clear hb2); (try clear hk); (try clear hi)) | (go_at_call 29; (with_reducible refine (tribunallaw03_times.calls t650 t652 t664 _ A34.out).mono ?_); rintro e w69 ⟨rfl, hb⟩; have n0_ := Aside0.mk (below_step (by repeat (first | (with_reducible first | exact HB.out | apply below_alloc | apply pw_below_drewN | apply below_drew1) | exact HB.out)) hb); clear HB; have HB := n0_; clear n0_; (try clear hb); (try clear hb2); (try clear hk); (try clear hi)) | (go_at_call 29; (with_reducible refine (tribunallaw03_times.calls t648 t664 t665 _ A35.out).mono ?_); rintro e w70 ⟨rfl, hb⟩; have n0_ := Aside0.mk (below_step (by repeat (first | (with_reducible first | exact HB.out | apply below_alloc | apply pw_below_drewN | apply below_drew1) | exact HB.out)) hb); clear HB; have HB := n0_; clear n0_; (try clear hb); (try clear hb2); (try clear hk); (try clear hi)))
                        go_meet
                        case rel => exact ⟨_, (true), (by first | rfl | (simp; done) | (simp [*]; done)), H', ⟨by have := HJ4.out; have := HJ12.out; first | omega | exact Nat.le_refl _⟩, ⟨by repeat (first | (with_reducible first | exact HB.out | apply below_alloc | apply pw_below_drewN | apply below_drew1) | exact HB.out)⟩⟩
                    · rw [if_neg c31] at H
                      have c31b0 : (t659.toList == t661.toList) = false := beq_eq_false_iff_ne.mpr c31
                      have c31b1 : (t659.toList != t661.toList) = true := bne_iff_ne.mpr c31
                      have H' := Aside0.mk H
                      clear H
                      go_wp2_with (first | ((with_reducible refine gate_callee (f := 28) rfl ?_); refine goesL_ (some 58) rfl rfl Tryd.func28 (by kernel_rfl) rfl #[.string t648, .string t650] rfl (by (try simp only [List.map_toArray, List.map_cons, List.map_nil]); first | done | rfl | (simp only [List.length_drop, List.length_take]; rfl)) ?_; (with_reducible refine (tribunallaw03_plus.calls t648 t650 t654 _ A21.out).mono ?_); rintro e w71 ⟨rfl, hb⟩; refine ⟨_, rfl, ?_⟩; have n0_ := Aside0.mk (below_step (by repeat (first | (with_reducible first | exact HB.out | apply below_alloc | apply pw_below_drewN | apply below_drew1) | exact HB.out)) hb); clear HB; have HB := n0_; clear n0_; (try clear hb); (try clear hb2); (try clear hk); (try clear hi)) | ((with_reducible refine gate_callee (f := 28) rfl ?_); refine goesL_ (some 61) rfl rfl Tryd.func28 (by kernel_rfl) rfl #[.string t650, .string t648] rfl (by (try simp only [List.map_toArray, List.map_cons, List.map_nil]); first | done | rfl | (simp only [List.length_drop, List.length_take]; rfl)) ?_; (with_reducible refine (tribunallaw03_plus.calls t650 t648 t655 _ A22.out).mono ?_); rintro e w72 ⟨rfl, hb⟩; refine ⟨_, rfl, ?_⟩; have n0_ := Aside0.mk (below_step (by repeat (first | (with_reducible first | exact HB.out | apply below_alloc | apply pw_below_drewN | apply below_drew1) | exact HB.out)) hb); clear HB; have HB := n0_; clear n0_; (try clear hb); (try clear hb2); (try clear hk); (try clear hi)) | (go_at_call 29; (with_reducible refine (tribunallaw03_times.calls t648 t650 t656 _ A24.out).mono ?_); rintro e w73 ⟨rfl, hb⟩; have n0_ := Aside0.mk (below_step (by repeat (first | (with_reducible first | exact HB.out | apply below_alloc | apply pw_below_drewN | apply below_drew1) | exact HB.out)) hb); clear HB; have HB := n0_; clear n0_; (try clear hb); (try clear hb2); (try clear hk); (try clear hi)) | (go_at_call 29; (with_reducible refine (tribunallaw03_times.calls t650 t648 t657 _ A25.out).mono ?_); rintro e w74 ⟨rfl, hb⟩; have n0_ := Aside0.mk (below_step (by repeat (first | (with_reducible first | exact HB.out | apply below_alloc | apply pw_below_drewN | apply below_drew1) | exact HB.out)) hb); clear HB; have HB := n0_; clear n0_; (try clear hb); (try clear hb2); (try clear hk); (try clear hi)) | (go_at_call 28; (with_reducible refine (tribunallaw03_plus.calls t648 t650 t654 _ A27.out).mono ?_); rintro e w75 ⟨rfl, hb⟩; have n0_ := Aside0.mk (below_step (by repeat (first | (with_reducible first | exact HB.out | apply below_alloc | apply pw_below_drewN | apply below_drew1) | exact HB.out)) hb); clear HB; have HB := n0_; clear n0_; (try clear hb); (try clear hb2); (try clear hk); (try clear hi)) | (go_at_call 28; (with_reducible refine (tribunallaw03_plus.calls t654 t652 t659 _ A28.out).mono ?_); rintro e w76 ⟨rfl, hb⟩; have n0_ := Aside0.mk (below_step (by repeat (first | (with_reducible first | exact HB.out | apply below_alloc | apply pw_below_drewN | apply below_drew1) | exact HB.out)) hb); clear HB; have HB := n0_; clear n0_; (try clear hb); (try clear hb2); (try clear hk); (try clear hi)) | (go_at_call 28; (with_reducible refine (tribunallaw03_plus.calls t650 t652 t660 _ A29.out).mono ?_); rintro e w77 ⟨rfl, hb⟩; have n0_ := Aside0.mk (below_step (by repeat (first | (with_reducible first | exact HB.out | apply below_alloc | apply pw_below_drewN | apply below_drew1) | exact HB.out)) hb); clear HB; have HB := n0_; clear n0_; (try clear hb); (try clear hb2); (try clear hk); (try clear hi)) | (go_at_call 28; (with_reducible refine (tribunallaw03_plus.calls t648 t660 t661 _ A30.out).mono ?_); rintro e w78 ⟨rfl, hb⟩; have n0_ := Aside0.mk (below_step (by repeat (first | (with_reducible first | exact HB.out | apply below_alloc | apply pw_below_drewN | apply below_drew1) | exact HB.out)) hb); clear HB; have HB := n0_; clear n0_; (try clear hb); (try clear hb2); (try clear hk); (try clear hi)))
                      go_meet
                      case rel => exact ⟨_, (true), (by first | rfl | (simp; done) | (simp [*]; done)), H', ⟨by have := HJ4.out; have := HJ12.out; first | omega | exact Nat.le_refl _⟩, ⟨by repeat (first | (with_reducible first | exact HB.out | apply below_alloc | apply pw_below_drewN | apply below_drew1) | exact HB.out)⟩⟩
                  · rw [if_neg c26] at H
                    have c26b0 : (t656.toList == t657.toList) = false := beq_eq_false_iff_ne.mpr c26
                    have c26b1 : (t656.toList != t657.toList) = true := bne_iff_ne.mpr c26
                    have H' := Aside0.mk H
                    clear H
                    go_wp2_with (first | ((with_reducible refine gate_callee (f := 28) rfl ?_); refine goesL_ (some 58) rfl rfl Tryd.func28 (by kernel_rfl) rfl #[.string t648, .string t650] rfl (by (try simp only [List.map_toArray, List.map_cons, List.map_nil]); first | done | rfl | (simp only [List.length_drop, List.length_take]; rfl)) ?_; (with_reducible refine (tribunallaw03_plus.calls t648 t650 t654 _ A21.out).mono ?_); rintro e w79 ⟨rfl, hb⟩; refine ⟨_, rfl, ?_⟩; have n0_ := Aside0.mk (below_step (by repeat (first | (with_reducible first | exact HB.out | apply below_alloc | apply pw_below_drewN | apply below_drew1) | exact HB.out)) hb); clear HB; have HB := n0_; clear n0_; (try clear hb); (try clear hb2); (try clear hk); (try clear hi)) | ((with_reducible refine gate_callee (f := 28) rfl ?_); refine goesL_ (some 61) rfl rfl Tryd.func28 (by kernel_rfl) rfl #[.string t650, .string t648] rfl (by (try simp only [List.map_toArray, List.map_cons, List.map_nil]); first | done | rfl | (simp only [List.length_drop, List.length_take]; rfl)) ?_; (with_reducible refine (tribunallaw03_plus.calls t650 t648 t655 _ A22.out).mono ?_); rintro e w80 ⟨rfl, hb⟩; refine ⟨_, rfl, ?_⟩; have n0_ := Aside0.mk (below_step (by repeat (first | (with_reducible first | exact HB.out | apply below_alloc | apply pw_below_drewN | apply below_drew1) | exact HB.out)) hb); clear HB; have HB := n0_; clear n0_; (try clear hb); (try clear hb2); (try clear hk); (try clear hi)) | (go_at_call 29; (with_reducible refine (tribunallaw03_times.calls t648 t650 t656 _ A24.out).mono ?_); rintro e w81 ⟨rfl, hb⟩; have n0_ := Aside0.mk (below_step (by repeat (first | (with_reducible first | exact HB.out | apply below_alloc | apply pw_below_drewN | apply below_drew1) | exact HB.out)) hb); clear HB; have HB := n0_; clear n0_; (try clear hb); (try clear hb2); (try clear hk); (try clear hi)) | (go_at_call 29; (with_reducible refine (tribunallaw03_times.calls t650 t648 t657 _ A25.out).mono ?_); rintro e w82 ⟨rfl, hb⟩; have n0_ := Aside0.mk (below_step (by repeat (first | (with_reducible first | exact HB.out | apply below_alloc | apply pw_below_drewN | apply below_drew1) | exact HB.out)) hb); clear HB; have HB := n0_; clear n0_; (try clear hb); (try clear hb2); (try clear hk); (try clear hi)))
                    go_meet
                    case rel => exact ⟨_, (true), (by first | rfl | (simp; done) | (simp [*]; done)), H', ⟨by have := HJ4.out; have := HJ12.out; first | omega | exact Nat.le_refl _⟩, ⟨by repeat (first | (with_reducible first | exact HB.out | apply below_alloc | apply pw_below_drewN | apply below_drew1) | exact HB.out)⟩⟩
                · rw [if_neg c23] at H
                  have c23b0 : (t654.toList == t655.toList) = false := beq_eq_false_iff_ne.mpr c23
                  have c23b1 : (t654.toList != t655.toList) = true := bne_iff_ne.mpr c23
                  (first | rw [c23b0] | (simp only [i64_w, i32_w]; rw [c23b0]) | skip)
                  have H' := Aside0.mk H
                  clear H
                  go_wp2_with (first | ((with_reducible refine gate_callee (f := 28) rfl ?_); refine goesL_ (some 58) rfl rfl Tryd.func28 (by kernel_rfl) rfl #[.string t648, .string t650] rfl (by (try simp only [List.map_toArray, List.map_cons, List.map_nil]); first | done | rfl | (simp only [List.length_drop, List.length_take]; rfl)) ?_; (with_reducible refine (tribunallaw03_plus.calls t648 t650 t654 _ A21.out).mono ?_); rintro e w83 ⟨rfl, hb⟩; refine ⟨_, rfl, ?_⟩; have n0_ := Aside0.mk (below_step (by repeat (first | (with_reducible first | exact HB.out | apply below_alloc | apply pw_below_drewN | apply below_drew1) | exact HB.out)) hb); clear HB; have HB := n0_; clear n0_; (try clear hb); (try clear hb2); (try clear hk); (try clear hi)) | ((with_reducible refine gate_callee (f := 28) rfl ?_); refine goesL_ (some 61) rfl rfl Tryd.func28 (by kernel_rfl) rfl #[.string t650, .string t648] rfl (by (try simp only [List.map_toArray, List.map_cons, List.map_nil]); first | done | rfl | (simp only [List.length_drop, List.length_take]; rfl)) ?_; (with_reducible refine (tribunallaw03_plus.calls t650 t648 t655 _ A22.out).mono ?_); rintro e w84 ⟨rfl, hb⟩; refine ⟨_, rfl, ?_⟩; have n0_ := Aside0.mk (below_step (by repeat (first | (with_reducible first | exact HB.out | apply below_alloc | apply pw_below_drewN | apply below_drew1) | exact HB.out)) hb); clear HB; have HB := n0_; clear n0_; (try clear hb); (try clear hb2); (try clear hk); (try clear hi)))
                  go_meet
                  case rel => exact ⟨_, (true), (by first | rfl | (simp; done) | (simp [*]; done)), H', ⟨by have := HJ4.out; have := HJ12.out; first | omega | exact Nat.le_refl _⟩, ⟨by repeat (first | (with_reducible first | exact HB.out | apply below_alloc | apply pw_below_drewN | apply below_drew1) | exact HB.out)⟩⟩
              case rest =>
                clear HC20
                try clear c1
                try clear c2
                try clear p2
                try clear c3
                try clear c4
                try clear c8
                try clear c9
                try clear c10
                try clear c11
                try clear c12
                try clear c17
                try clear c17b0
                try clear c17b1
                try clear c18
                try clear c18b0
                try clear c18b1
                try clear c19
                try clear c23
                try clear c23b0
                try clear c23b1
                try clear c26
                try clear c26b0
                try clear c26b1
                try clear c28
                try clear c31
                try clear c31b0
                try clear c31b1
                try clear c36
                try clear c36b0
                try clear c36b1
                try clear p2
                obtain ⟨kq, x112_19, rfl, HA, HJ19, HB⟩ := hcut
                cases kq with
                | zero => exact absurd HA.out (by simp [tribunallaw03_RatField.j2])
                | succ kj19 =>
                  have H := HA.out
                  clear HA
                  simp only [tribunallaw03_RatField.j2] at H
                  by_cases c85 : x112_19 = true
                  · subst c85
                    have H1 : (none) = some r := by rw [if_pos rfl] at H; exact H
                    clear H
                    have H := H1
                    clear H1
                    exact absurd H (by simp)
                  · replace c85 := Bool.eq_false_iff.mpr c85
                    subst c85
                    have H1 : ((tribunallaw03_plus.f t648 t650).bind fun t671 => ((rat_Sub.f t671 t650).bind fun bt672 => ((tribunallaw03_times.f t648 t650).bind fun t674 => ((rat_Div.f t674 t650).bind fun bt675 => ((rat_Neg.f t648).bind fun bt677 => (if t646 = true then (if bt672.1.toList = t648.toList then (if bt672.2 = 0 then (if t650.toList = ([48] : List UInt8) then (if bt675.2 = 21 then (if bt677.2 = 0 then ((tribunallaw03_plus.f t648 bt677.1).bind fun t679 => (if t679.toList = ([48] : List UInt8) then ((tribunallaw03_plus.f t648 (⟨#[48]⟩ : ByteArray)).bind fun t680 => (if t680.toList = t648.toList then ((tribunallaw03_times.f t648 (⟨#[49]⟩ : ByteArray)).bind fun t681 => (some (t681.toList == t648.toList))) else (none))) else (none))) else (none)) else (none)) else (if bt675.1.toList = t648.toList then (if bt675.2 = 0 then (if bt677.2 = 0 then ((tribunallaw03_plus.f t648 bt677.1).bind fun t682 => (if t682.toList = ([48] : List UInt8) then ((tribunallaw03_plus.f t648 (⟨#[48]⟩ : ByteArray)).bind fun t683 => (if t683.toList = t648.toList then ((tribunallaw03_times.f t648 (⟨#[49]⟩ : ByteArray)).bind fun t684 => (some (t684.toList == t648.toList))) else (none))) else (none))) else (none)) else (none)) else (none))) else (none)) else (none)) else (none))))))) = some r := by rw [if_neg (show ¬ (false = true) by decide)] at H; exact H
                    clear H
                    have H := H1
                    clear H1
                    replace H := Option.bind_eq_some_iff.mp H
                    obtain ⟨t671, A860, H⟩ := H
                    replace H : ((rat_Sub.f t671 t650).bind fun bt672 => ((tribunallaw03_times.f t648 t650).bind fun t674 => ((rat_Div.f t674 t650).bind fun bt675 => ((rat_Neg.f t648).bind fun bt677 => (if t646 = true then (if bt672.1.toList = t648.toList then (if bt672.2 = 0 then (if t650.toList = ([48] : List UInt8) then (if bt675.2 = 21 then (if bt677.2 = 0 then ((tribunallaw03_plus.f t648 bt677.1).bind fun t679 => (if t679.toList = ([48] : List UInt8) then ((tribunallaw03_plus.f t648 (⟨#[48]⟩ : ByteArray)).bind fun t680 => (if t680.toList = t648.toList then ((tribunallaw03_times.f t648 (⟨#[49]⟩ : ByteArray)).bind fun t681 => (some (t681.toList == t648.toList))) else (none))) else (none))) else (none)) else (none)) else (if bt675.1.toList = t648.toList then (if bt675.2 = 0 then (if bt677.2 = 0 then ((tribunallaw03_plus.f t648 bt677.1).bind fun t682 => (if t682.toList = ([48] : List UInt8) then ((tribunallaw03_plus.f t648 (⟨#[48]⟩ : ByteArray)).bind fun t683 => (if t683.toList = t648.toList then ((tribunallaw03_times.f t648 (⟨#[49]⟩ : ByteArray)).bind fun t684 => (some (t684.toList == t648.toList))) else (none))) else (none))) else (none)) else (none)) else (none))) else (none)) else (none)) else (none)))))) = some r := H
                    have A86 := Aside0.mk A860
                    clear A860
                    replace H := Option.bind_eq_some_iff.mp H
                    obtain ⟨⟨t672, t673⟩, A870, H⟩ := H
                    replace H : ((tribunallaw03_times.f t648 t650).bind fun t674 => ((rat_Div.f t674 t650).bind fun bt675 => ((rat_Neg.f t648).bind fun bt677 => (if t646 = true then (if t672.toList = t648.toList then (if t673 = 0 then (if t650.toList = ([48] : List UInt8) then (if bt675.2 = 21 then (if bt677.2 = 0 then ((tribunallaw03_plus.f t648 bt677.1).bind fun t679 => (if t679.toList = ([48] : List UInt8) then ((tribunallaw03_plus.f t648 (⟨#[48]⟩ : ByteArray)).bind fun t680 => (if t680.toList = t648.toList then ((tribunallaw03_times.f t648 (⟨#[49]⟩ : ByteArray)).bind fun t681 => (some (t681.toList == t648.toList))) else (none))) else (none))) else (none)) else (none)) else (if bt675.1.toList = t648.toList then (if bt675.2 = 0 then (if bt677.2 = 0 then ((tribunallaw03_plus.f t648 bt677.1).bind fun t682 => (if t682.toList = ([48] : List UInt8) then ((tribunallaw03_plus.f t648 (⟨#[48]⟩ : ByteArray)).bind fun t683 => (if t683.toList = t648.toList then ((tribunallaw03_times.f t648 (⟨#[49]⟩ : ByteArray)).bind fun t684 => (some (t684.toList == t648.toList))) else (none))) else (none))) else (none)) else (none)) else (none))) else (none)) else (none)) else (none))))) = some r := H
                    have A87 := Aside0.mk A870
                    clear A870
                    replace H := Option.bind_eq_some_iff.mp H
                    obtain ⟨t674, A880, H⟩ := H
                    replace H : ((rat_Div.f t674 t650).bind fun bt675 => ((rat_Neg.f t648).bind fun bt677 => (if t646 = true then (if t672.toList = t648.toList then (if t673 = 0 then (if t650.toList = ([48] : List UInt8) then (if bt675.2 = 21 then (if bt677.2 = 0 then ((tribunallaw03_plus.f t648 bt677.1).bind fun t679 => (if t679.toList = ([48] : List UInt8) then ((tribunallaw03_plus.f t648 (⟨#[48]⟩ : ByteArray)).bind fun t680 => (if t680.toList = t648.toList then ((tribunallaw03_times.f t648 (⟨#[49]⟩ : ByteArray)).bind fun t681 => (some (t681.toList == t648.toList))) else (none))) else (none))) else (none)) else (none)) else (if bt675.1.toList = t648.toList then (if bt675.2 = 0 then (if bt677.2 = 0 then ((tribunallaw03_plus.f t648 bt677.1).bind fun t682 => (if t682.toList = ([48] : List UInt8) then ((tribunallaw03_plus.f t648 (⟨#[48]⟩ : ByteArray)).bind fun t683 => (if t683.toList = t648.toList then ((tribunallaw03_times.f t648 (⟨#[49]⟩ : ByteArray)).bind fun t684 => (some (t684.toList == t648.toList))) else (none))) else (none))) else (none)) else (none)) else (none))) else (none)) else (none)) else (none)))) = some r := H
                    have A88 := Aside0.mk A880
                    clear A880
                    replace H := Option.bind_eq_some_iff.mp H
                    obtain ⟨⟨t675, t676⟩, A890, H⟩ := H
                    replace H : ((rat_Neg.f t648).bind fun bt677 => (if t646 = true then (if t672.toList = t648.toList then (if t673 = 0 then (if t650.toList = ([48] : List UInt8) then (if t676 = 21 then (if bt677.2 = 0 then ((tribunallaw03_plus.f t648 bt677.1).bind fun t679 => (if t679.toList = ([48] : List UInt8) then ((tribunallaw03_plus.f t648 (⟨#[48]⟩ : ByteArray)).bind fun t680 => (if t680.toList = t648.toList then ((tribunallaw03_times.f t648 (⟨#[49]⟩ : ByteArray)).bind fun t681 => (some (t681.toList == t648.toList))) else (none))) else (none))) else (none)) else (none)) else (if t675.toList = t648.toList then (if t676 = 0 then (if bt677.2 = 0 then ((tribunallaw03_plus.f t648 bt677.1).bind fun t682 => (if t682.toList = ([48] : List UInt8) then ((tribunallaw03_plus.f t648 (⟨#[48]⟩ : ByteArray)).bind fun t683 => (if t683.toList = t648.toList then ((tribunallaw03_times.f t648 (⟨#[49]⟩ : ByteArray)).bind fun t684 => (some (t684.toList == t648.toList))) else (none))) else (none))) else (none)) else (none)) else (none))) else (none)) else (none)) else (none))) = some r := H
                    have A89 := Aside0.mk A890
                    clear A890
                    replace H := Option.bind_eq_some_iff.mp H
                    obtain ⟨⟨t677, t678⟩, A900, H⟩ := H
                    replace H : (if t646 = true then (if t672.toList = t648.toList then (if t673 = 0 then (if t650.toList = ([48] : List UInt8) then (if t676 = 21 then (if t678 = 0 then ((tribunallaw03_plus.f t648 t677).bind fun t679 => (if t679.toList = ([48] : List UInt8) then ((tribunallaw03_plus.f t648 (⟨#[48]⟩ : ByteArray)).bind fun t680 => (if t680.toList = t648.toList then ((tribunallaw03_times.f t648 (⟨#[49]⟩ : ByteArray)).bind fun t681 => (some (t681.toList == t648.toList))) else (none))) else (none))) else (none)) else (none)) else (if t675.toList = t648.toList then (if t676 = 0 then (if t678 = 0 then ((tribunallaw03_plus.f t648 t677).bind fun t682 => (if t682.toList = ([48] : List UInt8) then ((tribunallaw03_plus.f t648 (⟨#[48]⟩ : ByteArray)).bind fun t683 => (if t683.toList = t648.toList then ((tribunallaw03_times.f t648 (⟨#[49]⟩ : ByteArray)).bind fun t684 => (some (t684.toList == t648.toList))) else (none))) else (none))) else (none)) else (none)) else (none))) else (none)) else (none)) else (none)) = some r := H
                    have A90 := Aside0.mk A900
                    clear A900
                    by_cases c91 : t646 = true
                    · subst c91
                      have H1 : (if t672.toList = t648.toList then (if t673 = 0 then (if t650.toList = ([48] : List UInt8) then (if t676 = 21 then (if t678 = 0 then ((tribunallaw03_plus.f t648 t677).bind fun t679 => (if t679.toList = ([48] : List UInt8) then ((tribunallaw03_plus.f t648 (⟨#[48]⟩ : ByteArray)).bind fun t680 => (if t680.toList = t648.toList then ((tribunallaw03_times.f t648 (⟨#[49]⟩ : ByteArray)).bind fun t681 => (some (t681.toList == t648.toList))) else (none))) else (none))) else (none)) else (none)) else (if t675.toList = t648.toList then (if t676 = 0 then (if t678 = 0 then ((tribunallaw03_plus.f t648 t677).bind fun t682 => (if t682.toList = ([48] : List UInt8) then ((tribunallaw03_plus.f t648 (⟨#[48]⟩ : ByteArray)).bind fun t683 => (if t683.toList = t648.toList then ((tribunallaw03_times.f t648 (⟨#[49]⟩ : ByteArray)).bind fun t684 => (some (t684.toList == t648.toList))) else (none))) else (none))) else (none)) else (none)) else (none))) else (none)) else (none)) = some r := by rw [if_pos rfl] at H; exact H
                      clear H
                      have H := H1
                      clear H1
                      by_cases c92 : t672.toList = t648.toList
                      · rw [if_pos c92] at H
                        have c92b0 : (t672.toList == t648.toList) = true := beq_iff_eq.mpr c92
                        have c92b1 : (t672.toList != t648.toList) = false := bne_eq_false_iff_eq.mpr c92
                        clear c92
                        by_cases c93 : t673 = 0
                        · rw [if_pos c93] at H
                          have c93b0 : (t673 == 0) = true := beq_iff_eq.mpr c93
                          have c93b1 : (t673 != 0) = false := bne_eq_false_iff_eq.mpr c93
                          clear c93
                          by_cases c94 : t650.toList = ([48] : List UInt8)
                          · rw [if_pos c94] at H
                            have c94b0 : (t650.toList == ([48] : List UInt8)) = true := beq_iff_eq.mpr c94
                            have c94b1 : (t650.toList != ([48] : List UInt8)) = false := bne_eq_false_iff_eq.mpr c94
                            clear c94
                            by_cases c95 : t676 = 21
                            · rw [if_pos c95] at H
                              have c95b0 : (t676 == 21) = true := beq_iff_eq.mpr c95
                              have c95b1 : (t676 != 21) = false := bne_eq_false_iff_eq.mpr c95
                              clear c95
                              by_cases c96 : t678 = 0
                              · rw [if_pos c96] at H
                                have c96b0 : (t678 == 0) = true := beq_iff_eq.mpr c96
                                have c96b1 : (t678 != 0) = false := bne_eq_false_iff_eq.mpr c96
                                clear c96
                                replace H := Option.bind_eq_some_iff.mp H
                                obtain ⟨t679, A970, H⟩ := H
                                replace H : (if t679.toList = ([48] : List UInt8) then ((tribunallaw03_plus.f t648 (⟨#[48]⟩ : ByteArray)).bind fun t680 => (if t680.toList = t648.toList then ((tribunallaw03_times.f t648 (⟨#[49]⟩ : ByteArray)).bind fun t681 => (some (t681.toList == t648.toList))) else (none))) else (none)) = some r := H
                                have A97 := Aside0.mk A970
                                clear A970
                                by_cases c98 : t679.toList = ([48] : List UInt8)
                                · rw [if_pos c98] at H
                                  have c98b0 : (t679.toList == ([48] : List UInt8)) = true := beq_iff_eq.mpr c98
                                  have c98b1 : (t679.toList != ([48] : List UInt8)) = false := bne_eq_false_iff_eq.mpr c98
                                  clear c98
                                  replace H := Option.bind_eq_some_iff.mp H
                                  obtain ⟨t680, A990, H⟩ := H
                                  replace H : (if t680.toList = t648.toList then ((tribunallaw03_times.f t648 (⟨#[49]⟩ : ByteArray)).bind fun t681 => (some (t681.toList == t648.toList))) else (none)) = some r := H
                                  have A99 := Aside0.mk A990
                                  clear A990
                                  by_cases c100 : t680.toList = t648.toList
                                  · rw [if_pos c100] at H
                                    have c100b0 : (t680.toList == t648.toList) = true := beq_iff_eq.mpr c100
                                    have c100b1 : (t680.toList != t648.toList) = false := bne_eq_false_iff_eq.mpr c100
                                    clear c100
                                    replace H := Option.bind_eq_some_iff.mp H
                                    obtain ⟨t681, A1010, H⟩ := H
                                    replace H : (some (t681.toList == t648.toList)) = some r := H
                                    have A101 := Aside0.mk A1010
                                    clear A1010
                                    obtain rfl := Option.some.inj H
                                    go_wp2_with (first | ((with_reducible refine gate_callee (f := 28) rfl ?_); refine goesL_ (some 116) rfl rfl Tryd.func28 (by kernel_rfl) rfl #[.string t648, .string t650] rfl (by (try simp only [List.map_toArray, List.map_cons, List.map_nil]); first | done | rfl | (simp only [List.length_drop, List.length_take]; rfl)) ?_; (with_reducible refine (tribunallaw03_plus.calls t648 t650 t671 _ A86.out).mono ?_); rintro e w102 ⟨rfl, hb⟩; refine ⟨_, rfl, ?_⟩; have n0_ := Aside0.mk (below_step (by repeat (first | (with_reducible first | exact HB.out | apply below_alloc | apply pw_below_drewN | apply below_drew1) | exact HB.out)) hb); clear HB; have HB := n0_; clear n0_; (try clear hb); (try clear hb2); (try clear hk); (try clear hi)) | ((with_reducible refine gate_callee (f := 20) rfl ?_); refine goesL_ (some 118) rfl rfl Tryd.func20 (by kernel_rfl) rfl #[.string t671, .string t650] rfl (by (try simp only [List.map_toArray, List.map_cons, List.map_nil]); first | done | rfl | (simp only [List.length_drop, List.length_take]; rfl)) ?_; (with_reducible refine (rat_Sub.calls t671 t650 t672 t673 _ A87.out).mono ?_); rintro e w103 ⟨rfl, hb⟩; refine ⟨_, rfl, ?_⟩; have n0_ := Aside0.mk (below_step (by repeat (first | (with_reducible first | exact HB.out | apply below_alloc | apply pw_below_drewN | apply below_drew1) | exact HB.out)) hb); clear HB; have HB := n0_; clear n0_; (try clear hb); (try clear hb2); (try clear hk); (try clear hi)) | ((with_reducible refine gate_callee (f := 29) rfl ?_); refine goesL_ (some 124) rfl rfl Tryd.func29 (by kernel_rfl) rfl #[.string t648, .string t650] rfl (by (try simp only [List.map_toArray, List.map_cons, List.map_nil]); first | done | rfl | (simp only [List.length_drop, List.length_take]; rfl)) ?_; (with_reducible refine (tribunallaw03_times.calls t648 t650 t674 _ A88.out).mono ?_); rintro e w104 ⟨rfl, hb⟩; refine ⟨_, rfl, ?_⟩; have n0_ := Aside0.mk (below_step (by repeat (first | (with_reducible first | exact HB.out | apply below_alloc | apply pw_below_drewN | apply below_drew1) | exact HB.out)) hb); clear HB; have HB := n0_; clear n0_; (try clear hb); (try clear hb2); (try clear hk); (try clear hi)) | ((with_reducible refine gate_callee (f := 24) rfl ?_); refine goesL_ (some 126) rfl rfl Tryd.func24 (by kernel_rfl) rfl #[.string t674, .string t650] rfl (by (try simp only [List.map_toArray, List.map_cons, List.map_nil]); first | done | rfl | (simp only [List.length_drop, List.length_take]; rfl)) ?_; (with_reducible refine (rat_Div.calls t674 t650 t675 t676 _ A89.out).mono ?_); rintro e w105 ⟨rfl, hb⟩; refine ⟨_, rfl, ?_⟩; have n0_ := Aside0.mk (below_step (by repeat (first | (with_reducible first | exact HB.out | apply below_alloc | apply pw_below_drewN | apply below_drew1) | exact HB.out)) hb); clear HB; have HB := n0_; clear n0_; (try clear hb); (try clear hb2); (try clear hk); (try clear hi)) | ((with_reducible refine gate_callee (f := 26) rfl ?_); refine goesL_ (some 131) rfl rfl Tryd.func26 (by kernel_rfl) rfl #[.string t648] rfl (by (try simp only [List.map_toArray, List.map_cons, List.map_nil]); first | done | rfl | (simp only [List.length_drop, List.length_take]; rfl)) ?_; (with_reducible refine (rat_Neg.calls t648 t677 t678 _ A90.out).mono ?_); rintro e w106 ⟨rfl, hb⟩; refine ⟨_, rfl, ?_⟩; have n0_ := Aside0.mk (below_step (by repeat (first | (with_reducible first | exact HB.out | apply below_alloc | apply pw_below_drewN | apply below_drew1) | exact HB.out)) hb); clear HB; have HB := n0_; clear n0_; (try clear hb); (try clear hb2); (try clear hk); (try clear hi)) | (go_at_call 28; (with_reducible refine (tribunallaw03_plus.calls t648 t677 t679 _ A97.out).mono ?_); rintro e w107 ⟨rfl, hb⟩; have n0_ := Aside0.mk (below_step (by repeat (first | (with_reducible first | exact HB.out | apply below_alloc | apply pw_below_drewN | apply below_drew1) | exact HB.out)) hb); clear HB; have HB := n0_; clear n0_; (try clear hb); (try clear hb2); (try clear hk); (try clear hi)) | (go_at_call 28; (with_reducible refine (tribunallaw03_plus.calls t648 (⟨#[48]⟩ : ByteArray) t680 _ A99.out).mono ?_); rintro e w108 ⟨rfl, hb⟩; have n0_ := Aside0.mk (below_step (by repeat (first | (with_reducible first | exact HB.out | apply below_alloc | apply pw_below_drewN | apply below_drew1) | exact HB.out)) hb); clear HB; have HB := n0_; clear n0_; (try clear hb); (try clear hb2); (try clear hk); (try clear hi)) | (go_at_call 29; (with_reducible refine (tribunallaw03_times.calls t648 (⟨#[49]⟩ : ByteArray) t681 _ A101.out).mono ?_); rintro e w109 ⟨rfl, hb⟩; have n0_ := Aside0.mk (below_step (by repeat (first | (with_reducible first | exact HB.out | apply below_alloc | apply pw_below_drewN | apply below_drew1) | exact HB.out)) hb); clear HB; have HB := n0_; clear n0_; (try clear hb); (try clear hb2); (try clear hk); (try clear hi)))
                                    go_ret
                                    exact ⟨by first | rfl | (simp [errW_none, errW_some] <;> rfl) | (simp [*, errW_none, errW_some] <;> rfl), by repeat (first | (with_reducible first | exact HB.out | apply below_alloc | apply pw_below_drewN | apply below_drew1) | exact HB.out)⟩
                                  · rw [if_neg c100] at H
                                    exact absurd H (by simp)
                                · rw [if_neg c98] at H
                                  exact absurd H (by simp)
                              · rw [if_neg c96] at H
                                exact absurd H (by simp)
                            · rw [if_neg c95] at H
                              exact absurd H (by simp)
                          · rw [if_neg c94] at H
                            have c94b0 : (t650.toList == ([48] : List UInt8)) = false := beq_eq_false_iff_ne.mpr c94
                            have c94b1 : (t650.toList != ([48] : List UInt8)) = true := bne_iff_ne.mpr c94
                            by_cases c110 : t675.toList = t648.toList
                            · rw [if_pos c110] at H
                              have c110b0 : (t675.toList == t648.toList) = true := beq_iff_eq.mpr c110
                              have c110b1 : (t675.toList != t648.toList) = false := bne_eq_false_iff_eq.mpr c110
                              clear c110
                              by_cases c111 : t676 = 0
                              · rw [if_pos c111] at H
                                have c111b0 : (t676 == 0) = true := beq_iff_eq.mpr c111
                                have c111b1 : (t676 != 0) = false := bne_eq_false_iff_eq.mpr c111
                                clear c111
                                by_cases c112 : t678 = 0
                                · rw [if_pos c112] at H
                                  have c112b0 : (t678 == 0) = true := beq_iff_eq.mpr c112
                                  have c112b1 : (t678 != 0) = false := bne_eq_false_iff_eq.mpr c112
                                  clear c112
                                  replace H := Option.bind_eq_some_iff.mp H
                                  obtain ⟨t682, A1130, H⟩ := H
                                  replace H : (if t682.toList = ([48] : List UInt8) then ((tribunallaw03_plus.f t648 (⟨#[48]⟩ : ByteArray)).bind fun t683 => (if t683.toList = t648.toList then ((tribunallaw03_times.f t648 (⟨#[49]⟩ : ByteArray)).bind fun t684 => (some (t684.toList == t648.toList))) else (none))) else (none)) = some r := H
                                  have A113 := Aside0.mk A1130
                                  clear A1130
                                  by_cases c114 : t682.toList = ([48] : List UInt8)
                                  · rw [if_pos c114] at H
                                    have c114b0 : (t682.toList == ([48] : List UInt8)) = true := beq_iff_eq.mpr c114
                                    have c114b1 : (t682.toList != ([48] : List UInt8)) = false := bne_eq_false_iff_eq.mpr c114
                                    clear c114
                                    replace H := Option.bind_eq_some_iff.mp H
                                    obtain ⟨t683, A1150, H⟩ := H
                                    replace H : (if t683.toList = t648.toList then ((tribunallaw03_times.f t648 (⟨#[49]⟩ : ByteArray)).bind fun t684 => (some (t684.toList == t648.toList))) else (none)) = some r := H
                                    have A115 := Aside0.mk A1150
                                    clear A1150
                                    by_cases c116 : t683.toList = t648.toList
                                    · rw [if_pos c116] at H
                                      have c116b0 : (t683.toList == t648.toList) = true := beq_iff_eq.mpr c116
                                      have c116b1 : (t683.toList != t648.toList) = false := bne_eq_false_iff_eq.mpr c116
                                      clear c116
                                      replace H := Option.bind_eq_some_iff.mp H
                                      obtain ⟨t684, A1170, H⟩ := H
                                      replace H : (some (t684.toList == t648.toList)) = some r := H
                                      have A117 := Aside0.mk A1170
                                      clear A1170
                                      obtain rfl := Option.some.inj H
                                      go_wp2_with (first | ((with_reducible refine gate_callee (f := 28) rfl ?_); refine goesL_ (some 116) rfl rfl Tryd.func28 (by kernel_rfl) rfl #[.string t648, .string t650] rfl (by (try simp only [List.map_toArray, List.map_cons, List.map_nil]); first | done | rfl | (simp only [List.length_drop, List.length_take]; rfl)) ?_; (with_reducible refine (tribunallaw03_plus.calls t648 t650 t671 _ A86.out).mono ?_); rintro e w118 ⟨rfl, hb⟩; refine ⟨_, rfl, ?_⟩; have n0_ := Aside0.mk (below_step (by repeat (first | (with_reducible first | exact HB.out | apply below_alloc | apply pw_below_drewN | apply below_drew1) | exact HB.out)) hb); clear HB; have HB := n0_; clear n0_; (try clear hb); (try clear hb2); (try clear hk); (try clear hi)) | ((with_reducible refine gate_callee (f := 20) rfl ?_); refine goesL_ (some 118) rfl rfl Tryd.func20 (by kernel_rfl) rfl #[.string t671, .string t650] rfl (by (try simp only [List.map_toArray, List.map_cons, List.map_nil]); first | done | rfl | (simp only [List.length_drop, List.length_take]; rfl)) ?_; (with_reducible refine (rat_Sub.calls t671 t650 t672 t673 _ A87.out).mono ?_); rintro e w119 ⟨rfl, hb⟩; refine ⟨_, rfl, ?_⟩; have n0_ := Aside0.mk (below_step (by repeat (first | (with_reducible first | exact HB.out | apply below_alloc | apply pw_below_drewN | apply below_drew1) | exact HB.out)) hb); clear HB; have HB := n0_; clear n0_; (try clear hb); (try clear hb2); (try clear hk); (try clear hi)) | ((with_reducible refine gate_callee (f := 29) rfl ?_); refine goesL_ (some 124) rfl rfl Tryd.func29 (by kernel_rfl) rfl #[.string t648, .string t650] rfl (by (try simp only [List.map_toArray, List.map_cons, List.map_nil]); first | done | rfl | (simp only [List.length_drop, List.length_take]; rfl)) ?_; (with_reducible refine (tribunallaw03_times.calls t648 t650 t674 _ A88.out).mono ?_); rintro e w120 ⟨rfl, hb⟩; refine ⟨_, rfl, ?_⟩; have n0_ := Aside0.mk (below_step (by repeat (first | (with_reducible first | exact HB.out | apply below_alloc | apply pw_below_drewN | apply below_drew1) | exact HB.out)) hb); clear HB; have HB := n0_; clear n0_; (try clear hb); (try clear hb2); (try clear hk); (try clear hi)) | ((with_reducible refine gate_callee (f := 24) rfl ?_); refine goesL_ (some 126) rfl rfl Tryd.func24 (by kernel_rfl) rfl #[.string t674, .string t650] rfl (by (try simp only [List.map_toArray, List.map_cons, List.map_nil]); first | done | rfl | (simp only [List.length_drop, List.length_take]; rfl)) ?_; (with_reducible refine (rat_Div.calls t674 t650 t675 t676 _ A89.out).mono ?_); rintro e w121 ⟨rfl, hb⟩; refine ⟨_, rfl, ?_⟩; have n0_ := Aside0.mk (below_step (by repeat (first | (with_reducible first | exact HB.out | apply below_alloc | apply pw_below_drewN | apply below_drew1) | exact HB.out)) hb); clear HB; have HB := n0_; clear n0_; (try clear hb); (try clear hb2); (try clear hk); (try clear hi)) | ((with_reducible refine gate_callee (f := 26) rfl ?_); refine goesL_ (some 131) rfl rfl Tryd.func26 (by kernel_rfl) rfl #[.string t648] rfl (by (try simp only [List.map_toArray, List.map_cons, List.map_nil]); first | done | rfl | (simp only [List.length_drop, List.length_take]; rfl)) ?_; (with_reducible refine (rat_Neg.calls t648 t677 t678 _ A90.out).mono ?_); rintro e w122 ⟨rfl, hb⟩; refine ⟨_, rfl, ?_⟩; have n0_ := Aside0.mk (below_step (by repeat (first | (with_reducible first | exact HB.out | apply below_alloc | apply pw_below_drewN | apply below_drew1) | exact HB.out)) hb); clear HB; have HB := n0_; clear n0_; (try clear hb); (try clear hb2); (try clear hk); (try clear hi)) | (go_at_call 28; (with_reducible refine (tribunallaw03_plus.calls t648 t677 t682 _ A113.out).mono ?_); rintro e w123 ⟨rfl, hb⟩; have n0_ := Aside0.mk (below_step (by repeat (first | (with_reducible first | exact HB.out | apply below_alloc | apply pw_below_drewN | apply below_drew1) | exact HB.out)) hb); clear HB; have HB := n0_; clear n0_; (try clear hb); (try clear hb2); (try clear hk); (try clear hi)) | (go_at_call 28; (with_reducible refine (tribunallaw03_plus.calls t648 (⟨#[48]⟩ : ByteArray) t683 _ A115.out).mono ?_); rintro e w124 ⟨rfl, hb⟩; have n0_ := Aside0.mk (below_step (by repeat (first | (with_reducible first | exact HB.out | apply below_alloc | apply pw_below_drewN | apply below_drew1) | exact HB.out)) hb); clear HB; have HB := n0_; clear n0_; (try clear hb); (try clear hb2); (try clear hk); (try clear hi)) | (go_at_call 29; (with_reducible refine (tribunallaw03_times.calls t648 (⟨#[49]⟩ : ByteArray) t684 _ A117.out).mono ?_); rintro e w125 ⟨rfl, hb⟩; have n0_ := Aside0.mk (below_step (by repeat (first | (with_reducible first | exact HB.out | apply below_alloc | apply pw_below_drewN | apply below_drew1) | exact HB.out)) hb); clear HB; have HB := n0_; clear n0_; (try clear hb); (try clear hb2); (try clear hk); (try clear hi)))
                                      go_ret
                                      exact ⟨by first | rfl | (simp [errW_none, errW_some] <;> rfl) | (simp [*, errW_none, errW_some] <;> rfl), by repeat (first | (with_reducible first | exact HB.out | apply below_alloc | apply pw_below_drewN | apply below_drew1) | exact HB.out)⟩
                                    · rw [if_neg c116] at H
                                      exact absurd H (by simp)
                                  · rw [if_neg c114] at H
                                    exact absurd H (by simp)
                                · rw [if_neg c112] at H
                                  exact absurd H (by simp)
                              · rw [if_neg c111] at H
                                exact absurd H (by simp)
                            · rw [if_neg c110] at H
                              exact absurd H (by simp)
                        · rw [if_neg c93] at H
                          exact absurd H (by simp)
                      · rw [if_neg c92] at H
                        exact absurd H (by simp)
                    · replace c91 := Bool.eq_false_iff.mpr c91
                      subst c91
                      have H1 : (none) = some r := by rw [if_neg (show ¬ (false = true) by decide)] at H; exact H
                      clear H
                      have H := H1
                      clear H1
                      exact absurd H (by simp)

/-- THE ONE PURE STATEMENT of tribunallaw03_RatField: yours. -/
def tribunallaw03_RatField.Pure : Prop := ∀ (a0 : ByteArray) (a1 : ByteArray) (a2 : ByteArray), a0.size ≤ 140737488351232 → a1.size ≤ 140737488351232 → a2.size ≤ 140737488351232 → ∃ k, tribunallaw03_RatField.f k a0 a1 a2 = some true
theorem tribunallaw03_RatField.walk (P : tribunallaw03_RatField.Pure) (a0 : ByteArray) (a1 : ByteArray) (a2 : ByteArray) (w : World) (w0 : a0.size ≤ 140737488351232) (w1 : a1.size ≤ 140737488351232) (w2 : a2.size ≤ 140737488351232) :
    Calls Tryd.prog 4 #[.string a0, .string a1, .string a2] w fun e w' => e = .returned (.bool true) ∧ Below w.heap.size w w' := by
  obtain ⟨k, h⟩ := P a0 a1 a2 w0 w1 w2
  refine (tribunallaw03_RatField.calls k a0 a1 a2 true w h).mono ?_
  rintro e w' ⟨rfl, hd⟩
  exact ⟨rfl, hd⟩

end Go.Proofs.YtfnhohpmhpbpmaaDoor.G
