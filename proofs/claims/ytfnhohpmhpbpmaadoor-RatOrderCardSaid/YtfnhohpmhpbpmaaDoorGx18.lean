-- Out of the translation, by a program of this repo (wip/tools/gprint.py). Lean checks it.
import Derived.Test.YtfnhohpmhpbpmaaDoorGx0
import Derived.Test.YtfnhohpmhpbpmaaDoorGx1
import Derived.Test.YtfnhohpmhpbpmaaDoorGx13
import Derived.Test.YtfnhohpmhpbpmaaDoorGx15
import Derived.Test.YtfnhohpmhpbpmaaDoorGRatTop
namespace Go.Proofs.YtfnhohpmhpbpmaaDoor.G
open Go.RowKit Go.Proofs.YtfnhohpmhpbpmaaDoorW.PrintWords Go.Proofs.YtfnhohpmhpbpmaaDoorW.PrintLast Go.Proofs.YtfnhohpmhpbpmaaDoorW.PrintMore
attribute [local go_sem] max2_int min2_int max_two min_two max_three min_three max_four min_four   -- for this text's walks alone
set_option linter.unusedVariables false
set_option linter.unusedSimpArgs false

/-! ### tribunallaw03_RatOrder: function 6 -/
mutual
def tribunallaw03_RatOrder.j0 : Nat → ByteArray → ByteArray → ByteArray → Bool → Bool → Option (Bool)
  | 0, _, _, _, _, _ => none
  | k + 1, x0, x1, x2, x7, x24 => if x24 = true then (some x7) else ((rat_Norm.f x0).bind fun bt703 => ((rat_Norm.f x1).bind fun bt705 => ((rat_Norm.f x2).bind fun bt707 => (if bt703.2 = 0 then (if bt705.2 = 0 then (tribunallaw03_RatOrder.j1 k x7 bt703.1 bt705.1 bt707.1 (bt707.2 != 0)) else (tribunallaw03_RatOrder.j1 k x7 bt703.1 bt705.1 bt707.1 true)) else (tribunallaw03_RatOrder.j1 k x7 bt703.1 bt705.1 bt707.1 true)))))
def tribunallaw03_RatOrder.j1 : Nat → Bool → ByteArray → ByteArray → ByteArray → Bool → Option (Bool)
  | 0, _, _, _, _, _ => none
  | k + 1, x7, x8, x10, x12, x50 => if x50 = true then (some x7) else ((rat_Cmp.f x8 x10).bind fun t709 => ((rat_Cmp.f x12 (⟨#[48]⟩ : ByteArray)).bind fun t710 => (if x7 = true then ((rat_Cmp.f x10 x8).bind fun t711 => (if t709 = (wrap64 (-t711)) then (if t709 > 0 then ((tribunallaw03_plus.f x8 x12).bind fun t712 => ((tribunallaw03_plus.f x10 x12).bind fun t713 => ((rat_Cmp.f t712 t713).bind fun t714 => (if t714 = t709 then ((tribunallaw03_times.f x8 x12).bind fun t715 => ((tribunallaw03_times.f x10 x12).bind fun t716 => ((rat_Cmp.f t715 t716).bind fun t717 => (some (t717 == (wrap64 (t709 * t710))))))) else (none))))) else ((rat_Cmp.f x10 x12).bind fun t718 => (if t718 > 0 then ((tribunallaw03_plus.f x8 x12).bind fun t719 => ((tribunallaw03_plus.f x10 x12).bind fun t720 => ((rat_Cmp.f t719 t720).bind fun t721 => (if t721 = t709 then ((tribunallaw03_times.f x8 x12).bind fun t722 => ((tribunallaw03_times.f x10 x12).bind fun t723 => ((rat_Cmp.f t722 t723).bind fun t724 => (some (t724 == (wrap64 (t709 * t710))))))) else (none))))) else ((rat_Cmp.f x8 x12).bind fun t725 => (if t725 ≤ 0 then ((tribunallaw03_plus.f x8 x12).bind fun t726 => ((tribunallaw03_plus.f x10 x12).bind fun t727 => ((rat_Cmp.f t726 t727).bind fun t728 => (if t728 = t709 then ((tribunallaw03_times.f x8 x12).bind fun t729 => ((tribunallaw03_times.f x10 x12).bind fun t730 => ((rat_Cmp.f t729 t730).bind fun t731 => (some (t731 == (wrap64 (t709 * t710))))))) else (none))))) else (none)))))) else (none))) else (none))))
end
def tribunallaw03_RatOrder.f (k : Nat) (a0 : ByteArray) (a1 : ByteArray) (a2 : ByteArray) : Option (Bool) := (tribunallaw03_head.f).bind fun t701 => ((tribunallaw03_Great.f a0 a1).bind fun t702 => (if t702 = true then (tribunallaw03_RatOrder.j0 k a0 a1 a2 t701 true) else (tribunallaw03_RatOrder.j0 k a0 a1 a2 t701 (decide ((a2.size : Int) > 160)))))
theorem tribunallaw03_RatOrder.mono_l : ∀ k, (∀ y0 y1 y2 y3 y4, LeO (tribunallaw03_RatOrder.j0 k y0 y1 y2 y3 y4) (tribunallaw03_RatOrder.j0 (k + 1) y0 y1 y2 y3 y4)) ∧ (∀ y0 y1 y2 y3 y4, LeO (tribunallaw03_RatOrder.j1 k y0 y1 y2 y3 y4) (tribunallaw03_RatOrder.j1 (k + 1) y0 y1 y2 y3 y4))
  | 0 => ⟨fun _ _ _ _ _ r h => by simp [tribunallaw03_RatOrder.j0] at h, fun _ _ _ _ _ r h => by simp [tribunallaw03_RatOrder.j1] at h⟩
  | k + 1 => by
    obtain ⟨ih0, ih1⟩ := tribunallaw03_RatOrder.mono_l k
    refine ⟨?_, ?_⟩
    · intro y0 y1 y2 y3 y4
      unfold tribunallaw03_RatOrder.j0
      repeat' first
      | (with_reducible exact ih0 _ _ _ _ _)
      | (with_reducible exact ih1 _ _ _ _ _)
      | (with_reducible exact LeO.refl _)
      | (with_reducible exact LeO.none _)
      | (with_reducible refine LeO.ite ?_ ?_)
      | (with_reducible refine LeO.bind ?_ (fun _ => ?_))
      | exact ih0 _ _ _ _ _
      | exact ih1 _ _ _ _ _
      | exact LeO.none _
      | refine LeO.ite ?_ ?_
      | refine LeO.bind ?_ (fun _ => ?_)
    · intro y0 y1 y2 y3 y4
      unfold tribunallaw03_RatOrder.j1
      repeat' first
      | (with_reducible exact ih0 _ _ _ _ _)
      | (with_reducible exact ih1 _ _ _ _ _)
      | (with_reducible exact LeO.refl _)
      | (with_reducible exact LeO.none _)
      | (with_reducible refine LeO.ite ?_ ?_)
      | (with_reducible refine LeO.bind ?_ (fun _ => ?_))
      | exact ih0 _ _ _ _ _
      | exact ih1 _ _ _ _ _
      | exact LeO.none _
      | refine LeO.ite ?_ ?_
      | refine LeO.bind ?_ (fun _ => ?_)
theorem tribunallaw03_RatOrder.mono : ∀ a0 a1 a2 k, LeO (tribunallaw03_RatOrder.f k a0 a1 a2) (tribunallaw03_RatOrder.f (k + 1) a0 a1 a2) := by
  intro a0 a1 a2 k
  obtain ⟨ih0, ih1⟩ := tribunallaw03_RatOrder.mono_l k
  unfold tribunallaw03_RatOrder.f
  repeat' first
      | (with_reducible exact ih0 _ _ _ _ _)
      | (with_reducible exact ih1 _ _ _ _ _)
      | (with_reducible exact LeO.refl _)
      | (with_reducible exact LeO.none _)
      | (with_reducible refine LeO.ite ?_ ?_)
      | (with_reducible refine LeO.bind ?_ (fun _ => ?_))
      | exact ih0 _ _ _ _ _
      | exact ih1 _ _ _ _ _
      | exact LeO.none _
      | refine LeO.ite ?_ ?_
      | refine LeO.bind ?_ (fun _ => ?_)
set_option maxHeartbeats 8000000 in
set_option maxRecDepth 100000 in
theorem tribunallaw03_RatOrder.calls (k : Nat) (a0 : ByteArray) (a1 : ByteArray) (a2 : ByteArray) (r : Bool) (w : World) (h : tribunallaw03_RatOrder.f k a0 a1 a2 = some r) :
    Calls Tryd.prog 6 #[.string a0, .string a1, .string a2] w fun e w' => e = .returned (.bool r) ∧ Below w.heap.size w w' := by
  have HB := Aside0.mk (Below.refl w.heap.size w)
  have H : ((tribunallaw03_head.f).bind fun t701 => ((tribunallaw03_Great.f a0 a1).bind fun t702 => (if t702 = true then (tribunallaw03_RatOrder.j0 k a0 a1 a2 t701 true) else (tribunallaw03_RatOrder.j0 k a0 a1 a2 t701 (decide ((a2.size : Int) > 160)))))) = some r := h
  clear h
  replace H := Option.bind_eq_some_iff.mp H
  obtain ⟨t701, A40, H⟩ := H
  replace H : ((tribunallaw03_Great.f a0 a1).bind fun t702 => (if t702 = true then (tribunallaw03_RatOrder.j0 k a0 a1 a2 t701 true) else (tribunallaw03_RatOrder.j0 k a0 a1 a2 t701 (decide ((a2.size : Int) > 160))))) = some r := H
  have A4 := Aside0.mk A40
  clear A40
  have HC5 := Aside0.mk H
  clear H
  go_enter Tryd.func6, Tryd.ntmps6
  go_upto_region 2 with (first | ((with_reducible refine gate_callee (f := 10) rfl ?_); refine goesL_ (some 16) rfl rfl Tryd.func10 (by kernel_rfl) rfl #[] rfl (by (try simp only [List.map_toArray, List.map_cons, List.map_nil]); first | done | rfl | (simp only [List.length_drop, List.length_take]; rfl)) ?_; (with_reducible refine (tribunallaw03_head.calls  t701 _ A4.out).mono ?_); rintro e w6 ⟨rfl, hb⟩; refine ⟨_, rfl, ?_⟩; have n0_ := Aside0.mk (below_step (by repeat (first | (with_reducible first | exact HB.out | apply below_alloc | apply pw_below_drewN | apply below_drew1) | exact HB.out)) hb); clear HB; have HB := n0_; clear n0_; (try clear hb); (try clear hb2); (try clear hk); (try clear hi)))
  (try simp only [Act.put, List.setIfInBounds_toArray, List.set_cons_zero, List.set_cons_succ])
  go_cut [24] (fun v24 wc => ∃ (kq : Nat) (x24_4 : Bool), v24 = .bool x24_4 ∧ Aside0 (tribunallaw03_RatOrder.j0 kq a0 a1 a2 t701 x24_4 = some r) ∧ Aside0 (kq ≤ k) ∧ Aside0 (Below w.heap.size w wc))
  case first =>
    have H := HC5.out
    clear HC5
    replace H := Option.bind_eq_some_iff.mp H
    obtain ⟨t702, A70, H⟩ := H
    replace H : (if t702 = true then (tribunallaw03_RatOrder.j0 k a0 a1 a2 t701 true) else (tribunallaw03_RatOrder.j0 k a0 a1 a2 t701 (decide ((a2.size : Int) > 160)))) = some r := H
    have A7 := Aside0.mk A70
    clear A70
    by_cases c8 : t702 = true
    · subst c8
      have H1 : (tribunallaw03_RatOrder.j0 k a0 a1 a2 t701 true) = some r := by rw [if_pos rfl] at H; exact H
      clear H
      have H := H1
      clear H1
      have H' := Aside0.mk H
      clear H
      go_wp2_with (first | ((with_reducible refine gate_callee (f := 11) rfl ?_); refine goesL_ (some 19) rfl rfl Tryd.func11 (by kernel_rfl) rfl #[.string a0, .string a1] rfl (by (try simp only [List.map_toArray, List.map_cons, List.map_nil]); first | done | rfl | (simp only [List.length_drop, List.length_take]; rfl)) ?_; (with_reducible refine (tribunallaw03_Great.calls a0 a1 true _ A7.out).mono ?_); rintro e w' ⟨rfl, ⟨nd, rfl⟩⟩; refine ⟨_, rfl, ?_⟩))
      go_meet
      case rel => exact ⟨_, (true), (by first | rfl | (simp; done) | (simp [*]; done)), H', ⟨by first | omega | exact Nat.le_refl _⟩, ⟨by repeat (first | (with_reducible first | exact HB.out | apply below_alloc | apply pw_below_drewN | apply below_drew1) | exact HB.out)⟩⟩
    · replace c8 := Bool.eq_false_iff.mpr c8
      subst c8
      have H1 : (tribunallaw03_RatOrder.j0 k a0 a1 a2 t701 (decide ((a2.size : Int) > 160))) = some r := by rw [if_neg (show ¬ (false = true) by decide)] at H; exact H
      clear H
      have H := H1
      clear H1
      have H' := Aside0.mk H
      clear H
      go_wp2_with (first | ((with_reducible refine gate_callee (f := 11) rfl ?_); refine goesL_ (some 19) rfl rfl Tryd.func11 (by kernel_rfl) rfl #[.string a0, .string a1] rfl (by (try simp only [List.map_toArray, List.map_cons, List.map_nil]); first | done | rfl | (simp only [List.length_drop, List.length_take]; rfl)) ?_; (with_reducible refine (tribunallaw03_Great.calls a0 a1 false _ A7.out).mono ?_); rintro e w' ⟨rfl, ⟨nd, rfl⟩⟩; refine ⟨_, rfl, ?_⟩))
      go_meet
      case rel => exact ⟨_, (decide ((a2.size : Int) > 160)), (by first | rfl | (simp; done) | (simp [*]; done)), H', ⟨by first | omega | exact Nat.le_refl _⟩, ⟨by repeat (first | (with_reducible first | exact HB.out | apply below_alloc | apply pw_below_drewN | apply below_drew1) | exact HB.out)⟩⟩
  case rest =>
    clear HC5
    try clear c1
    try clear p2
    try clear c6
    try clear c8
    obtain ⟨kq, x24_4, rfl, HA, HJ4, HB⟩ := hcut
    cases kq with
    | zero => exact absurd HA.out (by simp [tribunallaw03_RatOrder.j0])
    | succ kj4 =>
      have H := HA.out
      clear HA
      simp only [tribunallaw03_RatOrder.j0] at H
      by_cases c9 : x24_4 = true
      · subst c9
        have H1 : (some t701) = some r := by rw [if_pos rfl] at H; exact H
        clear H
        have H := H1
        clear H1
        obtain rfl := Option.some.inj H
        go_wp2
        go_ret
        exact ⟨by first | rfl | (simp [errW_none, errW_some] <;> rfl) | (simp [*, errW_none, errW_some] <;> rfl), by repeat (first | (with_reducible first | exact HB.out | apply below_alloc | apply pw_below_drewN | apply below_drew1) | exact HB.out)⟩
      · replace c9 := Bool.eq_false_iff.mpr c9
        subst c9
        have H1 : ((rat_Norm.f a0).bind fun bt703 => ((rat_Norm.f a1).bind fun bt705 => ((rat_Norm.f a2).bind fun bt707 => (if bt703.2 = 0 then (if bt705.2 = 0 then (tribunallaw03_RatOrder.j1 kj4 t701 bt703.1 bt705.1 bt707.1 (bt707.2 != 0)) else (tribunallaw03_RatOrder.j1 kj4 t701 bt703.1 bt705.1 bt707.1 true)) else (tribunallaw03_RatOrder.j1 kj4 t701 bt703.1 bt705.1 bt707.1 true))))) = some r := by rw [if_neg (show ¬ (false = true) by decide)] at H; exact H
        clear H
        have H := H1
        clear H1
        replace H := Option.bind_eq_some_iff.mp H
        obtain ⟨⟨t703, t704⟩, A100, H⟩ := H
        replace H : ((rat_Norm.f a1).bind fun bt705 => ((rat_Norm.f a2).bind fun bt707 => (if t704 = 0 then (if bt705.2 = 0 then (tribunallaw03_RatOrder.j1 kj4 t701 t703 bt705.1 bt707.1 (bt707.2 != 0)) else (tribunallaw03_RatOrder.j1 kj4 t701 t703 bt705.1 bt707.1 true)) else (tribunallaw03_RatOrder.j1 kj4 t701 t703 bt705.1 bt707.1 true)))) = some r := H
        have A10 := Aside0.mk A100
        clear A100
        replace H := Option.bind_eq_some_iff.mp H
        obtain ⟨⟨t705, t706⟩, A110, H⟩ := H
        replace H : ((rat_Norm.f a2).bind fun bt707 => (if t704 = 0 then (if t706 = 0 then (tribunallaw03_RatOrder.j1 kj4 t701 t703 t705 bt707.1 (bt707.2 != 0)) else (tribunallaw03_RatOrder.j1 kj4 t701 t703 t705 bt707.1 true)) else (tribunallaw03_RatOrder.j1 kj4 t701 t703 t705 bt707.1 true))) = some r := H
        have A11 := Aside0.mk A110
        clear A110
        replace H := Option.bind_eq_some_iff.mp H
        obtain ⟨⟨t707, t708⟩, A120, H⟩ := H
        replace H : (if t704 = 0 then (if t706 = 0 then (tribunallaw03_RatOrder.j1 kj4 t701 t703 t705 t707 (t708 != 0)) else (tribunallaw03_RatOrder.j1 kj4 t701 t703 t705 t707 true)) else (tribunallaw03_RatOrder.j1 kj4 t701 t703 t705 t707 true)) = some r := H
        have A12 := Aside0.mk A120
        clear A120
        have HC13 := Aside0.mk H
        clear H
        go_upto_region 7 with (first | ((with_reducible refine gate_callee (f := 12) rfl ?_); refine goesL_ (some 28) rfl rfl Tryd.func12 (by kernel_rfl) rfl #[.string a0] rfl (by (try simp only [List.map_toArray, List.map_cons, List.map_nil]); first | done | rfl | (simp only [List.length_drop, List.length_take]; rfl)) ?_; (with_reducible refine (rat_Norm.calls a0 t703 t704 _ A10.out).mono ?_); rintro e w14 ⟨rfl, hb⟩; refine ⟨_, rfl, ?_⟩; have n0_ := Aside0.mk (below_step (by repeat (first | (with_reducible first | exact HB.out | apply below_alloc | apply pw_below_drewN | apply below_drew1) | exact HB.out)) hb); clear HB; have HB := n0_; clear n0_; (try clear hb); (try clear hb2); (try clear hk); (try clear hi)) | ((with_reducible refine gate_callee (f := 12) rfl ?_); refine goesL_ (some 33) rfl rfl Tryd.func12 (by kernel_rfl) rfl #[.string a1] rfl (by (try simp only [List.map_toArray, List.map_cons, List.map_nil]); first | done | rfl | (simp only [List.length_drop, List.length_take]; rfl)) ?_; (with_reducible refine (rat_Norm.calls a1 t705 t706 _ A11.out).mono ?_); rintro e w15 ⟨rfl, hb⟩; refine ⟨_, rfl, ?_⟩; have n0_ := Aside0.mk (below_step (by repeat (first | (with_reducible first | exact HB.out | apply below_alloc | apply pw_below_drewN | apply below_drew1) | exact HB.out)) hb); clear HB; have HB := n0_; clear n0_; (try clear hb); (try clear hb2); (try clear hk); (try clear hi)) | ((with_reducible refine gate_callee (f := 12) rfl ?_); refine goesL_ (some 38) rfl rfl Tryd.func12 (by kernel_rfl) rfl #[.string a2] rfl (by (try simp only [List.map_toArray, List.map_cons, List.map_nil]); first | done | rfl | (simp only [List.length_drop, List.length_take]; rfl)) ?_; (with_reducible refine (rat_Norm.calls a2 t707 t708 _ A12.out).mono ?_); rintro e w16 ⟨rfl, hb⟩; refine ⟨_, rfl, ?_⟩; have n0_ := Aside0.mk (below_step (by repeat (first | (with_reducible first | exact HB.out | apply below_alloc | apply pw_below_drewN | apply below_drew1) | exact HB.out)) hb); clear HB; have HB := n0_; clear n0_; (try clear hb); (try clear hb2); (try clear hk); (try clear hi)))
        (try simp only [Act.put, List.setIfInBounds_toArray, List.set_cons_zero, List.set_cons_succ])
        go_cut [50] (fun v50 wc => ∃ (kq : Nat) (x50_12 : Bool), v50 = .bool x50_12 ∧ Aside0 (tribunallaw03_RatOrder.j1 kq t701 t703 t705 t707 x50_12 = some r) ∧ Aside0 (kq ≤ kj4) ∧ Aside0 (Below w.heap.size w wc))
        case first =>
          have H := HC13.out
          clear HC13
          by_cases c17 : t704 = 0
          · rw [if_pos c17] at H
            have c17b0 : (t704 == 0) = true := beq_iff_eq.mpr c17
            have c17b1 : (t704 != 0) = false := bne_eq_false_iff_eq.mpr c17
            clear c17
            (first | rw [c17b0] | (simp only [i64_w, i32_w]; rw [c17b0]) | skip)
            by_cases c18 : t706 = 0
            · rw [if_pos c18] at H
              have c18b0 : (t706 == 0) = true := beq_iff_eq.mpr c18
              have c18b1 : (t706 != 0) = false := bne_eq_false_iff_eq.mpr c18
              clear c18
              have H' := Aside0.mk H
              clear H
              go_wp2
              go_meet
              case rel => exact ⟨_, ((t708 != 0)), (by first | rfl | (simp; done) | (simp [*]; done)), H', ⟨by have := HJ4.out; first | omega | exact Nat.le_refl _⟩, ⟨by repeat (first | (with_reducible first | exact HB.out | apply below_alloc | apply pw_below_drewN | apply below_drew1) | exact HB.out)⟩⟩
            · rw [if_neg c18] at H
              have c18b0 : (t706 == 0) = false := beq_eq_false_iff_ne.mpr c18
              have c18b1 : (t706 != 0) = true := bne_iff_ne.mpr c18
              have H' := Aside0.mk H
              clear H
              go_wp2
              go_meet
              case rel => exact ⟨_, (true), (by first | rfl | (simp; done) | (simp [*]; done)), H', ⟨by have := HJ4.out; first | omega | exact Nat.le_refl _⟩, ⟨by repeat (first | (with_reducible first | exact HB.out | apply below_alloc | apply pw_below_drewN | apply below_drew1) | exact HB.out)⟩⟩
          · rw [if_neg c17] at H
            have c17b0 : (t704 == 0) = false := beq_eq_false_iff_ne.mpr c17
            have c17b1 : (t704 != 0) = true := bne_iff_ne.mpr c17
            (first | rw [c17b0] | (simp only [i64_w, i32_w]; rw [c17b0]) | skip)
            have H' := Aside0.mk H
            clear H
            go_wp2
            go_meet
            case rel => exact ⟨_, (true), (by first | rfl | (simp; done) | (simp [*]; done)), H', ⟨by have := HJ4.out; first | omega | exact Nat.le_refl _⟩, ⟨by repeat (first | (with_reducible first | exact HB.out | apply below_alloc | apply pw_below_drewN | apply below_drew1) | exact HB.out)⟩⟩
        case rest =>
          clear HC13
          try clear c1
          try clear p2
          try clear c6
          try clear c8
          try clear c9
          try clear c10
          try clear c11
          try clear c12
          try clear c17
          try clear c17b0
          try clear c17b1
          try clear c18
          try clear c18b0
          try clear c18b1
          try clear p2
          obtain ⟨kq, x50_12, rfl, HA, HJ12, HB⟩ := hcut
          cases kq with
          | zero => exact absurd HA.out (by simp [tribunallaw03_RatOrder.j1])
          | succ kj12 =>
            have H := HA.out
            clear HA
            simp only [tribunallaw03_RatOrder.j1] at H
            by_cases c19 : x50_12 = true
            · subst c19
              have H1 : (some t701) = some r := by rw [if_pos rfl] at H; exact H
              clear H
              have H := H1
              clear H1
              obtain rfl := Option.some.inj H
              go_wp2
              go_ret
              exact ⟨by first | rfl | (simp [errW_none, errW_some] <;> rfl) | (simp [*, errW_none, errW_some] <;> rfl), by repeat (first | (with_reducible first | exact HB.out | apply below_alloc | apply pw_below_drewN | apply below_drew1) | exact HB.out)⟩
            · replace c19 := Bool.eq_false_iff.mpr c19
              subst c19
              have H1 : ((rat_Cmp.f t703 t705).bind fun t709 => ((rat_Cmp.f t707 (⟨#[48]⟩ : ByteArray)).bind fun t710 => (if t701 = true then ((rat_Cmp.f t705 t703).bind fun t711 => (if t709 = (wrap64 (-t711)) then (if t709 > 0 then ((tribunallaw03_plus.f t703 t707).bind fun t712 => ((tribunallaw03_plus.f t705 t707).bind fun t713 => ((rat_Cmp.f t712 t713).bind fun t714 => (if t714 = t709 then ((tribunallaw03_times.f t703 t707).bind fun t715 => ((tribunallaw03_times.f t705 t707).bind fun t716 => ((rat_Cmp.f t715 t716).bind fun t717 => (some (t717 == (wrap64 (t709 * t710))))))) else (none))))) else ((rat_Cmp.f t705 t707).bind fun t718 => (if t718 > 0 then ((tribunallaw03_plus.f t703 t707).bind fun t719 => ((tribunallaw03_plus.f t705 t707).bind fun t720 => ((rat_Cmp.f t719 t720).bind fun t721 => (if t721 = t709 then ((tribunallaw03_times.f t703 t707).bind fun t722 => ((tribunallaw03_times.f t705 t707).bind fun t723 => ((rat_Cmp.f t722 t723).bind fun t724 => (some (t724 == (wrap64 (t709 * t710))))))) else (none))))) else ((rat_Cmp.f t703 t707).bind fun t725 => (if t725 ≤ 0 then ((tribunallaw03_plus.f t703 t707).bind fun t726 => ((tribunallaw03_plus.f t705 t707).bind fun t727 => ((rat_Cmp.f t726 t727).bind fun t728 => (if t728 = t709 then ((tribunallaw03_times.f t703 t707).bind fun t729 => ((tribunallaw03_times.f t705 t707).bind fun t730 => ((rat_Cmp.f t729 t730).bind fun t731 => (some (t731 == (wrap64 (t709 * t710))))))) else (none))))) else (none)))))) else (none))) else (none)))) = some r := by rw [if_neg (show ¬ (false = true) by decide)] at H; exact H
              clear H
              have H := H1
              clear H1
              replace H := Option.bind_eq_some_iff.mp H
              obtain ⟨t709, A200, H⟩ := H
              replace H : ((rat_Cmp.f t707 (⟨#[48]⟩ : ByteArray)).bind fun t710 => (if t701 = true then ((rat_Cmp.f t705 t703).bind fun t711 => (if t709 = (wrap64 (-t711)) then (if t709 > 0 then ((tribunallaw03_plus.f t703 t707).bind fun t712 => ((tribunallaw03_plus.f t705 t707).bind fun t713 => ((rat_Cmp.f t712 t713).bind fun t714 => (if t714 = t709 then ((tribunallaw03_times.f t703 t707).bind fun t715 => ((tribunallaw03_times.f t705 t707).bind fun t716 => ((rat_Cmp.f t715 t716).bind fun t717 => (some (t717 == (wrap64 (t709 * t710))))))) else (none))))) else ((rat_Cmp.f t705 t707).bind fun t718 => (if t718 > 0 then ((tribunallaw03_plus.f t703 t707).bind fun t719 => ((tribunallaw03_plus.f t705 t707).bind fun t720 => ((rat_Cmp.f t719 t720).bind fun t721 => (if t721 = t709 then ((tribunallaw03_times.f t703 t707).bind fun t722 => ((tribunallaw03_times.f t705 t707).bind fun t723 => ((rat_Cmp.f t722 t723).bind fun t724 => (some (t724 == (wrap64 (t709 * t710))))))) else (none))))) else ((rat_Cmp.f t703 t707).bind fun t725 => (if t725 ≤ 0 then ((tribunallaw03_plus.f t703 t707).bind fun t726 => ((tribunallaw03_plus.f t705 t707).bind fun t727 => ((rat_Cmp.f t726 t727).bind fun t728 => (if t728 = t709 then ((tribunallaw03_times.f t703 t707).bind fun t729 => ((tribunallaw03_times.f t705 t707).bind fun t730 => ((rat_Cmp.f t729 t730).bind fun t731 => (some (t731 == (wrap64 (t709 * t710))))))) else (none))))) else (none)))))) else (none))) else (none))) = some r := H
              have A20 := Aside0.mk A200
              clear A200
              replace H := Option.bind_eq_some_iff.mp H
              obtain ⟨t710, A210, H⟩ := H
              replace H : (if t701 = true then ((rat_Cmp.f t705 t703).bind fun t711 => (if t709 = (wrap64 (-t711)) then (if t709 > 0 then ((tribunallaw03_plus.f t703 t707).bind fun t712 => ((tribunallaw03_plus.f t705 t707).bind fun t713 => ((rat_Cmp.f t712 t713).bind fun t714 => (if t714 = t709 then ((tribunallaw03_times.f t703 t707).bind fun t715 => ((tribunallaw03_times.f t705 t707).bind fun t716 => ((rat_Cmp.f t715 t716).bind fun t717 => (some (t717 == (wrap64 (t709 * t710))))))) else (none))))) else ((rat_Cmp.f t705 t707).bind fun t718 => (if t718 > 0 then ((tribunallaw03_plus.f t703 t707).bind fun t719 => ((tribunallaw03_plus.f t705 t707).bind fun t720 => ((rat_Cmp.f t719 t720).bind fun t721 => (if t721 = t709 then ((tribunallaw03_times.f t703 t707).bind fun t722 => ((tribunallaw03_times.f t705 t707).bind fun t723 => ((rat_Cmp.f t722 t723).bind fun t724 => (some (t724 == (wrap64 (t709 * t710))))))) else (none))))) else ((rat_Cmp.f t703 t707).bind fun t725 => (if t725 ≤ 0 then ((tribunallaw03_plus.f t703 t707).bind fun t726 => ((tribunallaw03_plus.f t705 t707).bind fun t727 => ((rat_Cmp.f t726 t727).bind fun t728 => (if t728 = t709 then ((tribunallaw03_times.f t703 t707).bind fun t729 => ((tribunallaw03_times.f t705 t707).bind fun t730 => ((rat_Cmp.f t729 t730).bind fun t731 => (some (t731 == (wrap64 (t709 * t710))))))) else (none))))) else (none)))))) else (none))) else (none)) = some r := H
              have A21 := Aside0.mk A210
              clear A210
              by_cases c22 : t701 = true
              · subst c22
                have H1 : ((rat_Cmp.f t705 t703).bind fun t711 => (if t709 = (wrap64 (-t711)) then (if t709 > 0 then ((tribunallaw03_plus.f t703 t707).bind fun t712 => ((tribunallaw03_plus.f t705 t707).bind fun t713 => ((rat_Cmp.f t712 t713).bind fun t714 => (if t714 = t709 then ((tribunallaw03_times.f t703 t707).bind fun t715 => ((tribunallaw03_times.f t705 t707).bind fun t716 => ((rat_Cmp.f t715 t716).bind fun t717 => (some (t717 == (wrap64 (t709 * t710))))))) else (none))))) else ((rat_Cmp.f t705 t707).bind fun t718 => (if t718 > 0 then ((tribunallaw03_plus.f t703 t707).bind fun t719 => ((tribunallaw03_plus.f t705 t707).bind fun t720 => ((rat_Cmp.f t719 t720).bind fun t721 => (if t721 = t709 then ((tribunallaw03_times.f t703 t707).bind fun t722 => ((tribunallaw03_times.f t705 t707).bind fun t723 => ((rat_Cmp.f t722 t723).bind fun t724 => (some (t724 == (wrap64 (t709 * t710))))))) else (none))))) else ((rat_Cmp.f t703 t707).bind fun t725 => (if t725 ≤ 0 then ((tribunallaw03_plus.f t703 t707).bind fun t726 => ((tribunallaw03_plus.f t705 t707).bind fun t727 => ((rat_Cmp.f t726 t727).bind fun t728 => (if t728 = t709 then ((tribunallaw03_times.f t703 t707).bind fun t729 => ((tribunallaw03_times.f t705 t707).bind fun t730 => ((rat_Cmp.f t729 t730).bind fun t731 => (some (t731 == (wrap64 (t709 * t710))))))) else (none))))) else (none)))))) else (none))) = some r := by rw [if_pos rfl] at H; exact H
                clear H
                have H := H1
                clear H1
                replace H := Option.bind_eq_some_iff.mp H
                obtain ⟨t711, A230, H⟩ := H
                replace H : (if t709 = (wrap64 (-t711)) then (if t709 > 0 then ((tribunallaw03_plus.f t703 t707).bind fun t712 => ((tribunallaw03_plus.f t705 t707).bind fun t713 => ((rat_Cmp.f t712 t713).bind fun t714 => (if t714 = t709 then ((tribunallaw03_times.f t703 t707).bind fun t715 => ((tribunallaw03_times.f t705 t707).bind fun t716 => ((rat_Cmp.f t715 t716).bind fun t717 => (some (t717 == (wrap64 (t709 * t710))))))) else (none))))) else ((rat_Cmp.f t705 t707).bind fun t718 => (if t718 > 0 then ((tribunallaw03_plus.f t703 t707).bind fun t719 => ((tribunallaw03_plus.f t705 t707).bind fun t720 => ((rat_Cmp.f t719 t720).bind fun t721 => (if t721 = t709 then ((tribunallaw03_times.f t703 t707).bind fun t722 => ((tribunallaw03_times.f t705 t707).bind fun t723 => ((rat_Cmp.f t722 t723).bind fun t724 => (some (t724 == (wrap64 (t709 * t710))))))) else (none))))) else ((rat_Cmp.f t703 t707).bind fun t725 => (if t725 ≤ 0 then ((tribunallaw03_plus.f t703 t707).bind fun t726 => ((tribunallaw03_plus.f t705 t707).bind fun t727 => ((rat_Cmp.f t726 t727).bind fun t728 => (if t728 = t709 then ((tribunallaw03_times.f t703 t707).bind fun t729 => ((tribunallaw03_times.f t705 t707).bind fun t730 => ((rat_Cmp.f t729 t730).bind fun t731 => (some (t731 == (wrap64 (t709 * t710))))))) else (none))))) else (none)))))) else (none)) = some r := H
                have A23 := Aside0.mk A230
                clear A230
                by_cases c24 : t709 = (wrap64 (-t711))
                · rw [if_pos c24] at H
                  have c24b0 : (t709 == (wrap64 (-t711))) = true := beq_iff_eq.mpr c24
                  have c24b1 : (t709 != (wrap64 (-t711))) = false := bne_eq_false_iff_eq.mpr c24
                  clear c24
                  by_cases c25 : t709 > 0
                  · rw [if_pos c25] at H
                    have c25b0 : decide (0 < t709) = true := decide_eq_true c25
                    clear c25
                    replace H := Option.bind_eq_some_iff.mp H
                    obtain ⟨t712, A260, H⟩ := H
                    replace H : ((tribunallaw03_plus.f t705 t707).bind fun t713 => ((rat_Cmp.f t712 t713).bind fun t714 => (if t714 = t709 then ((tribunallaw03_times.f t703 t707).bind fun t715 => ((tribunallaw03_times.f t705 t707).bind fun t716 => ((rat_Cmp.f t715 t716).bind fun t717 => (some (t717 == (wrap64 (t709 * t710))))))) else (none)))) = some r := H
                    have A26 := Aside0.mk A260
                    clear A260
                    replace H := Option.bind_eq_some_iff.mp H
                    obtain ⟨t713, A270, H⟩ := H
                    replace H : ((rat_Cmp.f t712 t713).bind fun t714 => (if t714 = t709 then ((tribunallaw03_times.f t703 t707).bind fun t715 => ((tribunallaw03_times.f t705 t707).bind fun t716 => ((rat_Cmp.f t715 t716).bind fun t717 => (some (t717 == (wrap64 (t709 * t710))))))) else (none))) = some r := H
                    have A27 := Aside0.mk A270
                    clear A270
                    replace H := Option.bind_eq_some_iff.mp H
                    obtain ⟨t714, A280, H⟩ := H
                    replace H : (if t714 = t709 then ((tribunallaw03_times.f t703 t707).bind fun t715 => ((tribunallaw03_times.f t705 t707).bind fun t716 => ((rat_Cmp.f t715 t716).bind fun t717 => (some (t717 == (wrap64 (t709 * t710))))))) else (none)) = some r := H
                    have A28 := Aside0.mk A280
                    clear A280
                    by_cases c29 : t714 = t709
                    · rw [if_pos c29] at H
                      have c29b0 : (t714 == t709) = true := beq_iff_eq.mpr c29
                      have c29b1 : (t714 != t709) = false := bne_eq_false_iff_eq.mpr c29
                      clear c29
                      replace H := Option.bind_eq_some_iff.mp H
                      obtain ⟨t715, A300, H⟩ := H
                      replace H : ((tribunallaw03_times.f t705 t707).bind fun t716 => ((rat_Cmp.f t715 t716).bind fun t717 => (some (t717 == (wrap64 (t709 * t710)))))) = some r := H
                      have A30 := Aside0.mk A300
                      clear A300
                      replace H := Option.bind_eq_some_iff.mp H
                      obtain ⟨t716, A310, H⟩ := H
                      replace H : ((rat_Cmp.f t715 t716).bind fun t717 => (some (t717 == (wrap64 (t709 * t710))))) = some r := H
                      have A31 := Aside0.mk A310
                      clear A310
                      replace H := Option.bind_eq_some_iff.mp H
                      obtain ⟨t717, A320, H⟩ := H
                      replace H : (some (t717 == (wrap64 (t709 * t710)))) = some r := H
                      have A32 := Aside0.mk A320
                      clear A320
                      obtain rfl := Option.some.inj H
                      go_wp2_with (first | ((with_reducible refine gate_callee (f := 18) rfl ?_); refine goesL_ (some 54) rfl rfl Tryd.func18 (by kernel_rfl) rfl #[.string t703, .string t705] rfl (by (try simp only [List.map_toArray, List.map_cons, List.map_nil]); first | done | rfl | (simp only [List.length_drop, List.length_take]; rfl)) ?_; (with_reducible refine (rat_Cmp.calls t703 t705 t709 _ A20.out).mono ?_); rintro e w33 ⟨rfl, hb⟩; refine ⟨_, rfl, ?_⟩; have n0_ := Aside0.mk (below_step (by repeat (first | (with_reducible first | exact HB.out | apply below_alloc | apply pw_below_drewN | apply below_drew1) | exact HB.out)) hb); clear HB; have HB := n0_; clear n0_; (try clear hb); (try clear hb2); (try clear hk); (try clear hi)) | ((with_reducible refine gate_callee (f := 18) rfl ?_); refine goesL_ (some 56) rfl rfl Tryd.func18 (by kernel_rfl) rfl #[.string t707, .string (⟨#[48]⟩ : ByteArray)] rfl (by (try simp only [List.map_toArray, List.map_cons, List.map_nil]); first | done | rfl | (simp only [List.length_drop, List.length_take]; rfl)) ?_; (with_reducible refine (rat_Cmp.calls t707 (⟨#[48]⟩ : ByteArray) t710 _ A21.out).mono ?_); rintro e w34 ⟨rfl, hb⟩; refine ⟨_, rfl, ?_⟩; have n0_ := Aside0.mk (below_step (by repeat (first | (with_reducible first | exact HB.out | apply below_alloc | apply pw_below_drewN | apply below_drew1) | exact HB.out)) hb); clear HB; have HB := n0_; clear n0_; (try clear hb); (try clear hb2); (try clear hk); (try clear hi)) | (go_at_call 18; (with_reducible refine (rat_Cmp.calls t705 t703 t711 _ A23.out).mono ?_); rintro e w35 ⟨rfl, hb⟩; have n0_ := Aside0.mk (below_step (by repeat (first | (with_reducible first | exact HB.out | apply below_alloc | apply pw_below_drewN | apply below_drew1) | exact HB.out)) hb); clear HB; have HB := n0_; clear n0_; (try clear hb); (try clear hb2); (try clear hk); (try clear hi)) | (go_at_call 28; (with_reducible refine (tribunallaw03_plus.calls t703 t707 t712 _ A26.out).mono ?_); rintro e w36 ⟨rfl, hb⟩; have n0_ := Aside0.mk (below_step (by repeat (first | (with_reducible first | exact HB.out | apply below_alloc | apply pw_below_drewN | apply below_drew1) | exact HB.out)) hb); clear HB; have HB := n0_; clear n0_; (try clear hb); (try clear hb2); (try clear hk); (try clear hi)) | (go_at_call 28; (with_reducible refine (tribunallaw03_plus.calls t705 t707 t713 _ A27.out).mono ?_); rintro e w37 ⟨rfl, hb⟩; have n0_ := Aside0.mk (below_step (by repeat (first | (with_reducible first | exact HB.out | apply below_alloc | apply pw_below_drewN | apply below_drew1) | exact HB.out)) hb); clear HB; have HB := n0_; clear n0_; (try clear hb); (try clear hb2); (try clear hk); (try clear hi)) | (go_at_call 18; (with_reducible refine (rat_Cmp.calls t712 t713 t714 _ A28.out).mono ?_); rintro e w38 ⟨rfl, hb⟩; have n0_ := Aside0.mk (below_step (by repeat (first | (with_reducible first | exact HB.out | apply below_alloc | apply pw_below_drewN | apply below_drew1) | exact HB.out)) hb); clear HB; have HB := n0_; clear n0_; (try clear hb); (try clear hb2); (try clear hk); (try clear hi)) | (go_at_call 29; (with_reducible refine (tribunallaw03_times.calls t703 t707 t715 _ A30.out).mono ?_); rintro e w39 ⟨rfl, hb⟩; have n0_ := Aside0.mk (below_step (by repeat (first | (with_reducible first | exact HB.out | apply below_alloc | apply pw_below_drewN | apply below_drew1) | exact HB.out)) hb); clear HB; have HB := n0_; clear n0_; (try clear hb); (try clear hb2); (try clear hk); (try clear hi)) | (go_at_call 29; (with_reducible refine (tribunallaw03_times.calls t705 t707 t716 _ A31.out).mono ?_); rintro e w40 ⟨rfl, hb⟩; have n0_ := Aside0.mk (below_step (by repeat (first | (with_reducible first | exact HB.out | apply below_alloc | apply pw_below_drewN | apply below_drew1) | exact HB.out)) hb); clear HB; have HB := n0_; clear n0_; (try clear hb); (try clear hb2); (try clear hk); (try clear hi)) | (go_at_call 18; (with_reducible refine (rat_Cmp.calls t715 t716 t717 _ A32.out).mono ?_); rintro e w41 ⟨rfl, hb⟩; have n0_ := Aside0.mk (below_step (by repeat (first | (with_reducible first | exact HB.out | apply below_alloc | apply pw_below_drewN | apply below_drew1) | exact HB.out)) hb); clear HB; have HB := n0_; clear n0_; (try clear hb); (try clear hb2); (try clear hk); (try clear hi)))
                      go_ret
                      exact ⟨by first | rfl | (simp [errW_none, errW_some] <;> rfl) | (simp [*, errW_none, errW_some] <;> rfl), by repeat (first | (with_reducible first | exact HB.out | apply below_alloc | apply pw_below_drewN | apply below_drew1) | exact HB.out)⟩
                    · rw [if_neg c29] at H
                      exact absurd H (by simp)
                  · rw [if_neg c25] at H
                    have c25b0 : decide (0 < t709) = false := decide_eq_false c25
                    clear c25
                    replace H := Option.bind_eq_some_iff.mp H
                    obtain ⟨t718, A420, H⟩ := H
                    replace H : (if t718 > 0 then ((tribunallaw03_plus.f t703 t707).bind fun t719 => ((tribunallaw03_plus.f t705 t707).bind fun t720 => ((rat_Cmp.f t719 t720).bind fun t721 => (if t721 = t709 then ((tribunallaw03_times.f t703 t707).bind fun t722 => ((tribunallaw03_times.f t705 t707).bind fun t723 => ((rat_Cmp.f t722 t723).bind fun t724 => (some (t724 == (wrap64 (t709 * t710))))))) else (none))))) else ((rat_Cmp.f t703 t707).bind fun t725 => (if t725 ≤ 0 then ((tribunallaw03_plus.f t703 t707).bind fun t726 => ((tribunallaw03_plus.f t705 t707).bind fun t727 => ((rat_Cmp.f t726 t727).bind fun t728 => (if t728 = t709 then ((tribunallaw03_times.f t703 t707).bind fun t729 => ((tribunallaw03_times.f t705 t707).bind fun t730 => ((rat_Cmp.f t729 t730).bind fun t731 => (some (t731 == (wrap64 (t709 * t710))))))) else (none))))) else (none)))) = some r := H
                    have A42 := Aside0.mk A420
                    clear A420
                    by_cases c43 : t718 > 0
                    · rw [if_pos c43] at H
                      have c43b0 : decide (0 < t718) = true := decide_eq_true c43
                      clear c43
                      replace H := Option.bind_eq_some_iff.mp H
                      obtain ⟨t719, A440, H⟩ := H
                      replace H : ((tribunallaw03_plus.f t705 t707).bind fun t720 => ((rat_Cmp.f t719 t720).bind fun t721 => (if t721 = t709 then ((tribunallaw03_times.f t703 t707).bind fun t722 => ((tribunallaw03_times.f t705 t707).bind fun t723 => ((rat_Cmp.f t722 t723).bind fun t724 => (some (t724 == (wrap64 (t709 * t710))))))) else (none)))) = some r := H
                      have A44 := Aside0.mk A440
                      clear A440
                      replace H := Option.bind_eq_some_iff.mp H
                      obtain ⟨t720, A450, H⟩ := H
                      replace H : ((rat_Cmp.f t719 t720).bind fun t721 => (if t721 = t709 then ((tribunallaw03_times.f t703 t707).bind fun t722 => ((tribunallaw03_times.f t705 t707).bind fun t723 => ((rat_Cmp.f t722 t723).bind fun t724 => (some (t724 == (wrap64 (t709 * t710))))))) else (none))) = some r := H
                      have A45 := Aside0.mk A450
                      clear A450
                      replace H := Option.bind_eq_some_iff.mp H
                      obtain ⟨t721, A460, H⟩ := H
                      replace H : (if t721 = t709 then ((tribunallaw03_times.f t703 t707).bind fun t722 => ((tribunallaw03_times.f t705 t707).bind fun t723 => ((rat_Cmp.f t722 t723).bind fun t724 => (some (t724 == (wrap64 (t709 * t710))))))) else (none)) = some r := H
                      have A46 := Aside0.mk A460
                      clear A460
                      by_cases c47 : t721 = t709
                      · rw [if_pos c47] at H
                        have c47b0 : (t721 == t709) = true := beq_iff_eq.mpr c47
                        have c47b1 : (t721 != t709) = false := bne_eq_false_iff_eq.mpr c47
                        clear c47
                        replace H := Option.bind_eq_some_iff.mp H
                        obtain ⟨t722, A480, H⟩ := H
                        replace H : ((tribunallaw03_times.f t705 t707).bind fun t723 => ((rat_Cmp.f t722 t723).bind fun t724 => (some (t724 == (wrap64 (t709 * t710)))))) = some r := H
                        have A48 := Aside0.mk A480
                        clear A480
                        replace H := Option.bind_eq_some_iff.mp H
                        obtain ⟨t723, A490, H⟩ := H
                        replace H : ((rat_Cmp.f t722 t723).bind fun t724 => (some (t724 == (wrap64 (t709 * t710))))) = some r := H
                        have A49 := Aside0.mk A490
                        clear A490
                        replace H := Option.bind_eq_some_iff.mp H
                        obtain ⟨t724, A500, H⟩ := H
                        replace H : (some (t724 == (wrap64 (t709 * t710)))) = some r := H
                        have A50 := Aside0.mk A500
                        clear A500
                        obtain rfl := Option.some.inj H
                        go_wp2_with (first | ((with_reducible refine gate_callee (f := 18) rfl ?_); refine goesL_ (some 54) rfl rfl Tryd.func18 (by kernel_rfl) rfl #[.string t703, .string t705] rfl (by (try simp only [List.map_toArray, List.map_cons, List.map_nil]); first | done | rfl | (simp only [List.length_drop, List.length_take]; rfl)) ?_; (with_reducible refine (rat_Cmp.calls t703 t705 t709 _ A20.out).mono ?_); rintro e w51 ⟨rfl, hb⟩; refine ⟨_, rfl, ?_⟩; have n0_ := Aside0.mk (below_step (by repeat (first | (with_reducible first | exact HB.out | apply below_alloc | apply pw_below_drewN | apply below_drew1) | exact HB.out)) hb); clear HB; have HB := n0_; clear n0_; (try clear hb); (try clear hb2); (try clear hk); (try clear hi)) | ((with_reducible refine gate_callee (f := 18) rfl ?_); refine goesL_ (some 56) rfl rfl Tryd.func18 (by kernel_rfl) rfl #[.string t707, .string (⟨#[48]⟩ : ByteArray)] rfl (by (try simp only [List.map_toArray, List.map_cons, List.map_nil]); first | done | rfl | (simp only [List.length_drop, List.length_take]; rfl)) ?_; (with_reducible refine (rat_Cmp.calls t707 (⟨#[48]⟩ : ByteArray) t710 _ A21.out).mono ?_); rintro e w52 ⟨rfl, hb⟩; refine ⟨_, rfl, ?_⟩; have n0_ := Aside0.mk (below_step (by repeat (first | (with_reducible first | exact HB.out | apply below_alloc | apply pw_below_drewN | apply below_drew1) | exact HB.out)) hb); clear HB; have HB := n0_; clear n0_; (try clear hb); (try clear hb2); (try clear hk); (try clear hi)) | (go_at_call 18; (with_reducible refine (rat_Cmp.calls t705 t703 t711 _ A23.out).mono ?_); rintro e w53 ⟨rfl, hb⟩; have n0_ := Aside0.mk (below_step (by repeat (first | (with_reducible first | exact HB.out | apply below_alloc | apply pw_below_drewN | apply below_drew1) | exact HB.out)) hb); clear HB; have HB := n0_; clear n0_; (try clear hb); (try clear hb2); (try clear hk); (try clear hi)) | (go_at_call 18; (with_reducible refine (rat_Cmp.calls t705 t707 t718 _ A42.out).mono ?_); rintro e w54 ⟨rfl, hb⟩; have n0_ := Aside0.mk (below_step (by repeat (first | (with_reducible first | exact HB.out | apply below_alloc | apply pw_below_drewN | apply below_drew1) | exact HB.out)) hb); clear HB; have HB := n0_; clear n0_; (try clear hb); (try clear hb2); (try clear hk); (try clear hi)) | (go_at_call 28; (with_reducible refine (tribunallaw03_plus.calls t703 t707 t719 _ A44.out).mono ?_); rintro e w55 ⟨rfl, hb⟩; have n0_ := Aside0.mk (below_step (by repeat (first | (with_reducible first | exact HB.out | apply below_alloc | apply pw_below_drewN | apply below_drew1) | exact HB.out)) hb); clear HB; have HB := n0_; clear n0_; (try clear hb); (try clear hb2); (try clear hk); (try clear hi)) | (go_at_call 28; (with_reducible refine (tribunallaw03_plus.calls t705 t707 t720 _ A45.out).mono ?_); rintro e w56 ⟨rfl, hb⟩; have n0_ := Aside0.mk (below_step (by repeat (first | (with_reducible first | exact HB.out | apply below_alloc | apply pw_below_drewN | apply below_drew1) | exact HB.out)) hb); clear HB; have HB := n0_; clear n0_; (try clear hb); (try clear hb2); (try clear hk); (try clear hi)) | (go_at_call 18; (with_reducible refine (rat_Cmp.calls t719 t720 t721 _ A46.out).mono ?_); rintro e w57 ⟨rfl, hb⟩; have n0_ := Aside0.mk (below_step (by repeat (first | (with_reducible first | exact HB.out | apply below_alloc | apply pw_below_drewN | apply below_drew1) | exact HB.out)) hb); clear HB; have HB := n0_; clear n0_; (try clear hb); (try clear hb2); (try clear hk); (try clear hi)) | (go_at_call 29; (with_reducible refine (tribunallaw03_times.calls t703 t707 t722 _ A48.out).mono ?_); rintro e w58 ⟨rfl, hb⟩; have n0_ := Aside0.mk (below_step (by repeat (first | (with_reducible first | exact HB.out | apply below_alloc | apply pw_below_drewN | apply below_drew1) | exact HB.out)) hb); clear HB; have HB := n0_; clear n0_; (try clear hb); (try clear hb2); (try clear hk); (try clear hi)) | (go_at_call 29; (with_reducible refine (tribunallaw03_times.calls t705 t707 t723 _ A49.out).mono ?_); rintro e w59 ⟨rfl, hb⟩; have n0_ := Aside0.mk (below_step (by repeat (first | (with_reducible first | exact HB.out | apply below_alloc | apply pw_below_drewN | apply below_drew1) | exact HB.out)) hb); clear HB; have HB := n0_; clear n0_; (try clear hb); (try clear hb2); (try clear hk); (try clear hi)) | (go_at_call 18; (with_reducible refine (rat_Cmp.calls t722 t723 t724 _ A50.out).mono ?_); rintro e w60 ⟨rfl, hb⟩; have n0_ := Aside0.mk (below_step (by repeat (first | (with_reducible first | exact HB.out | apply below_alloc | apply pw_below_drewN | apply below_drew1) | exact HB.out)) hb); clear HB; have HB := n0_; clear n0_; (try clear hb); (try clear hb2); (try clear hk); (try clear hi)))
                        go_ret
                        exact ⟨by first | rfl | (simp [errW_none, errW_some] <;> rfl) | (simp [*, errW_none, errW_some] <;> rfl), by repeat (first | (with_reducible first | exact HB.out | apply below_alloc | apply pw_below_drewN | apply below_drew1) | exact HB.out)⟩
                      · rw [if_neg c47] at H
                        exact absurd H (by simp)
                    · rw [if_neg c43] at H
                      have c43b0 : decide (0 < t718) = false := decide_eq_false c43
                      clear c43
                      replace H := Option.bind_eq_some_iff.mp H
                      obtain ⟨t725, A610, H⟩ := H
                      replace H : (if t725 ≤ 0 then ((tribunallaw03_plus.f t703 t707).bind fun t726 => ((tribunallaw03_plus.f t705 t707).bind fun t727 => ((rat_Cmp.f t726 t727).bind fun t728 => (if t728 = t709 then ((tribunallaw03_times.f t703 t707).bind fun t729 => ((tribunallaw03_times.f t705 t707).bind fun t730 => ((rat_Cmp.f t729 t730).bind fun t731 => (some (t731 == (wrap64 (t709 * t710))))))) else (none))))) else (none)) = some r := H
                      have A61 := Aside0.mk A610
                      clear A610
                      by_cases c62 : t725 ≤ 0
                      · rw [if_pos c62] at H
                        have c62b0 : decide (t725 ≤ 0) = true := decide_eq_true c62
                        clear c62
                        replace H := Option.bind_eq_some_iff.mp H
                        obtain ⟨t726, A630, H⟩ := H
                        replace H : ((tribunallaw03_plus.f t705 t707).bind fun t727 => ((rat_Cmp.f t726 t727).bind fun t728 => (if t728 = t709 then ((tribunallaw03_times.f t703 t707).bind fun t729 => ((tribunallaw03_times.f t705 t707).bind fun t730 => ((rat_Cmp.f t729 t730).bind fun t731 => (some (t731 == (wrap64 (t709 * t710))))))) else (none)))) = some r := H
                        have A63 := Aside0.mk A630
                        clear A630
                        replace H := Option.bind_eq_some_iff.mp H
                        obtain ⟨t727, A640, H⟩ := H
                        replace H : ((rat_Cmp.f t726 t727).bind fun t728 => (if t728 = t709 then ((tribunallaw03_times.f t703 t707).bind fun t729 => ((tribunallaw03_times.f t705 t707).bind fun t730 => ((rat_Cmp.f t729 t730).bind fun t731 => (some (t731 == (wrap64 (t709 * t710))))))) else (none))) = some r := H
                        have A64 := Aside0.mk A640
                        clear A640
                        replace H := Option.bind_eq_some_iff.mp H
                        obtain ⟨t728, A650, H⟩ := H
                        replace H : (if t728 = t709 then ((tribunallaw03_times.f t703 t707).bind fun t729 => ((tribunallaw03_times.f t705 t707).bind fun t730 => ((rat_Cmp.f t729 t730).bind fun t731 => (some (t731 == (wrap64 (t709 * t710))))))) else (none)) = some r := H
                        have A65 := Aside0.mk A650
                        clear A650
                        by_cases c66 : t728 = t709
                        · rw [if_pos c66] at H
                          have c66b0 : (t728 == t709) = true := beq_iff_eq.mpr c66
                          have c66b1 : (t728 != t709) = false := bne_eq_false_iff_eq.mpr c66
                          clear c66
                          replace H := Option.bind_eq_some_iff.mp H
                          obtain ⟨t729, A670, H⟩ := H
                          replace H : ((tribunallaw03_times.f t705 t707).bind fun t730 => ((rat_Cmp.f t729 t730).bind fun t731 => (some (t731 == (wrap64 (t709 * t710)))))) = some r := H
                          have A67 := Aside0.mk A670
                          clear A670
                          replace H := Option.bind_eq_some_iff.mp H
                          obtain ⟨t730, A680, H⟩ := H
                          replace H : ((rat_Cmp.f t729 t730).bind fun t731 => (some (t731 == (wrap64 (t709 * t710))))) = some r := H
                          have A68 := Aside0.mk A680
                          clear A680
                          replace H := Option.bind_eq_some_iff.mp H
                          obtain ⟨t731, A690, H⟩ := H
                          replace H : (some (t731 == (wrap64 (t709 * t710)))) = some r := H
                          have A69 := Aside0.mk A690
                          clear A690
                          obtain rfl := Option.some.inj H
                          go_wp2_with (first | ((with_reducible refine gate_callee (f := 18) rfl ?_); refine goesL_ (some 54) rfl rfl Tryd.func18 (by kernel_rfl) rfl #[.string t703, .string t705] rfl (by (try simp only [List.map_toArray, List.map_cons, List.map_nil]); first | done | rfl | (simp only [List.length_drop, List.length_take]; rfl)) ?_; (with_reducible refine (rat_Cmp.calls t703 t705 t709 _ A20.out).mono ?_); rintro e w70 ⟨rfl, hb⟩; refine ⟨_, rfl, ?_⟩; have n0_ := Aside0.mk (below_step (by repeat (first | (with_reducible first | exact HB.out | apply below_alloc | apply pw_below_drewN | apply below_drew1) | exact HB.out)) hb); clear HB; have HB := n0_; clear n0_; (try clear hb); (try clear hb2); (try clear hk); (try clear hi)) | ((with_reducible refine gate_callee (f := 18) rfl ?_); refine goesL_ (some 56) rfl rfl Tryd.func18 (by kernel_rfl) rfl #[.string t707, .string (⟨#[48]⟩ : ByteArray)] rfl (by (try simp only [List.map_toArray, List.map_cons, List.map_nil]); first | done | rfl | (simp only [List.length_drop, List.length_take]; rfl)) ?_; (with_reducible refine (rat_Cmp.calls t707 (⟨#[48]⟩ : ByteArray) t710 _ A21.out).mono ?_); rintro e w71 ⟨rfl, hb⟩; refine ⟨_, rfl, ?_⟩; have n0_ := Aside0.mk (below_step (by repeat (first | (with_reducible first | exact HB.out | apply below_alloc | apply pw_below_drewN | apply below_drew1) | exact HB.out)) hb); clear HB; have HB := n0_; clear n0_; (try clear hb); (try clear hb2); (try clear hk); (try clear hi)) | (go_at_call 18; (with_reducible refine (rat_Cmp.calls t705 t703 t711 _ A23.out).mono ?_); rintro e w72 ⟨rfl, hb⟩; have n0_ := Aside0.mk (below_step (by repeat (first | (with_reducible first | exact HB.out | apply below_alloc | apply pw_below_drewN | apply below_drew1) | exact HB.out)) hb); clear HB; have HB := n0_; clear n0_; (try clear hb); (try clear hb2); (try clear hk); (try clear hi)) | (go_at_call 18; (with_reducible refine (rat_Cmp.calls t705 t707 t718 _ A42.out).mono ?_); rintro e w73 ⟨rfl, hb⟩; have n0_ := Aside0.mk (below_step (by repeat (first | (with_reducible first | exact HB.out | apply below_alloc | apply pw_below_drewN | apply below_drew1) | exact HB.out)) hb); clear HB; have HB := n0_; clear n0_; (try clear hb); (try clear hb2); (try clear hk); (try clear hi)) | (go_at_call 18; (with_reducible refine (rat_Cmp.calls t703 t707 t725 _ A61.out).mono ?_); rintro e w74 ⟨rfl, hb⟩; have n0_ := Aside0.mk (below_step (by repeat (first | (with_reducible first | exact HB.out | apply below_alloc | apply pw_below_drewN | apply below_drew1) | exact HB.out)) hb); clear HB; have HB := n0_; clear n0_; (try clear hb); (try clear hb2); (try clear hk); (try clear hi)) | (go_at_call 28; (with_reducible refine (tribunallaw03_plus.calls t703 t707 t726 _ A63.out).mono ?_); rintro e w75 ⟨rfl, hb⟩; have n0_ := Aside0.mk (below_step (by repeat (first | (with_reducible first | exact HB.out | apply below_alloc | apply pw_below_drewN | apply below_drew1) | exact HB.out)) hb); clear HB; have HB := n0_; clear n0_; (try clear hb); (try clear hb2); (try clear hk); (try clear hi)) | (go_at_call 28; (with_reducible refine (tribunallaw03_plus.calls t705 t707 t727 _ A64.out).mono ?_); rintro e w76 ⟨rfl, hb⟩; have n0_ := Aside0.mk (below_step (by repeat (first | (with_reducible first | exact HB.out | apply below_alloc | apply pw_below_drewN | apply below_drew1) | exact HB.out)) hb); clear HB; have HB := n0_; clear n0_; (try clear hb); (try clear hb2); (try clear hk); (try clear hi)) | (go_at_call 18; (with_reducible refine (rat_Cmp.calls t726 t727 t728 _ A65.out).mono ?_); rintro e w77 ⟨rfl, hb⟩; have n0_ := Aside0.mk (below_step (by repeat (first | (with_reducible first | exact HB.out | apply below_alloc | apply pw_below_drewN | apply below_drew1) | exact HB.out)) hb); clear HB; have HB := n0_; clear n0_; (try clear hb); (try clear hb2); (try clear hk); (try clear hi)) | (go_at_call 29; (with_reducible refine (tribunallaw03_times.calls t703 t707 t729 _ A67.out).mono ?_); rintro e w78 ⟨rfl, hb⟩; have n0_ := Aside0.mk (below_step (by repeat (first | (with_reducible first | exact HB.out | apply below_alloc | apply pw_below_drewN | apply below_drew1) | exact HB.out)) hb); clear HB; have HB := n0_; clear n0_; (try clear hb); (try clear hb2); (try clear hk); (try clear hi)) | (go_at_call 29; (with_reducible refine (tribunallaw03_times.calls t705 t707 t730 _ A68.out).mono ?_); rintro e w79 ⟨rfl, hb⟩; have n0_ := Aside0.mk (below_step (by repeat (first | (with_reducible first | exact HB.out | apply below_alloc | apply pw_below_drewN | apply below_drew1) | exact HB.out)) hb); clear HB; have HB := n0_; clear n0_; (try clear hb); (try clear hb2); (try clear hk); (try clear hi)) | (go_at_call 18; (with_reducible refine (rat_Cmp.calls t729 t730 t731 _ A69.out).mono ?_); rintro e w80 ⟨rfl, hb⟩; have n0_ := Aside0.mk (below_step (by repeat (first | (with_reducible first | exact HB.out | apply below_alloc | apply pw_below_drewN | apply below_drew1) | exact HB.out)) hb); clear HB; have HB := n0_; clear n0_; (try clear hb); (try clear hb2); (try clear hk); (try clear hi)))
                          go_ret
                          exact ⟨by first | rfl | (simp [errW_none, errW_some] <;> rfl) | (simp [*, errW_none, errW_some] <;> rfl), by repeat (first | (with_reducible first | exact HB.out | apply below_alloc | apply pw_below_drewN | apply below_drew1) | exact HB.out)⟩
                        · rw [if_neg c66] at H
                          exact absurd H (by simp)
                      · rw [if_neg c62] at H
                        exact absurd H (by simp)
                · rw [if_neg c24] at H
                  exact absurd H (by simp)
              · replace c22 := Bool.eq_false_iff.mpr c22
                subst c22
                have H1 : (none) = some r := by rw [if_neg (show ¬ (false = true) by decide)] at H; exact H
                clear H
                have H := H1
                clear H1
                exact absurd H (by simp)

/-- THE ONE PURE STATEMENT of tribunallaw03_RatOrder: yours. -/
def tribunallaw03_RatOrder.Pure : Prop := ∀ (a0 : ByteArray) (a1 : ByteArray) (a2 : ByteArray), a0.size ≤ 140737488351232 → a1.size ≤ 140737488351232 → a2.size ≤ 140737488351232 → ∃ k, tribunallaw03_RatOrder.f k a0 a1 a2 = some true
theorem tribunallaw03_RatOrder.walk (P : tribunallaw03_RatOrder.Pure) (a0 : ByteArray) (a1 : ByteArray) (a2 : ByteArray) (w : World) (w0 : a0.size ≤ 140737488351232) (w1 : a1.size ≤ 140737488351232) (w2 : a2.size ≤ 140737488351232) :
    Calls Tryd.prog 6 #[.string a0, .string a1, .string a2] w fun e w' => e = .returned (.bool true) ∧ Below w.heap.size w w' := by
  obtain ⟨k, h⟩ := P a0 a1 a2 w0 w1 w2
  refine (tribunallaw03_RatOrder.calls k a0 a1 a2 true w h).mono ?_
  rintro e w' ⟨rfl, hd⟩
  exact ⟨rfl, hd⟩

end Go.Proofs.YtfnhohpmhpbpmaaDoor.G
