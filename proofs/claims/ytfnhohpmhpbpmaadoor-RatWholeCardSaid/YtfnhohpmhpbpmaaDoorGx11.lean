-- Out of the translation, by a program of this repo (wip/tools/gprint.py). Lean checks it.
import Derived.Test.YtfnhohpmhpbpmaaDoorGx0
import Derived.Test.YtfnhohpmhpbpmaaDoorGx2
import Derived.Test.YtfnhohpmhpbpmaaDoorGx5
import Derived.Test.YtfnhohpmhpbpmaaDoorGx7
import Derived.Test.YtfnhohpmhpbpmaaDoorGRatTop
namespace Go.Proofs.YtfnhohpmhpbpmaaDoor.G
open Go.RowKit Go.Proofs.YtfnhohpmhpbpmaaDoorW.PrintWords Go.Proofs.YtfnhohpmhpbpmaaDoorW.PrintLast Go.Proofs.YtfnhohpmhpbpmaaDoorW.PrintMore
attribute [local go_sem] max2_int min2_int max_two min_two max_three min_three max_four min_four   -- for this text's walks alone
set_option linter.unusedVariables false
set_option linter.unusedSimpArgs false

/-! ### tribunallaw03_RatWhole: function 7 -/
def tribunallaw03_RatWhole.j0 : Nat → Int → Int → Bool → ByteArray → ByteArray → Int → Option (Bool)
  | 0, _, _, _, _, _, _ => none
  | k + 1, x0, x1, x5, x6, x7, x8 => if x5 = true then ((tribunallaw03_plus.f x6 x7).bind fun t365 => ((tribunallaw03_whole.f k (wrap64 ((wrap64 (x0)) + (wrap64 (x1))))).bind fun t366 => (if t365.toList = t366.toList then ((tribunallaw03_times.f x6 x7).bind fun t367 => ((tribunallaw03_whole.f k (wrap64 ((wrap64 (x0)) * (wrap64 (x1))))).bind fun t368 => (if t367.toList = t368.toList then ((rat_Cmp.f x6 x7).bind fun t369 => (if t369 = x8 then ((rat_Right.f x6).bind fun t370 => (some t370)) else (none))) else (none)))) else (none)))) else (none)
def tribunallaw03_RatWhole.f (k : Nat) (a0 : Int) (a1 : Int) : Option (Bool) := (tribunallaw03_head.f).bind fun t362 => ((tribunallaw03_whole.f k (wrap64 (a0))).bind fun t363 => ((tribunallaw03_whole.f k (wrap64 (a1))).bind fun t364 => (if a0 < a1 then (tribunallaw03_RatWhole.j0 k a0 a1 t362 t363 t364 (-1)) else (if a0 > a1 then (tribunallaw03_RatWhole.j0 k a0 a1 t362 t363 t364 1) else (tribunallaw03_RatWhole.j0 k a0 a1 t362 t363 t364 0)))))
theorem tribunallaw03_RatWhole.mono_l : ∀ k, (∀ y0 y1 y2 y3 y4 y5, LeO (tribunallaw03_RatWhole.j0 k y0 y1 y2 y3 y4 y5) (tribunallaw03_RatWhole.j0 (k + 1) y0 y1 y2 y3 y4 y5))
  | 0 => fun _ _ _ _ _ _ r h => by simp [tribunallaw03_RatWhole.j0] at h
  | k + 1 => by
    have ih0 := tribunallaw03_RatWhole.mono_l k
    · intro y0 y1 y2 y3 y4 y5
      unfold tribunallaw03_RatWhole.j0
      repeat' first
      | (with_reducible exact ih0 _ _ _ _ _ _)
      | (with_reducible exact tribunallaw03_whole.mono _ _)
      | (with_reducible exact LeO.refl _)
      | (with_reducible exact LeO.none _)
      | (with_reducible refine LeO.ite ?_ ?_)
      | (with_reducible refine LeO.bind ?_ (fun _ => ?_))
      | exact ih0 _ _ _ _ _ _
      | exact tribunallaw03_whole.mono _ _
      | exact LeO.none _
      | refine LeO.ite ?_ ?_
      | refine LeO.bind ?_ (fun _ => ?_)
theorem tribunallaw03_RatWhole.mono : ∀ a0 a1 k, LeO (tribunallaw03_RatWhole.f k a0 a1) (tribunallaw03_RatWhole.f (k + 1) a0 a1) := by
  intro a0 a1 k
  have ih0 := tribunallaw03_RatWhole.mono_l k
  unfold tribunallaw03_RatWhole.f
  repeat' first
      | (with_reducible exact ih0 _ _ _ _ _ _)
      | (with_reducible exact tribunallaw03_whole.mono _ _)
      | (with_reducible exact LeO.refl _)
      | (with_reducible exact LeO.none _)
      | (with_reducible refine LeO.ite ?_ ?_)
      | (with_reducible refine LeO.bind ?_ (fun _ => ?_))
      | exact ih0 _ _ _ _ _ _
      | exact tribunallaw03_whole.mono _ _
      | exact LeO.none _
      | refine LeO.ite ?_ ?_
      | refine LeO.bind ?_ (fun _ => ?_)
set_option maxHeartbeats 8000000 in
set_option maxRecDepth 100000 in
theorem tribunallaw03_RatWhole.calls (k : Nat) (a0 : Int) (a1 : Int) (r : Bool) (w : World) (h : tribunallaw03_RatWhole.f k a0 a1 = some r) :
    Calls Tryd.prog 7 #[.int .i32 a0, .int .i32 a1] w fun e w' => e = .returned (.bool r) ∧ Below w.heap.size w w' := by
  have HB := Aside0.mk (Below.refl w.heap.size w)
  have H : ((tribunallaw03_head.f).bind fun t362 => ((tribunallaw03_whole.f k (wrap64 (a0))).bind fun t363 => ((tribunallaw03_whole.f k (wrap64 (a1))).bind fun t364 => (if a0 < a1 then (tribunallaw03_RatWhole.j0 k a0 a1 t362 t363 t364 (-1)) else (if a0 > a1 then (tribunallaw03_RatWhole.j0 k a0 a1 t362 t363 t364 1) else (tribunallaw03_RatWhole.j0 k a0 a1 t362 t363 t364 0)))))) = some r := h
  clear h
  replace H := Option.bind_eq_some_iff.mp H
  obtain ⟨t362, A30, H⟩ := H
  replace H : ((tribunallaw03_whole.f k (wrap64 (a0))).bind fun t363 => ((tribunallaw03_whole.f k (wrap64 (a1))).bind fun t364 => (if a0 < a1 then (tribunallaw03_RatWhole.j0 k a0 a1 t362 t363 t364 (-1)) else (if a0 > a1 then (tribunallaw03_RatWhole.j0 k a0 a1 t362 t363 t364 1) else (tribunallaw03_RatWhole.j0 k a0 a1 t362 t363 t364 0))))) = some r := H
  have A3 := Aside0.mk A30
  clear A30
  replace H := Option.bind_eq_some_iff.mp H
  obtain ⟨t363, A40, H⟩ := H
  replace H : ((tribunallaw03_whole.f k (wrap64 (a1))).bind fun t364 => (if a0 < a1 then (tribunallaw03_RatWhole.j0 k a0 a1 t362 t363 t364 (-1)) else (if a0 > a1 then (tribunallaw03_RatWhole.j0 k a0 a1 t362 t363 t364 1) else (tribunallaw03_RatWhole.j0 k a0 a1 t362 t363 t364 0)))) = some r := H
  have A4 := Aside0.mk A40
  clear A40
  replace H := Option.bind_eq_some_iff.mp H
  obtain ⟨t364, A50, H⟩ := H
  replace H : (if a0 < a1 then (tribunallaw03_RatWhole.j0 k a0 a1 t362 t363 t364 (-1)) else (if a0 > a1 then (tribunallaw03_RatWhole.j0 k a0 a1 t362 t363 t364 1) else (tribunallaw03_RatWhole.j0 k a0 a1 t362 t363 t364 0))) = some r := H
  have A5 := Aside0.mk A50
  clear A50
  have HC6 := Aside0.mk H
  clear H
  go_enter Tryd.func7, Tryd.ntmps7
  go_upto_if 18 with (first | ((with_reducible refine gate_callee (f := 10) rfl ?_); refine goesL_ (some 9) rfl rfl Tryd.func10 (by kernel_rfl) rfl #[] rfl (by (try simp only [List.map_toArray, List.map_cons, List.map_nil]); first | done | rfl | (simp only [List.length_drop, List.length_take]; rfl)) ?_; (with_reducible refine (tribunallaw03_head.calls  t362 _ A3.out).mono ?_); rintro e w7 ⟨rfl, hb⟩; refine ⟨_, rfl, ?_⟩; have n0_ := Aside0.mk (below_step (by repeat (first | (with_reducible first | exact HB.out | apply below_alloc | apply pw_below_drewN | apply below_drew1) | exact HB.out)) hb); clear HB; have HB := n0_; clear n0_; (try clear hb); (try clear hb2); (try clear hk); (try clear hi)) | ((with_reducible refine gate_callee (f := 30) rfl ?_); refine goesL_ (some 12) rfl rfl Tryd.func30 (by kernel_rfl) rfl #[.int .i64 (wrap64 (a0))] rfl (by (try simp only [List.map_toArray, List.map_cons, List.map_nil]); first | done | rfl | (simp only [List.length_drop, List.length_take]; rfl)) ?_; (with_reducible refine (tribunallaw03_whole.calls k (wrap64 (a0)) t363 _ A4.out).mono ?_); rintro e w8 ⟨rfl, hb⟩; refine ⟨_, rfl, ?_⟩; have n0_ := Aside0.mk (below_step (by repeat (first | (with_reducible first | exact HB.out | apply below_alloc | apply pw_below_drewN | apply below_drew1) | exact HB.out)) hb); clear HB; have HB := n0_; clear n0_; (try clear hb); (try clear hb2); (try clear hk); (try clear hi)) | ((with_reducible refine gate_callee (f := 30) rfl ?_); refine goesL_ (some 15) rfl rfl Tryd.func30 (by kernel_rfl) rfl #[.int .i64 (wrap64 (a1))] rfl (by (try simp only [List.map_toArray, List.map_cons, List.map_nil]); first | done | rfl | (simp only [List.length_drop, List.length_take]; rfl)) ?_; (with_reducible refine (tribunallaw03_whole.calls k (wrap64 (a1)) t364 _ A5.out).mono ?_); rintro e w9 ⟨rfl, hb⟩; refine ⟨_, rfl, ?_⟩; have n0_ := Aside0.mk (below_step (by repeat (first | (with_reducible first | exact HB.out | apply below_alloc | apply pw_below_drewN | apply below_drew1) | exact HB.out)) hb); clear HB; have HB := n0_; clear n0_; (try clear hb); (try clear hb2); (try clear hk); (try clear hi)))
  (try simp only [Act.put, List.setIfInBounds_toArray, List.set_cons_zero, List.set_cons_succ])
  go_cut [8] (fun v8 wc => ∃ (kq : Nat) (x8_5 : Int), v8 = .int .i64 x8_5 ∧ Aside0 (tribunallaw03_RatWhole.j0 kq a0 a1 t362 t363 t364 x8_5 = some r) ∧ Aside0 (kq ≤ k) ∧ Aside0 (Below w.heap.size w wc))
  case first =>
    have H := HC6.out
    clear HC6
    by_cases c10 : a0 < a1
    · rw [if_pos c10] at H
      have c10b0 : decide (a0 < a1) = true := decide_eq_true c10
      clear c10
      (first | rw [c10b0] | (simp only [i64_w, i32_w]; rw [c10b0]) | skip)
      have H' := Aside0.mk H
      clear H
      go_wp2
      go_meet
      case rel => exact ⟨_, ((-1)), (by first | rfl | (simp; done) | (simp [*]; done)), H', ⟨by first | omega | exact Nat.le_refl _⟩, ⟨by repeat (first | (with_reducible first | exact HB.out | apply below_alloc | apply pw_below_drewN | apply below_drew1) | exact HB.out)⟩⟩
    · rw [if_neg c10] at H
      have c10b0 : decide (a0 < a1) = false := decide_eq_false c10
      clear c10
      (first | rw [c10b0] | (simp only [i64_w, i32_w]; rw [c10b0]) | skip)
      by_cases c11 : a0 > a1
      · rw [if_pos c11] at H
        have c11b0 : decide (a1 < a0) = true := decide_eq_true c11
        clear c11
        have H' := Aside0.mk H
        clear H
        go_wp2
        go_meet
        case rel => exact ⟨_, (1), (by first | rfl | (simp; done) | (simp [*]; done)), H', ⟨by first | omega | exact Nat.le_refl _⟩, ⟨by repeat (first | (with_reducible first | exact HB.out | apply below_alloc | apply pw_below_drewN | apply below_drew1) | exact HB.out)⟩⟩
      · rw [if_neg c11] at H
        have c11b0 : decide (a1 < a0) = false := decide_eq_false c11
        clear c11
        have H' := Aside0.mk H
        clear H
        go_wp2
        go_meet
        case rel => exact ⟨_, (0), (by first | rfl | (simp; done) | (simp [*]; done)), H', ⟨by first | omega | exact Nat.le_refl _⟩, ⟨by repeat (first | (with_reducible first | exact HB.out | apply below_alloc | apply pw_below_drewN | apply below_drew1) | exact HB.out)⟩⟩
  case rest =>
    clear HC6
    try clear c1
    try clear p2
    try clear c3
    try clear p6
    try clear c7
    try clear c10
    try clear c10b0
    try clear c11
    try clear c11b0
    obtain ⟨kq, x8_5, rfl, HA, HJ5, HB⟩ := hcut
    cases kq with
    | zero => exact absurd HA.out (by simp [tribunallaw03_RatWhole.j0])
    | succ kj5 =>
      have H := HA.out
      clear HA
      simp only [tribunallaw03_RatWhole.j0] at H
      by_cases c12 : t362 = true
      · subst c12
        have H1 : ((tribunallaw03_plus.f t363 t364).bind fun t365 => ((tribunallaw03_whole.f kj5 (wrap64 ((wrap64 (a0)) + (wrap64 (a1))))).bind fun t366 => (if t365.toList = t366.toList then ((tribunallaw03_times.f t363 t364).bind fun t367 => ((tribunallaw03_whole.f kj5 (wrap64 ((wrap64 (a0)) * (wrap64 (a1))))).bind fun t368 => (if t367.toList = t368.toList then ((rat_Cmp.f t363 t364).bind fun t369 => (if t369 = x8_5 then ((rat_Right.f t363).bind fun t370 => (some t370)) else (none))) else (none)))) else (none)))) = some r := by rw [if_pos rfl] at H; exact H
        clear H
        have H := H1
        clear H1
        replace H := Option.bind_eq_some_iff.mp H
        obtain ⟨t365, A130, H⟩ := H
        replace H : ((tribunallaw03_whole.f kj5 (wrap64 ((wrap64 (a0)) + (wrap64 (a1))))).bind fun t366 => (if t365.toList = t366.toList then ((tribunallaw03_times.f t363 t364).bind fun t367 => ((tribunallaw03_whole.f kj5 (wrap64 ((wrap64 (a0)) * (wrap64 (a1))))).bind fun t368 => (if t367.toList = t368.toList then ((rat_Cmp.f t363 t364).bind fun t369 => (if t369 = x8_5 then ((rat_Right.f t363).bind fun t370 => (some t370)) else (none))) else (none)))) else (none))) = some r := H
        have A13 := Aside0.mk A130
        clear A130
        replace H := Option.bind_eq_some_iff.mp H
        obtain ⟨t366, A140, H⟩ := H
        replace H : (if t365.toList = t366.toList then ((tribunallaw03_times.f t363 t364).bind fun t367 => ((tribunallaw03_whole.f kj5 (wrap64 ((wrap64 (a0)) * (wrap64 (a1))))).bind fun t368 => (if t367.toList = t368.toList then ((rat_Cmp.f t363 t364).bind fun t369 => (if t369 = x8_5 then ((rat_Right.f t363).bind fun t370 => (some t370)) else (none))) else (none)))) else (none)) = some r := H
        have A14 := Aside0.mk A140
        clear A140
        by_cases c15 : t365.toList = t366.toList
        · rw [if_pos c15] at H
          have c15b0 : (t365.toList == t366.toList) = true := beq_iff_eq.mpr c15
          have c15b1 : (t365.toList != t366.toList) = false := bne_eq_false_iff_eq.mpr c15
          clear c15
          replace H := Option.bind_eq_some_iff.mp H
          obtain ⟨t367, A160, H⟩ := H
          replace H : ((tribunallaw03_whole.f kj5 (wrap64 ((wrap64 (a0)) * (wrap64 (a1))))).bind fun t368 => (if t367.toList = t368.toList then ((rat_Cmp.f t363 t364).bind fun t369 => (if t369 = x8_5 then ((rat_Right.f t363).bind fun t370 => (some t370)) else (none))) else (none))) = some r := H
          have A16 := Aside0.mk A160
          clear A160
          replace H := Option.bind_eq_some_iff.mp H
          obtain ⟨t368, A170, H⟩ := H
          replace H : (if t367.toList = t368.toList then ((rat_Cmp.f t363 t364).bind fun t369 => (if t369 = x8_5 then ((rat_Right.f t363).bind fun t370 => (some t370)) else (none))) else (none)) = some r := H
          have A17 := Aside0.mk A170
          clear A170
          by_cases c18 : t367.toList = t368.toList
          · rw [if_pos c18] at H
            have c18b0 : (t367.toList == t368.toList) = true := beq_iff_eq.mpr c18
            have c18b1 : (t367.toList != t368.toList) = false := bne_eq_false_iff_eq.mpr c18
            clear c18
            replace H := Option.bind_eq_some_iff.mp H
            obtain ⟨t369, A190, H⟩ := H
            replace H : (if t369 = x8_5 then ((rat_Right.f t363).bind fun t370 => (some t370)) else (none)) = some r := H
            have A19 := Aside0.mk A190
            clear A190
            by_cases c20 : t369 = x8_5
            · rw [if_pos c20] at H
              have c20b0 : (t369 == x8_5) = true := beq_iff_eq.mpr c20
              have c20b1 : (t369 != x8_5) = false := bne_eq_false_iff_eq.mpr c20
              clear c20
              replace H := Option.bind_eq_some_iff.mp H
              obtain ⟨t370, A210, H⟩ := H
              replace H : (some t370) = some r := H
              have A21 := Aside0.mk A210
              clear A210
              obtain rfl := Option.some.inj H
              go_wp2_with (first | (go_at_call 28; (with_reducible refine (tribunallaw03_plus.calls t363 t364 t365 _ A13.out).mono ?_); rintro e w22 ⟨rfl, hb⟩; have n0_ := Aside0.mk (below_step (by repeat (first | (with_reducible first | exact HB.out | apply below_alloc | apply pw_below_drewN | apply below_drew1) | exact HB.out)) hb); clear HB; have HB := n0_; clear n0_; (try clear hb); (try clear hb2); (try clear hk); (try clear hi)) | (go_at_call 30; (with_reducible refine (tribunallaw03_whole.calls kj5 (wrap64 ((wrap64 (a0)) + (wrap64 (a1)))) t366 _ A14.out).mono ?_); rintro e w23 ⟨rfl, hb⟩; have n0_ := Aside0.mk (below_step (by repeat (first | (with_reducible first | exact HB.out | apply below_alloc | apply pw_below_drewN | apply below_drew1) | exact HB.out)) hb); clear HB; have HB := n0_; clear n0_; (try clear hb); (try clear hb2); (try clear hk); (try clear hi)) | (go_at_call 29; (with_reducible refine (tribunallaw03_times.calls t363 t364 t367 _ A16.out).mono ?_); rintro e w24 ⟨rfl, hb⟩; have n0_ := Aside0.mk (below_step (by repeat (first | (with_reducible first | exact HB.out | apply below_alloc | apply pw_below_drewN | apply below_drew1) | exact HB.out)) hb); clear HB; have HB := n0_; clear n0_; (try clear hb); (try clear hb2); (try clear hk); (try clear hi)) | (go_at_call 30; (with_reducible refine (tribunallaw03_whole.calls kj5 (wrap64 ((wrap64 (a0)) * (wrap64 (a1)))) t368 _ A17.out).mono ?_); rintro e w25 ⟨rfl, hb⟩; have n0_ := Aside0.mk (below_step (by repeat (first | (with_reducible first | exact HB.out | apply below_alloc | apply pw_below_drewN | apply below_drew1) | exact HB.out)) hb); clear HB; have HB := n0_; clear n0_; (try clear hb); (try clear hb2); (try clear hk); (try clear hi)) | (go_at_call 18; (with_reducible refine (rat_Cmp.calls t363 t364 t369 _ A19.out).mono ?_); rintro e w26 ⟨rfl, hb⟩; have n0_ := Aside0.mk (below_step (by repeat (first | (with_reducible first | exact HB.out | apply below_alloc | apply pw_below_drewN | apply below_drew1) | exact HB.out)) hb); clear HB; have HB := n0_; clear n0_; (try clear hb); (try clear hb2); (try clear hk); (try clear hi)) | (go_at_call 16; (with_reducible refine (rat_Right.calls t363 t370 _ A21.out).mono ?_); rintro e w27 ⟨rfl, hb⟩; have n0_ := Aside0.mk (below_step (by repeat (first | (with_reducible first | exact HB.out | apply below_alloc | apply pw_below_drewN | apply below_drew1) | exact HB.out)) hb); clear HB; have HB := n0_; clear n0_; (try clear hb); (try clear hb2); (try clear hk); (try clear hi)))
              go_ret
              exact ⟨by first | rfl | (simp [errW_none, errW_some] <;> rfl) | (simp [*, errW_none, errW_some] <;> rfl), by repeat (first | (with_reducible first | exact HB.out | apply below_alloc | apply pw_below_drewN | apply below_drew1) | exact HB.out)⟩
            · rw [if_neg c20] at H
              exact absurd H (by simp)
          · rw [if_neg c18] at H
            exact absurd H (by simp)
        · rw [if_neg c15] at H
          exact absurd H (by simp)
      · replace c12 := Bool.eq_false_iff.mpr c12
        subst c12
        have H1 : (none) = some r := by rw [if_neg (show ¬ (false = true) by decide)] at H; exact H
        clear H
        have H := H1
        clear H1
        exact absurd H (by simp)

/-- THE ONE PURE STATEMENT of tribunallaw03_RatWhole: yours. -/
def tribunallaw03_RatWhole.Pure : Prop := ∀ (a0 : Int) (a1 : Int), (Lit.int .i32 a0).wf = true → (Lit.int .i32 a1).wf = true → ∃ k, tribunallaw03_RatWhole.f k a0 a1 = some true
theorem tribunallaw03_RatWhole.walk (P : tribunallaw03_RatWhole.Pure) (a0 : Int) (a1 : Int) (w : World) (w0 : (Lit.int .i32 a0).wf = true) (w1 : (Lit.int .i32 a1).wf = true) :
    Calls Tryd.prog 7 #[.int .i32 a0, .int .i32 a1] w fun e w' => e = .returned (.bool true) ∧ Below w.heap.size w w' := by
  obtain ⟨k, h⟩ := P a0 a1 w0 w1
  refine (tribunallaw03_RatWhole.calls k a0 a1 true w h).mono ?_
  rintro e w' ⟨rfl, hd⟩
  exact ⟨rfl, hd⟩

end Go.Proofs.YtfnhohpmhpbpmaaDoor.G
