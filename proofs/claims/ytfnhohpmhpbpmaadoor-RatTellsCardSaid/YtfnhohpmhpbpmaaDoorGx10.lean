-- Out of the translation, by a program of this repo (wip/tools/gprint.py). Lean checks it.
import Derived.Test.YtfnhohpmhpbpmaaDoorGx0
import Derived.Test.YtfnhohpmhpbpmaaDoorGx1
import Derived.Test.YtfnhohpmhpbpmaaDoorGx9
import Derived.Test.YtfnhohpmhpbpmaaDoorGRatTop
import Derived.Test.YtfnhohpmhpbpmaaDoorGRefRat3
import Derived.Test.YtfnhohpmhpbpmaaDoorGRefRat4
namespace Go.Proofs.YtfnhohpmhpbpmaaDoor.G
open Go.RowKit Go.Proofs.YtfnhohpmhpbpmaaDoorW.PrintWords Go.Proofs.YtfnhohpmhpbpmaaDoorW.PrintLast Go.Proofs.YtfnhohpmhpbpmaaDoorW.PrintMore
attribute [local go_sem] max2_int min2_int max_two min_two max_three min_three max_four min_four   -- for this text's walks alone
set_option linter.unusedVariables false
set_option linter.unusedSimpArgs false

/-! ### tribunallaw03_RatTells: function 3 -/
def tribunallaw03_RatTells.j0 : Nat → ByteArray → ByteArray → Bool → Bool → Option (Bool)
  | 0, _, _, _, _ => none
  | k + 1, x0, x1, x5, x86 => if x86 = true then (none) else ((rat_Sub.f x0 x1).bind fun bt389 => ((tribunalref03_Sub.f x0 x1).bind fun bt391 => ((rat_Mul.f x0 x1).bind fun bt393 => ((tribunalref03_Mul.f x0 x1).bind fun bt395 => ((rat_Div.f x0 x1).bind fun bt397 => ((tribunalref03_Div.f x0 x1).bind fun bt399 => ((rat_Neg.f x0).bind fun bt401 => ((tribunalref03_Neg.f x0).bind fun bt403 => (if x5 = true then (if bt389.1.toList = bt391.1.toList then (if bt389.2 = bt391.2 then (if bt393.1.toList = bt395.1.toList then (if bt393.2 = bt395.2 then (if bt397.1.toList = bt399.1.toList then (if bt397.2 = bt399.2 then (if bt401.1.toList = bt403.1.toList then (some (bt401.2 == bt403.2)) else (none)) else (none)) else (none)) else (none)) else (none)) else (none)) else (none)) else (none))))))))))
def tribunallaw03_RatTells.f (k : Nat) (a0 : ByteArray) (a1 : ByteArray) : Option (Bool) := (tribunallaw03_head.f).bind fun t375 => ((tribunallaw03_Great.f a0 a1).bind fun t376 => (if t376 = true then (some t375) else ((rat_Norm.f a0).bind fun bt377 => ((tribunalref03_Norm.f a0).bind fun bt379 => ((rat_Add.f a0 a1).bind fun bt381 => ((tribunalref03_Add.f a0 a1).bind fun bt383 => (if bt377.1.toList = bt379.1.toList then (if bt377.2 = bt379.2 then (if bt381.1.toList = bt383.1.toList then (if bt381.2 = bt383.2 then ((rat_Right.f a0).bind fun t385 => ((tribunalref03_Right.f a0).bind fun t386 => (if (t385 != t386) = true then (tribunallaw03_RatTells.j0 k a0 a1 t375 true) else ((rat_Cmp.f a0 a1).bind fun t387 => ((tribunalref03_Cmp.f a0 a1).bind fun t388 => (tribunallaw03_RatTells.j0 k a0 a1 t375 (t387 != t388))))))) else (tribunallaw03_RatTells.j0 k a0 a1 t375 true)) else (tribunallaw03_RatTells.j0 k a0 a1 t375 true)) else (tribunallaw03_RatTells.j0 k a0 a1 t375 true)) else (tribunallaw03_RatTells.j0 k a0 a1 t375 true))))))))
theorem tribunallaw03_RatTells.mono_l : ∀ k, (∀ y0 y1 y2 y3, LeO (tribunallaw03_RatTells.j0 k y0 y1 y2 y3) (tribunallaw03_RatTells.j0 (k + 1) y0 y1 y2 y3))
  | 0 => fun _ _ _ _ r h => by simp [tribunallaw03_RatTells.j0] at h
  | k + 1 => by
    have ih0 := tribunallaw03_RatTells.mono_l k
    · intro y0 y1 y2 y3
      unfold tribunallaw03_RatTells.j0
      repeat' first
      | (with_reducible exact ih0 _ _ _ _)
      | (with_reducible exact LeO.refl _)
      | (with_reducible exact LeO.none _)
      | (with_reducible refine LeO.ite ?_ ?_)
      | (with_reducible refine LeO.bind ?_ (fun _ => ?_))
      | exact ih0 _ _ _ _
      | exact LeO.none _
      | refine LeO.ite ?_ ?_
      | refine LeO.bind ?_ (fun _ => ?_)
theorem tribunallaw03_RatTells.mono : ∀ a0 a1 k, LeO (tribunallaw03_RatTells.f k a0 a1) (tribunallaw03_RatTells.f (k + 1) a0 a1) := by
  intro a0 a1 k
  have ih0 := tribunallaw03_RatTells.mono_l k
  unfold tribunallaw03_RatTells.f
  repeat' first
      | (with_reducible exact ih0 _ _ _ _)
      | (with_reducible exact LeO.refl _)
      | (with_reducible exact LeO.none _)
      | (with_reducible refine LeO.ite ?_ ?_)
      | (with_reducible refine LeO.bind ?_ (fun _ => ?_))
      | exact ih0 _ _ _ _
      | exact LeO.none _
      | refine LeO.ite ?_ ?_
      | refine LeO.bind ?_ (fun _ => ?_)
set_option maxHeartbeats 8000000 in
set_option maxRecDepth 100000 in
theorem tribunallaw03_RatTells.calls (k : Nat) (a0 : ByteArray) (a1 : ByteArray) (r : Bool) (w : World) (h : tribunallaw03_RatTells.f k a0 a1 = some r) :
    Calls Tryd.prog 3 #[.string a0, .string a1] w fun e w' => e = .returned (.bool r) ∧ Below w.heap.size w w' := by
  have HB := Aside0.mk (Below.refl w.heap.size w)
  have H : ((tribunallaw03_head.f).bind fun t375 => ((tribunallaw03_Great.f a0 a1).bind fun t376 => (if t376 = true then (some t375) else ((rat_Norm.f a0).bind fun bt377 => ((tribunalref03_Norm.f a0).bind fun bt379 => ((rat_Add.f a0 a1).bind fun bt381 => ((tribunalref03_Add.f a0 a1).bind fun bt383 => (if bt377.1.toList = bt379.1.toList then (if bt377.2 = bt379.2 then (if bt381.1.toList = bt383.1.toList then (if bt381.2 = bt383.2 then ((rat_Right.f a0).bind fun t385 => ((tribunalref03_Right.f a0).bind fun t386 => (if (t385 != t386) = true then (tribunallaw03_RatTells.j0 k a0 a1 t375 true) else ((rat_Cmp.f a0 a1).bind fun t387 => ((tribunalref03_Cmp.f a0 a1).bind fun t388 => (tribunallaw03_RatTells.j0 k a0 a1 t375 (t387 != t388))))))) else (tribunallaw03_RatTells.j0 k a0 a1 t375 true)) else (tribunallaw03_RatTells.j0 k a0 a1 t375 true)) else (tribunallaw03_RatTells.j0 k a0 a1 t375 true)) else (tribunallaw03_RatTells.j0 k a0 a1 t375 true))))))))) = some r := h
  clear h
  replace H := Option.bind_eq_some_iff.mp H
  obtain ⟨t375, A30, H⟩ := H
  replace H : ((tribunallaw03_Great.f a0 a1).bind fun t376 => (if t376 = true then (some t375) else ((rat_Norm.f a0).bind fun bt377 => ((tribunalref03_Norm.f a0).bind fun bt379 => ((rat_Add.f a0 a1).bind fun bt381 => ((tribunalref03_Add.f a0 a1).bind fun bt383 => (if bt377.1.toList = bt379.1.toList then (if bt377.2 = bt379.2 then (if bt381.1.toList = bt383.1.toList then (if bt381.2 = bt383.2 then ((rat_Right.f a0).bind fun t385 => ((tribunalref03_Right.f a0).bind fun t386 => (if (t385 != t386) = true then (tribunallaw03_RatTells.j0 k a0 a1 t375 true) else ((rat_Cmp.f a0 a1).bind fun t387 => ((tribunalref03_Cmp.f a0 a1).bind fun t388 => (tribunallaw03_RatTells.j0 k a0 a1 t375 (t387 != t388))))))) else (tribunallaw03_RatTells.j0 k a0 a1 t375 true)) else (tribunallaw03_RatTells.j0 k a0 a1 t375 true)) else (tribunallaw03_RatTells.j0 k a0 a1 t375 true)) else (tribunallaw03_RatTells.j0 k a0 a1 t375 true)))))))) = some r := H
  have A3 := Aside0.mk A30
  clear A30
  replace H := Option.bind_eq_some_iff.mp H
  obtain ⟨t376, A40, H⟩ := H
  replace H : (if t376 = true then (some t375) else ((rat_Norm.f a0).bind fun bt377 => ((tribunalref03_Norm.f a0).bind fun bt379 => ((rat_Add.f a0 a1).bind fun bt381 => ((tribunalref03_Add.f a0 a1).bind fun bt383 => (if bt377.1.toList = bt379.1.toList then (if bt377.2 = bt379.2 then (if bt381.1.toList = bt383.1.toList then (if bt381.2 = bt383.2 then ((rat_Right.f a0).bind fun t385 => ((tribunalref03_Right.f a0).bind fun t386 => (if (t385 != t386) = true then (tribunallaw03_RatTells.j0 k a0 a1 t375 true) else ((rat_Cmp.f a0 a1).bind fun t387 => ((tribunalref03_Cmp.f a0 a1).bind fun t388 => (tribunallaw03_RatTells.j0 k a0 a1 t375 (t387 != t388))))))) else (tribunallaw03_RatTells.j0 k a0 a1 t375 true)) else (tribunallaw03_RatTells.j0 k a0 a1 t375 true)) else (tribunallaw03_RatTells.j0 k a0 a1 t375 true)) else (tribunallaw03_RatTells.j0 k a0 a1 t375 true))))))) = some r := H
  have A4 := Aside0.mk A40
  clear A40
  by_cases c5 : t376 = true
  · subst c5
    have H1 : (some t375) = some r := by rw [if_pos rfl] at H; exact H
    clear H
    have H := H1
    clear H1
    obtain rfl := Option.some.inj H
    go_enter Tryd.func3, Tryd.ntmps3
    go_wp2_with (first | ((with_reducible refine gate_callee (f := 10) rfl ?_); refine goesL_ (some 26) rfl rfl Tryd.func10 (by kernel_rfl) rfl #[] rfl (by (try simp only [List.map_toArray, List.map_cons, List.map_nil]); first | done | rfl | (simp only [List.length_drop, List.length_take]; rfl)) ?_; (with_reducible refine (tribunallaw03_head.calls  t375 _ A3.out).mono ?_); rintro e w6 ⟨rfl, hb⟩; refine ⟨_, rfl, ?_⟩; have n0_ := Aside0.mk (below_step (by repeat (first | (with_reducible first | exact HB.out | apply below_alloc | apply pw_below_drewN | apply below_drew1) | exact HB.out)) hb); clear HB; have HB := n0_; clear n0_; (try clear hb); (try clear hb2); (try clear hk); (try clear hi)) | ((with_reducible refine gate_callee (f := 11) rfl ?_); refine goesL_ (some 29) rfl rfl Tryd.func11 (by kernel_rfl) rfl #[.string a0, .string a1] rfl (by (try simp only [List.map_toArray, List.map_cons, List.map_nil]); first | done | rfl | (simp only [List.length_drop, List.length_take]; rfl)) ?_; (with_reducible refine (tribunallaw03_Great.calls a0 a1 true _ A4.out).mono ?_); rintro e w' ⟨rfl, ⟨nd, rfl⟩⟩; refine ⟨_, rfl, ?_⟩))
    go_ret
    exact ⟨by first | rfl | (simp [errW_none, errW_some] <;> rfl) | (simp [*, errW_none, errW_some] <;> rfl), by repeat (first | (with_reducible first | exact HB.out | apply below_alloc | apply pw_below_drewN | apply below_drew1) | exact HB.out)⟩
  · replace c5 := Bool.eq_false_iff.mpr c5
    subst c5
    have H1 : ((rat_Norm.f a0).bind fun bt377 => ((tribunalref03_Norm.f a0).bind fun bt379 => ((rat_Add.f a0 a1).bind fun bt381 => ((tribunalref03_Add.f a0 a1).bind fun bt383 => (if bt377.1.toList = bt379.1.toList then (if bt377.2 = bt379.2 then (if bt381.1.toList = bt383.1.toList then (if bt381.2 = bt383.2 then ((rat_Right.f a0).bind fun t385 => ((tribunalref03_Right.f a0).bind fun t386 => (if (t385 != t386) = true then (tribunallaw03_RatTells.j0 k a0 a1 t375 true) else ((rat_Cmp.f a0 a1).bind fun t387 => ((tribunalref03_Cmp.f a0 a1).bind fun t388 => (tribunallaw03_RatTells.j0 k a0 a1 t375 (t387 != t388))))))) else (tribunallaw03_RatTells.j0 k a0 a1 t375 true)) else (tribunallaw03_RatTells.j0 k a0 a1 t375 true)) else (tribunallaw03_RatTells.j0 k a0 a1 t375 true)) else (tribunallaw03_RatTells.j0 k a0 a1 t375 true)))))) = some r := by rw [if_neg (show ¬ (false = true) by decide)] at H; exact H
    clear H
    have H := H1
    clear H1
    replace H := Option.bind_eq_some_iff.mp H
    obtain ⟨⟨t377, t378⟩, A70, H⟩ := H
    replace H : ((tribunalref03_Norm.f a0).bind fun bt379 => ((rat_Add.f a0 a1).bind fun bt381 => ((tribunalref03_Add.f a0 a1).bind fun bt383 => (if t377.toList = bt379.1.toList then (if t378 = bt379.2 then (if bt381.1.toList = bt383.1.toList then (if bt381.2 = bt383.2 then ((rat_Right.f a0).bind fun t385 => ((tribunalref03_Right.f a0).bind fun t386 => (if (t385 != t386) = true then (tribunallaw03_RatTells.j0 k a0 a1 t375 true) else ((rat_Cmp.f a0 a1).bind fun t387 => ((tribunalref03_Cmp.f a0 a1).bind fun t388 => (tribunallaw03_RatTells.j0 k a0 a1 t375 (t387 != t388))))))) else (tribunallaw03_RatTells.j0 k a0 a1 t375 true)) else (tribunallaw03_RatTells.j0 k a0 a1 t375 true)) else (tribunallaw03_RatTells.j0 k a0 a1 t375 true)) else (tribunallaw03_RatTells.j0 k a0 a1 t375 true))))) = some r := H
    have A7 := Aside0.mk A70
    clear A70
    replace H := Option.bind_eq_some_iff.mp H
    obtain ⟨⟨t379, t380⟩, A80, H⟩ := H
    replace H : ((rat_Add.f a0 a1).bind fun bt381 => ((tribunalref03_Add.f a0 a1).bind fun bt383 => (if t377.toList = t379.toList then (if t378 = t380 then (if bt381.1.toList = bt383.1.toList then (if bt381.2 = bt383.2 then ((rat_Right.f a0).bind fun t385 => ((tribunalref03_Right.f a0).bind fun t386 => (if (t385 != t386) = true then (tribunallaw03_RatTells.j0 k a0 a1 t375 true) else ((rat_Cmp.f a0 a1).bind fun t387 => ((tribunalref03_Cmp.f a0 a1).bind fun t388 => (tribunallaw03_RatTells.j0 k a0 a1 t375 (t387 != t388))))))) else (tribunallaw03_RatTells.j0 k a0 a1 t375 true)) else (tribunallaw03_RatTells.j0 k a0 a1 t375 true)) else (tribunallaw03_RatTells.j0 k a0 a1 t375 true)) else (tribunallaw03_RatTells.j0 k a0 a1 t375 true)))) = some r := H
    have A8 := Aside0.mk A80
    clear A80
    replace H := Option.bind_eq_some_iff.mp H
    obtain ⟨⟨t381, t382⟩, A90, H⟩ := H
    replace H : ((tribunalref03_Add.f a0 a1).bind fun bt383 => (if t377.toList = t379.toList then (if t378 = t380 then (if t381.toList = bt383.1.toList then (if t382 = bt383.2 then ((rat_Right.f a0).bind fun t385 => ((tribunalref03_Right.f a0).bind fun t386 => (if (t385 != t386) = true then (tribunallaw03_RatTells.j0 k a0 a1 t375 true) else ((rat_Cmp.f a0 a1).bind fun t387 => ((tribunalref03_Cmp.f a0 a1).bind fun t388 => (tribunallaw03_RatTells.j0 k a0 a1 t375 (t387 != t388))))))) else (tribunallaw03_RatTells.j0 k a0 a1 t375 true)) else (tribunallaw03_RatTells.j0 k a0 a1 t375 true)) else (tribunallaw03_RatTells.j0 k a0 a1 t375 true)) else (tribunallaw03_RatTells.j0 k a0 a1 t375 true))) = some r := H
    have A9 := Aside0.mk A90
    clear A90
    replace H := Option.bind_eq_some_iff.mp H
    obtain ⟨⟨t383, t384⟩, A100, H⟩ := H
    replace H : (if t377.toList = t379.toList then (if t378 = t380 then (if t381.toList = t383.toList then (if t382 = t384 then ((rat_Right.f a0).bind fun t385 => ((tribunalref03_Right.f a0).bind fun t386 => (if (t385 != t386) = true then (tribunallaw03_RatTells.j0 k a0 a1 t375 true) else ((rat_Cmp.f a0 a1).bind fun t387 => ((tribunalref03_Cmp.f a0 a1).bind fun t388 => (tribunallaw03_RatTells.j0 k a0 a1 t375 (t387 != t388))))))) else (tribunallaw03_RatTells.j0 k a0 a1 t375 true)) else (tribunallaw03_RatTells.j0 k a0 a1 t375 true)) else (tribunallaw03_RatTells.j0 k a0 a1 t375 true)) else (tribunallaw03_RatTells.j0 k a0 a1 t375 true)) = some r := H
    have A10 := Aside0.mk A100
    clear A100
    have HC11 := Aside0.mk H
    clear H
    go_enter Tryd.func3, Tryd.ntmps3
    go_upto_region 8 with (first | ((with_reducible refine gate_callee (f := 10) rfl ?_); refine goesL_ (some 26) rfl rfl Tryd.func10 (by kernel_rfl) rfl #[] rfl (by (try simp only [List.map_toArray, List.map_cons, List.map_nil]); first | done | rfl | (simp only [List.length_drop, List.length_take]; rfl)) ?_; (with_reducible refine (tribunallaw03_head.calls  t375 _ A3.out).mono ?_); rintro e w12 ⟨rfl, hb⟩; refine ⟨_, rfl, ?_⟩; have n0_ := Aside0.mk (below_step (by repeat (first | (with_reducible first | exact HB.out | apply below_alloc | apply pw_below_drewN | apply below_drew1) | exact HB.out)) hb); clear HB; have HB := n0_; clear n0_; (try clear hb); (try clear hb2); (try clear hk); (try clear hi)) | ((with_reducible refine gate_callee (f := 11) rfl ?_); refine goesL_ (some 29) rfl rfl Tryd.func11 (by kernel_rfl) rfl #[.string a0, .string a1] rfl (by (try simp only [List.map_toArray, List.map_cons, List.map_nil]); first | done | rfl | (simp only [List.length_drop, List.length_take]; rfl)) ?_; (with_reducible refine (tribunallaw03_Great.calls a0 a1 false _ A4.out).mono ?_); rintro e w' ⟨rfl, ⟨nd, rfl⟩⟩; refine ⟨_, rfl, ?_⟩) | ((with_reducible refine gate_callee (f := 12) rfl ?_); refine goesL_ (some 33) rfl rfl Tryd.func12 (by kernel_rfl) rfl #[.string a0] rfl (by (try simp only [List.map_toArray, List.map_cons, List.map_nil]); first | done | rfl | (simp only [List.length_drop, List.length_take]; rfl)) ?_; (with_reducible refine (rat_Norm.calls a0 t377 t378 _ A7.out).mono ?_); rintro e w13 ⟨rfl, hb⟩; refine ⟨_, rfl, ?_⟩; have n0_ := Aside0.mk (below_step (by repeat (first | (with_reducible first | exact HB.out | apply below_alloc | apply pw_below_drewN | apply below_drew1) | exact HB.out)) hb); clear HB; have HB := n0_; clear n0_; (try clear hb); (try clear hb2); (try clear hk); (try clear hi)) | ((with_reducible refine gate_callee (f := 13) rfl ?_); refine goesL_ (some 38) rfl rfl Tryd.func13 (by kernel_rfl) rfl #[.string a0] rfl (by (try simp only [List.map_toArray, List.map_cons, List.map_nil]); first | done | rfl | (simp only [List.length_drop, List.length_take]; rfl)) ?_; (with_reducible refine (tribunalref03_Norm.calls a0 t379 t380 _ A8.out).mono ?_); rintro e w14 ⟨rfl, hb⟩; refine ⟨_, rfl, ?_⟩; have n0_ := Aside0.mk (below_step (by repeat (first | (with_reducible first | exact HB.out | apply below_alloc | apply pw_below_drewN | apply below_drew1) | exact HB.out)) hb); clear HB; have HB := n0_; clear n0_; (try clear hb); (try clear hb2); (try clear hk); (try clear hi)) | ((with_reducible refine gate_callee (f := 14) rfl ?_); refine goesL_ (some 44) rfl rfl Tryd.func14 (by kernel_rfl) rfl #[.string a0, .string a1] rfl (by (try simp only [List.map_toArray, List.map_cons, List.map_nil]); first | done | rfl | (simp only [List.length_drop, List.length_take]; rfl)) ?_; (with_reducible refine (rat_Add.calls a0 a1 t381 t382 _ A9.out).mono ?_); rintro e w15 ⟨rfl, hb⟩; refine ⟨_, rfl, ?_⟩; have n0_ := Aside0.mk (below_step (by repeat (first | (with_reducible first | exact HB.out | apply below_alloc | apply pw_below_drewN | apply below_drew1) | exact HB.out)) hb); clear HB; have HB := n0_; clear n0_; (try clear hb); (try clear hb2); (try clear hk); (try clear hi)) | ((with_reducible refine gate_callee (f := 15) rfl ?_); refine goesL_ (some 50) rfl rfl Tryd.func15 (by kernel_rfl) rfl #[.string a0, .string a1] rfl (by (try simp only [List.map_toArray, List.map_cons, List.map_nil]); first | done | rfl | (simp only [List.length_drop, List.length_take]; rfl)) ?_; (with_reducible refine (tribunalref03_Add.calls a0 a1 t383 t384 _ A10.out).mono ?_); rintro e w16 ⟨rfl, hb⟩; refine ⟨_, rfl, ?_⟩; have n0_ := Aside0.mk (below_step (by repeat (first | (with_reducible first | exact HB.out | apply below_alloc | apply pw_below_drewN | apply below_drew1) | exact HB.out)) hb); clear HB; have HB := n0_; clear n0_; (try clear hb); (try clear hb2); (try clear hk); (try clear hi)))
    (try simp only [Act.put, List.setIfInBounds_toArray, List.set_cons_zero, List.set_cons_succ])
    go_cut [86] (fun v86 wc => ∃ (kq : Nat) (x86_10 : Bool), v86 = .bool x86_10 ∧ Aside0 (tribunallaw03_RatTells.j0 kq a0 a1 t375 x86_10 = some r) ∧ Aside0 (kq ≤ k) ∧ Aside0 (Below w.heap.size w wc))
    case first =>
      have H := HC11.out
      clear HC11
      by_cases c17 : t377.toList = t379.toList
      · rw [if_pos c17] at H
        have c17b0 : (t377.toList == t379.toList) = true := beq_iff_eq.mpr c17
        have c17b1 : (t377.toList != t379.toList) = false := bne_eq_false_iff_eq.mpr c17
        clear c17
        (first | rw [c17b0] | (simp only [i64_w, i32_w]; rw [c17b0]) | skip)
        by_cases c18 : t378 = t380
        · rw [if_pos c18] at H
          have c18b0 : (t378 == t380) = true := beq_iff_eq.mpr c18
          have c18b1 : (t378 != t380) = false := bne_eq_false_iff_eq.mpr c18
          clear c18
          by_cases c19 : t381.toList = t383.toList
          · rw [if_pos c19] at H
            have c19b0 : (t381.toList == t383.toList) = true := beq_iff_eq.mpr c19
            have c19b1 : (t381.toList != t383.toList) = false := bne_eq_false_iff_eq.mpr c19
            clear c19
            by_cases c20 : t382 = t384
            · rw [if_pos c20] at H
              have c20b0 : (t382 == t384) = true := beq_iff_eq.mpr c20
              have c20b1 : (t382 != t384) = false := bne_eq_false_iff_eq.mpr c20
              clear c20
              replace H := Option.bind_eq_some_iff.mp H
              obtain ⟨t385, A210, H⟩ := H
              replace H : ((tribunalref03_Right.f a0).bind fun t386 => (if (t385 != t386) = true then (tribunallaw03_RatTells.j0 k a0 a1 t375 true) else ((rat_Cmp.f a0 a1).bind fun t387 => ((tribunalref03_Cmp.f a0 a1).bind fun t388 => (tribunallaw03_RatTells.j0 k a0 a1 t375 (t387 != t388)))))) = some r := H
              have A21 := Aside0.mk A210
              clear A210
              replace H := Option.bind_eq_some_iff.mp H
              obtain ⟨t386, A220, H⟩ := H
              replace H : (if (t385 != t386) = true then (tribunallaw03_RatTells.j0 k a0 a1 t375 true) else ((rat_Cmp.f a0 a1).bind fun t387 => ((tribunalref03_Cmp.f a0 a1).bind fun t388 => (tribunallaw03_RatTells.j0 k a0 a1 t375 (t387 != t388))))) = some r := H
              have A22 := Aside0.mk A220
              clear A220
              by_cases c23 : (t385 != t386) = true
              · rw [if_pos c23] at H
                have c23b0 : (t385 != t386) = true := c23
                (try (have c23b1 : decide (t385 = t386) = false := by simpa using c23))
                (try (have c23b2 : (t385 == t386) = false := by simpa using c23))
                (try (have c23b3 : ¬ (t385 = t386) := by simpa using c23))
                clear c23
                have H' := Aside0.mk H
                clear H
                go_wp2_with (first | (go_at_call 16; (with_reducible refine (rat_Right.calls a0 t385 _ A21.out).mono ?_); rintro e w24 ⟨rfl, hb⟩; have n0_ := Aside0.mk (below_step (by repeat (first | (with_reducible first | exact HB.out | apply below_alloc | apply pw_below_drewN | apply below_drew1) | exact HB.out)) hb); clear HB; have HB := n0_; clear n0_; (try clear hb); (try clear hb2); (try clear hk); (try clear hi)) | (go_at_call 17; (with_reducible refine (tribunalref03_Right.calls a0 t386 _ A22.out).mono ?_); rintro e w25 ⟨rfl, hb⟩; have n0_ := Aside0.mk (below_step (by repeat (first | (with_reducible first | exact HB.out | apply below_alloc | apply pw_below_drewN | apply below_drew1) | exact HB.out)) hb); clear HB; have HB := n0_; clear n0_; (try clear hb); (try clear hb2); (try clear hk); (try clear hi)))
                go_meet
                case rel => exact ⟨_, (true), (by first | rfl | (simp; done) | (simp [*]; done)), H', ⟨by first | omega | exact Nat.le_refl _⟩, ⟨by repeat (first | (with_reducible first | exact HB.out | apply below_alloc | apply pw_below_drewN | apply below_drew1) | exact HB.out)⟩⟩
              · rw [if_neg c23] at H
                have c23b0 : (t385 != t386) = false := by simpa using c23
                (try (have c23b1 : decide (t385 = t386) = true := by simpa using c23))
                (try (have c23b2 : (t385 == t386) = true := by simpa using c23))
                clear c23
                replace H := Option.bind_eq_some_iff.mp H
                obtain ⟨t387, A260, H⟩ := H
                replace H : ((tribunalref03_Cmp.f a0 a1).bind fun t388 => (tribunallaw03_RatTells.j0 k a0 a1 t375 (t387 != t388))) = some r := H
                have A26 := Aside0.mk A260
                clear A260
                replace H := Option.bind_eq_some_iff.mp H
                obtain ⟨t388, A270, H⟩ := H
                replace H : (tribunallaw03_RatTells.j0 k a0 a1 t375 (t387 != t388)) = some r := H
                have A27 := Aside0.mk A270
                clear A270
                have H' := Aside0.mk H
                clear H
                go_wp2_with (first | (go_at_call 16; (with_reducible refine (rat_Right.calls a0 t385 _ A21.out).mono ?_); rintro e w28 ⟨rfl, hb⟩; have n0_ := Aside0.mk (below_step (by repeat (first | (with_reducible first | exact HB.out | apply below_alloc | apply pw_below_drewN | apply below_drew1) | exact HB.out)) hb); clear HB; have HB := n0_; clear n0_; (try clear hb); (try clear hb2); (try clear hk); (try clear hi)) | (go_at_call 17; (with_reducible refine (tribunalref03_Right.calls a0 t386 _ A22.out).mono ?_); rintro e w29 ⟨rfl, hb⟩; have n0_ := Aside0.mk (below_step (by repeat (first | (with_reducible first | exact HB.out | apply below_alloc | apply pw_below_drewN | apply below_drew1) | exact HB.out)) hb); clear HB; have HB := n0_; clear n0_; (try clear hb); (try clear hb2); (try clear hk); (try clear hi)) | (go_at_call 18; (with_reducible refine (rat_Cmp.calls a0 a1 t387 _ A26.out).mono ?_); rintro e w30 ⟨rfl, hb⟩; have n0_ := Aside0.mk (below_step (by repeat (first | (with_reducible first | exact HB.out | apply below_alloc | apply pw_below_drewN | apply below_drew1) | exact HB.out)) hb); clear HB; have HB := n0_; clear n0_; (try clear hb); (try clear hb2); (try clear hk); (try clear hi)) | (go_at_call 19; (with_reducible refine (tribunalref03_Cmp.calls a0 a1 t388 _ A27.out).mono ?_); rintro e w31 ⟨rfl, hb⟩; have n0_ := Aside0.mk (below_step (by repeat (first | (with_reducible first | exact HB.out | apply below_alloc | apply pw_below_drewN | apply below_drew1) | exact HB.out)) hb); clear HB; have HB := n0_; clear n0_; (try clear hb); (try clear hb2); (try clear hk); (try clear hi)))
                go_meet
                case rel => exact ⟨_, ((t387 != t388)), (by first | rfl | (simp; done) | (simp [*]; done)), H', ⟨by first | omega | exact Nat.le_refl _⟩, ⟨by repeat (first | (with_reducible first | exact HB.out | apply below_alloc | apply pw_below_drewN | apply below_drew1) | exact HB.out)⟩⟩
            · rw [if_neg c20] at H
              have c20b0 : (t382 == t384) = false := beq_eq_false_iff_ne.mpr c20
              have c20b1 : (t382 != t384) = true := bne_iff_ne.mpr c20
              have H' := Aside0.mk H
              clear H
              go_wp2
              go_meet
              case rel => exact ⟨_, (true), (by first | rfl | (simp; done) | (simp [*]; done)), H', ⟨by first | omega | exact Nat.le_refl _⟩, ⟨by repeat (first | (with_reducible first | exact HB.out | apply below_alloc | apply pw_below_drewN | apply below_drew1) | exact HB.out)⟩⟩
          · rw [if_neg c19] at H
            have c19b0 : (t381.toList == t383.toList) = false := beq_eq_false_iff_ne.mpr c19
            have c19b1 : (t381.toList != t383.toList) = true := bne_iff_ne.mpr c19
            have H' := Aside0.mk H
            clear H
            go_wp2
            go_meet
            case rel => exact ⟨_, (true), (by first | rfl | (simp; done) | (simp [*]; done)), H', ⟨by first | omega | exact Nat.le_refl _⟩, ⟨by repeat (first | (with_reducible first | exact HB.out | apply below_alloc | apply pw_below_drewN | apply below_drew1) | exact HB.out)⟩⟩
        · rw [if_neg c18] at H
          have c18b0 : (t378 == t380) = false := beq_eq_false_iff_ne.mpr c18
          have c18b1 : (t378 != t380) = true := bne_iff_ne.mpr c18
          have H' := Aside0.mk H
          clear H
          go_wp2
          go_meet
          case rel => exact ⟨_, (true), (by first | rfl | (simp; done) | (simp [*]; done)), H', ⟨by first | omega | exact Nat.le_refl _⟩, ⟨by repeat (first | (with_reducible first | exact HB.out | apply below_alloc | apply pw_below_drewN | apply below_drew1) | exact HB.out)⟩⟩
      · rw [if_neg c17] at H
        have c17b0 : (t377.toList == t379.toList) = false := beq_eq_false_iff_ne.mpr c17
        have c17b1 : (t377.toList != t379.toList) = true := bne_iff_ne.mpr c17
        (first | rw [c17b0] | (simp only [i64_w, i32_w]; rw [c17b0]) | skip)
        have H' := Aside0.mk H
        clear H
        go_wp2
        go_meet
        case rel => exact ⟨_, (true), (by first | rfl | (simp; done) | (simp [*]; done)), H', ⟨by first | omega | exact Nat.le_refl _⟩, ⟨by repeat (first | (with_reducible first | exact HB.out | apply below_alloc | apply pw_below_drewN | apply below_drew1) | exact HB.out)⟩⟩
    case rest =>
      clear HC11
      try clear c1
      try clear c2
      try clear p2
      try clear c3
      try clear c5
      try clear c10
      try clear c11
      try clear c12
      try clear c13
      try clear c14
      try clear c15
      try clear c17
      try clear c17b0
      try clear c17b1
      try clear c18
      try clear c18b0
      try clear c18b1
      try clear c19
      try clear c19b0
      try clear c19b1
      try clear c20
      try clear c20b0
      try clear c20b1
      try clear c23
      try clear c23b0
      try clear c23b1
      try clear c23b2
      obtain ⟨kq, x86_10, rfl, HA, HJ10, HB⟩ := hcut
      cases kq with
      | zero => exact absurd HA.out (by simp [tribunallaw03_RatTells.j0])
      | succ kj10 =>
        have H := HA.out
        clear HA
        simp only [tribunallaw03_RatTells.j0] at H
        by_cases c32 : x86_10 = true
        · subst c32
          have H1 : (none) = some r := by rw [if_pos rfl] at H; exact H
          clear H
          have H := H1
          clear H1
          exact absurd H (by simp)
        · replace c32 := Bool.eq_false_iff.mpr c32
          subst c32
          have H1 : ((rat_Sub.f a0 a1).bind fun bt389 => ((tribunalref03_Sub.f a0 a1).bind fun bt391 => ((rat_Mul.f a0 a1).bind fun bt393 => ((tribunalref03_Mul.f a0 a1).bind fun bt395 => ((rat_Div.f a0 a1).bind fun bt397 => ((tribunalref03_Div.f a0 a1).bind fun bt399 => ((rat_Neg.f a0).bind fun bt401 => ((tribunalref03_Neg.f a0).bind fun bt403 => (if t375 = true then (if bt389.1.toList = bt391.1.toList then (if bt389.2 = bt391.2 then (if bt393.1.toList = bt395.1.toList then (if bt393.2 = bt395.2 then (if bt397.1.toList = bt399.1.toList then (if bt397.2 = bt399.2 then (if bt401.1.toList = bt403.1.toList then (some (bt401.2 == bt403.2)) else (none)) else (none)) else (none)) else (none)) else (none)) else (none)) else (none)) else (none)))))))))) = some r := by rw [if_neg (show ¬ (false = true) by decide)] at H; exact H
          clear H
          have H := H1
          clear H1
          replace H := Option.bind_eq_some_iff.mp H
          obtain ⟨⟨t389, t390⟩, A330, H⟩ := H
          replace H : ((tribunalref03_Sub.f a0 a1).bind fun bt391 => ((rat_Mul.f a0 a1).bind fun bt393 => ((tribunalref03_Mul.f a0 a1).bind fun bt395 => ((rat_Div.f a0 a1).bind fun bt397 => ((tribunalref03_Div.f a0 a1).bind fun bt399 => ((rat_Neg.f a0).bind fun bt401 => ((tribunalref03_Neg.f a0).bind fun bt403 => (if t375 = true then (if t389.toList = bt391.1.toList then (if t390 = bt391.2 then (if bt393.1.toList = bt395.1.toList then (if bt393.2 = bt395.2 then (if bt397.1.toList = bt399.1.toList then (if bt397.2 = bt399.2 then (if bt401.1.toList = bt403.1.toList then (some (bt401.2 == bt403.2)) else (none)) else (none)) else (none)) else (none)) else (none)) else (none)) else (none)) else (none))))))))) = some r := H
          have A33 := Aside0.mk A330
          clear A330
          replace H := Option.bind_eq_some_iff.mp H
          obtain ⟨⟨t391, t392⟩, A340, H⟩ := H
          replace H : ((rat_Mul.f a0 a1).bind fun bt393 => ((tribunalref03_Mul.f a0 a1).bind fun bt395 => ((rat_Div.f a0 a1).bind fun bt397 => ((tribunalref03_Div.f a0 a1).bind fun bt399 => ((rat_Neg.f a0).bind fun bt401 => ((tribunalref03_Neg.f a0).bind fun bt403 => (if t375 = true then (if t389.toList = t391.toList then (if t390 = t392 then (if bt393.1.toList = bt395.1.toList then (if bt393.2 = bt395.2 then (if bt397.1.toList = bt399.1.toList then (if bt397.2 = bt399.2 then (if bt401.1.toList = bt403.1.toList then (some (bt401.2 == bt403.2)) else (none)) else (none)) else (none)) else (none)) else (none)) else (none)) else (none)) else (none)))))))) = some r := H
          have A34 := Aside0.mk A340
          clear A340
          replace H := Option.bind_eq_some_iff.mp H
          obtain ⟨⟨t393, t394⟩, A350, H⟩ := H
          replace H : ((tribunalref03_Mul.f a0 a1).bind fun bt395 => ((rat_Div.f a0 a1).bind fun bt397 => ((tribunalref03_Div.f a0 a1).bind fun bt399 => ((rat_Neg.f a0).bind fun bt401 => ((tribunalref03_Neg.f a0).bind fun bt403 => (if t375 = true then (if t389.toList = t391.toList then (if t390 = t392 then (if t393.toList = bt395.1.toList then (if t394 = bt395.2 then (if bt397.1.toList = bt399.1.toList then (if bt397.2 = bt399.2 then (if bt401.1.toList = bt403.1.toList then (some (bt401.2 == bt403.2)) else (none)) else (none)) else (none)) else (none)) else (none)) else (none)) else (none)) else (none))))))) = some r := H
          have A35 := Aside0.mk A350
          clear A350
          replace H := Option.bind_eq_some_iff.mp H
          obtain ⟨⟨t395, t396⟩, A360, H⟩ := H
          replace H : ((rat_Div.f a0 a1).bind fun bt397 => ((tribunalref03_Div.f a0 a1).bind fun bt399 => ((rat_Neg.f a0).bind fun bt401 => ((tribunalref03_Neg.f a0).bind fun bt403 => (if t375 = true then (if t389.toList = t391.toList then (if t390 = t392 then (if t393.toList = t395.toList then (if t394 = t396 then (if bt397.1.toList = bt399.1.toList then (if bt397.2 = bt399.2 then (if bt401.1.toList = bt403.1.toList then (some (bt401.2 == bt403.2)) else (none)) else (none)) else (none)) else (none)) else (none)) else (none)) else (none)) else (none)))))) = some r := H
          have A36 := Aside0.mk A360
          clear A360
          replace H := Option.bind_eq_some_iff.mp H
          obtain ⟨⟨t397, t398⟩, A370, H⟩ := H
          replace H : ((tribunalref03_Div.f a0 a1).bind fun bt399 => ((rat_Neg.f a0).bind fun bt401 => ((tribunalref03_Neg.f a0).bind fun bt403 => (if t375 = true then (if t389.toList = t391.toList then (if t390 = t392 then (if t393.toList = t395.toList then (if t394 = t396 then (if t397.toList = bt399.1.toList then (if t398 = bt399.2 then (if bt401.1.toList = bt403.1.toList then (some (bt401.2 == bt403.2)) else (none)) else (none)) else (none)) else (none)) else (none)) else (none)) else (none)) else (none))))) = some r := H
          have A37 := Aside0.mk A370
          clear A370
          replace H := Option.bind_eq_some_iff.mp H
          obtain ⟨⟨t399, t400⟩, A380, H⟩ := H
          replace H : ((rat_Neg.f a0).bind fun bt401 => ((tribunalref03_Neg.f a0).bind fun bt403 => (if t375 = true then (if t389.toList = t391.toList then (if t390 = t392 then (if t393.toList = t395.toList then (if t394 = t396 then (if t397.toList = t399.toList then (if t398 = t400 then (if bt401.1.toList = bt403.1.toList then (some (bt401.2 == bt403.2)) else (none)) else (none)) else (none)) else (none)) else (none)) else (none)) else (none)) else (none)))) = some r := H
          have A38 := Aside0.mk A380
          clear A380
          replace H := Option.bind_eq_some_iff.mp H
          obtain ⟨⟨t401, t402⟩, A390, H⟩ := H
          replace H : ((tribunalref03_Neg.f a0).bind fun bt403 => (if t375 = true then (if t389.toList = t391.toList then (if t390 = t392 then (if t393.toList = t395.toList then (if t394 = t396 then (if t397.toList = t399.toList then (if t398 = t400 then (if t401.toList = bt403.1.toList then (some (t402 == bt403.2)) else (none)) else (none)) else (none)) else (none)) else (none)) else (none)) else (none)) else (none))) = some r := H
          have A39 := Aside0.mk A390
          clear A390
          replace H := Option.bind_eq_some_iff.mp H
          obtain ⟨⟨t403, t404⟩, A400, H⟩ := H
          replace H : (if t375 = true then (if t389.toList = t391.toList then (if t390 = t392 then (if t393.toList = t395.toList then (if t394 = t396 then (if t397.toList = t399.toList then (if t398 = t400 then (if t401.toList = t403.toList then (some (t402 == t404)) else (none)) else (none)) else (none)) else (none)) else (none)) else (none)) else (none)) else (none)) = some r := H
          have A40 := Aside0.mk A400
          clear A400
          by_cases c41 : t375 = true
          · subst c41
            have H1 : (if t389.toList = t391.toList then (if t390 = t392 then (if t393.toList = t395.toList then (if t394 = t396 then (if t397.toList = t399.toList then (if t398 = t400 then (if t401.toList = t403.toList then (some (t402 == t404)) else (none)) else (none)) else (none)) else (none)) else (none)) else (none)) else (none)) = some r := by rw [if_pos rfl] at H; exact H
            clear H
            have H := H1
            clear H1
            by_cases c42 : t389.toList = t391.toList
            · rw [if_pos c42] at H
              have c42b0 : (t389.toList == t391.toList) = true := beq_iff_eq.mpr c42
              have c42b1 : (t389.toList != t391.toList) = false := bne_eq_false_iff_eq.mpr c42
              clear c42
              by_cases c43 : t390 = t392
              · rw [if_pos c43] at H
                have c43b0 : (t390 == t392) = true := beq_iff_eq.mpr c43
                have c43b1 : (t390 != t392) = false := bne_eq_false_iff_eq.mpr c43
                clear c43
                by_cases c44 : t393.toList = t395.toList
                · rw [if_pos c44] at H
                  have c44b0 : (t393.toList == t395.toList) = true := beq_iff_eq.mpr c44
                  have c44b1 : (t393.toList != t395.toList) = false := bne_eq_false_iff_eq.mpr c44
                  clear c44
                  by_cases c45 : t394 = t396
                  · rw [if_pos c45] at H
                    have c45b0 : (t394 == t396) = true := beq_iff_eq.mpr c45
                    have c45b1 : (t394 != t396) = false := bne_eq_false_iff_eq.mpr c45
                    clear c45
                    by_cases c46 : t397.toList = t399.toList
                    · rw [if_pos c46] at H
                      have c46b0 : (t397.toList == t399.toList) = true := beq_iff_eq.mpr c46
                      have c46b1 : (t397.toList != t399.toList) = false := bne_eq_false_iff_eq.mpr c46
                      clear c46
                      by_cases c47 : t398 = t400
                      · rw [if_pos c47] at H
                        have c47b0 : (t398 == t400) = true := beq_iff_eq.mpr c47
                        have c47b1 : (t398 != t400) = false := bne_eq_false_iff_eq.mpr c47
                        clear c47
                        by_cases c48 : t401.toList = t403.toList
                        · rw [if_pos c48] at H
                          have c48b0 : (t401.toList == t403.toList) = true := beq_iff_eq.mpr c48
                          have c48b1 : (t401.toList != t403.toList) = false := bne_eq_false_iff_eq.mpr c48
                          clear c48
                          obtain rfl := Option.some.inj H
                          go_wp2_with (first | ((with_reducible refine gate_callee (f := 20) rfl ?_); refine goesL_ (some 90) rfl rfl Tryd.func20 (by kernel_rfl) rfl #[.string a0, .string a1] rfl (by (try simp only [List.map_toArray, List.map_cons, List.map_nil]); first | done | rfl | (simp only [List.length_drop, List.length_take]; rfl)) ?_; (with_reducible refine (rat_Sub.calls a0 a1 t389 t390 _ A33.out).mono ?_); rintro e w49 ⟨rfl, hb⟩; refine ⟨_, rfl, ?_⟩; have n0_ := Aside0.mk (below_step (by repeat (first | (with_reducible first | exact HB.out | apply below_alloc | apply pw_below_drewN | apply below_drew1) | exact HB.out)) hb); clear HB; have HB := n0_; clear n0_; (try clear hb); (try clear hb2); (try clear hk); (try clear hi)) | ((with_reducible refine gate_callee (f := 21) rfl ?_); refine goesL_ (some 96) rfl rfl Tryd.func21 (by kernel_rfl) rfl #[.string a0, .string a1] rfl (by (try simp only [List.map_toArray, List.map_cons, List.map_nil]); first | done | rfl | (simp only [List.length_drop, List.length_take]; rfl)) ?_; (with_reducible refine (tribunalref03_Sub.calls a0 a1 t391 t392 _ A34.out).mono ?_); rintro e w50 ⟨rfl, hb⟩; refine ⟨_, rfl, ?_⟩; have n0_ := Aside0.mk (below_step (by repeat (first | (with_reducible first | exact HB.out | apply below_alloc | apply pw_below_drewN | apply below_drew1) | exact HB.out)) hb); clear HB; have HB := n0_; clear n0_; (try clear hb); (try clear hb2); (try clear hk); (try clear hi)) | ((with_reducible refine gate_callee (f := 22) rfl ?_); refine goesL_ (some 102) rfl rfl Tryd.func22 (by kernel_rfl) rfl #[.string a0, .string a1] rfl (by (try simp only [List.map_toArray, List.map_cons, List.map_nil]); first | done | rfl | (simp only [List.length_drop, List.length_take]; rfl)) ?_; (with_reducible refine (rat_Mul.calls a0 a1 t393 t394 _ A35.out).mono ?_); rintro e w51 ⟨rfl, hb⟩; refine ⟨_, rfl, ?_⟩; have n0_ := Aside0.mk (below_step (by repeat (first | (with_reducible first | exact HB.out | apply below_alloc | apply pw_below_drewN | apply below_drew1) | exact HB.out)) hb); clear HB; have HB := n0_; clear n0_; (try clear hb); (try clear hb2); (try clear hk); (try clear hi)) | ((with_reducible refine gate_callee (f := 23) rfl ?_); refine goesL_ (some 108) rfl rfl Tryd.func23 (by kernel_rfl) rfl #[.string a0, .string a1] rfl (by (try simp only [List.map_toArray, List.map_cons, List.map_nil]); first | done | rfl | (simp only [List.length_drop, List.length_take]; rfl)) ?_; (with_reducible refine (tribunalref03_Mul.calls a0 a1 t395 t396 _ A36.out).mono ?_); rintro e w52 ⟨rfl, hb⟩; refine ⟨_, rfl, ?_⟩; have n0_ := Aside0.mk (below_step (by repeat (first | (with_reducible first | exact HB.out | apply below_alloc | apply pw_below_drewN | apply below_drew1) | exact HB.out)) hb); clear HB; have HB := n0_; clear n0_; (try clear hb); (try clear hb2); (try clear hk); (try clear hi)) | ((with_reducible refine gate_callee (f := 24) rfl ?_); refine goesL_ (some 114) rfl rfl Tryd.func24 (by kernel_rfl) rfl #[.string a0, .string a1] rfl (by (try simp only [List.map_toArray, List.map_cons, List.map_nil]); first | done | rfl | (simp only [List.length_drop, List.length_take]; rfl)) ?_; (with_reducible refine (rat_Div.calls a0 a1 t397 t398 _ A37.out).mono ?_); rintro e w53 ⟨rfl, hb⟩; refine ⟨_, rfl, ?_⟩; have n0_ := Aside0.mk (below_step (by repeat (first | (with_reducible first | exact HB.out | apply below_alloc | apply pw_below_drewN | apply below_drew1) | exact HB.out)) hb); clear HB; have HB := n0_; clear n0_; (try clear hb); (try clear hb2); (try clear hk); (try clear hi)) | ((with_reducible refine gate_callee (f := 25) rfl ?_); refine goesL_ (some 120) rfl rfl Tryd.func25 (by kernel_rfl) rfl #[.string a0, .string a1] rfl (by (try simp only [List.map_toArray, List.map_cons, List.map_nil]); first | done | rfl | (simp only [List.length_drop, List.length_take]; rfl)) ?_; (with_reducible refine (tribunalref03_Div.calls a0 a1 t399 t400 _ A38.out).mono ?_); rintro e w54 ⟨rfl, hb⟩; refine ⟨_, rfl, ?_⟩; have n0_ := Aside0.mk (below_step (by repeat (first | (with_reducible first | exact HB.out | apply below_alloc | apply pw_below_drewN | apply below_drew1) | exact HB.out)) hb); clear HB; have HB := n0_; clear n0_; (try clear hb); (try clear hb2); (try clear hk); (try clear hi)) | ((with_reducible refine gate_callee (f := 26) rfl ?_); refine goesL_ (some 125) rfl rfl Tryd.func26 (by kernel_rfl) rfl #[.string a0] rfl (by (try simp only [List.map_toArray, List.map_cons, List.map_nil]); first | done | rfl | (simp only [List.length_drop, List.length_take]; rfl)) ?_; (with_reducible refine (rat_Neg.calls a0 t401 t402 _ A39.out).mono ?_); rintro e w55 ⟨rfl, hb⟩; refine ⟨_, rfl, ?_⟩; have n0_ := Aside0.mk (below_step (by repeat (first | (with_reducible first | exact HB.out | apply below_alloc | apply pw_below_drewN | apply below_drew1) | exact HB.out)) hb); clear HB; have HB := n0_; clear n0_; (try clear hb); (try clear hb2); (try clear hk); (try clear hi)) | ((with_reducible refine gate_callee (f := 27) rfl ?_); refine goesL_ (some 130) rfl rfl Tryd.func27 (by kernel_rfl) rfl #[.string a0] rfl (by (try simp only [List.map_toArray, List.map_cons, List.map_nil]); first | done | rfl | (simp only [List.length_drop, List.length_take]; rfl)) ?_; (with_reducible refine (tribunalref03_Neg.calls a0 t403 t404 _ A40.out).mono ?_); rintro e w56 ⟨rfl, hb⟩; refine ⟨_, rfl, ?_⟩; have n0_ := Aside0.mk (below_step (by repeat (first | (with_reducible first | exact HB.out | apply below_alloc | apply pw_below_drewN | apply below_drew1) | exact HB.out)) hb); clear HB; have HB := n0_; clear n0_; (try clear hb); (try clear hb2); (try clear hk); (try clear hi)))
                          go_ret
                          exact ⟨by first | rfl | (simp [errW_none, errW_some] <;> rfl) | (simp [*, errW_none, errW_some] <;> rfl), by repeat (first | (with_reducible first | exact HB.out | apply below_alloc | apply pw_below_drewN | apply below_drew1) | exact HB.out)⟩
                        · rw [if_neg c48] at H
                          exact absurd H (by simp)
                      · rw [if_neg c47] at H
                        exact absurd H (by simp)
                    · rw [if_neg c46] at H
                      exact absurd H (by simp)
                  · rw [if_neg c45] at H
                    exact absurd H (by simp)
                · rw [if_neg c44] at H
                  exact absurd H (by simp)
              · rw [if_neg c43] at H
                exact absurd H (by simp)
            · rw [if_neg c42] at H
              exact absurd H (by simp)
          · replace c41 := Bool.eq_false_iff.mpr c41
            subst c41
            have H1 : (none) = some r := by rw [if_neg (show ¬ (false = true) by decide)] at H; exact H
            clear H
            have H := H1
            clear H1
            exact absurd H (by simp)

/-- THE ONE PURE STATEMENT of tribunallaw03_RatTells: yours. -/
def tribunallaw03_RatTells.Pure : Prop := ∀ (a0 : ByteArray) (a1 : ByteArray), a0.size ≤ 140737488351232 → a1.size ≤ 140737488351232 → ∃ k, tribunallaw03_RatTells.f k a0 a1 = some true
theorem tribunallaw03_RatTells.walk (P : tribunallaw03_RatTells.Pure) (a0 : ByteArray) (a1 : ByteArray) (w : World) (w0 : a0.size ≤ 140737488351232) (w1 : a1.size ≤ 140737488351232) :
    Calls Tryd.prog 3 #[.string a0, .string a1] w fun e w' => e = .returned (.bool true) ∧ Below w.heap.size w w' := by
  obtain ⟨k, h⟩ := P a0 a1 w0 w1
  refine (tribunallaw03_RatTells.calls k a0 a1 true w h).mono ?_
  rintro e w' ⟨rfl, hd⟩
  exact ⟨rfl, hd⟩

end Go.Proofs.YtfnhohpmhpbpmaaDoor.G
