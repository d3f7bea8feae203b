-- Out of the translation, by a program of this repo (wip/tools/gprint.py). Lean checks it.
import Derived.Test.YtfnhohpmhpbpmaaDoorGx0
import Derived.Test.YtfnhohpmhpbpmaaDoorGx1
import Derived.Test.YtfnhohpmhpbpmaaDoorGx13
import Derived.Test.YtfnhohpmhpbpmaaDoorGx15
import Derived.Test.YtfnhohpmhpbpmaaDoorGRatTop
namespace Go.Proofs.YtfnhohpmhpbpmaaDoor.G
open Go.RowKit Go.Proofs.YtfnhohpmhpbpmaaDoorW.PrintWords Go.Proofs.YtfnhohpmhpbpmaaDoorW.PrintLast Go.Proofs.YtfnhohpmhpbpmaaDoorW.PrintMore
attribute [local go_sem] max2_int min2_int max_two min_two max_three min_three max_four min_four   -- for this text's walks alone
set_option linter.unusedVariables false
set_option linter.unusedSimpArgs false

/-! ### tribunallaw03_RatText: function 5 -/
mutual
def tribunallaw03_RatText.j0 : Nat → Bool → ByteArray → Int → ByteArray → Int → Bool → Option (Bool)
  | 0, _, _, _, _, _, _ => none
  | k + 1, x5, x6, x7, x8, x9, x46 => if x46 = true then (none) else (if x7 = 0 then (tribunallaw03_RatText.j1 k x5 x6 x8 (x9 != 0)) else (tribunallaw03_RatText.j1 k x5 x6 x8 true))
def tribunallaw03_RatText.j1 : Nat → Bool → ByteArray → ByteArray → Bool → Option (Bool)
  | 0, _, _, _, _ => none
  | k + 1, x5, x6, x8, x52 => if x52 = true then (some x5) else ((rat_Norm.f x6).bind fun bt692 => ((rat_Sub.f x6 x8).bind fun bt694 => (if x5 = true then ((rat_Right.f x6).bind fun t696 => (if t696 = true then (if bt692.1.toList = x6.toList then (if bt692.2 = 0 then ((rat_Cmp.f x6 x8).bind fun t697 => (if ((t697 == 0) == (x6.toList == x8.toList)) = true then (if ((bt694.1.toList == ([48] : List UInt8)) == (x6.toList == x8.toList)) = true then ((rat_Right.f bt694.1).bind fun t698 => (if t698 = true then ((tribunallaw03_times.f x6 x8).bind fun t699 => ((rat_Right.f t699).bind fun t700 => (some t700))) else (none))) else (none)) else (none))) else (none)) else (none)) else (none))) else (none))))
end
def tribunallaw03_RatText.f (k : Nat) (a0 : ByteArray) (a1 : ByteArray) : Option (Bool) := (tribunallaw03_head.f).bind fun t685 => ((tribunallaw03_Great.f a0 a1).bind fun t686 => (if t686 = true then (some t685) else ((rat_Norm.f a0).bind fun bt687 => ((rat_Norm.f a1).bind fun bt689 => ((rat_Right.f a0).bind fun t691 => (if bt687.2 = 0 then (if (t691 != (bt687.1.toList == a0.toList)) = true then (tribunallaw03_RatText.j0 k t685 bt687.1 bt687.2 bt689.1 bt689.2 true) else (tribunallaw03_RatText.j0 k t685 bt687.1 bt687.2 bt689.1 bt689.2 false)) else (if (t691 != false) = true then (tribunallaw03_RatText.j0 k t685 bt687.1 bt687.2 bt689.1 bt689.2 true) else (tribunallaw03_RatText.j0 k t685 bt687.1 bt687.2 bt689.1 bt689.2 (bt687.1.toList != ([] : List UInt8))))))))))
theorem tribunallaw03_RatText.mono_l : ∀ k, (∀ y0 y1 y2 y3 y4 y5, LeO (tribunallaw03_RatText.j0 k y0 y1 y2 y3 y4 y5) (tribunallaw03_RatText.j0 (k + 1) y0 y1 y2 y3 y4 y5)) ∧ (∀ y0 y1 y2 y3, LeO (tribunallaw03_RatText.j1 k y0 y1 y2 y3) (tribunallaw03_RatText.j1 (k + 1) y0 y1 y2 y3))
  | 0 => ⟨fun _ _ _ _ _ _ r h => by simp [tribunallaw03_RatText.j0] at h, fun _ _ _ _ r h => by simp [tribunallaw03_RatText.j1] at h⟩
  | k + 1 => by
    obtain ⟨ih0, ih1⟩ := tribunallaw03_RatText.mono_l k
    refine ⟨?_, ?_⟩
    · intro y0 y1 y2 y3 y4 y5
      unfold tribunallaw03_RatText.j0
      repeat' first
      | (with_reducible exact ih0 _ _ _ _ _ _)
      | (with_reducible exact ih1 _ _ _ _)
      | (with_reducible exact LeO.refl _)
      | (with_reducible exact LeO.none _)
      | (with_reducible refine LeO.ite ?_ ?_)
      | (with_reducible refine LeO.bind ?_ (fun _ => ?_))
      | exact ih0 _ _ _ _ _ _
      | exact ih1 _ _ _ _
      | exact LeO.none _
      | refine LeO.ite ?_ ?_
      | refine LeO.bind ?_ (fun _ => ?_)
    · intro y0 y1 y2 y3
      unfold tribunallaw03_RatText.j1
      repeat' first
      | (with_reducible exact ih0 _ _ _ _ _ _)
      | (with_reducible exact ih1 _ _ _ _)
      | (with_reducible exact LeO.refl _)
      | (with_reducible exact LeO.none _)
      | (with_reducible refine LeO.ite ?_ ?_)
      | (with_reducible refine LeO.bind ?_ (fun _ => ?_))
      | exact ih0 _ _ _ _ _ _
      | exact ih1 _ _ _ _
      | exact LeO.none _
      | refine LeO.ite ?_ ?_
      | refine LeO.bind ?_ (fun _ => ?_)
theorem tribunallaw03_RatText.mono : ∀ a0 a1 k, LeO (tribunallaw03_RatText.f k a0 a1) (tribunallaw03_RatText.f (k + 1) a0 a1) := by
  intro a0 a1 k
  obtain ⟨ih0, ih1⟩ := tribunallaw03_RatText.mono_l k
  unfold tribunallaw03_RatText.f
  repeat' first
      | (with_reducible exact ih0 _ _ _ _ _ _)
      | (with_reducible exact ih1 _ _ _ _)
      | (with_reducible exact LeO.refl _)
      | (with_reducible exact LeO.none _)
      | (with_reducible refine LeO.ite ?_ ?_)
      | (with_reducible refine LeO.bind ?_ (fun _ => ?_))
      | exact ih0 _ _ _ _ _ _
      | exact ih1 _ _ _ _
      | exact LeO.none _
      | refine LeO.ite ?_ ?_
      | refine LeO.bind ?_ (fun _ => ?_)
set_option maxHeartbeats 8000000 in
set_option maxRecDepth 100000 in
theorem tribunallaw03_RatText.calls (k : Nat) (a0 : ByteArray) (a1 : ByteArray) (r : Bool) (w : World) (h : tribunallaw03_RatText.f k a0 a1 = some r) :
    Calls Tryd.prog 5 #[.string a0, .string a1] w fun e w' => e = .returned (.bool r) ∧ Below w.heap.size w w' := by
  have HB := Aside0.mk (Below.refl w.heap.size w)
  have H : ((tribunallaw03_head.f).bind fun t685 => ((tribunallaw03_Great.f a0 a1).bind fun t686 => (if t686 = true then (some t685) else ((rat_Norm.f a0).bind fun bt687 => ((rat_Norm.f a1).bind fun bt689 => ((rat_Right.f a0).bind fun t691 => (if bt687.2 = 0 then (if (t691 != (bt687.1.toList == a0.toList)) = true then (tribunallaw03_RatText.j0 k t685 bt687.1 bt687.2 bt689.1 bt689.2 true) else (tribunallaw03_RatText.j0 k t685 bt687.1 bt687.2 bt689.1 bt689.2 false)) else (if (t691 != false) = true then (tribunallaw03_RatText.j0 k t685 bt687.1 bt687.2 bt689.1 bt689.2 true) else (tribunallaw03_RatText.j0 k t685 bt687.1 bt687.2 bt689.1 bt689.2 (bt687.1.toList != ([] : List UInt8))))))))))) = some r := h
  clear h
  replace H := Option.bind_eq_some_iff.mp H
  obtain ⟨t685, A30, H⟩ := H
  replace H : ((tribunallaw03_Great.f a0 a1).bind fun t686 => (if t686 = true then (some t685) else ((rat_Norm.f a0).bind fun bt687 => ((rat_Norm.f a1).bind fun bt689 => ((rat_Right.f a0).bind fun t691 => (if bt687.2 = 0 then (if (t691 != (bt687.1.toList == a0.toList)) = true then (tribunallaw03_RatText.j0 k t685 bt687.1 bt687.2 bt689.1 bt689.2 true) else (tribunallaw03_RatText.j0 k t685 bt687.1 bt687.2 bt689.1 bt689.2 false)) else (if (t691 != false) = true then (tribunallaw03_RatText.j0 k t685 bt687.1 bt687.2 bt689.1 bt689.2 true) else (tribunallaw03_RatText.j0 k t685 bt687.1 bt687.2 bt689.1 bt689.2 (bt687.1.toList != ([] : List UInt8)))))))))) = some r := H
  have A3 := Aside0.mk A30
  clear A30
  replace H := Option.bind_eq_some_iff.mp H
  obtain ⟨t686, A40, H⟩ := H
  replace H : (if t686 = true then (some t685) else ((rat_Norm.f a0).bind fun bt687 => ((rat_Norm.f a1).bind fun bt689 => ((rat_Right.f a0).bind fun t691 => (if bt687.2 = 0 then (if (t691 != (bt687.1.toList == a0.toList)) = true then (tribunallaw03_RatText.j0 k t685 bt687.1 bt687.2 bt689.1 bt689.2 true) else (tribunallaw03_RatText.j0 k t685 bt687.1 bt687.2 bt689.1 bt689.2 false)) else (if (t691 != false) = true then (tribunallaw03_RatText.j0 k t685 bt687.1 bt687.2 bt689.1 bt689.2 true) else (tribunallaw03_RatText.j0 k t685 bt687.1 bt687.2 bt689.1 bt689.2 (bt687.1.toList != ([] : List UInt8))))))))) = some r := H
  have A4 := Aside0.mk A40
  clear A40
  by_cases c5 : t686 = true
  · subst c5
    have H1 : (some t685) = some r := by rw [if_pos rfl] at H; exact H
    clear H
    have H := H1
    clear H1
    obtain rfl := Option.some.inj H
    go_enter Tryd.func5, Tryd.ntmps5
    go_wp2_with (first | ((with_reducible refine gate_callee (f := 10) rfl ?_); refine goesL_ (some 14) rfl rfl Tryd.func10 (by kernel_rfl) rfl #[] rfl (by (try simp only [List.map_toArray, List.map_cons, List.map_nil]); first | done | rfl | (simp only [List.length_drop, List.length_take]; rfl)) ?_; (with_reducible refine (tribunallaw03_head.calls  t685 _ A3.out).mono ?_); rintro e w6 ⟨rfl, hb⟩; refine ⟨_, rfl, ?_⟩; have n0_ := Aside0.mk (below_step (by repeat (first | (with_reducible first | exact HB.out | apply below_alloc | apply pw_below_drewN | apply below_drew1) | exact HB.out)) hb); clear HB; have HB := n0_; clear n0_; (try clear hb); (try clear hb2); (try clear hk); (try clear hi)) | ((with_reducible refine gate_callee (f := 11) rfl ?_); refine goesL_ (some 17) rfl rfl Tryd.func11 (by kernel_rfl) rfl #[.string a0, .string a1] rfl (by (try simp only [List.map_toArray, List.map_cons, List.map_nil]); first | done | rfl | (simp only [List.length_drop, List.length_take]; rfl)) ?_; (with_reducible refine (tribunallaw03_Great.calls a0 a1 true _ A4.out).mono ?_); rintro e w' ⟨rfl, ⟨nd, rfl⟩⟩; refine ⟨_, rfl, ?_⟩))
    go_ret
    exact ⟨by first | rfl | (simp [errW_none, errW_some] <;> rfl) | (simp [*, errW_none, errW_some] <;> rfl), by repeat (first | (with_reducible first | exact HB.out | apply below_alloc | apply pw_below_drewN | apply below_drew1) | exact HB.out)⟩
  · replace c5 := Bool.eq_false_iff.mpr c5
    subst c5
    have H1 : ((rat_Norm.f a0).bind fun bt687 => ((rat_Norm.f a1).bind fun bt689 => ((rat_Right.f a0).bind fun t691 => (if bt687.2 = 0 then (if (t691 != (bt687.1.toList == a0.toList)) = true then (tribunallaw03_RatText.j0 k t685 bt687.1 bt687.2 bt689.1 bt689.2 true) else (tribunallaw03_RatText.j0 k t685 bt687.1 bt687.2 bt689.1 bt689.2 false)) else (if (t691 != false) = true then (tribunallaw03_RatText.j0 k t685 bt687.1 bt687.2 bt689.1 bt689.2 true) else (tribunallaw03_RatText.j0 k t685 bt687.1 bt687.2 bt689.1 bt689.2 (bt687.1.toList != ([] : List UInt8)))))))) = some r := by rw [if_neg (show ¬ (false = true) by decide)] at H; exact H
    clear H
    have H := H1
    clear H1
    replace H := Option.bind_eq_some_iff.mp H
    obtain ⟨⟨t687, t688⟩, A70, H⟩ := H
    replace H : ((rat_Norm.f a1).bind fun bt689 => ((rat_Right.f a0).bind fun t691 => (if t688 = 0 then (if (t691 != (t687.toList == a0.toList)) = true then (tribunallaw03_RatText.j0 k t685 t687 t688 bt689.1 bt689.2 true) else (tribunallaw03_RatText.j0 k t685 t687 t688 bt689.1 bt689.2 false)) else (if (t691 != false) = true then (tribunallaw03_RatText.j0 k t685 t687 t688 bt689.1 bt689.2 true) else (tribunallaw03_RatText.j0 k t685 t687 t688 bt689.1 bt689.2 (t687.toList != ([] : List UInt8))))))) = some r := H
    have A7 := Aside0.mk A70
    clear A70
    replace H := Option.bind_eq_some_iff.mp H
    obtain ⟨⟨t689, t690⟩, A80, H⟩ := H
    replace H : ((rat_Right.f a0).bind fun t691 => (if t688 = 0 then (if (t691 != (t687.toList == a0.toList)) = true then (tribunallaw03_RatText.j0 k t685 t687 t688 t689 t690 true) else (tribunallaw03_RatText.j0 k t685 t687 t688 t689 t690 false)) else (if (t691 != false) = true then (tribunallaw03_RatText.j0 k t685 t687 t688 t689 t690 true) else (tribunallaw03_RatText.j0 k t685 t687 t688 t689 t690 (t687.toList != ([] : List UInt8)))))) = some r := H
    have A8 := Aside0.mk A80
    clear A80
    have HC9 := Aside0.mk H
    clear H
    go_enter Tryd.func5, Tryd.ntmps5
    go_upto_region 6 with (first | ((with_reducible refine gate_callee (f := 10) rfl ?_); refine goesL_ (some 14) rfl rfl Tryd.func10 (by kernel_rfl) rfl #[] rfl (by (try simp only [List.map_toArray, List.map_cons, List.map_nil]); first | done | rfl | (simp only [List.length_drop, List.length_take]; rfl)) ?_; (with_reducible refine (tribunallaw03_head.calls  t685 _ A3.out).mono ?_); rintro e w10 ⟨rfl, hb⟩; refine ⟨_, rfl, ?_⟩; have n0_ := Aside0.mk (below_step (by repeat (first | (with_reducible first | exact HB.out | apply below_alloc | apply pw_below_drewN | apply below_drew1) | exact HB.out)) hb); clear HB; have HB := n0_; clear n0_; (try clear hb); (try clear hb2); (try clear hk); (try clear hi)) | ((with_reducible refine gate_callee (f := 11) rfl ?_); refine goesL_ (some 17) rfl rfl Tryd.func11 (by kernel_rfl) rfl #[.string a0, .string a1] rfl (by (try simp only [List.map_toArray, List.map_cons, List.map_nil]); first | done | rfl | (simp only [List.length_drop, List.length_take]; rfl)) ?_; (with_reducible refine (tribunallaw03_Great.calls a0 a1 false _ A4.out).mono ?_); rintro e w' ⟨rfl, ⟨nd, rfl⟩⟩; refine ⟨_, rfl, ?_⟩) | ((with_reducible refine gate_callee (f := 12) rfl ?_); refine goesL_ (some 21) rfl rfl Tryd.func12 (by kernel_rfl) rfl #[.string a0] rfl (by (try simp only [List.map_toArray, List.map_cons, List.map_nil]); first | done | rfl | (simp only [List.length_drop, List.length_take]; rfl)) ?_; (with_reducible refine (rat_Norm.calls a0 t687 t688 _ A7.out).mono ?_); rintro e w11 ⟨rfl, hb⟩; refine ⟨_, rfl, ?_⟩; have n0_ := Aside0.mk (below_step (by repeat (first | (with_reducible first | exact HB.out | apply below_alloc | apply pw_below_drewN | apply below_drew1) | exact HB.out)) hb); clear HB; have HB := n0_; clear n0_; (try clear hb); (try clear hb2); (try clear hk); (try clear hi)) | ((with_reducible refine gate_callee (f := 12) rfl ?_); refine goesL_ (some 26) rfl rfl Tryd.func12 (by kernel_rfl) rfl #[.string a1] rfl (by (try simp only [List.map_toArray, List.map_cons, List.map_nil]); first | done | rfl | (simp only [List.length_drop, List.length_take]; rfl)) ?_; (with_reducible refine (rat_Norm.calls a1 t689 t690 _ A8.out).mono ?_); rintro e w12 ⟨rfl, hb⟩; refine ⟨_, rfl, ?_⟩; have n0_ := Aside0.mk (below_step (by repeat (first | (with_reducible first | exact HB.out | apply below_alloc | apply pw_below_drewN | apply below_drew1) | exact HB.out)) hb); clear HB; have HB := n0_; clear n0_; (try clear hb); (try clear hb2); (try clear hk); (try clear hi)))
    (try simp only [Act.put, List.setIfInBounds_toArray, List.set_cons_zero, List.set_cons_succ])
    go_cut [46] (fun v46 wc => ∃ (kq : Nat) (x46_8 : Bool), v46 = .bool x46_8 ∧ Aside0 (tribunallaw03_RatText.j0 kq t685 t687 t688 t689 t690 x46_8 = some r) ∧ Aside0 (kq ≤ k) ∧ Aside0 (Below w.heap.size w wc))
    case first =>
      have H := HC9.out
      clear HC9
      replace H := Option.bind_eq_some_iff.mp H
      obtain ⟨t691, A130, H⟩ := H
      replace H : (if t688 = 0 then (if (t691 != (t687.toList == a0.toList)) = true then (tribunallaw03_RatText.j0 k t685 t687 t688 t689 t690 true) else (tribunallaw03_RatText.j0 k t685 t687 t688 t689 t690 false)) else (if (t691 != false) = true then (tribunallaw03_RatText.j0 k t685 t687 t688 t689 t690 true) else (tribunallaw03_RatText.j0 k t685 t687 t688 t689 t690 (t687.toList != ([] : List UInt8))))) = some r := H
      have A13 := Aside0.mk A130
      clear A130
      by_cases c14 : t688 = 0
      · rw [if_pos c14] at H
        have c14b0 : (t688 == 0) = true := beq_iff_eq.mpr c14
        have c14b1 : (t688 != 0) = false := bne_eq_false_iff_eq.mpr c14
        clear c14
        (first | rw [c14b0] | (simp only [i64_w, i32_w]; rw [c14b0]) | skip)
        by_cases c15 : (t691 != (t687.toList == a0.toList)) = true
        · rw [if_pos c15] at H
          have c15b0 : (t691 != (t687.toList == a0.toList)) = true := c15
          (try (have c15b1 : decide (t691 = (t687.toList == a0.toList)) = false := by simpa using c15))
          (try (have c15b2 : (t691 == (t687.toList == a0.toList)) = false := by simpa using c15))
          (try (have c15b3 : ¬ (t691 = (t687.toList == a0.toList)) := by simpa using c15))
          clear c15
          have H' := Aside0.mk H
          clear H
          go_wp2_with (first | ((with_reducible refine gate_callee (f := 16) rfl ?_); refine goesL_ (some 30) rfl rfl Tryd.func16 (by kernel_rfl) rfl #[.string a0] rfl (by (try simp only [List.map_toArray, List.map_cons, List.map_nil]); first | done | rfl | (simp only [List.length_drop, List.length_take]; rfl)) ?_; (with_reducible refine (rat_Right.calls a0 t691 _ A13.out).mono ?_); rintro e w16 ⟨rfl, hb⟩; refine ⟨_, rfl, ?_⟩; have n0_ := Aside0.mk (below_step (by repeat (first | (with_reducible first | exact HB.out | apply below_alloc | apply pw_below_drewN | apply below_drew1) | exact HB.out)) hb); clear HB; have HB := n0_; clear n0_; (try clear hb); (try clear hb2); (try clear hk); (try clear hi)))
          go_meet
          case rel => exact ⟨_, (true), (by first | rfl | (simp; done) | (simp [*]; done) | (simp; generalize ByteArray.toList _ = l_; cases l_ <;> rfl)), H', ⟨by first | omega | exact Nat.le_refl _⟩, ⟨by repeat (first | (with_reducible first | exact HB.out | apply below_alloc | apply pw_below_drewN | apply below_drew1) | exact HB.out)⟩⟩
        · rw [if_neg c15] at H
          have c15b0 : (t691 != (t687.toList == a0.toList)) = false := by simpa using c15
          (try (have c15b1 : decide (t691 = (t687.toList == a0.toList)) = true := by simpa using c15))
          (try (have c15b2 : (t691 == (t687.toList == a0.toList)) = true := by simpa using c15))
          clear c15
          have H' := Aside0.mk H
          clear H
          go_wp2_with (first | ((with_reducible refine gate_callee (f := 16) rfl ?_); refine goesL_ (some 30) rfl rfl Tryd.func16 (by kernel_rfl) rfl #[.string a0] rfl (by (try simp only [List.map_toArray, List.map_cons, List.map_nil]); first | done | rfl | (simp only [List.length_drop, List.length_take]; rfl)) ?_; (with_reducible refine (rat_Right.calls a0 t691 _ A13.out).mono ?_); rintro e w17 ⟨rfl, hb⟩; refine ⟨_, rfl, ?_⟩; have n0_ := Aside0.mk (below_step (by repeat (first | (with_reducible first | exact HB.out | apply below_alloc | apply pw_below_drewN | apply below_drew1) | exact HB.out)) hb); clear HB; have HB := n0_; clear n0_; (try clear hb); (try clear hb2); (try clear hk); (try clear hi)))
          go_meet
          case rel => exact ⟨_, (false), (by first | rfl | (simp; done) | (simp [*]; done) | (simp; generalize ByteArray.toList _ = l_; cases l_ <;> rfl)), H', ⟨by first | omega | exact Nat.le_refl _⟩, ⟨by repeat (first | (with_reducible first | exact HB.out | apply below_alloc | apply pw_below_drewN | apply below_drew1) | exact HB.out)⟩⟩
      · rw [if_neg c14] at H
        have c14b0 : (t688 == 0) = false := beq_eq_false_iff_ne.mpr c14
        have c14b1 : (t688 != 0) = true := bne_iff_ne.mpr c14
        (first | rw [c14b0] | (simp only [i64_w, i32_w]; rw [c14b0]) | skip)
        by_cases c18 : (t691 != false) = true
        · rw [if_pos c18] at H
          have c18b0 : (t691 != false) = true := c18
          (try (have c18b1 : decide (t691 = false) = false := by simpa using c18))
          (try (have c18b2 : (t691 == false) = false := by simpa using c18))
          (try (have c18b3 : ¬ (t691 = false) := by simpa using c18))
          clear c18
          have H' := Aside0.mk H
          clear H
          go_wp2_with (first | ((with_reducible refine gate_callee (f := 16) rfl ?_); refine goesL_ (some 30) rfl rfl Tryd.func16 (by kernel_rfl) rfl #[.string a0] rfl (by (try simp only [List.map_toArray, List.map_cons, List.map_nil]); first | done | rfl | (simp only [List.length_drop, List.length_take]; rfl)) ?_; (with_reducible refine (rat_Right.calls a0 t691 _ A13.out).mono ?_); rintro e w19 ⟨rfl, hb⟩; refine ⟨_, rfl, ?_⟩; have n0_ := Aside0.mk (below_step (by repeat (first | (with_reducible first | exact HB.out | apply below_alloc | apply pw_below_drewN | apply below_drew1) | exact HB.out)) hb); clear HB; have HB := n0_; clear n0_; (try clear hb); (try clear hb2); (try clear hk); (try clear hi)))
          go_meet
          case rel => exact ⟨_, (true), (by first | rfl | (simp; done) | (simp [*]; done) | (simp; generalize ByteArray.toList _ = l_; cases l_ <;> rfl)), H', ⟨by first | omega | exact Nat.le_refl _⟩, ⟨by repeat (first | (with_reducible first | exact HB.out | apply below_alloc | apply pw_below_drewN | apply below_drew1) | exact HB.out)⟩⟩
        · rw [if_neg c18] at H
          have c18b0 : (t691 != false) = false := by simpa using c18
          (try (have c18b1 : decide (t691 = false) = true := by simpa using c18))
          (try (have c18b2 : (t691 == false) = true := by simpa using c18))
          clear c18
          have H' := Aside0.mk H
          clear H
          go_wp2_with (first | ((with_reducible refine gate_callee (f := 16) rfl ?_); refine goesL_ (some 30) rfl rfl Tryd.func16 (by kernel_rfl) rfl #[.string a0] rfl (by (try simp only [List.map_toArray, List.map_cons, List.map_nil]); first | done | rfl | (simp only [List.length_drop, List.length_take]; rfl)) ?_; (with_reducible refine (rat_Right.calls a0 t691 _ A13.out).mono ?_); rintro e w20 ⟨rfl, hb⟩; refine ⟨_, rfl, ?_⟩; have n0_ := Aside0.mk (below_step (by repeat (first | (with_reducible first | exact HB.out | apply below_alloc | apply pw_below_drewN | apply below_drew1) | exact HB.out)) hb); clear HB; have HB := n0_; clear n0_; (try clear hb); (try clear hb2); (try clear hk); (try clear hi)))
          go_meet
          case rel => exact ⟨_, ((t687.toList != ([] : List UInt8))), (by first | rfl | (simp; done) | (simp [*]; done) | (simp; generalize ByteArray.toList _ = l_; cases l_ <;> rfl)), H', ⟨by first | omega | exact Nat.le_refl _⟩, ⟨by repeat (first | (with_reducible first | exact HB.out | apply below_alloc | apply pw_below_drewN | apply below_drew1) | exact HB.out)⟩⟩
    case rest =>
      clear HC9
      try clear c1
      try clear p2
      try clear c5
      try clear c10
      try clear c11
      try clear c12
      try clear c14
      try clear c14b0
      try clear c14b1
      try clear c15
      try clear c15b0
      try clear c15b1
      try clear c15b2
      try clear c16
      try clear c18
      try clear c18b0
      try clear c18b1
      try clear c18b2
      obtain ⟨kq, x46_8, rfl, HA, HJ8, HB⟩ := hcut
      cases kq with
      | zero => exact absurd HA.out (by simp [tribunallaw03_RatText.j0])
      | succ kj8 =>
        have H := HA.out
        clear HA
        simp only [tribunallaw03_RatText.j0] at H
        by_cases c21 : x46_8 = true
        · subst c21
          have H1 : (none) = some r := by rw [if_pos rfl] at H; exact H
          clear H
          have H := H1
          clear H1
          exact absurd H (by simp)
        · replace c21 := Bool.eq_false_iff.mpr c21
          subst c21
          have H1 : (if t688 = 0 then (tribunallaw03_RatText.j1 kj8 t685 t687 t689 (t690 != 0)) else (tribunallaw03_RatText.j1 kj8 t685 t687 t689 true)) = some r := by rw [if_neg (show ¬ (false = true) by decide)] at H; exact H
          clear H
          have H := H1
          clear H1
          have HC22 := Aside0.mk H
          clear H
          go_upto_region 8 with (fail)
          go_cut [52] (fun v52 wc => ∃ (kq : Nat) (x52_21 : Bool), v52 = .bool x52_21 ∧ Aside0 (tribunallaw03_RatText.j1 kq t685 t687 t689 x52_21 = some r) ∧ Aside0 (kq ≤ kj8) ∧ Aside0 (Below w.heap.size w wc))
          case first =>
            have H := HC22.out
            clear HC22
            by_cases c23 : t688 = 0
            · rw [if_pos c23] at H
              have c23b0 : (t688 == 0) = true := beq_iff_eq.mpr c23
              have c23b1 : (t688 != 0) = false := bne_eq_false_iff_eq.mpr c23
              clear c23
              (first | rw [c23b0] | (simp only [i64_w, i32_w]; rw [c23b0]) | skip)
              have H' := Aside0.mk H
              clear H
              go_wp2
              go_meet
              case rel => exact ⟨_, ((t690 != 0)), (by first | rfl | (simp; done) | (simp [*]; done) | (simp; generalize ByteArray.toList _ = l_; cases l_ <;> rfl)), H', ⟨by have := HJ8.out; first | omega | exact Nat.le_refl _⟩, ⟨by repeat (first | (with_reducible first | exact HB.out | apply below_alloc | apply pw_below_drewN | apply below_drew1) | exact HB.out)⟩⟩
            · rw [if_neg c23] at H
              have c23b0 : (t688 == 0) = false := beq_eq_false_iff_ne.mpr c23
              have c23b1 : (t688 != 0) = true := bne_iff_ne.mpr c23
              (first | rw [c23b0] | (simp only [i64_w, i32_w]; rw [c23b0]) | skip)
              have H' := Aside0.mk H
              clear H
              go_wp2
              go_meet
              case rel => exact ⟨_, (true), (by first | rfl | (simp; done) | (simp [*]; done) | (simp; generalize ByteArray.toList _ = l_; cases l_ <;> rfl)), H', ⟨by have := HJ8.out; first | omega | exact Nat.le_refl _⟩, ⟨by repeat (first | (with_reducible first | exact HB.out | apply below_alloc | apply pw_below_drewN | apply below_drew1) | exact HB.out)⟩⟩
          case rest =>
            clear HC22
            try clear c1
            try clear c2
            try clear p2
            try clear c5
            try clear c10
            try clear c11
            try clear c12
            try clear c14
            try clear c14b0
            try clear c14b1
            try clear c15
            try clear c15b0
            try clear c15b1
            try clear c15b2
            try clear c16
            try clear c18
            try clear c18b0
            try clear c18b1
            try clear c18b2
            try clear c21
            try clear c23
            try clear c23b0
            try clear c23b1
            try clear p2
            obtain ⟨kq, x52_21, rfl, HA, HJ21, HB⟩ := hcut
            cases kq with
            | zero => exact absurd HA.out (by simp [tribunallaw03_RatText.j1])
            | succ kj21 =>
              have H := HA.out
              clear HA
              simp only [tribunallaw03_RatText.j1] at H
              by_cases c24 : x52_21 = true
              · subst c24
                have H1 : (some t685) = some r := by rw [if_pos rfl] at H; exact H
                clear H
                have H := H1
                clear H1
                obtain rfl := Option.some.inj H
                go_wp2
                go_ret
                exact ⟨by first | rfl | (simp [errW_none, errW_some] <;> rfl) | (simp [*, errW_none, errW_some] <;> rfl), by repeat (first | (with_reducible first | exact HB.out | apply below_alloc | apply pw_below_drewN | apply below_drew1) | exact HB.out)⟩
              · replace c24 := Bool.eq_false_iff.mpr c24
                subst c24
                have H1 : ((rat_Norm.f t687).bind fun bt692 => ((rat_Sub.f t687 t689).bind fun bt694 => (if t685 = true then ((rat_Right.f t687).bind fun t696 => (if t696 = true then (if bt692.1.toList = t687.toList then (if bt692.2 = 0 then ((rat_Cmp.f t687 t689).bind fun t697 => (if ((t697 == 0) == (t687.toList == t689.toList)) = true then (if ((bt694.1.toList == ([48] : List UInt8)) == (t687.toList == t689.toList)) = true then ((rat_Right.f bt694.1).bind fun t698 => (if t698 = true then ((tribunallaw03_times.f t687 t689).bind fun t699 => ((rat_Right.f t699).bind fun t700 => (some t700))) else (none))) else (none)) else (none))) else (none)) else (none)) else (none))) else (none)))) = some r := by rw [if_neg (show ¬ (false = true) by decide)] at H; exact H
                clear H
                have H := H1
                clear H1
                replace H := Option.bind_eq_some_iff.mp H
                obtain ⟨⟨t692, t693⟩, A250, H⟩ := H
                replace H : ((rat_Sub.f t687 t689).bind fun bt694 => (if t685 = true then ((rat_Right.f t687).bind fun t696 => (if t696 = true then (if t692.toList = t687.toList then (if t693 = 0 then ((rat_Cmp.f t687 t689).bind fun t697 => (if ((t697 == 0) == (t687.toList == t689.toList)) = true then (if ((bt694.1.toList == ([48] : List UInt8)) == (t687.toList == t689.toList)) = true then ((rat_Right.f bt694.1).bind fun t698 => (if t698 = true then ((tribunallaw03_times.f t687 t689).bind fun t699 => ((rat_Right.f t699).bind fun t700 => (some t700))) else (none))) else (none)) else (none))) else (none)) else (none)) else (none))) else (none))) = some r := H
                have A25 := Aside0.mk A250
                clear A250
                replace H := Option.bind_eq_some_iff.mp H
                obtain ⟨⟨t694, t695⟩, A260, H⟩ := H
                replace H : (if t685 = true then ((rat_Right.f t687).bind fun t696 => (if t696 = true then (if t692.toList = t687.toList then (if t693 = 0 then ((rat_Cmp.f t687 t689).bind fun t697 => (if ((t697 == 0) == (t687.toList == t689.toList)) = true then (if ((t694.toList == ([48] : List UInt8)) == (t687.toList == t689.toList)) = true then ((rat_Right.f t694).bind fun t698 => (if t698 = true then ((tribunallaw03_times.f t687 t689).bind fun t699 => ((rat_Right.f t699).bind fun t700 => (some t700))) else (none))) else (none)) else (none))) else (none)) else (none)) else (none))) else (none)) = some r := H
                have A26 := Aside0.mk A260
                clear A260
                by_cases c27 : t685 = true
                · subst c27
                  have H1 : ((rat_Right.f t687).bind fun t696 => (if t696 = true then (if t692.toList = t687.toList then (if t693 = 0 then ((rat_Cmp.f t687 t689).bind fun t697 => (if ((t697 == 0) == (t687.toList == t689.toList)) = true then (if ((t694.toList == ([48] : List UInt8)) == (t687.toList == t689.toList)) = true then ((rat_Right.f t694).bind fun t698 => (if t698 = true then ((tribunallaw03_times.f t687 t689).bind fun t699 => ((rat_Right.f t699).bind fun t700 => (some t700))) else (none))) else (none)) else (none))) else (none)) else (none)) else (none))) = some r := by rw [if_pos rfl] at H; exact H
                  clear H
                  have H := H1
                  clear H1
                  replace H := Option.bind_eq_some_iff.mp H
                  obtain ⟨t696, A280, H⟩ := H
                  replace H : (if t696 = true then (if t692.toList = t687.toList then (if t693 = 0 then ((rat_Cmp.f t687 t689).bind fun t697 => (if ((t697 == 0) == (t687.toList == t689.toList)) = true then (if ((t694.toList == ([48] : List UInt8)) == (t687.toList == t689.toList)) = true then ((rat_Right.f t694).bind fun t698 => (if t698 = true then ((tribunallaw03_times.f t687 t689).bind fun t699 => ((rat_Right.f t699).bind fun t700 => (some t700))) else (none))) else (none)) else (none))) else (none)) else (none)) else (none)) = some r := H
                  have A28 := Aside0.mk A280
                  clear A280
                  by_cases c29 : t696 = true
                  · subst c29
                    have H1 : (if t692.toList = t687.toList then (if t693 = 0 then ((rat_Cmp.f t687 t689).bind fun t697 => (if ((t697 == 0) == (t687.toList == t689.toList)) = true then (if ((t694.toList == ([48] : List UInt8)) == (t687.toList == t689.toList)) = true then ((rat_Right.f t694).bind fun t698 => (if t698 = true then ((tribunallaw03_times.f t687 t689).bind fun t699 => ((rat_Right.f t699).bind fun t700 => (some t700))) else (none))) else (none)) else (none))) else (none)) else (none)) = some r := by rw [if_pos rfl] at H; exact H
                    clear H
                    have H := H1
                    clear H1
                    by_cases c30 : t692.toList = t687.toList
                    · rw [if_pos c30] at H
                      have c30b0 : (t692.toList == t687.toList) = true := beq_iff_eq.mpr c30
                      have c30b1 : (t692.toList != t687.toList) = false := bne_eq_false_iff_eq.mpr c30
                      clear c30
                      by_cases c31 : t693 = 0
                      · rw [if_pos c31] at H
                        have c31b0 : (t693 == 0) = true := beq_iff_eq.mpr c31
                        have c31b1 : (t693 != 0) = false := bne_eq_false_iff_eq.mpr c31
                        clear c31
                        replace H := Option.bind_eq_some_iff.mp H
                        obtain ⟨t697, A320, H⟩ := H
                        replace H : (if ((t697 == 0) == (t687.toList == t689.toList)) = true then (if ((t694.toList == ([48] : List UInt8)) == (t687.toList == t689.toList)) = true then ((rat_Right.f t694).bind fun t698 => (if t698 = true then ((tribunallaw03_times.f t687 t689).bind fun t699 => ((rat_Right.f t699).bind fun t700 => (some t700))) else (none))) else (none)) else (none)) = some r := H
                        have A32 := Aside0.mk A320
                        clear A320
                        by_cases c33 : ((t697 == 0) == (t687.toList == t689.toList)) = true
                        · rw [if_pos c33] at H
                          have c33b0 : ((t697 == 0) == (t687.toList == t689.toList)) = true := c33
                          (try (have c33b1 : decide ((t697 == 0) = (t687.toList == t689.toList)) = true := by simpa using c33))
                          (try (have c33b2 : ((t697 == 0) == (t687.toList == t689.toList)) = true := by simpa using c33))
                          clear c33
                          by_cases c34 : ((t694.toList == ([48] : List UInt8)) == (t687.toList == t689.toList)) = true
                          · rw [if_pos c34] at H
                            have c34b0 : ((t694.toList == ([48] : List UInt8)) == (t687.toList == t689.toList)) = true := c34
                            (try (have c34b1 : decide ((t694.toList == ([48] : List UInt8)) = (t687.toList == t689.toList)) = true := by simpa using c34))
                            (try (have c34b2 : ((t694.toList == ([48] : List UInt8)) == (t687.toList == t689.toList)) = true := by simpa using c34))
                            clear c34
                            replace H := Option.bind_eq_some_iff.mp H
                            obtain ⟨t698, A350, H⟩ := H
                            replace H : (if t698 = true then ((tribunallaw03_times.f t687 t689).bind fun t699 => ((rat_Right.f t699).bind fun t700 => (some t700))) else (none)) = some r := H
                            have A35 := Aside0.mk A350
                            clear A350
                            by_cases c36 : t698 = true
                            · subst c36
                              have H1 : ((tribunallaw03_times.f t687 t689).bind fun t699 => ((rat_Right.f t699).bind fun t700 => (some t700))) = some r := by rw [if_pos rfl] at H; exact H
                              clear H
                              have H := H1
                              clear H1
                              replace H := Option.bind_eq_some_iff.mp H
                              obtain ⟨t699, A370, H⟩ := H
                              replace H : ((rat_Right.f t699).bind fun t700 => (some t700)) = some r := H
                              have A37 := Aside0.mk A370
                              clear A370
                              replace H := Option.bind_eq_some_iff.mp H
                              obtain ⟨t700, A380, H⟩ := H
                              replace H : (some t700) = some r := H
                              have A38 := Aside0.mk A380
                              clear A380
                              obtain rfl := Option.some.inj H
                              go_wp2_with (first | ((with_reducible refine gate_callee (f := 12) rfl ?_); refine goesL_ (some 56) rfl rfl Tryd.func12 (by kernel_rfl) rfl #[.string t687] rfl (by (try simp only [List.map_toArray, List.map_cons, List.map_nil]); first | done | rfl | (simp only [List.length_drop, List.length_take]; rfl)) ?_; (with_reducible refine (rat_Norm.calls t687 t692 t693 _ A25.out).mono ?_); rintro e w39 ⟨rfl, hb⟩; refine ⟨_, rfl, ?_⟩; have n0_ := Aside0.mk (below_step (by repeat (first | (with_reducible first | exact HB.out | apply below_alloc | apply pw_below_drewN | apply below_drew1) | exact HB.out)) hb); clear HB; have HB := n0_; clear n0_; (try clear hb); (try clear hb2); (try clear hk); (try clear hi)) | ((with_reducible refine gate_callee (f := 20) rfl ?_); refine goesL_ (some 62) rfl rfl Tryd.func20 (by kernel_rfl) rfl #[.string t687, .string t689] rfl (by (try simp only [List.map_toArray, List.map_cons, List.map_nil]); first | done | rfl | (simp only [List.length_drop, List.length_take]; rfl)) ?_; (with_reducible refine (rat_Sub.calls t687 t689 t694 t695 _ A26.out).mono ?_); rintro e w40 ⟨rfl, hb⟩; refine ⟨_, rfl, ?_⟩; have n0_ := Aside0.mk (below_step (by repeat (first | (with_reducible first | exact HB.out | apply below_alloc | apply pw_below_drewN | apply below_drew1) | exact HB.out)) hb); clear HB; have HB := n0_; clear n0_; (try clear hb); (try clear hb2); (try clear hk); (try clear hi)) | (go_at_call 16; (with_reducible refine (rat_Right.calls t687 true _ A28.out).mono ?_); rintro e w41 ⟨rfl, hb⟩; have n0_ := Aside0.mk (below_step (by repeat (first | (with_reducible first | exact HB.out | apply below_alloc | apply pw_below_drewN | apply below_drew1) | exact HB.out)) hb); clear HB; have HB := n0_; clear n0_; (try clear hb); (try clear hb2); (try clear hk); (try clear hi)) | (go_at_call 18; (with_reducible refine (rat_Cmp.calls t687 t689 t697 _ A32.out).mono ?_); rintro e w42 ⟨rfl, hb⟩; have n0_ := Aside0.mk (below_step (by repeat (first | (with_reducible first | exact HB.out | apply below_alloc | apply pw_below_drewN | apply below_drew1) | exact HB.out)) hb); clear HB; have HB := n0_; clear n0_; (try clear hb); (try clear hb2); (try clear hk); (try clear hi)) | (go_at_call 16; (with_reducible refine (rat_Right.calls t694 true _ A35.out).mono ?_); rintro e w43 ⟨rfl, hb⟩; have n0_ := Aside0.mk (below_step (by repeat (first | (with_reducible first | exact HB.out | apply below_alloc | apply pw_below_drewN | apply below_drew1) | exact HB.out)) hb); clear HB; have HB := n0_; clear n0_; (try clear hb); (try clear hb2); (try clear hk); (try clear hi)) | (go_at_call 29; (with_reducible refine (tribunallaw03_times.calls t687 t689 t699 _ A37.out).mono ?_); rintro e w44 ⟨rfl, hb⟩; have n0_ := Aside0.mk (below_step (by repeat (first | (with_reducible first | exact HB.out | apply below_alloc | apply pw_below_drewN | apply below_drew1) | exact HB.out)) hb); clear HB; have HB := n0_; clear n0_; (try clear hb); (try clear hb2); (try clear hk); (try clear hi)) | (go_at_call 16; (with_reducible refine (rat_Right.calls t699 t700 _ A38.out).mono ?_); rintro e w45 ⟨rfl, hb⟩; have n0_ := Aside0.mk (below_step (by repeat (first | (with_reducible first | exact HB.out | apply below_alloc | apply pw_below_drewN | apply below_drew1) | exact HB.out)) hb); clear HB; have HB := n0_; clear n0_; (try clear hb); (try clear hb2); (try clear hk); (try clear hi)))
                              go_ret
                              exact ⟨by first | rfl | (simp [errW_none, errW_some] <;> rfl) | (simp [*, errW_none, errW_some] <;> rfl), by repeat (first | (with_reducible first | exact HB.out | apply below_alloc | apply pw_below_drewN | apply below_drew1) | exact HB.out)⟩
                            · replace c36 := Bool.eq_false_iff.mpr c36
                              subst c36
                              have H1 : (none) = some r := by rw [if_neg (show ¬ (false = true) by decide)] at H; exact H
                              clear H
                              have H := H1
                              clear H1
                              exact absurd H (by simp)
                          · rw [if_neg c34] at H
                            exact absurd H (by simp)
                        · rw [if_neg c33] at H
                          exact absurd H (by simp)
                      · rw [if_neg c31] at H
                        exact absurd H (by simp)
                    · rw [if_neg c30] at H
                      exact absurd H (by simp)
                  · replace c29 := Bool.eq_false_iff.mpr c29
                    subst c29
                    have H1 : (none) = some r := by rw [if_neg (show ¬ (false = true) by decide)] at H; exact H
                    clear H
                    have H := H1
                    clear H1
                    exact absurd H (by simp)
                · replace c27 := Bool.eq_false_iff.mpr c27
                  subst c27
                  have H1 : (none) = some r := by rw [if_neg (show ¬ (false = true) by decide)] at H; exact H
                  clear H
                  have H := H1
                  clear H1
                  exact absurd H (by simp)

/-- THE ONE PURE STATEMENT of tribunallaw03_RatText: yours. -/
def tribunallaw03_RatText.Pure : Prop := ∀ (a0 : ByteArray) (a1 : ByteArray), a0.size ≤ 140737488351232 → a1.size ≤ 140737488351232 → ∃ k, tribunallaw03_RatText.f k a0 a1 = some true
theorem tribunallaw03_RatText.walk (P : tribunallaw03_RatText.Pure) (a0 : ByteArray) (a1 : ByteArray) (w : World) (w0 : a0.size ≤ 140737488351232) (w1 : a1.size ≤ 140737488351232) :
    Calls Tryd.prog 5 #[.string a0, .string a1] w fun e w' => e = .returned (.bool true) ∧ Below w.heap.size w w' := by
  obtain ⟨k, h⟩ := P a0 a1 w0 w1
  refine (tribunallaw03_RatText.calls k a0 a1 true w h).mono ?_
  rintro e w' ⟨rfl, hd⟩
  exact ⟨rfl, hd⟩

end Go.Proofs.YtfnhohpmhpbpmaaDoor.G
