-- Out of the translation, by a program of this repo (wip/tools/gprint.py). Lean checks it.
import Derived.Test.YtfnhohpmhpbpmaaDoorGx0
import Derived.Test.YtfnhohpmhpbpmaaDoorGx13
import Derived.Test.YtfnhohpmhpbpmaaDoorGRatTop
namespace Go.Proofs.YtfnhohpmhpbpmaaDoor.G
open Go.RowKit Go.Proofs.YtfnhohpmhpbpmaaDoorW.PrintWords Go.Proofs.YtfnhohpmhpbpmaaDoorW.PrintLast Go.Proofs.YtfnhohpmhpbpmaaDoorW.PrintMore
attribute [local go_sem] max2_int min2_int max_two min_two max_three min_three max_four min_four   -- for this text's walks alone
set_option linter.unusedVariables false
set_option linter.unusedSimpArgs false

/-! ### tribunallaw03_RatParts: function 8 -/
def tribunallaw03_RatParts.l0 : Nat → Bool → ByteArray → ByteArray → Int → Int → Int → Option (Bool)
  | 0, _, _, _, _, _, _ => none
  | k + 1, x3, x4, x6, x7, x8, x9 => if x9 < (x4.size : Int) then (if 0 ≤ x9 then (if (bt x4 x9) = 47 then (if (bt x4 x9) ≥ 48 then (if ((bt x4 x9) ≤ 57) then (tribunallaw03_RatParts.l0 k x3 x4 x6 x7 (wrap64 (x8 + 1)) (wrap64 (x9 + 1))) else (tribunallaw03_RatParts.l0 k x3 x4 x6 x7 (wrap64 (x8 + 1)) (wrap64 (x9 + 1)))) else (tribunallaw03_RatParts.l0 k x3 x4 x6 x7 (wrap64 (x8 + 1)) (wrap64 (x9 + 1)))) else (if (bt x4 x9) ≥ 48 then (if ((bt x4 x9) ≤ 57) then (tribunallaw03_RatParts.l0 k x3 x4 x6 x7 x8 (wrap64 (x9 + 1))) else (if (bt x4 x9) = 45 then (if x9 > 0 then (none) else (tribunallaw03_RatParts.l0 k x3 x4 x6 x7 x8 (wrap64 (x9 + 1)))) else (none))) else (if (bt x4 x9) = 45 then (if x9 > 0 then (none) else (tribunallaw03_RatParts.l0 k x3 x4 x6 x7 x8 (wrap64 (x9 + 1)))) else (none)))) else (none)) else (if 1 + x4.size ≤ 9223372036854775807 then (if 0 < (x4.size : Int) then (if (bt x4 0) = 45 then (if 1 ≤ (x4.size : Int) then (if x4.toList = ([48] : List UInt8) then (if x3 = true then (if x7 = 0 then (if x6.toList = x4.toList then (some (decide (x8 ≤ 1))) else (none)) else (none)) else (none)) else (if x3 = true then (if x7 = 0 then (if x6.toList = (x4.extract 1 x4.size).toList then (some (decide (x8 ≤ 1))) else (none)) else (none)) else (none))) else (none)) else (if x4.toList = ([48] : List UInt8) then (if x3 = true then (if x7 = 0 then (if x6.toList = x4.toList then (some (decide (x8 ≤ 1))) else (none)) else (none)) else (none)) else (if x3 = true then (if x7 = 0 then (if x6.toList = ((⟨#[45]⟩ : ByteArray) ++ x4).toList then (some (decide (x8 ≤ 1))) else (none)) else (none)) else (none)))) else (none)) else (none))
def tribunallaw03_RatParts.f (k : Nat) (a0 : ByteArray) : Option (Bool) := (tribunallaw03_head.f).bind fun t747 => (if (a0.size : Int) > 160 then (some t747) else ((rat_Norm.f a0).bind fun bt748 => (if bt748.2 = 0 then ((rat_Neg.f bt748.1).bind fun bt750 => (if bt748.1.toList = ([] : List UInt8) then (none) else (tribunallaw03_RatParts.l0 k t747 bt748.1 bt750.1 bt750.2 0 0))) else (some t747))))
theorem tribunallaw03_RatParts.mono_l : ∀ k, (∀ y0 y1 y2 y3 y4 y5, LeO (tribunallaw03_RatParts.l0 k y0 y1 y2 y3 y4 y5) (tribunallaw03_RatParts.l0 (k + 1) y0 y1 y2 y3 y4 y5))
  | 0 => fun _ _ _ _ _ _ r h => by simp [tribunallaw03_RatParts.l0] at h
  | k + 1 => by
    have ih0 := tribunallaw03_RatParts.mono_l k
    · intro y0 y1 y2 y3 y4 y5
      unfold tribunallaw03_RatParts.l0
      repeat' first
      | (with_reducible exact ih0 _ _ _ _ _ _)
      | (with_reducible exact LeO.refl _)
      | (with_reducible exact LeO.none _)
      | (with_reducible refine LeO.ite ?_ ?_)
      | (with_reducible refine LeO.bind ?_ (fun _ => ?_))
      | exact ih0 _ _ _ _ _ _
      | exact LeO.none _
      | refine LeO.ite ?_ ?_
      | refine LeO.bind ?_ (fun _ => ?_)
theorem tribunallaw03_RatParts.mono : ∀ a0 k, LeO (tribunallaw03_RatParts.f k a0) (tribunallaw03_RatParts.f (k + 1) a0) := by
  intro a0 k
  have ih0 := tribunallaw03_RatParts.mono_l k
  unfold tribunallaw03_RatParts.f
  repeat' first
      | (with_reducible exact ih0 _ _ _ _ _ _)
      | (with_reducible exact LeO.refl _)
      | (with_reducible exact LeO.none _)
      | (with_reducible refine LeO.ite ?_ ?_)
      | (with_reducible refine LeO.bind ?_ (fun _ => ?_))
      | exact ih0 _ _ _ _ _ _
      | exact LeO.none _
      | refine LeO.ite ?_ ?_
      | refine LeO.bind ?_ (fun _ => ?_)
set_option maxHeartbeats 8000000 in
set_option maxRecDepth 100000 in
theorem tribunallaw03_RatParts.calls (k : Nat) (a0 : ByteArray) (r : Bool) (w : World) (h : tribunallaw03_RatParts.f k a0 = some r) :
    Calls Tryd.prog 8 #[.string a0] w fun e w' => e = .returned (.bool r) ∧ Below w.heap.size w w' := by
  have HB := Aside0.mk (Below.refl w.heap.size w)
  have H : ((tribunallaw03_head.f).bind fun t747 => (if (a0.size : Int) > 160 then (some t747) else ((rat_Norm.f a0).bind fun bt748 => (if bt748.2 = 0 then ((rat_Neg.f bt748.1).bind fun bt750 => (if bt748.1.toList = ([] : List UInt8) then (none) else (tribunallaw03_RatParts.l0 k t747 bt748.1 bt750.1 bt750.2 0 0))) else (some t747))))) = some r := h
  clear h
  replace H := Option.bind_eq_some_iff.mp H
  obtain ⟨t747, A20, H⟩ := H
  replace H : (if (a0.size : Int) > 160 then (some t747) else ((rat_Norm.f a0).bind fun bt748 => (if bt748.2 = 0 then ((rat_Neg.f bt748.1).bind fun bt750 => (if bt748.1.toList = ([] : List UInt8) then (none) else (tribunallaw03_RatParts.l0 k t747 bt748.1 bt750.1 bt750.2 0 0))) else (some t747)))) = some r := H
  have A2 := Aside0.mk A20
  clear A20
  by_cases c3 : (a0.size : Int) > 160
  · rw [if_pos c3] at H
    have c3b0 : decide (160 < (a0.size : Int)) = true := decide_eq_true c3
    have c3b1 : decide (160 < a0.size) = true := decide_eq_true (by omega)
    clear c3
    obtain rfl := Option.some.inj H
    go_enter Tryd.func8, Tryd.ntmps8
    go_wp2_with (first | ((with_reducible refine gate_callee (f := 10) rfl ?_); refine goesL_ (some 12) rfl rfl Tryd.func10 (by kernel_rfl) rfl #[] rfl (by (try simp only [List.map_toArray, List.map_cons, List.map_nil]); first | done | rfl | (simp only [List.length_drop, List.length_take]; rfl)) ?_; (with_reducible refine (tribunallaw03_head.calls  t747 _ A2.out).mono ?_); rintro e w4 ⟨rfl, hb⟩; refine ⟨_, rfl, ?_⟩; have n0_ := Aside0.mk (below_step (by repeat (first | (with_reducible first | exact HB.out | apply below_alloc | apply pw_below_drewN | apply below_drew1) | exact HB.out)) hb); clear HB; have HB := n0_; clear n0_; (try clear hb); (try clear hb2); (try clear hk); (try clear hi)))
    go_ret
    exact ⟨by first | rfl | (simp [errW_none, errW_some] <;> rfl) | (simp [*, errW_none, errW_some] <;> rfl), by repeat (first | (with_reducible first | exact HB.out | apply below_alloc | apply pw_below_drewN | apply below_drew1) | exact HB.out)⟩
  · rw [if_neg c3] at H
    have c3b0 : decide (160 < (a0.size : Int)) = false := decide_eq_false c3
    have c3b1 : decide (160 < a0.size) = false := decide_eq_false (by omega)
    clear c3
    replace H := Option.bind_eq_some_iff.mp H
    obtain ⟨⟨t748, t749⟩, A50, H⟩ := H
    replace H : (if t749 = 0 then ((rat_Neg.f t748).bind fun bt750 => (if t748.toList = ([] : List UInt8) then (none) else (tribunallaw03_RatParts.l0 k t747 t748 bt750.1 bt750.2 0 0))) else (some t747)) = some r := H
    have A5 := Aside0.mk A50
    clear A50
    by_cases c6 : t749 = 0
    · rw [if_pos c6] at H
      have c6b0 : (t749 == 0) = true := beq_iff_eq.mpr c6
      have c6b1 : (t749 != 0) = false := bne_eq_false_iff_eq.mpr c6
      clear c6
      replace H := Option.bind_eq_some_iff.mp H
      obtain ⟨⟨t750, t751⟩, A70, H⟩ := H
      replace H : (if t748.toList = ([] : List UInt8) then (none) else (tribunallaw03_RatParts.l0 k t747 t748 t750 t751 0 0)) = some r := H
      have A7 := Aside0.mk A70
      clear A70
      by_cases c8 : t748.toList = ([] : List UInt8)
      · rw [if_pos c8] at H
        exact absurd H (by simp)
      · rw [if_neg c8] at H
        have c8b0 : (t748.toList == ([] : List UInt8)) = false := beq_eq_false_iff_ne.mpr c8
        have c8b1 : (t748.toList != ([] : List UInt8)) = true := bne_iff_ne.mpr c8
        have H' := Aside0.mk H
        clear H
        go_enter Tryd.func8, Tryd.ntmps8
        go_wp2_with (first | ((with_reducible refine gate_callee (f := 10) rfl ?_); refine goesL_ (some 12) rfl rfl Tryd.func10 (by kernel_rfl) rfl #[] rfl (by (try simp only [List.map_toArray, List.map_cons, List.map_nil]); first | done | rfl | (simp only [List.length_drop, List.length_take]; rfl)) ?_; (with_reducible refine (tribunallaw03_head.calls  t747 _ A2.out).mono ?_); rintro e w9 ⟨rfl, hb⟩; refine ⟨_, rfl, ?_⟩; have n0_ := Aside0.mk (below_step (by repeat (first | (with_reducible first | exact HB.out | apply below_alloc | apply pw_below_drewN | apply below_drew1) | exact HB.out)) hb); clear HB; have HB := n0_; clear n0_; (try clear hb); (try clear hb2); (try clear hk); (try clear hi)) | ((with_reducible refine gate_callee (f := 12) rfl ?_); refine goesL_ (some 19) rfl rfl Tryd.func12 (by kernel_rfl) rfl #[.string a0] rfl (by (try simp only [List.map_toArray, List.map_cons, List.map_nil]); first | done | rfl | (simp only [List.length_drop, List.length_take]; rfl)) ?_; (with_reducible refine (rat_Norm.calls a0 t748 t749 _ A5.out).mono ?_); rintro e w10 ⟨rfl, hb⟩; refine ⟨_, rfl, ?_⟩; have n0_ := Aside0.mk (below_step (by repeat (first | (with_reducible first | exact HB.out | apply below_alloc | apply pw_below_drewN | apply below_drew1) | exact HB.out)) hb); clear HB; have HB := n0_; clear n0_; (try clear hb); (try clear hb2); (try clear hk); (try clear hi)) | ((with_reducible refine gate_callee (f := 26) rfl ?_); refine goesL_ (some 27) rfl rfl Tryd.func26 (by kernel_rfl) rfl #[.string t748] rfl (by (try simp only [List.map_toArray, List.map_cons, List.map_nil]); first | done | rfl | (simp only [List.length_drop, List.length_take]; rfl)) ?_; (with_reducible refine (rat_Neg.calls t748 t750 t751 _ A7.out).mono ?_); rintro e w11 ⟨rfl, hb⟩; refine ⟨_, rfl, ?_⟩; have n0_ := Aside0.mk (below_step (by repeat (first | (with_reducible first | exact HB.out | apply below_alloc | apply pw_below_drewN | apply below_drew1) | exact HB.out)) hb); clear HB; have HB := n0_; clear n0_; (try clear hb); (try clear hb2); (try clear hk); (try clear hi)))
        go_loopg [8, 9] k (fun kq v8 v9 w' => ∃ (x8_1 : Int) (x9_1 : Int), v8 = .int .i64 x8_1 ∧ v9 = .int .i64 x9_1 ∧ Aside0 (tribunallaw03_RatParts.l0 kq t747 t748 t750 t751 x8_1 x9_1 = some r) ∧ Aside0 (kq ≤ k) ∧ Aside0 (Below w.heap.size w w'))
        case atStart => exact ⟨(0), (0), (by first | rfl | (simp; done) | (simp [*]; done)), (by first | rfl | (simp; done) | (simp [*]; done)), H', ⟨Nat.le_refl _⟩, ⟨by repeat (first | (with_reducible first | exact HB.out | apply below_alloc | apply pw_below_drewN | apply below_drew1) | exact HB.out)⟩⟩
        case round =>
          clear H'
          try clear c1
          try clear c2
          try clear p2
          try clear c3
          try clear c3b0
          try clear c3b1
          try clear c6
          try clear c6b0
          try clear c6b1
          try clear c8
          try clear c8b0
          try clear c8b1
          try clear c10
          obtain ⟨x8_1, x9_1, rfl, rfl, HA, HK1, HB⟩ := hrel
          cases gk with
          | zero => exact absurd HA.out (by simp [tribunallaw03_RatParts.l0])
          | succ k1 =>
            have H := HA.out
            clear HA
            simp only [tribunallaw03_RatParts.l0] at H
            by_cases c12 : x9_1 < (t748.size : Int)
            · rw [if_pos c12] at H
              have c12b0 : decide (x9_1 < (t748.size : Int)) = true := decide_eq_true c12
              clear c12
              by_cases c13 : 0 ≤ x9_1
              · rw [if_pos c13] at H
                have c13b0 : decide (0 ≤ x9_1) = true := decide_eq_true c13
                clear c13
                by_cases c15 : (bt t748 x9_1) = 47
                · rw [if_pos c15] at H
                  have c15b0 : ((bt t748 x9_1) == 47) = true := beq_iff_eq.mpr c15
                  have c15b1 : ((bt t748 x9_1) != 47) = false := bne_eq_false_iff_eq.mpr c15
                  clear c15
                  by_cases c17 : (bt t748 x9_1) ≥ 48
                  · rw [if_pos c17] at H
                    have c17b0 : decide (48 ≤ (bt t748 x9_1)) = true := decide_eq_true c17
                    clear c17
                    by_cases c19 : ((bt t748 x9_1) ≤ 57)
                    · rw [if_pos c19] at H
                      have c19b0 : decide ((bt t748 x9_1) ≤ 57) = true := decide_eq_true c19
                      clear c19
                      have H' := Aside0.mk H
                      clear H
                      have p14 : 0 ≤ (x9_1 : Int) := of_decide_eq_true (by first | (with_reducible assumption) | assumption)
                      have q14 : x9_1 < (t748.size : Int) := of_decide_eq_true (by first | (with_reducible assumption) | assumption)
                      have hx14 := bt_at t748 x9_1
                      replace p14 := eq_true p14
                      replace q14 := eq_true q14
                      have p16 : 0 ≤ (x9_1 : Int) := of_decide_eq_true (by first | (with_reducible assumption) | assumption)
                      have q16 : x9_1 < (t748.size : Int) := of_decide_eq_true (by first | (with_reducible assumption) | assumption)
                      have hx16 := bt_at t748 x9_1
                      replace p16 := eq_true p16
                      replace q16 := eq_true q16
                      have p18 : 0 ≤ (x9_1 : Int) := of_decide_eq_true (by first | (with_reducible assumption) | assumption)
                      have q18 : x9_1 < (t748.size : Int) := of_decide_eq_true (by first | (with_reducible assumption) | assumption)
                      have hx18 := bt_at t748 x9_1
                      replace p18 := eq_true p18
                      replace q18 := eq_true q18
                      go_wp2
                      go_roundg k1
                      case measure => have := HK1.out; omega
                      case rel => exact ⟨(wrap64 (x8_1 + 1)), (wrap64 (x9_1 + 1)), (by first | rfl | (simp; done) | (simp [*]; done)), (by first | rfl | (simp; done) | (simp [*]; done)), H', ⟨by have := HK1.out; omega⟩, ⟨by repeat (first | (with_reducible first | exact HB.out | apply below_alloc | apply pw_below_drewN | apply below_drew1) | exact HB.out)⟩⟩
                    · rw [if_neg c19] at H
                      have c19b0 : decide ((bt t748 x9_1) ≤ 57) = false := decide_eq_false c19
                      clear c19
                      have H' := Aside0.mk H
                      clear H
                      have p14 : 0 ≤ (x9_1 : Int) := of_decide_eq_true (by first | (with_reducible assumption) | assumption)
                      have q14 : x9_1 < (t748.size : Int) := of_decide_eq_true (by first | (with_reducible assumption) | assumption)
                      have hx14 := bt_at t748 x9_1
                      replace p14 := eq_true p14
                      replace q14 := eq_true q14
                      have p16 : 0 ≤ (x9_1 : Int) := of_decide_eq_true (by first | (with_reducible assumption) | assumption)
                      have q16 : x9_1 < (t748.size : Int) := of_decide_eq_true (by first | (with_reducible assumption) | assumption)
                      have hx16 := bt_at t748 x9_1
                      replace p16 := eq_true p16
                      replace q16 := eq_true q16
                      have p18 : 0 ≤ (x9_1 : Int) := of_decide_eq_true (by first | (with_reducible assumption) | assumption)
                      have q18 : x9_1 < (t748.size : Int) := of_decide_eq_true (by first | (with_reducible assumption) | assumption)
                      have hx18 := bt_at t748 x9_1
                      replace p18 := eq_true p18
                      replace q18 := eq_true q18
                      have p20 : 0 ≤ (x9_1 : Int) := of_decide_eq_true (by first | (with_reducible assumption) | assumption)
                      have q20 : x9_1 < (t748.size : Int) := of_decide_eq_true (by first | (with_reducible assumption) | assumption)
                      have hx20 := bt_at t748 x9_1
                      replace p20 := eq_true p20
                      replace q20 := eq_true q20
                      go_wp2
                      go_roundg k1
                      case measure => have := HK1.out; omega
                      case rel => exact ⟨(wrap64 (x8_1 + 1)), (wrap64 (x9_1 + 1)), (by first | rfl | (simp; done) | (simp [*]; done)), (by first | rfl | (simp; done) | (simp [*]; done)), H', ⟨by have := HK1.out; omega⟩, ⟨by repeat (first | (with_reducible first | exact HB.out | apply below_alloc | apply pw_below_drewN | apply below_drew1) | exact HB.out)⟩⟩
                  · rw [if_neg c17] at H
                    have c17b0 : decide (48 ≤ (bt t748 x9_1)) = false := decide_eq_false c17
                    clear c17
                    have H' := Aside0.mk H
                    clear H
                    have p14 : 0 ≤ (x9_1 : Int) := of_decide_eq_true (by first | (with_reducible assumption) | assumption)
                    have q14 : x9_1 < (t748.size : Int) := of_decide_eq_true (by first | (with_reducible assumption) | assumption)
                    have hx14 := bt_at t748 x9_1
                    replace p14 := eq_true p14
                    replace q14 := eq_true q14
                    have p16 : 0 ≤ (x9_1 : Int) := of_decide_eq_true (by first | (with_reducible assumption) | assumption)
                    have q16 : x9_1 < (t748.size : Int) := of_decide_eq_true (by first | (with_reducible assumption) | assumption)
                    have hx16 := bt_at t748 x9_1
                    replace p16 := eq_true p16
                    replace q16 := eq_true q16
                    have p21 : 0 ≤ (x9_1 : Int) := of_decide_eq_true (by first | (with_reducible assumption) | assumption)
                    have q21 : x9_1 < (t748.size : Int) := of_decide_eq_true (by first | (with_reducible assumption) | assumption)
                    have hx21 := bt_at t748 x9_1
                    replace p21 := eq_true p21
                    replace q21 := eq_true q21
                    go_wp2
                    go_roundg k1
                    case measure => have := HK1.out; omega
                    case rel => exact ⟨(wrap64 (x8_1 + 1)), (wrap64 (x9_1 + 1)), (by first | rfl | (simp; done) | (simp [*]; done)), (by first | rfl | (simp; done) | (simp [*]; done)), H', ⟨by have := HK1.out; omega⟩, ⟨by repeat (first | (with_reducible first | exact HB.out | apply below_alloc | apply pw_below_drewN | apply below_drew1) | exact HB.out)⟩⟩
                · rw [if_neg c15] at H
                  have c15b0 : ((bt t748 x9_1) == 47) = false := beq_eq_false_iff_ne.mpr c15
                  have c15b1 : ((bt t748 x9_1) != 47) = true := bne_iff_ne.mpr c15
                  by_cases c23 : (bt t748 x9_1) ≥ 48
                  · rw [if_pos c23] at H
                    have c23b0 : decide (48 ≤ (bt t748 x9_1)) = true := decide_eq_true c23
                    clear c23
                    by_cases c25 : ((bt t748 x9_1) ≤ 57)
                    · rw [if_pos c25] at H
                      have c25b0 : decide ((bt t748 x9_1) ≤ 57) = true := decide_eq_true c25
                      clear c25
                      have H' := Aside0.mk H
                      clear H
                      have p14 : 0 ≤ (x9_1 : Int) := of_decide_eq_true (by first | (with_reducible assumption) | assumption)
                      have q14 : x9_1 < (t748.size : Int) := of_decide_eq_true (by first | (with_reducible assumption) | assumption)
                      have hx14 := bt_at t748 x9_1
                      replace p14 := eq_true p14
                      replace q14 := eq_true q14
                      have p22 : 0 ≤ (x9_1 : Int) := of_decide_eq_true (by first | (with_reducible assumption) | assumption)
                      have q22 : x9_1 < (t748.size : Int) := of_decide_eq_true (by first | (with_reducible assumption) | assumption)
                      have hx22 := bt_at t748 x9_1
                      replace p22 := eq_true p22
                      replace q22 := eq_true q22
                      have p24 : 0 ≤ (x9_1 : Int) := of_decide_eq_true (by first | (with_reducible assumption) | assumption)
                      have q24 : x9_1 < (t748.size : Int) := of_decide_eq_true (by first | (with_reducible assumption) | assumption)
                      have hx24 := bt_at t748 x9_1
                      replace p24 := eq_true p24
                      replace q24 := eq_true q24
                      go_wp2
                      go_roundg k1
                      case measure => have := HK1.out; omega
                      case rel => exact ⟨(x8_1), (wrap64 (x9_1 + 1)), (by first | rfl | (simp; done) | (simp [*]; done)), (by first | rfl | (simp; done) | (simp [*]; done)), H', ⟨by have := HK1.out; omega⟩, ⟨by repeat (first | (with_reducible first | exact HB.out | apply below_alloc | apply pw_below_drewN | apply below_drew1) | exact HB.out)⟩⟩
                    · rw [if_neg c25] at H
                      have c25b0 : decide ((bt t748 x9_1) ≤ 57) = false := decide_eq_false c25
                      clear c25
                      by_cases c28 : (bt t748 x9_1) = 45
                      · rw [if_pos c28] at H
                        have c28b0 : ((bt t748 x9_1) == 45) = true := beq_iff_eq.mpr c28
                        have c28b1 : ((bt t748 x9_1) != 45) = false := bne_eq_false_iff_eq.mpr c28
                        clear c28
                        by_cases c29 : x9_1 > 0
                        · rw [if_pos c29] at H
                          exact absurd H (by simp)
                        · rw [if_neg c29] at H
                          have c29b0 : decide (0 < x9_1) = false := decide_eq_false c29
                          clear c29
                          have H' := Aside0.mk H
                          clear H
                          have p14 : 0 ≤ (x9_1 : Int) := of_decide_eq_true (by first | (with_reducible assumption) | assumption)
                          have q14 : x9_1 < (t748.size : Int) := of_decide_eq_true (by first | (with_reducible assumption) | assumption)
                          have hx14 := bt_at t748 x9_1
                          replace p14 := eq_true p14
                          replace q14 := eq_true q14
                          have p22 : 0 ≤ (x9_1 : Int) := of_decide_eq_true (by first | (with_reducible assumption) | assumption)
                          have q22 : x9_1 < (t748.size : Int) := of_decide_eq_true (by first | (with_reducible assumption) | assumption)
                          have hx22 := bt_at t748 x9_1
                          replace p22 := eq_true p22
                          replace q22 := eq_true q22
                          have p24 : 0 ≤ (x9_1 : Int) := of_decide_eq_true (by first | (with_reducible assumption) | assumption)
                          have q24 : x9_1 < (t748.size : Int) := of_decide_eq_true (by first | (with_reducible assumption) | assumption)
                          have hx24 := bt_at t748 x9_1
                          replace p24 := eq_true p24
                          replace q24 := eq_true q24
                          have p26 : 0 ≤ (x9_1 : Int) := of_decide_eq_true (by first | (with_reducible assumption) | assumption)
                          have q26 : x9_1 < (t748.size : Int) := of_decide_eq_true (by first | (with_reducible assumption) | assumption)
                          have hx26 := bt_at t748 x9_1
                          replace p26 := eq_true p26
                          replace q26 := eq_true q26
                          have p27 : 0 ≤ (x9_1 : Int) := of_decide_eq_true (by first | (with_reducible assumption) | assumption)
                          have q27 : x9_1 < (t748.size : Int) := of_decide_eq_true (by first | (with_reducible assumption) | assumption)
                          have hx27 := bt_at t748 x9_1
                          replace p27 := eq_true p27
                          replace q27 := eq_true q27
                          go_wp2
                          go_roundg k1
                          case measure => have := HK1.out; omega
                          case rel => exact ⟨(x8_1), (wrap64 (x9_1 + 1)), (by first | rfl | (simp; done) | (simp [*]; done)), (by first | rfl | (simp; done) | (simp [*]; done)), H', ⟨by have := HK1.out; omega⟩, ⟨by repeat (first | (with_reducible first | exact HB.out | apply below_alloc | apply pw_below_drewN | apply below_drew1) | exact HB.out)⟩⟩
                      · rw [if_neg c28] at H
                        exact absurd H (by simp)
                  · rw [if_neg c23] at H
                    have c23b0 : decide (48 ≤ (bt t748 x9_1)) = false := decide_eq_false c23
                    clear c23
                    by_cases c32 : (bt t748 x9_1) = 45
                    · rw [if_pos c32] at H
                      have c32b0 : ((bt t748 x9_1) == 45) = true := beq_iff_eq.mpr c32
                      have c32b1 : ((bt t748 x9_1) != 45) = false := bne_eq_false_iff_eq.mpr c32
                      clear c32
                      by_cases c33 : x9_1 > 0
                      · rw [if_pos c33] at H
                        exact absurd H (by simp)
                      · rw [if_neg c33] at H
                        have c33b0 : decide (0 < x9_1) = false := decide_eq_false c33
                        clear c33
                        have H' := Aside0.mk H
                        clear H
                        have p14 : 0 ≤ (x9_1 : Int) := of_decide_eq_true (by first | (with_reducible assumption) | assumption)
                        have q14 : x9_1 < (t748.size : Int) := of_decide_eq_true (by first | (with_reducible assumption) | assumption)
                        have hx14 := bt_at t748 x9_1
                        replace p14 := eq_true p14
                        replace q14 := eq_true q14
                        have p22 : 0 ≤ (x9_1 : Int) := of_decide_eq_true (by first | (with_reducible assumption) | assumption)
                        have q22 : x9_1 < (t748.size : Int) := of_decide_eq_true (by first | (with_reducible assumption) | assumption)
                        have hx22 := bt_at t748 x9_1
                        replace p22 := eq_true p22
                        replace q22 := eq_true q22
                        have p30 : 0 ≤ (x9_1 : Int) := of_decide_eq_true (by first | (with_reducible assumption) | assumption)
                        have q30 : x9_1 < (t748.size : Int) := of_decide_eq_true (by first | (with_reducible assumption) | assumption)
                        have hx30 := bt_at t748 x9_1
                        replace p30 := eq_true p30
                        replace q30 := eq_true q30
                        have p31 : 0 ≤ (x9_1 : Int) := of_decide_eq_true (by first | (with_reducible assumption) | assumption)
                        have q31 : x9_1 < (t748.size : Int) := of_decide_eq_true (by first | (with_reducible assumption) | assumption)
                        have hx31 := bt_at t748 x9_1
                        replace p31 := eq_true p31
                        replace q31 := eq_true q31
                        go_wp2
                        go_roundg k1
                        case measure => have := HK1.out; omega
                        case rel => exact ⟨(x8_1), (wrap64 (x9_1 + 1)), (by first | rfl | (simp; done) | (simp [*]; done)), (by first | rfl | (simp; done) | (simp [*]; done)), H', ⟨by have := HK1.out; omega⟩, ⟨by repeat (first | (with_reducible first | exact HB.out | apply below_alloc | apply pw_below_drewN | apply below_drew1) | exact HB.out)⟩⟩
                    · rw [if_neg c32] at H
                      exact absurd H (by simp)
              · rw [if_neg c13] at H
                exact absurd H (by simp)
            · rw [if_neg c12] at H
              have c12b0 : decide (x9_1 < (t748.size : Int)) = false := decide_eq_false c12
              clear c12
              by_cases c34 : 1 + t748.size ≤ 9223372036854775807
              · rw [if_pos c34] at H
                have c34b0 := eq_true c34
                have c34b1 : decide (1 + t748.size ≤ 9223372036854775807) = true := decide_eq_true c34
                try have c34b2 : (9223372036854775807 < 1 + t748.size) = False := eq_false (Nat.not_lt.2 c34)
                by_cases c35 : 0 < (t748.size : Int)
                · rw [if_pos c35] at H
                  have c35b0 : decide (0 < (t748.size : Int)) = true := decide_eq_true c35
                  have c35b1 : decide (0 < t748.size) = true := decide_eq_true (by omega)
                  clear c35
                  by_cases c37 : (bt t748 0) = 45
                  · rw [if_pos c37] at H
                    have c37b0 : ((bt t748 0) == 45) = true := beq_iff_eq.mpr c37
                    have c37b1 : ((bt t748 0) != 45) = false := bne_eq_false_iff_eq.mpr c37
                    clear c37
                    by_cases c38 : 1 ≤ (t748.size : Int)
                    · rw [if_pos c38] at H
                      have c38b0 := eq_true c38
                      have c38b1 : decide (1 ≤ (t748.size : Int)) = true := decide_eq_true c38
                      clear c38
                      by_cases c39 : t748.toList = ([48] : List UInt8)
                      · rw [if_pos c39] at H
                        have c39b0 : (t748.toList == ([48] : List UInt8)) = true := beq_iff_eq.mpr c39
                        have c39b1 : (t748.toList != ([48] : List UInt8)) = false := bne_eq_false_iff_eq.mpr c39
                        clear c39
                        by_cases c40 : t747 = true
                        · subst c40
                          have H1 : (if t751 = 0 then (if t750.toList = t748.toList then (some (decide (x8_1 ≤ 1))) else (none)) else (none)) = some r := by rw [if_pos rfl] at H; exact H
                          clear H
                          have H := H1
                          clear H1
                          by_cases c41 : t751 = 0
                          · rw [if_pos c41] at H
                            have c41b0 : (t751 == 0) = true := beq_iff_eq.mpr c41
                            have c41b1 : (t751 != 0) = false := bne_eq_false_iff_eq.mpr c41
                            clear c41
                            by_cases c42 : t750.toList = t748.toList
                            · rw [if_pos c42] at H
                              have c42b0 : (t750.toList == t748.toList) = true := beq_iff_eq.mpr c42
                              have c42b1 : (t750.toList != t748.toList) = false := bne_eq_false_iff_eq.mpr c42
                              clear c42
                              obtain rfl := Option.some.inj H
                              have p36 : 0 ≤ (0 : Int) := (by omega)
                              have q36 : 0 < t748.size := (by have : (0 : Int) < (t748.size : Int) := of_decide_eq_true (by first | (with_reducible assumption) | assumption); omega)
                              have hx36 : ∀ h : 0 < t748.size, ((t748[0]'h).toNat : Int) = bt t748 0 := bt_at t748 0
                              clear p36
                              have qi36 : (0 < (t748.size : Int)) = True := eq_true (of_decide_eq_true (by first | (with_reducible assumption) | assumption))
                              replace q36 := eq_true q36
                              go_wp2
                              go_ret
                              exact ⟨by first | rfl | (simp [errW_none, errW_some] <;> rfl) | (simp [*, errW_none, errW_some] <;> rfl), by repeat (first | (with_reducible first | exact HB.out | apply below_alloc | apply pw_below_drewN | apply below_drew1) | exact HB.out)⟩
                            · rw [if_neg c42] at H
                              exact absurd H (by simp)
                          · rw [if_neg c41] at H
                            exact absurd H (by simp)
                        · replace c40 := Bool.eq_false_iff.mpr c40
                          subst c40
                          have H1 : (none) = some r := by rw [if_neg (show ¬ (false = true) by decide)] at H; exact H
                          clear H
                          have H := H1
                          clear H1
                          exact absurd H (by simp)
                      · rw [if_neg c39] at H
                        have c39b0 : (t748.toList == ([48] : List UInt8)) = false := beq_eq_false_iff_ne.mpr c39
                        have c39b1 : (t748.toList != ([48] : List UInt8)) = true := bne_iff_ne.mpr c39
                        by_cases c43 : t747 = true
                        · subst c43
                          have H1 : (if t751 = 0 then (if t750.toList = (t748.extract 1 t748.size).toList then (some (decide (x8_1 ≤ 1))) else (none)) else (none)) = some r := by rw [if_pos rfl] at H; exact H
                          clear H
                          have H := H1
                          clear H1
                          by_cases c44 : t751 = 0
                          · rw [if_pos c44] at H
                            have c44b0 : (t751 == 0) = true := beq_iff_eq.mpr c44
                            have c44b1 : (t751 != 0) = false := bne_eq_false_iff_eq.mpr c44
                            clear c44
                            by_cases c45 : t750.toList = (t748.extract 1 t748.size).toList
                            · rw [if_pos c45] at H
                              have c45b0 : (t750.toList == (t748.extract 1 t748.size).toList) = true := beq_iff_eq.mpr c45
                              have c45b1 : (t750.toList != (t748.extract 1 t748.size).toList) = false := bne_eq_false_iff_eq.mpr c45
                              clear c45
                              obtain rfl := Option.some.inj H
                              have p36 : 0 ≤ (0 : Int) := (by omega)
                              have q36 : 0 < t748.size := (by have : (0 : Int) < (t748.size : Int) := of_decide_eq_true (by first | (with_reducible assumption) | assumption); omega)
                              have hx36 : ∀ h : 0 < t748.size, ((t748[0]'h).toNat : Int) = bt t748 0 := bt_at t748 0
                              clear p36
                              have qi36 : (0 < (t748.size : Int)) = True := eq_true (of_decide_eq_true (by first | (with_reducible assumption) | assumption))
                              replace q36 := eq_true q36
                              go_wp2
                              go_ret
                              exact ⟨by first | rfl | (simp [errW_none, errW_some] <;> rfl) | (simp [*, errW_none, errW_some] <;> rfl), by repeat (first | (with_reducible first | exact HB.out | apply below_alloc | apply pw_below_drewN | apply below_drew1) | exact HB.out)⟩
                            · rw [if_neg c45] at H
                              exact absurd H (by simp)
                          · rw [if_neg c44] at H
                            exact absurd H (by simp)
                        · replace c43 := Bool.eq_false_iff.mpr c43
                          subst c43
                          have H1 : (none) = some r := by rw [if_neg (show ¬ (false = true) by decide)] at H; exact H
                          clear H
                          have H := H1
                          clear H1
                          exact absurd H (by simp)
                    · rw [if_neg c38] at H
                      exact absurd H (by simp)
                  · rw [if_neg c37] at H
                    have c37b0 : ((bt t748 0) == 45) = false := beq_eq_false_iff_ne.mpr c37
                    have c37b1 : ((bt t748 0) != 45) = true := bne_iff_ne.mpr c37
                    by_cases c46 : t748.toList = ([48] : List UInt8)
                    · rw [if_pos c46] at H
                      have c46b0 : (t748.toList == ([48] : List UInt8)) = true := beq_iff_eq.mpr c46
                      have c46b1 : (t748.toList != ([48] : List UInt8)) = false := bne_eq_false_iff_eq.mpr c46
                      clear c46
                      by_cases c47 : t747 = true
                      · subst c47
                        have H1 : (if t751 = 0 then (if t750.toList = t748.toList then (some (decide (x8_1 ≤ 1))) else (none)) else (none)) = some r := by rw [if_pos rfl] at H; exact H
                        clear H
                        have H := H1
                        clear H1
                        by_cases c48 : t751 = 0
                        · rw [if_pos c48] at H
                          have c48b0 : (t751 == 0) = true := beq_iff_eq.mpr c48
                          have c48b1 : (t751 != 0) = false := bne_eq_false_iff_eq.mpr c48
                          clear c48
                          by_cases c49 : t750.toList = t748.toList
                          · rw [if_pos c49] at H
                            have c49b0 : (t750.toList == t748.toList) = true := beq_iff_eq.mpr c49
                            have c49b1 : (t750.toList != t748.toList) = false := bne_eq_false_iff_eq.mpr c49
                            clear c49
                            obtain rfl := Option.some.inj H
                            have p36 : 0 ≤ (0 : Int) := (by omega)
                            have q36 : 0 < t748.size := (by have : (0 : Int) < (t748.size : Int) := of_decide_eq_true (by first | (with_reducible assumption) | assumption); omega)
                            have hx36 : ∀ h : 0 < t748.size, ((t748[0]'h).toNat : Int) = bt t748 0 := bt_at t748 0
                            clear p36
                            have qi36 : (0 < (t748.size : Int)) = True := eq_true (of_decide_eq_true (by first | (with_reducible assumption) | assumption))
                            replace q36 := eq_true q36
                            go_wp2
                            go_ret
                            exact ⟨by first | rfl | (simp [errW_none, errW_some] <;> rfl) | (simp [*, errW_none, errW_some] <;> rfl), by repeat (first | (with_reducible first | exact HB.out | apply below_alloc | apply pw_below_drewN | apply below_drew1) | exact HB.out)⟩
                          · rw [if_neg c49] at H
                            exact absurd H (by simp)
                        · rw [if_neg c48] at H
                          exact absurd H (by simp)
                      · replace c47 := Bool.eq_false_iff.mpr c47
                        subst c47
                        have H1 : (none) = some r := by rw [if_neg (show ¬ (false = true) by decide)] at H; exact H
                        clear H
                        have H := H1
                        clear H1
                        exact absurd H (by simp)
                    · rw [if_neg c46] at H
                      have c46b0 : (t748.toList == ([48] : List UInt8)) = false := beq_eq_false_iff_ne.mpr c46
                      have c46b1 : (t748.toList != ([48] : List UInt8)) = true := bne_iff_ne.mpr c46
                      by_cases c50 : t747 = true
                      · subst c50
                        have H1 : (if t751 = 0 then (if t750.toList = ((⟨#[45]⟩ : ByteArray) ++ t748).toList then (some (decide (x8_1 ≤ 1))) else (none)) else (none)) = some r := by rw [if_pos rfl] at H; exact H
                        clear H
                        have H := H1
                        clear H1
                        by_cases c51 : t751 = 0
                        · rw [if_pos c51] at H
                          have c51b0 : (t751 == 0) = true := beq_iff_eq.mpr c51
                          have c51b1 : (t751 != 0) = false := bne_eq_false_iff_eq.mpr c51
                          clear c51
                          by_cases c52 : t750.toList = ((⟨#[45]⟩ : ByteArray) ++ t748).toList
                          · rw [if_pos c52] at H
                            have c52b0 : (t750.toList == ((⟨#[45]⟩ : ByteArray) ++ t748).toList) = true := beq_iff_eq.mpr c52
                            have c52b1 : (t750.toList != ((⟨#[45]⟩ : ByteArray) ++ t748).toList) = false := bne_eq_false_iff_eq.mpr c52
                            clear c52
                            obtain rfl := Option.some.inj H
                            have p36 : 0 ≤ (0 : Int) := (by omega)
                            have q36 : 0 < t748.size := (by have : (0 : Int) < (t748.size : Int) := of_decide_eq_true (by first | (with_reducible assumption) | assumption); omega)
                            have hx36 : ∀ h : 0 < t748.size, ((t748[0]'h).toNat : Int) = bt t748 0 := bt_at t748 0
                            clear p36
                            have qi36 : (0 < (t748.size : Int)) = True := eq_true (of_decide_eq_true (by first | (with_reducible assumption) | assumption))
                            replace q36 := eq_true q36
                            go_wp2
                            go_ret
                            exact ⟨by first | rfl | (simp [errW_none, errW_some] <;> rfl) | (simp [*, errW_none, errW_some] <;> rfl), by repeat (first | (with_reducible first | exact HB.out | apply below_alloc | apply pw_below_drewN | apply below_drew1) | exact HB.out)⟩
                          · rw [if_neg c52] at H
                            exact absurd H (by simp)
                        · rw [if_neg c51] at H
                          exact absurd H (by simp)
                      · replace c50 := Bool.eq_false_iff.mpr c50
                        subst c50
                        have H1 : (none) = some r := by rw [if_neg (show ¬ (false = true) by decide)] at H; exact H
                        clear H
                        have H := H1
                        clear H1
                        exact absurd H (by simp)
                · rw [if_neg c35] at H
                  exact absurd H (by simp)
              · rw [if_neg c34] at H
                exact absurd H (by simp)
    · rw [if_neg c6] at H
      have c6b0 : (t749 == 0) = false := beq_eq_false_iff_ne.mpr c6
      have c6b1 : (t749 != 0) = true := bne_iff_ne.mpr c6
      obtain rfl := Option.some.inj H
      go_enter Tryd.func8, Tryd.ntmps8
      go_wp2_with (first | ((with_reducible refine gate_callee (f := 10) rfl ?_); refine goesL_ (some 12) rfl rfl Tryd.func10 (by kernel_rfl) rfl #[] rfl (by (try simp only [List.map_toArray, List.map_cons, List.map_nil]); first | done | rfl | (simp only [List.length_drop, List.length_take]; rfl)) ?_; (with_reducible refine (tribunallaw03_head.calls  t747 _ A2.out).mono ?_); rintro e w53 ⟨rfl, hb⟩; refine ⟨_, rfl, ?_⟩; have n0_ := Aside0.mk (below_step (by repeat (first | (with_reducible first | exact HB.out | apply below_alloc | apply pw_below_drewN | apply below_drew1) | exact HB.out)) hb); clear HB; have HB := n0_; clear n0_; (try clear hb); (try clear hb2); (try clear hk); (try clear hi)) | ((with_reducible refine gate_callee (f := 12) rfl ?_); refine goesL_ (some 19) rfl rfl Tryd.func12 (by kernel_rfl) rfl #[.string a0] rfl (by (try simp only [List.map_toArray, List.map_cons, List.map_nil]); first | done | rfl | (simp only [List.length_drop, List.length_take]; rfl)) ?_; (with_reducible refine (rat_Norm.calls a0 t748 t749 _ A5.out).mono ?_); rintro e w54 ⟨rfl, hb⟩; refine ⟨_, rfl, ?_⟩; have n0_ := Aside0.mk (below_step (by repeat (first | (with_reducible first | exact HB.out | apply below_alloc | apply pw_below_drewN | apply below_drew1) | exact HB.out)) hb); clear HB; have HB := n0_; clear n0_; (try clear hb); (try clear hb2); (try clear hk); (try clear hi)))
      go_ret
      exact ⟨by first | rfl | (simp [errW_none, errW_some] <;> rfl) | (simp [*, errW_none, errW_some] <;> rfl), by repeat (first | (with_reducible first | exact HB.out | apply below_alloc | apply pw_below_drewN | apply below_drew1) | exact HB.out)⟩

/-- THE ONE PURE STATEMENT of tribunallaw03_RatParts: yours. -/
def tribunallaw03_RatParts.Pure : Prop := ∀ (a0 : ByteArray), a0.size ≤ 140737488351232 → ∃ k, tribunallaw03_RatParts.f k a0 = some true
theorem tribunallaw03_RatParts.walk (P : tribunallaw03_RatParts.Pure) (a0 : ByteArray) (w : World) (w0 : a0.size ≤ 140737488351232) :
    Calls Tryd.prog 8 #[.string a0] w fun e w' => e = .returned (.bool true) ∧ Below w.heap.size w w' := by
  obtain ⟨k, h⟩ := P a0 w0
  refine (tribunallaw03_RatParts.calls k a0 true w h).mono ?_
  rintro e w' ⟨rfl, hd⟩
  exact ⟨rfl, hd⟩

end Go.Proofs.YtfnhohpmhpbpmaaDoor.G
