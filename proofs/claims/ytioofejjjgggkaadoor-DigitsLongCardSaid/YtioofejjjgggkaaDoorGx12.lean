-- Out of the translation, by a program of this repo (wip/tools/gprint.py). Lean checks it.
import Derived.Test.YtioofejjjgggkaaDoorGx0
import Derived.Test.YtioofejjjgggkaaDoorGDigParse
import Derived.Test.YtioofejjjgggkaaDoorGDigRight
import Derived.Test.YtioofejjjgggkaaDoorGDigText
import Derived.Test.YtioofejjjgggkaaDoorGHead02
namespace Go.Proofs.YtioofejjjgggkaaDoor.G
open Go.RowKit Go.Proofs.YtioofejjjgggkaaDoorW.PrintWords Go.Proofs.YtioofejjjgggkaaDoorW.PrintLast Go.Proofs.YtioofejjjgggkaaDoorW.PrintMore
attribute [local go_sem] max2_int min2_int max_two min_two max_three min_three max_four min_four   -- for this text's walks alone
set_option linter.unusedVariables false
set_option linter.unusedSimpArgs false

/-! ### tribunallaw02_DigitsLong: function 8 -/
def tribunallaw02_DigitsLong.l0 : Nat → Bool → Int → ByteArray → Option (Bool)
  | 0, _, _, _ => none
  | k + 1, x3, x4, x5 => if (x5.size : Int) < x4 then (if 0 ≤ (mn 10 (wrap64 (x4 - (x5.size : Int)))) then (if (mn 10 (wrap64 (x4 - (x5.size : Int)))) ≤ 10 then (if x5.size + ((⟨#[48, 48, 48, 48, 48, 48, 48, 48, 48, 48]⟩ : ByteArray).extract 0 ((mn 10 (wrap64 (x4 - (x5.size : Int)))) : Int).toNat).size ≤ 9223372036854775807 then (tribunallaw02_DigitsLong.l0 k x3 x4 (x5 ++ ((⟨#[48, 48, 48, 48, 48, 48, 48, 48, 48, 48]⟩ : ByteArray).extract 0 ((mn 10 (wrap64 (x4 - (x5.size : Int)))) : Int).toNat))) else (none)) else (none)) else (none)) else ((digits_Parse.f x5).bind fun bt371 => (if x4 > 1900 then (if x3 = true then (if bt371.2 = 2 then (if (bt371.1.length : Int) = 0 then ((digits_Right.f x5).bind fun t375 => (some t375)) else (none)) else (none)) else (none)) else (if x3 = true then (if bt371.2 = 0 then ((digits_Text.f bt371.1).bind fun t376 => (some (t376.toList == x5.toList))) else (none)) else (none))))
def tribunallaw02_DigitsLong.f (k : Nat) (a0 : Int) : Option (Bool) := (tribunallaw02_head.f).bind fun t370 => (tribunallaw02_DigitsLong.l0 k t370 (wrap64 (1 + (wrap64 (Int.tmod a0 2500)))) (⟨#[49]⟩ : ByteArray))
theorem tribunallaw02_DigitsLong.mono_l : ∀ k, (∀ y0 y1 y2, LeO (tribunallaw02_DigitsLong.l0 k y0 y1 y2) (tribunallaw02_DigitsLong.l0 (k + 1) y0 y1 y2))
  | 0 => fun _ _ _ r h => by simp [tribunallaw02_DigitsLong.l0] at h
  | k + 1 => by
    have ih0 := tribunallaw02_DigitsLong.mono_l k
    · intro y0 y1 y2
      unfold tribunallaw02_DigitsLong.l0
      repeat' first
      | (with_reducible exact ih0 _ _ _)
      | (with_reducible exact LeO.refl _)
      | (with_reducible exact LeO.none _)
      | (with_reducible refine LeO.ite ?_ ?_)
      | (with_reducible refine LeO.bind ?_ (fun _ => ?_))
      | exact ih0 _ _ _
      | exact LeO.none _
      | refine LeO.ite ?_ ?_
      | refine LeO.bind ?_ (fun _ => ?_)
theorem tribunallaw02_DigitsLong.mono : ∀ a0 k, LeO (tribunallaw02_DigitsLong.f k a0) (tribunallaw02_DigitsLong.f (k + 1) a0) := by
  intro a0 k
  have ih0 := tribunallaw02_DigitsLong.mono_l k
  unfold tribunallaw02_DigitsLong.f
  repeat' first
      | (with_reducible exact ih0 _ _ _)
      | (with_reducible exact LeO.refl _)
      | (with_reducible exact LeO.none _)
      | (with_reducible refine LeO.ite ?_ ?_)
      | (with_reducible refine LeO.bind ?_ (fun _ => ?_))
      | exact ih0 _ _ _
      | exact LeO.none _
      | refine LeO.ite ?_ ?_
      | refine LeO.bind ?_ (fun _ => ?_)
set_option maxHeartbeats 8000000 in
set_option maxRecDepth 100000 in
theorem tribunallaw02_DigitsLong.calls (k : Nat) (a0 : Int) (r : Bool) (w : World) (h : tribunallaw02_DigitsLong.f k a0 = some r) :
    Calls Tryd.prog 8 #[.int .u16 a0] w fun e w' => e = .returned (.bool r) ∧ Below w.heap.size w w' := by
  have HB := Aside0.mk (Below.refl w.heap.size w)
  have H : ((tribunallaw02_head.f).bind fun t370 => (tribunallaw02_DigitsLong.l0 k t370 (wrap64 (1 + (wrap64 (Int.tmod a0 2500)))) (⟨#[49]⟩ : ByteArray))) = some r := h
  clear h
  replace H := Option.bind_eq_some_iff.mp H
  obtain ⟨t370, A20, H⟩ := H
  replace H : (tribunallaw02_DigitsLong.l0 k t370 (wrap64 (1 + (wrap64 (Int.tmod a0 2500)))) (⟨#[49]⟩ : ByteArray)) = some r := H
  have A2 := Aside0.mk A20
  clear A20
  have H' := Aside0.mk H
  clear H
  go_enter Tryd.func8, Tryd.ntmps8
  go_wp2_with (first | ((with_reducible refine gate_callee (f := 10) rfl ?_); refine goesL_ (some 8) rfl rfl Tryd.func10 (by kernel_rfl) rfl #[] rfl (by (try simp only [List.map_toArray, List.map_cons, List.map_nil]); first | done | rfl | (simp only [List.length_drop, List.length_take]; rfl)) ?_; (with_reducible refine (tribunallaw02_head.calls  t370 _ A2.out).mono ?_); rintro e w3 ⟨rfl, hb⟩; refine ⟨_, rfl, ?_⟩; have n0_ := Aside0.mk (below_step (by repeat (first | (with_reducible first | exact HB.out | apply below_alloc | apply pw_below_drewN | apply below_drew1) | exact HB.out)) hb); clear HB; have HB := n0_; clear n0_; (try clear hb); (try clear hb2); (try clear hk); (try clear hi)))
  go_loopg [5] k (fun kq v5 w' => ∃ (x5_1 : ByteArray), v5 = .string x5_1 ∧ Aside0 (tribunallaw02_DigitsLong.l0 kq t370 (wrap64 (1 + (wrap64 (Int.tmod a0 2500)))) x5_1 = some r) ∧ Aside0 (kq ≤ k) ∧ Aside0 (Below w.heap.size w w'))
  case atStart => exact ⟨((⟨#[49]⟩ : ByteArray)), (by first | rfl | (simp; done) | (simp [*]; done)), H', ⟨Nat.le_refl _⟩, ⟨by repeat (first | (with_reducible first | exact HB.out | apply below_alloc | apply pw_below_drewN | apply below_drew1) | exact HB.out)⟩⟩
  case round =>
    clear H'
    try clear c1
    try clear p2
    obtain ⟨x5_1, rfl, HA, HK1, HB⟩ := hrel
    cases gk with
    | zero => exact absurd HA.out (by simp [tribunallaw02_DigitsLong.l0])
    | succ k1 =>
      have H := HA.out
      clear HA
      simp only [tribunallaw02_DigitsLong.l0] at H
      by_cases c4 : (x5_1.size : Int) < (wrap64 (1 + (wrap64 (Int.tmod a0 2500))))
      · rw [if_pos c4] at H
        have c4b0 : decide ((x5_1.size : Int) < (wrap64 (1 + (wrap64 (Int.tmod a0 2500))))) = true := decide_eq_true c4
        clear c4
        obtain ⟨ji5, hji5⟩ : ∃ j_ : Int, (mn 10 (wrap64 ((wrap64 (1 + (wrap64 (Int.tmod a0 2500)))) - (x5_1.size : Int)))) = j_ := ⟨_, rfl⟩
        replace H : (if 0 ≤ (ji5) then (if (ji5) ≤ 10 then (if x5_1.size + ((⟨#[48, 48, 48, 48, 48, 48, 48, 48, 48, 48]⟩ : ByteArray).extract 0 ((ji5) : Int).toNat).size ≤ 9223372036854775807 then (tribunallaw02_DigitsLong.l0 k1 t370 (wrap64 (1 + (wrap64 (Int.tmod a0 2500)))) (x5_1 ++ ((⟨#[48, 48, 48, 48, 48, 48, 48, 48, 48, 48]⟩ : ByteArray).extract 0 ((ji5) : Int).toNat))) else (none)) else (none)) else (none)) = some r := by first | (rw [hji5] at H; exact H) | (simp only [hji5] at H ⊢; exact H)
        have hji5_ : (if (wrap64 ((wrap64 (1 + (wrap64 (Int.tmod a0 2500)))) - (x5_1.size : Int))) < 10 then (wrap64 ((wrap64 (1 + (wrap64 (Int.tmod a0 2500)))) - (x5_1.size : Int))) else 10) = ji5 := hji5
        by_cases c6 : 0 ≤ (ji5)
        · rw [if_pos c6] at H
          have c6b0 := eq_true c6
          have c6b1 : decide (0 ≤ (ji5)) = true := decide_eq_true c6
          clear c6
          by_cases c7 : (ji5) ≤ 10
          · rw [if_pos c7] at H
            have c7b0 := eq_true c7
            have c7b1 : decide ((ji5) ≤ 10) = true := decide_eq_true c7
            clear c7
            by_cases c8 : x5_1.size + ((⟨#[48, 48, 48, 48, 48, 48, 48, 48, 48, 48]⟩ : ByteArray).extract 0 ((ji5) : Int).toNat).size ≤ 9223372036854775807
            · rw [if_pos c8] at H
              have c8b0 := eq_true c8
              have c8b1 : decide (x5_1.size + ((⟨#[48, 48, 48, 48, 48, 48, 48, 48, 48, 48]⟩ : ByteArray).extract 0 ((ji5) : Int).toNat).size ≤ 9223372036854775807) = true := decide_eq_true c8
              try have c8b2 : (9223372036854775807 < x5_1.size + ((⟨#[48, 48, 48, 48, 48, 48, 48, 48, 48, 48]⟩ : ByteArray).extract 0 ((ji5) : Int).toNat).size) = False := eq_false (Nat.not_lt.2 c8)
              have H' := Aside0.mk H
              clear H
              go_wp2
              go_roundg k1
              case measure => have := HK1.out; omega
              case rel => exact ⟨(x5_1 ++ ((⟨#[48, 48, 48, 48, 48, 48, 48, 48, 48, 48]⟩ : ByteArray).extract 0 ((ji5) : Int).toNat)), (by first | rfl | (simp; done) | (simp only [← hji5] <;> (first | rfl | simp)) | (simp [*]; done)), H', ⟨by have := HK1.out; omega⟩, ⟨by repeat (first | (with_reducible first | exact HB.out | apply below_alloc | apply pw_below_drewN | apply below_drew1) | exact HB.out)⟩⟩
            · rw [if_neg c8] at H
              exact absurd H (by simp)
          · rw [if_neg c7] at H
            exact absurd H (by simp)
        · rw [if_neg c6] at H
          exact absurd H (by simp)
      · rw [if_neg c4] at H
        have c4b0 : decide ((x5_1.size : Int) < (wrap64 (1 + (wrap64 (Int.tmod a0 2500))))) = false := decide_eq_false c4
        clear c4
        replace H := Option.bind_eq_some_iff.mp H
        obtain ⟨⟨t371, t372⟩, A90, H⟩ := H
        replace H : (if (wrap64 (1 + (wrap64 (Int.tmod a0 2500)))) > 1900 then (if t370 = true then (if t372 = 2 then (if (t371.length : Int) = 0 then ((digits_Right.f x5_1).bind fun t375 => (some t375)) else (none)) else (none)) else (none)) else (if t370 = true then (if t372 = 0 then ((digits_Text.f t371).bind fun t376 => (some (t376.toList == x5_1.toList))) else (none)) else (none))) = some r := H
        have A9 := Aside0.mk A90
        clear A90
        by_cases c10 : (wrap64 (1 + (wrap64 (Int.tmod a0 2500)))) > 1900
        · rw [if_pos c10] at H
          have c10b0 : decide (1900 < (wrap64 (1 + (wrap64 (Int.tmod a0 2500))))) = true := decide_eq_true c10
          clear c10
          by_cases c11 : t370 = true
          · subst c11
            have H1 : (if t372 = 2 then (if (t371.length : Int) = 0 then ((digits_Right.f x5_1).bind fun t375 => (some t375)) else (none)) else (none)) = some r := by rw [if_pos rfl] at H; exact H
            clear H
            have H := H1
            clear H1
            by_cases c12 : t372 = 2
            · rw [if_pos c12] at H
              have c12b0 : (t372 == 2) = true := beq_iff_eq.mpr c12
              have c12b1 : (t372 != 2) = false := bne_eq_false_iff_eq.mpr c12
              clear c12
              by_cases c13 : (t371.length : Int) = 0
              · rw [if_pos c13] at H
                have c13b0 : ((t371.length : Int) == 0) = true := beq_iff_eq.mpr c13
                have c13b1 : ((t371.length : Int) != 0) = false := bne_eq_false_iff_eq.mpr c13
                clear c13
                replace H := Option.bind_eq_some_iff.mp H
                obtain ⟨t375, A140, H⟩ := H
                replace H : (some t375) = some r := H
                have A14 := Aside0.mk A140
                clear A140
                obtain rfl := Option.some.inj H
                go_wp2_with (first | ((with_reducible refine gate_callee (f := 11) rfl ?_); refine goesL_ (some 27) rfl rfl Tryd.func11 (by kernel_rfl) rfl #[.string x5_1] rfl (by (try simp only [List.map_toArray, List.map_cons, List.map_nil]); first | done | rfl | (simp only [List.length_drop, List.length_take]; rfl)) ?_; (with_reducible refine (digits_Parse.calls x5_1 t371 t372 _ A9.out).mono ?_); rintro e w15 ⟨v373, rfl, ho0, hb⟩; refine ⟨_, rfl, ?_⟩; have n0_ := Aside0.mk (Kd.R_lower ho0 (below_size (by repeat (first | (with_reducible first | exact HB.out | apply below_alloc | apply pw_below_drewN | apply below_drew1) | exact HB.out)))); have n1_ := Aside0.mk (below_step (by repeat (first | (with_reducible first | exact HB.out | apply below_alloc | apply pw_below_drewN | apply below_drew1) | exact HB.out)) hb); clear HB; have HO374 := n0_; have HB := n1_; clear n0_ n1_; (try clear hb); (try clear hb2); (try clear hk); (try clear hi); (try clear ho0); obtain ⟨Ao16, co16, eo16⟩ := Kd.R_slice HO374.out; subst eo16) | (go_at_call 16; (with_reducible refine (digits_Right.calls x5_1 t375 _ A14.out).mono ?_); rintro e w17 ⟨rfl, hb⟩; have n0_ := Aside0.mk (Kd.R_below (by (with_reducible repeat (first | apply Kd.R_alloc | apply Kd.R_drewN | apply Kd.R_drew)); exact HO374.out) hb); have n1_ := Aside0.mk (below_step (by repeat (first | (with_reducible first | exact HB.out | apply below_alloc | apply pw_below_drewN | apply below_drew1) | exact HB.out)) hb); clear HO374; clear HB; have HO374 := n0_; have HB := n1_; clear n0_ n1_; (try clear hb); (try clear hb2); (try clear hk); (try clear hi)))
                go_ret
                exact ⟨by first | rfl | (simp [errW_none, errW_some] <;> rfl) | (simp [*, errW_none, errW_some] <;> rfl), by repeat (first | (with_reducible first | exact HB.out | apply below_alloc | apply pw_below_drewN | apply below_drew1) | exact HB.out)⟩
              · rw [if_neg c13] at H
                exact absurd H (by simp)
            · rw [if_neg c12] at H
              exact absurd H (by simp)
          · replace c11 := Bool.eq_false_iff.mpr c11
            subst c11
            have H1 : (none) = some r := by rw [if_neg (show ¬ (false = true) by decide)] at H; exact H
            clear H
            have H := H1
            clear H1
            exact absurd H (by simp)
        · rw [if_neg c10] at H
          have c10b0 : decide (1900 < (wrap64 (1 + (wrap64 (Int.tmod a0 2500))))) = false := decide_eq_false c10
          clear c10
          by_cases c18 : t370 = true
          · subst c18
            have H1 : (if t372 = 0 then ((digits_Text.f t371).bind fun t376 => (some (t376.toList == x5_1.toList))) else (none)) = some r := by rw [if_pos rfl] at H; exact H
            clear H
            have H := H1
            clear H1
            by_cases c19 : t372 = 0
            · rw [if_pos c19] at H
              have c19b0 : (t372 == 0) = true := beq_iff_eq.mpr c19
              have c19b1 : (t372 != 0) = false := bne_eq_false_iff_eq.mpr c19
              clear c19
              replace H := Option.bind_eq_some_iff.mp H
              obtain ⟨t376, A200, H⟩ := H
              replace H : (some (t376.toList == x5_1.toList)) = some r := H
              have A20 := Aside0.mk A200
              clear A200
              obtain rfl := Option.some.inj H
              go_wp2_with (first | ((with_reducible refine gate_callee (f := 11) rfl ?_); refine goesL_ (some 27) rfl rfl Tryd.func11 (by kernel_rfl) rfl #[.string x5_1] rfl (by (try simp only [List.map_toArray, List.map_cons, List.map_nil]); first | done | rfl | (simp only [List.length_drop, List.length_take]; rfl)) ?_; (with_reducible refine (digits_Parse.calls x5_1 t371 t372 _ A9.out).mono ?_); rintro e w21 ⟨v373, rfl, ho0, hb⟩; refine ⟨_, rfl, ?_⟩; have n0_ := Aside0.mk (Kd.R_lower ho0 (below_size (by repeat (first | (with_reducible first | exact HB.out | apply below_alloc | apply pw_below_drewN | apply below_drew1) | exact HB.out)))); have n1_ := Aside0.mk (below_step (by repeat (first | (with_reducible first | exact HB.out | apply below_alloc | apply pw_below_drewN | apply below_drew1) | exact HB.out)) hb); clear HB; have HO374 := n0_; have HB := n1_; clear n0_ n1_; (try clear hb); (try clear hb2); (try clear hk); (try clear hi); (try clear ho0); obtain ⟨Ao22, co22, eo22⟩ := Kd.R_slice HO374.out; subst eo22) | (go_at_call 13; (with_reducible refine (digits_Text.calls _ _ t371 t376 _ ?side1 ?side2 A20.out).mono ?_); (case side1 => repeat (first | exact (Kd.R_reads' HO374.out).2.2 | (with_reducible refine Kd.C_alloc ?_ _) | (with_reducible refine Kd.C_drewN ?_ _) | (with_reducible refine Kd.C_drew ?_))); (case side2 => exact (Kd.R_reads' HO374.out).2.1); rintro e w23 ⟨rfl, hb⟩; have n0_ := Aside0.mk (Kd.R_below (by (with_reducible repeat (first | apply Kd.R_alloc | apply Kd.R_drewN | apply Kd.R_drew)); exact HO374.out) hb); have n1_ := Aside0.mk (below_step (by repeat (first | (with_reducible first | exact HB.out | apply below_alloc | apply pw_below_drewN | apply below_drew1) | exact HB.out)) hb); clear HO374; clear HB; have HO374 := n0_; have HB := n1_; clear n0_ n1_; (try clear hb); (try clear hb2); (try clear hk); (try clear hi)))
              go_ret
              exact ⟨by first | rfl | (simp [errW_none, errW_some] <;> rfl) | (simp [*, errW_none, errW_some] <;> rfl), by repeat (first | (with_reducible first | exact HB.out | apply below_alloc | apply pw_below_drewN | apply below_drew1) | exact HB.out)⟩
            · rw [if_neg c19] at H
              exact absurd H (by simp)
          · replace c18 := Bool.eq_false_iff.mpr c18
            subst c18
            have H1 : (none) = some r := by rw [if_neg (show ¬ (false = true) by decide)] at H; exact H
            clear H
            have H := H1
            clear H1
            exact absurd H (by simp)

/-- THE ONE PURE STATEMENT of tribunallaw02_DigitsLong: yours. -/
def tribunallaw02_DigitsLong.Pure : Prop := ∀ (a0 : Int), (Lit.int .u16 a0).wf = true → ∃ k, tribunallaw02_DigitsLong.f k a0 = some true
theorem tribunallaw02_DigitsLong.walk (P : tribunallaw02_DigitsLong.Pure) (a0 : Int) (w : World) (w0 : (Lit.int .u16 a0).wf = true) :
    Calls Tryd.prog 8 #[.int .u16 a0] w fun e w' => e = .returned (.bool true) ∧ Below w.heap.size w w' := by
  obtain ⟨k, h⟩ := P a0 w0
  refine (tribunallaw02_DigitsLong.calls k a0 true w h).mono ?_
  rintro e w' ⟨rfl, hd⟩
  exact ⟨rfl, hd⟩

end Go.Proofs.YtioofejjjgggkaaDoor.G
