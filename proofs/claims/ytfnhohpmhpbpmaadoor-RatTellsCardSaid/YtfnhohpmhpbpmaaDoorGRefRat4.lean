/- The reference's Cmp and Norm, told in the same words as rat's. Condition: texts of at most 1000000 bytes. -/
import Derived.Test.YtfnhohpmhpbpmaaDoorGx0
import Derived.Test.YtfnhohpmhpbpmaaDoorGRefRat3
namespace Go.Proofs.YtfnhohpmhpbpmaaDoor.G
open Go.RowKit Go.Proofs.YtfnhohpmhpbpmaaDoorW.PrintWords Go.Proofs.YtfnhohpmhpbpmaaDoorW.PrintLast Go.Proofs.YtfnhohpmhpbpmaaDoorW.PrintMore

theorem getS_canon {s : ByteArray} {x : Num3} (h : getS s = some x) : x.1 = true → x.2.1 ≠ 0 := by
  obtain ⟨h1, h2, _⟩ := getS_val h
  rw [h1, getS_rat (by rw [← h1]; exact h2)] at h
  have e := Option.some.inj h
  have e1 : decide ((valX x).num < 0) = x.1 := congrArg (fun z : Num3 => z.1) e
  have e2 : (valX x).num.natAbs = x.2.1 := congrArg (fun z : Num3 => z.2.1) e
  intro hn h0
  rw [← e1] at hn
  rw [← e2] at h0
  have := of_decide_eq_true hn
  omega
theorem cmpX_is (n n' : Bool) (p q p' q' : Nat) (c1 : n = true → p ≠ 0) (c2 : n' = true → p' ≠ 0) (hq : 0 < q) (hq' : 0 < q') :
    cmpX (n, p, q) (n', p', q') = if n = n' then (if n = true then -cmpN (p * q') (p' * q) else cmpN (p * q') (p' * q)) else if n = true then -1 else 1 := by
  have h1 : n = true → p * q' ≠ 0 := fun h => Nat.mul_ne_zero (c1 h) (Nat.ne_of_gt hq')
  have h2 : n' = true → p' * q ≠ 0 := fun h => Nat.mul_ne_zero (c2 h) (Nat.ne_of_gt hq)
  have e1 : (subX (n, p, q) (n', p', q')).1 = (addR n (!n') (p * q') (p' * q)).1 := rfl
  have e2 : (subX (n, p, q) (n', p', q')).2.1 = (addR n (!n') (p * q') (p' * q)).2 := rfl
  unfold cmpX
  rw [e1, e2]
  unfold addR cmpN
  generalize p * q' = a at *
  generalize p' * q = b at *
  cases n <;> cases n'
  · rcases Nat.lt_trichotomy a b with h | h | h
    · simp [h]; omega
    · simp [h]
    · simp [show ¬ a < b by omega, h]; omega
  · have := h2 rfl
    simp
    omega
  · have := h1 rfl
    simp
    omega
  · rcases Nat.lt_trichotomy a b with h | h | h
    · simp [h]; omega
    · simp [h]
    · simp [show ¬ a < b by omega, h]; omega
theorem cmpN_cases (a b : Nat) : cmpN a b = -1 ∨ cmpN a b = 0 ∨ cmpN a b = 1 := by
  unfold cmpN
  split
  · exact .inl rfl
  · split
    · exact .inr (.inr rfl)
    · exact .inr (.inl rfl)
def tribunalref03_Cmp.f (a b : ByteArray) : Option Int := if few a ∧ few b then some (cmpM (getS a) (getS b)) else none
set_option maxHeartbeats 4000000 in
set_option maxRecDepth 100000 in
theorem tribunalref03_Cmp.calls (a0 a1 : ByteArray) (r : Int) (w : World) (h : tribunalref03_Cmp.f a0 a1 = some r) : Calls Tryd.prog 19 #[.string a0, .string a1] w fun e w' => e = .returned (.int .i64 r) ∧ Below w.heap.size w w' := by
  unfold tribunalref03_Cmp.f at h
  by_cases hs : few a0 ∧ few a1
  case neg => rw [if_neg hs] at h; cases h
  rw [if_pos hs] at h
  have hO := (Option.some.inj h).symm
  have h1 : a0.size ≤ 1000000 := hs.1
  have h2 : a1.size ≤ 1000000 := hs.2
  have CA := Aside0.mk (fun W => rget_calls a0 (by omega) W)
  have CB := Aside0.mk (fun W => rget_calls a1 (by omega) W)
  obtain ⟨X, hX⟩ : ∃ X, X = getS a0 := ⟨_, rfl⟩
  obtain ⟨Y, hY⟩ : ∃ Y, Y = getS a1 := ⟨_, rfl⟩
  have HS1 : Aside0 (∀ x, X = some x → sh x.2.1 ≤ 220 ∧ sh x.2.2 ≤ 220 ∧ 0 < x.2.2) := ⟨fun x h => getS_sh (hX.symm.trans h)⟩
  have HS2 : Aside0 (∀ x, Y = some x → sh x.2.1 ≤ 220 ∧ sh x.2.2 ≤ 220 ∧ 0 < x.2.2) := ⟨fun x h => getS_sh (hY.symm.trans h)⟩
  have HD1 : Aside0 (∀ x, X = some x → x.1 = true → x.2.1 ≠ 0) := ⟨fun x h => getS_canon (hX.symm.trans h)⟩
  have HD2 : Aside0 (∀ x, Y = some x → x.1 = true → x.2.1 ≠ 0) := ⟨fun x h => getS_canon (hY.symm.trans h)⟩
  have HO : Aside0 (r = cmpM X Y) := ⟨by rw [hX, hY]; exact hO⟩
  rw [← hX] at CA
  rw [← hY] at CB
  clear hs hX hY h hO h1 h2
  cases X with
  | none =>
    replace HO : Aside0 (r = 0) := ⟨HO.out⟩
    replace CA := CA.out
    simp only [Option.isSome_none] at CA
    replace CA := Aside0.mk CA
    go_enter Tryd.func19, Tryd.ntmps19
    go_wp2_with fail
    refine (CA.out _).mono ?_
    rintro e w1 ⟨n, A, c, B, d, p, q, rfl, hX, hY, hb, hx⟩
    have HB := Aside0.mk (below_alloc hb (.cells #[.bool n, .slice A (limbs p).length c, .slice B (limbs q).length d] 48))
    clear hX hY hb hx
    go_wp2_with fail
    refine (CB.out _).mono ?_
    rintro e w2 ⟨n', A', c', B', d', p', q', rfl, hX, hY, hb, hx⟩
    replace HB := Aside0.mk (below_step HB.out hb)
    clear hX hY hb hx
    generalize Y.isSome = iy
    cases iy
    all_goals
      go_wp2_with fail
      go_ret
      exact ⟨by rw [HO.out]; rfl, below_alloc HB.out _⟩
  | some x =>
    cases Y with
    | none =>
      replace HO : Aside0 (r = 0) := ⟨HO.out⟩
      replace CA := CA.out
      simp only [Option.isSome_some] at CA
      replace CA := Aside0.mk CA
      replace CB := CB.out
      simp only [Option.isSome_none] at CB
      replace CB := Aside0.mk CB
      go_enter Tryd.func19, Tryd.ntmps19
      go_wp2_with fail
      refine (CA.out _).mono ?_
      rintro e w1 ⟨n, A, c, B, d, p, q, rfl, hX, hY, hb, hx⟩
      have HB := Aside0.mk (below_alloc hb (.cells #[.bool n, .slice A (limbs p).length c, .slice B (limbs q).length d] 48))
      clear hX hY hb hx
      go_wp2_with fail
      refine (CB.out _).mono ?_
      rintro e w2 ⟨n', A', c', B', d', p', q', rfl, hX, hY, hb, hx⟩
      replace HB := Aside0.mk (below_step HB.out hb)
      clear hX hY hb hx
      go_wp2_with fail
      go_ret
      exact ⟨by rw [HO.out]; rfl, below_alloc HB.out _⟩
    | some y =>
      have HN : Aside0 (Opens x y) := ⟨(HS1.out x rfl).1, (HS1.out x rfl).2.1, (HS2.out y rfl).1, (HS2.out y rfl).2.1, (HS1.out x rfl).2.2, (HS2.out y rfl).2.2⟩
      replace HO : Aside0 (r = cmpX x y) := ⟨HO.out⟩
      have HC1 := Aside0.mk (HD1.out x rfl)
      have HC2 := Aside0.mk (HD2.out y rfl)
      replace CA := CA.out
      simp only [Option.isSome_some] at CA
      replace CA := Aside0.mk CA
      replace CB := CB.out
      simp only [Option.isSome_some] at CB
      replace CB := Aside0.mk CB
      clear HS1 HS2 HD1 HD2
      go_enter Tryd.func19, Tryd.ntmps19
      go_wp2_with fail
      refine (CA.out _).mono ?_
      rintro e w1 ⟨n, A, c, B, d, p, q, rfl, hX, hY, hb, hx⟩
      obtain rfl := hx x rfl
      have al := below_alloc (Below.refl w1.heap.size w1) (.cells #[.bool n, .slice A (limbs p).length c, .slice B (limbs q).length d] 48)
      have HB := Aside0.mk (below_step hb al)
      have HX := Aside0.mk (hX.below al)
      have HY := Aside0.mk (hY.below al)
      have HU := Aside0.mk (C3.new w1 (.bool n) (.slice A (limbs p).length c) (.slice B (limbs q).length d))
      clear hX hY hb hx al
      go_wp2_with fail
      generalize hk : w1.heap.size = k at *
      generalize w1.alloc (.cells #[.bool n, .slice A (limbs p).length c, .slice B (limbs q).length d] 48) = W1 at *
      clear hk
      refine (CB.out _).mono ?_
      rintro e w2 ⟨n', A', c', B', d', p', q', rfl, hX, hY, hb, hx⟩
      obtain rfl := hx y rfl
      have al := below_alloc (Below.refl w2.heap.size w2) (.cells #[.bool n', .slice A' (limbs p').length c', .slice B' (limbs q').length d'] 48)
      have hne := Aside0.mk (show k < w2.heap.size from blk_lt (HU.out.below hb).blk)
      replace HB := Aside0.mk (below_step (below_step HB.out hb) al)
      replace HX := Aside0.mk ((HX.out.below hb).elf.below al)
      replace HY := Aside0.mk ((HY.out.below hb).elf.below al)
      replace HU := Aside0.mk ((HU.out.below hb).below al)
      have HZ := Aside0.mk (hX.elf.below al)
      have HW := Aside0.mk (hY.elf.below al)
      have HV := Aside0.mk (C3.new w2 (.bool n') (.slice A' (limbs p').length c') (.slice B' (limbs q').length d'))

      clear hX hY hb hx al CA CB
      have HR : Aside0 (r = if n = n' then (if n = true then -cmpN (p * q') (p' * q) else cmpN (p * q') (p' * q)) else if n = true then -1 else 1) := ⟨by rw [HO.out]; exact cmpX_is n n' p q p' q' HC1.out HC2.out HN.out.e HN.out.f⟩
      have b1 : sh p ≤ 220 := HN.out.a
      have b2 : sh q ≤ 220 := HN.out.b
      have b3 : sh p' ≤ 220 := HN.out.c
      have b4 : sh q' ≤ 220 := HN.out.d
      have l1 : sh (p * q') ≤ 1000 := by have := sh_mul p q'; omega
      have l2 : sh (p' * q) ≤ 1000 := by have := sh_mul p' q; omega
      have CC := Aside0.mk (fun (u v : Value) (W : World) h1 h2 => rCmpN (u := u) (v := v) (m := p * q') (n := p' * q) W h1 h2 l1 l2)
      have CV := Aside0.mk (fun (W : World) h1 h2 h3 h4 => rover_calls n n' (A := A) (B := B) (C := A') (D := B') (a := c) (b := d) (c := c') (d := d') (p := p) (q := q) (r := p') (s := q') W h1 h2 h3 h4 (by omega) (by omega) (by omega) (by omega))
      clear b1 b2 b3 b4 l1 l2 HN HO HC1 HC2
      obtain ⟨x1, x2, x3, x4, x5, x6⟩ := HU.out.cells
      obtain ⟨y1, y2, y3, y4, y5, y6⟩ := HV.out.cells
      go_wp2_with fail
      refine (CV.out _ HX.out.v HY.out.v HZ.out.v HW.out.v).mono ?_
      rintro e w3 ⟨u, v, z, rfl, hu, hv, hz, hb⟩
      obtain ⟨Au, cu, rfl, _⟩ := hu.v
      obtain ⟨Av, cv, rfl, _⟩ := hv.v
      obtain ⟨Az, cz, rfl, _⟩ := hz.v
      replace HB := Aside0.mk (below_step HB.out hb)
      replace HU := Aside0.mk (HU.out.below hb)
      replace HV := Aside0.mk (HV.out.below hb)
      have HM := Aside0.mk hu.v
      have HM2 := Aside0.mk hv.v
      clear hb hu hv hz x1 x2 x3 x4 x5 x6 y1 y2 y3 y4 y5 y6 HX HY HZ HW CV
      obtain ⟨x1, x2, x3, x4, x5, x6⟩ := HU.out.cells
      obtain ⟨y1, y2, y3, y4, y5, y6⟩ := HV.out.cells
      rcases cmpN_cases (p * q') (p' * q) with hc | hc | hc
      all_goals
        rw [hc] at CC HR
        clear hc
        cases n <;> cases n'
        all_goals
          go_wp2_with fail
          first
          | (refine (CC.out _ _ _ HM.out HM2.out).mono ?_
             rintro e w4 ⟨rfl, hb⟩
             replace HB := Aside0.mk (below_step HB.out hb)
             replace HU := Aside0.mk (HU.out.below hb)
             clear hb x1 x2 x3 x4 x5 x6 y1 y2 y3 y4 y5 y6
             obtain ⟨x1, x2, x3, x4, x5, x6⟩ := HU.out.cells
             go_wp2_with fail
             go_ret
             exact ⟨by rw [HR.out]; rfl, HB.out⟩)
          | (go_ret
             exact ⟨by rw [HR.out]; rfl, HB.out⟩)
          | trace_state
def tribunalref03_Norm.f (s : ByteArray) : Option (ByteArray × Int) := if few s then some (normS s) else none
set_option maxHeartbeats 4000000 in
set_option maxRecDepth 100000 in
theorem tribunalref03_Norm.calls (a0 r1 : ByteArray) (r2 : Int) (w : World) (h : tribunalref03_Norm.f a0 = some (r1, r2)) : Calls Tryd.prog 13 #[.string a0] w fun e w' => e = .returned (.tuple #[.string r1, .int .i64 r2]) ∧ Below w.heap.size w w' := by
  unfold tribunalref03_Norm.f at h
  by_cases hs : few a0
  case neg => rw [if_neg hs] at h; cases h
  rw [if_pos hs] at h
  have hO := (Option.some.inj h).symm
  have h1 : a0.size ≤ 1000000 := hs
  have hle := partsS_le a0
  have CP := Aside0.mk (fun W => rcut_calls a0 (by omega) W)
  have CR1 := Aside0.mk (fun W => rRightN (partsS a0).2.1 (by omega) W)
  have CR2 := Aside0.mk (fun W => rRightN (partsS a0).2.2 (by omega) W)
  unfold normS at hO
  have hRP : rightP a0 = (rightS (partsS a0).2.1 && rightS (partsS a0).2.2) := rfl
  rw [hRP] at hO
  clear hRP hs h
  have HB := Aside0.mk (Below.refl w.heap.size w)
  cases ha : rightS (partsS a0).2.1
  · rw [ha] at CR1 hO
    rw [Bool.false_and, if_pos rfl] at hO
    have HO := Aside0.mk hO
    generalize (partsS a0).1 = n at *
    generalize (partsS a0).2.1 = a at *
    generalize (partsS a0).2.2 = b at *
    clear ha hO CR2 hle h1
    go_enter Tryd.func13, Tryd.ntmps13
    go_wp2_with fail
    refine (CP.out _).mono ?_
    rintro e w1 ⟨ci, rfl, hb⟩
    replace HB := Aside0.mk (below_step HB.out hb)
    clear hb CP
    go_wp2_with fail
    refine (CR1.out _).mono ?_
    rintro e w2 ⟨rfl, hb⟩
    replace HB := Aside0.mk (below_step HB.out hb)
    clear hb CR1
    go_wp2_with fail
    go_ret2
    exact ⟨by have h := HO.out; cases h; rfl, HB.out⟩
  · cases hb2 : rightS (partsS a0).2.2
    · rw [ha] at CR1 hO
      rw [hb2] at CR2 hO
      rw [Bool.true_and, if_pos rfl] at hO
      have HO := Aside0.mk hO
      generalize (partsS a0).1 = n at *
      generalize (partsS a0).2.1 = a at *
      generalize (partsS a0).2.2 = b at *
      clear ha hb2 hO hle h1
      go_enter Tryd.func13, Tryd.ntmps13
      go_wp2_with fail
      refine (CP.out _).mono ?_
      rintro e w1 ⟨ci, rfl, hb⟩
      replace HB := Aside0.mk (below_step HB.out hb)
      clear hb CP
      go_wp2_with fail
      refine (CR1.out _).mono ?_
      rintro e w2 ⟨rfl, hb⟩
      replace HB := Aside0.mk (below_step HB.out hb)
      clear hb CR1
      go_wp2_with fail
      refine (CR2.out _).mono ?_
      rintro e w3 ⟨rfl, hb⟩
      replace HB := Aside0.mk (below_step HB.out hb)
      clear hb CR2
      go_wp2_with fail
      go_ret2
      exact ⟨by have h := HO.out; cases h; rfl, HB.out⟩
    · rw [ha, hb2] at hO
      rw [ha] at CR1
      rw [hb2] at CR2
      rw [Bool.true_and, if_neg (by simp)] at hO
      by_cases hl : a0.size > 900
      · rw [if_pos hl] at hO
        have HO := Aside0.mk hO
        have g : (900 : Int) < (a0.size : Int) := by omega
        generalize (partsS a0).1 = n at *
        generalize (partsS a0).2.1 = a at *
        generalize (partsS a0).2.2 = b at *
        clear ha hb2 hO hle h1 hl
        go_enter Tryd.func13, Tryd.ntmps13
        go_wp2_with fail
        refine (CP.out _).mono ?_
        rintro e w1 ⟨ci, rfl, hb⟩
        replace HB := Aside0.mk (below_step HB.out hb)
        clear hb CP
        go_wp2_with fail
        refine (CR1.out _).mono ?_
        rintro e w2 ⟨rfl, hb⟩
        replace HB := Aside0.mk (below_step HB.out hb)
        clear hb CR1
        go_wp2_with fail
        refine (CR2.out _).mono ?_
        rintro e w3 ⟨rfl, hb⟩
        replace HB := Aside0.mk (below_step HB.out hb)
        clear hb CR2
        go_wp2_with fail
        go_ret2
        exact ⟨by have h := HO.out; cases h; rfl, HB.out⟩
      · rw [if_neg hl] at hO
        have g : ¬ (900 : Int) < (a0.size : Int) := by omega
        have CA := Aside0.mk (fun W => rParseN (partsS a0).2.1 ha (by omega) W)
        have CB := Aside0.mk (fun W => rParseN (partsS a0).2.2 hb2 (by omega) W)
        have l1 : sh (decN (partsS a0).2.1) ≤ 1000 := by have := sh_len9 ha; omega
        have l2 : sh (decN (partsS a0).2.2) ≤ 1000 := by have := sh_len9 hb2; omega
        have hz0 : (partsS a0).2.2.toList = [48] ↔ decN (partsS a0).2.2 = 0 := by
          have ht := text_dec _ hb2
          have h48 : (textS 0).toList = [48] := by rw [Go.ByteArray.toList_eq]; rfl
          constructor
          · intro h
            have : (partsS a0).2.2 = textS 0 := toList_inj.1 (by rw [h, h48])
            rw [this, dec_text]
          · intro h
            rw [← ht, h, h48]
        have hz : (limbs 0).length = 0 := by rw [limbs_zero]; rfl
        have CT := Aside0.mk (fun (A B : Option Addr) (c d : Nat) (W : World) h1 h2 (q0 : decN (partsS a0).2.2 ≠ 0) => rtext_calls (partsS a0).1 (A := A) (B := B) (c := c) (d := d) (p := decN (partsS a0).2.1) (q := decN (partsS a0).2.2) W h1 h2 l1 l2 q0)
        generalize strS (partsS a0).1 (decN (partsS a0).2.1) (decN (partsS a0).2.2) = R at *
        generalize (partsS a0).1 = n at *
        generalize decN (partsS a0).2.1 = p at *
        generalize decN (partsS a0).2.2 = q at *
        generalize (partsS a0).2.1 = a at *
        generalize (partsS a0).2.2 = b at *
        clear ha hb2 hle h1 hl l1 l2
        by_cases hq : q = 0
        · rw [if_pos (hz0.2 hq)] at hO
          have HO := Aside0.mk hO
          have g1 : ((((limbs q).length : Nat) : Int) == 0) = true := by rw [hq, hz]; rfl
          have g2 : (((limbs q).length : Nat) == 0) = true := by rw [hq, hz]; rfl
          clear hO hq hz0 CT
          go_enter Tryd.func13, Tryd.ntmps13
          go_wp2_with fail
          refine (CP.out _).mono ?_
          rintro e w1 ⟨ci, rfl, hb⟩
          replace HB := Aside0.mk (below_step HB.out hb)
          clear hb CP
          go_wp2_with fail
          refine (CR1.out _).mono ?_
          rintro e w2 ⟨rfl, hb⟩
          replace HB := Aside0.mk (below_step HB.out hb)
          clear hb CR1
          go_wp2_with fail
          refine (CR2.out _).mono ?_
          rintro e w3 ⟨rfl, hb⟩
          replace HB := Aside0.mk (below_step HB.out hb)
          clear hb CR2
          go_wp2_with fail
          refine (CA.out _).mono ?_
          rintro e w4 ⟨z, rfl, hzz, hb⟩
          obtain ⟨A, c, rfl, _⟩ := hzz.v
          replace HB := Aside0.mk (below_step HB.out hb)
          have HX := Aside0.mk hzz.v
          clear hb hzz CA
          go_wp2_with fail
          refine (CB.out _).mono ?_
          rintro e w5 ⟨z, rfl, hzz, hb⟩
          obtain ⟨B, d, rfl, _⟩ := hzz.v
          replace HB := Aside0.mk (below_step HB.out hb)
          replace HX := Aside0.mk (HX.out.below hb)
          have HY := Aside0.mk hzz.v
          clear hb hzz CB
          go_wp2_with fail
          go_ret2
          exact ⟨by have h := HO.out; cases h; rfl, HB.out⟩
        · rw [if_neg (fun h => hq (hz0.1 h))] at hO
          have HO := Aside0.mk hO
          have HQ0 := Aside0.mk hq
          have hp := (limbs_len0 q).2 hq
          have g1 : ((((limbs q).length : Nat) : Int) == 0) = false := by rw [beq_eq_false_iff_ne]; omega
          have g2 : (((limbs q).length : Nat) == 0) = false := by rw [beq_eq_false_iff_ne]; omega
          clear hO hq hz0 hp
          go_enter Tryd.func13, Tryd.ntmps13
          go_wp2_with fail
          refine (CP.out _).mono ?_
          rintro e w1 ⟨ci, rfl, hb⟩
          replace HB := Aside0.mk (below_step HB.out hb)
          clear hb CP
          go_wp2_with fail
          refine (CR1.out _).mono ?_
          rintro e w2 ⟨rfl, hb⟩
          replace HB := Aside0.mk (below_step HB.out hb)
          clear hb CR1
          go_wp2_with fail
          refine (CR2.out _).mono ?_
          rintro e w3 ⟨rfl, hb⟩
          replace HB := Aside0.mk (below_step HB.out hb)
          clear hb CR2
          go_wp2_with fail
          refine (CA.out _).mono ?_
          rintro e w4 ⟨z, rfl, hzz, hb⟩
          obtain ⟨A, c, rfl, _⟩ := hzz.v
          replace HB := Aside0.mk (below_step HB.out hb)
          have HX := Aside0.mk hzz.v
          clear hb hzz CA
          go_wp2_with fail
          refine (CB.out _).mono ?_
          rintro e w5 ⟨z, rfl, hzz, hb⟩
          obtain ⟨B, d, rfl, _⟩ := hzz.v
          replace HB := Aside0.mk (below_step HB.out hb)
          replace HX := Aside0.mk (HX.out.below hb)
          have HY := Aside0.mk hzz.v
          clear hb hzz CB
          go_wp2_with fail
          refine (CT.out _ _ _ _ _ HX.out HY.out HQ0.out).mono ?_
          rintro e wt ⟨rfl, hb⟩
          replace HB := Aside0.mk (below_step HB.out hb)
          clear hb
          go_wp2_with fail
          go_ret2
          exact ⟨by have h := HO.out; cases h; rfl, HB.out⟩
end Go.Proofs.YtfnhohpmhpbpmaaDoor.G
