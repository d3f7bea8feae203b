/- The reference's numbers: the exported functions, told in the same words as rat's. Condition: texts of at most 2^61 bytes. -/
import Derived.Test.YtfnhohpmhpbpmaaDoorGx0
import Derived.Test.YtfnhohpmhpbpmaaDoorGRefRat2
namespace Go.Proofs.YtfnhohpmhpbpmaaDoor.G
open Go.RowKit Go.Proofs.YtfnhohpmhpbpmaaDoorW.PrintWords Go.Proofs.YtfnhohpmhpbpmaaDoorW.PrintLast Go.Proofs.YtfnhohpmhpbpmaaDoorW.PrintMore

def few (s : ByteArray) : Prop := s.size ≤ 1000000
instance (s : ByteArray) : Decidable (few s) := by unfold few; infer_instance
def tribunalref03_Add.f (a b : ByteArray) : Option (ByteArray × Int) := if few a ∧ few b then some (opS addX false a b) else none
set_option maxHeartbeats 4000000 in
set_option maxRecDepth 100000 in
theorem tribunalref03_Add.calls (a0 a1 r1 : ByteArray) (r2 : Int) (w : World) (h : tribunalref03_Add.f a0 a1 = some (r1, r2)) : Calls Tryd.prog 15 #[.string a0, .string a1] w fun e w' => e = .returned (.tuple #[.string r1, .int .i64 r2]) ∧ Below w.heap.size w w' := by
  unfold tribunalref03_Add.f at h
  by_cases hs : few a0 ∧ few a1
  case neg => rw [if_neg hs] at h; cases h
  rw [if_pos hs] at h
  have hO := (Option.some.inj h).symm
  have h1 : a0.size ≤ 1000000 := hs.1
  have h2 : a1.size ≤ 1000000 := hs.2
  have CA := Aside0.mk (fun W => rget_calls a0 (by omega) W)
  have CB := Aside0.mk (fun W => rget_calls a1 (by omega) W)
  obtain ⟨X, hX⟩ : ∃ X, X = getS a0 := ⟨_, rfl⟩
  obtain ⟨Y, hY⟩ : ∃ Y, Y = getS a1 := ⟨_, rfl⟩
  have HS1 : Aside0 (∀ x, X = some x → sh x.2.1 ≤ 220 ∧ sh x.2.2 ≤ 220 ∧ 0 < x.2.2) := ⟨fun x h => getS_sh (hX.symm.trans h)⟩
  have HS2 : Aside0 (∀ x, Y = some x → sh x.2.1 ≤ 220 ∧ sh x.2.2 ≤ 220 ∧ 0 < x.2.2) := ⟨fun x h => getS_sh (hY.symm.trans h)⟩
  have HO : Aside0 ((r1, r2) = opM addX false X Y) := ⟨by rw [hX, hY]; exact hO⟩
  rw [← hX] at CA
  rw [← hY] at CB
  clear hs hX hY h hO h1 h2
  cases X with
  | none =>
    replace HO : Aside0 ((r1, r2) = ((⟨#[]⟩ : ByteArray), (1 : Int))) := ⟨HO.out⟩
    replace CA := CA.out
    simp only [Option.isSome_none] at CA
    replace CA := Aside0.mk CA
    go_enter Tryd.func15, Tryd.ntmps15
    go_wp2_with fail
    refine (CA.out _).mono ?_
    rintro e w1 ⟨n, A, c, B, d, p, q, rfl, hX, hY, hb, hx⟩
    have HB := Aside0.mk (below_alloc hb (.cells #[.bool n, .slice A (limbs p).length c, .slice B (limbs q).length d] 48))
    clear hX hY hb hx
    go_wp2_with fail
    refine (CB.out _).mono ?_
    rintro e w2 ⟨n', A', c', B', d', p', q', rfl, hX, hY, hb, hx⟩
    replace HB := Aside0.mk (below_step HB.out hb)
    clear hX hY hb hx
    generalize Y.isSome = iy
    cases iy
    all_goals
      go_wp2_with fail
      go_ret2
      exact ⟨by have h := HO.out; cases h; rfl, below_alloc HB.out _⟩
  | some x =>
    cases Y with
    | none =>
      replace HO : Aside0 ((r1, r2) = ((⟨#[]⟩ : ByteArray), (1 : Int))) := ⟨HO.out⟩
      replace CA := CA.out
      simp only [Option.isSome_some] at CA
      replace CA := Aside0.mk CA
      replace CB := CB.out
      simp only [Option.isSome_none] at CB
      replace CB := Aside0.mk CB
      go_enter Tryd.func15, Tryd.ntmps15
      go_wp2_with fail
      refine (CA.out _).mono ?_
      rintro e w1 ⟨n, A, c, B, d, p, q, rfl, hX, hY, hb, hx⟩
      have HB := Aside0.mk (below_alloc hb (.cells #[.bool n, .slice A (limbs p).length c, .slice B (limbs q).length d] 48))
      clear hX hY hb hx
      go_wp2_with fail
      refine (CB.out _).mono ?_
      rintro e w2 ⟨n', A', c', B', d', p', q', rfl, hX, hY, hb, hx⟩
      replace HB := Aside0.mk (below_step HB.out hb)
      clear hX hY hb hx
      go_wp2_with fail
      go_ret2
      exact ⟨by have h := HO.out; cases h; rfl, below_alloc HB.out _⟩
    | some y =>
      have HN : Aside0 (Opens x y) := ⟨(HS1.out x rfl).1, (HS1.out x rfl).2.1, (HS2.out y rfl).1, (HS2.out y rfl).2.1, (HS1.out x rfl).2.2, (HS2.out y rfl).2.2⟩
      replace HO : Aside0 ((r1, r2) = if false = true ∧ y.2.1 = 0 then ((⟨#[]⟩ : ByteArray), (21 : Int)) else toldS (addX x y)) := ⟨HO.out⟩
      replace CA := CA.out
      simp only [Option.isSome_some] at CA
      replace CA := Aside0.mk CA
      replace CB := CB.out
      simp only [Option.isSome_some] at CB
      replace CB := Aside0.mk CB
      clear HS1 HS2
      go_enter Tryd.func15, Tryd.ntmps15
      go_wp2_with fail
      refine (CA.out _).mono ?_
      rintro e w1 ⟨n, A, c, B, d, p, q, rfl, hX, hY, hb, hx⟩
      obtain rfl := hx x rfl
      have al := below_alloc (Below.refl w1.heap.size w1) (.cells #[.bool n, .slice A (limbs p).length c, .slice B (limbs q).length d] 48)
      have HB := Aside0.mk (below_step hb al)
      have HX := Aside0.mk (hX.below al)
      have HY := Aside0.mk (hY.below al)
      have hwk := Aside0.mk (show w.heap.size ≤ w1.heap.size from hb.size)
      have HU := Aside0.mk (C3.new w1 (.bool n) (.slice A (limbs p).length c) (.slice B (limbs q).length d))
      clear hX hY hb hx al
      go_wp2_with fail
      generalize hk : w1.heap.size = k at *
      generalize w1.alloc (.cells #[.bool n, .slice A (limbs p).length c, .slice B (limbs q).length d] 48) = W1 at *
      clear hk
      refine (CB.out _).mono ?_
      rintro e w2 ⟨n', A', c', B', d', p', q', rfl, hX, hY, hb, hx⟩
      obtain rfl := hx y rfl
      have al := below_alloc (Below.refl w2.heap.size w2) (.cells #[.bool n', .slice A' (limbs p').length c', .slice B' (limbs q').length d'] 48)
      have hne := Aside0.mk (show k < w2.heap.size from blk_lt (HU.out.below hb).blk)
      replace HB := Aside0.mk (below_step (below_step HB.out hb) al)
      replace HX := Aside0.mk ((HX.out.below hb).elf.below al)
      replace HY := Aside0.mk ((HY.out.below hb).elf.below al)
      replace HU := Aside0.mk ((HU.out.below hb).below al)
      have HZ := Aside0.mk (hX.elf.below al)
      have HW := Aside0.mk (hY.elf.below al)
      have HV := Aside0.mk (C3.new w2 (.bool n') (.slice A' (limbs p').length c') (.slice B' (limbs q').length d'))
      replace HO : Aside0 ((r1, r2) = toldS (addX (n, p, q) (n', p', q'))) := ⟨HO.out⟩
      have HL := addX_sh HN.out
      obtain ⟨N, P, Q, hop⟩ : ∃ N P Q, addX (n, p, q) (n', p', q') = (N, P, Q) := ⟨_, _, _, rfl⟩
      rw [hop] at HL HO
      have hq0 : Q ≠ 0 := by
        have h : (addX (n, p, q) (n', p', q')).2.2 = Q := congrArg (fun z => z.2.2) hop
        rw [← h]
        exact Nat.mul_ne_zero (Nat.ne_of_gt HN.out.e) (Nat.ne_of_gt HN.out.f)
      have CT := Aside0.mk (fun (A B : Option Addr) (c d : Nat) (W : World) h1 h2 => rtold_calls N (A := A) (B := B) (c := c) (d := d) (p := P) (q := Q) W h1 h2 HL.1 HL.2 hq0)
      rw [← HO.out] at CT
      have hN : (addR n n' (p * q') (p' * q)).1 = N := congrArg (fun z => z.1) hop
      have hP : (addR n n' (p * q') (p' * q)).2 = P := congrArg (fun z => z.2.1) hop
      have hQ : q * q' = Q := congrArg (fun z => z.2.2) hop
      have CS := (fun (W : World) h1 h2 h3 h4 => rsum_calls n n' (A := A) (B := B) (C := A') (D := B') (a := c) (b := d) (c := c') (d := d') (p := p) (q := q) (r := p') (s := q') W h1 h2 h3 h4 (Nat.le_trans HN.out.a (by decide)) (Nat.le_trans HN.out.b (by decide)) (Nat.le_trans HN.out.c (by decide)) (Nat.le_trans HN.out.d (by decide)))
      rw [hN, hP, hQ] at CS
      replace CS := Aside0.mk CS
      clear hN hP hQ hop HL hq0 HN
      clear hX hY hb hx al CA CB
      obtain ⟨x1, x2, x3, x4, x5, x6⟩ := HU.out.cells
      obtain ⟨y1, y2, y3, y4, y5, y6⟩ := HV.out.cells
      go_wp2_with fail
      refine (CS.out _ HX.out.v HY.out.v HZ.out.v HW.out.v).mono ?_
      rintro e w3 ⟨u, v, rfl, hu, hv, hb⟩
      replace HB := Aside0.mk (below_step HB.out hb)
      obtain ⟨Au, cu, rfl, _⟩ := hu.v
      obtain ⟨Av, cv, rfl, _⟩ := hv.v
      clear hb x1 x2 x3 x4 x5 x6 y1 y2 y3 y4 y5 y6
      go_wp2_with fail
      refine (CT.out Au Av cu cv _ hu.v hv.v).mono ?_
      rintro e w4 ⟨rfl, hd⟩
      replace HB := Aside0.mk (below_step HB.out hd)
      clear hu hv hd
      go_wp2_with fail
      go_ret2
      exact ⟨rfl, HB.out⟩
def tribunalref03_Sub.f (a b : ByteArray) : Option (ByteArray × Int) := if few a ∧ few b then some (opS subX false a b) else none
set_option maxHeartbeats 4000000 in
set_option maxRecDepth 100000 in
theorem tribunalref03_Sub.calls (a0 a1 r1 : ByteArray) (r2 : Int) (w : World) (h : tribunalref03_Sub.f a0 a1 = some (r1, r2)) : Calls Tryd.prog 21 #[.string a0, .string a1] w fun e w' => e = .returned (.tuple #[.string r1, .int .i64 r2]) ∧ Below w.heap.size w w' := by
  unfold tribunalref03_Sub.f at h
  by_cases hs : few a0 ∧ few a1
  case neg => rw [if_neg hs] at h; cases h
  rw [if_pos hs] at h
  have hO := (Option.some.inj h).symm
  have h1 : a0.size ≤ 1000000 := hs.1
  have h2 : a1.size ≤ 1000000 := hs.2
  have CA := Aside0.mk (fun W => rget_calls a0 (by omega) W)
  have CB := Aside0.mk (fun W => rget_calls a1 (by omega) W)
  obtain ⟨X, hX⟩ : ∃ X, X = getS a0 := ⟨_, rfl⟩
  obtain ⟨Y, hY⟩ : ∃ Y, Y = getS a1 := ⟨_, rfl⟩
  have HS1 : Aside0 (∀ x, X = some x → sh x.2.1 ≤ 220 ∧ sh x.2.2 ≤ 220 ∧ 0 < x.2.2) := ⟨fun x h => getS_sh (hX.symm.trans h)⟩
  have HS2 : Aside0 (∀ x, Y = some x → sh x.2.1 ≤ 220 ∧ sh x.2.2 ≤ 220 ∧ 0 < x.2.2) := ⟨fun x h => getS_sh (hY.symm.trans h)⟩
  have HO : Aside0 ((r1, r2) = opM subX false X Y) := ⟨by rw [hX, hY]; exact hO⟩
  rw [← hX] at CA
  rw [← hY] at CB
  clear hs hX hY h hO h1 h2
  cases X with
  | none =>
    replace HO : Aside0 ((r1, r2) = ((⟨#[]⟩ : ByteArray), (1 : Int))) := ⟨HO.out⟩
    replace CA := CA.out
    simp only [Option.isSome_none] at CA
    replace CA := Aside0.mk CA
    go_enter Tryd.func21, Tryd.ntmps21
    go_wp2_with fail
    refine (CA.out _).mono ?_
    rintro e w1 ⟨n, A, c, B, d, p, q, rfl, hX, hY, hb, hx⟩
    have HB := Aside0.mk (below_alloc hb (.cells #[.bool n, .slice A (limbs p).length c, .slice B (limbs q).length d] 48))
    clear hX hY hb hx
    go_wp2_with fail
    refine (CB.out _).mono ?_
    rintro e w2 ⟨n', A', c', B', d', p', q', rfl, hX, hY, hb, hx⟩
    replace HB := Aside0.mk (below_step HB.out hb)
    clear hX hY hb hx
    generalize Y.isSome = iy
    cases iy
    all_goals
      go_wp2_with fail
      go_ret2
      exact ⟨by have h := HO.out; cases h; rfl, below_alloc HB.out _⟩
  | some x =>
    cases Y with
    | none =>
      replace HO : Aside0 ((r1, r2) = ((⟨#[]⟩ : ByteArray), (1 : Int))) := ⟨HO.out⟩
      replace CA := CA.out
      simp only [Option.isSome_some] at CA
      replace CA := Aside0.mk CA
      replace CB := CB.out
      simp only [Option.isSome_none] at CB
      replace CB := Aside0.mk CB
      go_enter Tryd.func21, Tryd.ntmps21
      go_wp2_with fail
      refine (CA.out _).mono ?_
      rintro e w1 ⟨n, A, c, B, d, p, q, rfl, hX, hY, hb, hx⟩
      have HB := Aside0.mk (below_alloc hb (.cells #[.bool n, .slice A (limbs p).length c, .slice B (limbs q).length d] 48))
      clear hX hY hb hx
      go_wp2_with fail
      refine (CB.out _).mono ?_
      rintro e w2 ⟨n', A', c', B', d', p', q', rfl, hX, hY, hb, hx⟩
      replace HB := Aside0.mk (below_step HB.out hb)
      clear hX hY hb hx
      go_wp2_with fail
      go_ret2
      exact ⟨by have h := HO.out; cases h; rfl, below_alloc HB.out _⟩
    | some y =>
      have HN : Aside0 (Opens x y) := ⟨(HS1.out x rfl).1, (HS1.out x rfl).2.1, (HS2.out y rfl).1, (HS2.out y rfl).2.1, (HS1.out x rfl).2.2, (HS2.out y rfl).2.2⟩
      replace HO : Aside0 ((r1, r2) = if false = true ∧ y.2.1 = 0 then ((⟨#[]⟩ : ByteArray), (21 : Int)) else toldS (subX x y)) := ⟨HO.out⟩
      replace CA := CA.out
      simp only [Option.isSome_some] at CA
      replace CA := Aside0.mk CA
      replace CB := CB.out
      simp only [Option.isSome_some] at CB
      replace CB := Aside0.mk CB
      clear HS1 HS2
      go_enter Tryd.func21, Tryd.ntmps21
      go_wp2_with fail
      refine (CA.out _).mono ?_
      rintro e w1 ⟨n, A, c, B, d, p, q, rfl, hX, hY, hb, hx⟩
      obtain rfl := hx x rfl
      have al := below_alloc (Below.refl w1.heap.size w1) (.cells #[.bool n, .slice A (limbs p).length c, .slice B (limbs q).length d] 48)
      have HB := Aside0.mk (below_step hb al)
      have HX := Aside0.mk (hX.below al)
      have HY := Aside0.mk (hY.below al)
      have hwk := Aside0.mk (show w.heap.size ≤ w1.heap.size from hb.size)
      have HU := Aside0.mk (C3.new w1 (.bool n) (.slice A (limbs p).length c) (.slice B (limbs q).length d))
      clear hX hY hb hx al
      go_wp2_with fail
      generalize hk : w1.heap.size = k at *
      generalize w1.alloc (.cells #[.bool n, .slice A (limbs p).length c, .slice B (limbs q).length d] 48) = W1 at *
      clear hk
      refine (CB.out _).mono ?_
      rintro e w2 ⟨n', A', c', B', d', p', q', rfl, hX, hY, hb, hx⟩
      obtain rfl := hx y rfl
      have al := below_alloc (Below.refl w2.heap.size w2) (.cells #[.bool (!n'), .slice A' (limbs p').length c', .slice B' (limbs q').length d'] 48)
      have hne := Aside0.mk (show k < w2.heap.size from blk_lt (HU.out.below hb).blk)
      replace HB := Aside0.mk (below_step (below_step HB.out hb) al)
      replace HX := Aside0.mk ((HX.out.below hb).elf.below al)
      replace HY := Aside0.mk ((HY.out.below hb).elf.below al)
      replace HU := Aside0.mk ((HU.out.below hb).below al)
      have HZ := Aside0.mk (hX.elf.below al)
      have HW := Aside0.mk (hY.elf.below al)
      have HV := Aside0.mk (C3.new w2 (.bool (!n')) (.slice A' (limbs p').length c') (.slice B' (limbs q').length d'))
      replace HO : Aside0 ((r1, r2) = toldS (subX (n, p, q) (n', p', q'))) := ⟨HO.out⟩
      have HL : sh (subX (n, p, q) (n', p', q')).2.1 ≤ 1000 ∧ sh (subX (n, p, q) (n', p', q')).2.2 ≤ 1000 := addX_sh (x := (n, p, q)) (y := (!n', p', q')) ⟨HN.out.a, HN.out.b, HN.out.c, HN.out.d, HN.out.e, HN.out.f⟩
      obtain ⟨N, P, Q, hop⟩ : ∃ N P Q, subX (n, p, q) (n', p', q') = (N, P, Q) := ⟨_, _, _, rfl⟩
      rw [hop] at HL HO
      have hq0 : Q ≠ 0 := by
        have h : (subX (n, p, q) (n', p', q')).2.2 = Q := congrArg (fun z => z.2.2) hop
        rw [← h]
        exact Nat.mul_ne_zero (Nat.ne_of_gt HN.out.e) (Nat.ne_of_gt HN.out.f)
      have CT := Aside0.mk (fun (A B : Option Addr) (c d : Nat) (W : World) h1 h2 => rtold_calls N (A := A) (B := B) (c := c) (d := d) (p := P) (q := Q) W h1 h2 HL.1 HL.2 hq0)
      rw [← HO.out] at CT
      have hN : (addR n (!n') (p * q') (p' * q)).1 = N := congrArg (fun z => z.1) hop
      have hP : (addR n (!n') (p * q') (p' * q)).2 = P := congrArg (fun z => z.2.1) hop
      have hQ : q * q' = Q := congrArg (fun z => z.2.2) hop
      have CS := (fun (W : World) h1 h2 h3 h4 => rsum_calls n (!n') (A := A) (B := B) (C := A') (D := B') (a := c) (b := d) (c := c') (d := d') (p := p) (q := q) (r := p') (s := q') W h1 h2 h3 h4 (Nat.le_trans HN.out.a (by decide)) (Nat.le_trans HN.out.b (by decide)) (Nat.le_trans HN.out.c (by decide)) (Nat.le_trans HN.out.d (by decide)))
      rw [hN, hP, hQ] at CS
      replace CS := Aside0.mk CS
      clear hN hP hQ hop HL hq0 HN
      clear hX hY hb hx al CA CB
      obtain ⟨y1, y2, y3, y4, y5, y6⟩ := (C3.new w2 (.bool n') (.slice A' (limbs p').length c') (.slice B' (limbs q').length d')).cells
      go_upto_region 6 with (fail)
      clear y1 y2 y3 y4 y5 y6
      obtain ⟨x1, x2, x3, x4, x5, x6⟩ := HU.out.cells
      obtain ⟨y1, y2, y3, y4, y5, y6⟩ := HV.out.cells
      go_wp2_with fail
      refine (CS.out _ HX.out.v HY.out.v HZ.out.v HW.out.v).mono ?_
      rintro e w3 ⟨u, v, rfl, hu, hv, hb⟩
      replace HB := Aside0.mk (below_step HB.out hb)
      obtain ⟨Au, cu, rfl, _⟩ := hu.v
      obtain ⟨Av, cv, rfl, _⟩ := hv.v
      clear hb x1 x2 x3 x4 x5 x6 y1 y2 y3 y4 y5 y6
      go_wp2_with fail
      refine (CT.out Au Av cu cv _ hu.v hv.v).mono ?_
      rintro e w4 ⟨rfl, hd⟩
      replace HB := Aside0.mk (below_step HB.out hd)
      clear hu hv hd
      go_wp2_with fail
      go_ret2
      exact ⟨rfl, HB.out⟩
def tribunalref03_Mul.f (a b : ByteArray) : Option (ByteArray × Int) := if few a ∧ few b then some (opS mulX false a b) else none
set_option maxHeartbeats 4000000 in
set_option maxRecDepth 100000 in
theorem tribunalref03_Mul.calls (a0 a1 r1 : ByteArray) (r2 : Int) (w : World) (h : tribunalref03_Mul.f a0 a1 = some (r1, r2)) : Calls Tryd.prog 23 #[.string a0, .string a1] w fun e w' => e = .returned (.tuple #[.string r1, .int .i64 r2]) ∧ Below w.heap.size w w' := by
  unfold tribunalref03_Mul.f at h
  by_cases hs : few a0 ∧ few a1
  case neg => rw [if_neg hs] at h; cases h
  rw [if_pos hs] at h
  have hO := (Option.some.inj h).symm
  have h1 : a0.size ≤ 1000000 := hs.1
  have h2 : a1.size ≤ 1000000 := hs.2
  have CA := Aside0.mk (fun W => rget_calls a0 (by omega) W)
  have CB := Aside0.mk (fun W => rget_calls a1 (by omega) W)
  obtain ⟨X, hX⟩ : ∃ X, X = getS a0 := ⟨_, rfl⟩
  obtain ⟨Y, hY⟩ : ∃ Y, Y = getS a1 := ⟨_, rfl⟩
  have HS1 : Aside0 (∀ x, X = some x → sh x.2.1 ≤ 220 ∧ sh x.2.2 ≤ 220 ∧ 0 < x.2.2) := ⟨fun x h => getS_sh (hX.symm.trans h)⟩
  have HS2 : Aside0 (∀ x, Y = some x → sh x.2.1 ≤ 220 ∧ sh x.2.2 ≤ 220 ∧ 0 < x.2.2) := ⟨fun x h => getS_sh (hY.symm.trans h)⟩
  have HO : Aside0 ((r1, r2) = opM mulX false X Y) := ⟨by rw [hX, hY]; exact hO⟩
  rw [← hX] at CA
  rw [← hY] at CB
  clear hs hX hY h hO h1 h2
  cases X with
  | none =>
    replace HO : Aside0 ((r1, r2) = ((⟨#[]⟩ : ByteArray), (1 : Int))) := ⟨HO.out⟩
    replace CA := CA.out
    simp only [Option.isSome_none] at CA
    replace CA := Aside0.mk CA
    go_enter Tryd.func23, Tryd.ntmps23
    go_wp2_with fail
    refine (CA.out _).mono ?_
    rintro e w1 ⟨n, A, c, B, d, p, q, rfl, hX, hY, hb, hx⟩
    have HB := Aside0.mk (below_alloc hb (.cells #[.bool n, .slice A (limbs p).length c, .slice B (limbs q).length d] 48))
    clear hX hY hb hx
    go_wp2_with fail
    refine (CB.out _).mono ?_
    rintro e w2 ⟨n', A', c', B', d', p', q', rfl, hX, hY, hb, hx⟩
    replace HB := Aside0.mk (below_step HB.out hb)
    clear hX hY hb hx
    generalize Y.isSome = iy
    cases iy
    all_goals
      go_wp2_with fail
      go_ret2
      exact ⟨by have h := HO.out; cases h; rfl, below_alloc HB.out _⟩
  | some x =>
    cases Y with
    | none =>
      replace HO : Aside0 ((r1, r2) = ((⟨#[]⟩ : ByteArray), (1 : Int))) := ⟨HO.out⟩
      replace CA := CA.out
      simp only [Option.isSome_some] at CA
      replace CA := Aside0.mk CA
      replace CB := CB.out
      simp only [Option.isSome_none] at CB
      replace CB := Aside0.mk CB
      go_enter Tryd.func23, Tryd.ntmps23
      go_wp2_with fail
      refine (CA.out _).mono ?_
      rintro e w1 ⟨n, A, c, B, d, p, q, rfl, hX, hY, hb, hx⟩
      have HB := Aside0.mk (below_alloc hb (.cells #[.bool n, .slice A (limbs p).length c, .slice B (limbs q).length d] 48))
      clear hX hY hb hx
      go_wp2_with fail
      refine (CB.out _).mono ?_
      rintro e w2 ⟨n', A', c', B', d', p', q', rfl, hX, hY, hb, hx⟩
      replace HB := Aside0.mk (below_step HB.out hb)
      clear hX hY hb hx
      go_wp2_with fail
      go_ret2
      exact ⟨by have h := HO.out; cases h; rfl, below_alloc HB.out _⟩
    | some y =>
      have HN : Aside0 (Opens x y) := ⟨(HS1.out x rfl).1, (HS1.out x rfl).2.1, (HS2.out y rfl).1, (HS2.out y rfl).2.1, (HS1.out x rfl).2.2, (HS2.out y rfl).2.2⟩
      replace HO : Aside0 ((r1, r2) = if false = true ∧ y.2.1 = 0 then ((⟨#[]⟩ : ByteArray), (21 : Int)) else toldS (mulX x y)) := ⟨HO.out⟩
      replace CA := CA.out
      simp only [Option.isSome_some] at CA
      replace CA := Aside0.mk CA
      replace CB := CB.out
      simp only [Option.isSome_some] at CB
      replace CB := Aside0.mk CB
      clear HS1 HS2
      go_enter Tryd.func23, Tryd.ntmps23
      go_wp2_with fail
      refine (CA.out _).mono ?_
      rintro e w1 ⟨n, A, c, B, d, p, q, rfl, hX, hY, hb, hx⟩
      obtain rfl := hx x rfl
      have al := below_alloc (Below.refl w1.heap.size w1) (.cells #[.bool n, .slice A (limbs p).length c, .slice B (limbs q).length d] 48)
      have HB := Aside0.mk (below_step hb al)
      have HX := Aside0.mk (hX.below al)
      have HY := Aside0.mk (hY.below al)
      have hwk := Aside0.mk (show w.heap.size ≤ w1.heap.size from hb.size)
      have HU := Aside0.mk (C3.new w1 (.bool n) (.slice A (limbs p).length c) (.slice B (limbs q).length d))
      clear hX hY hb hx al
      go_wp2_with fail
      generalize hk : w1.heap.size = k at *
      generalize w1.alloc (.cells #[.bool n, .slice A (limbs p).length c, .slice B (limbs q).length d] 48) = W1 at *
      clear hk
      refine (CB.out _).mono ?_
      rintro e w2 ⟨n', A', c', B', d', p', q', rfl, hX, hY, hb, hx⟩
      obtain rfl := hx y rfl
      have al := below_alloc (Below.refl w2.heap.size w2) (.cells #[.bool n', .slice A' (limbs p').length c', .slice B' (limbs q').length d'] 48)
      have hne := Aside0.mk (show k < w2.heap.size from blk_lt (HU.out.below hb).blk)
      replace HB := Aside0.mk (below_step (below_step HB.out hb) al)
      replace HX := Aside0.mk ((HX.out.below hb).elf.below al)
      replace HY := Aside0.mk ((HY.out.below hb).elf.below al)
      replace HU := Aside0.mk ((HU.out.below hb).below al)
      have HZ := Aside0.mk (hX.elf.below al)
      have HW := Aside0.mk (hY.elf.below al)
      have HV := Aside0.mk (C3.new w2 (.bool n') (.slice A' (limbs p').length c') (.slice B' (limbs q').length d'))
      replace HO : Aside0 ((r1, r2) = toldS (mulX (n, p, q) (n', p', q'))) := ⟨HO.out⟩
      have HL := mulX_sh HN.out
      obtain ⟨N, P, Q, hop⟩ : ∃ N P Q, mulX (n, p, q) (n', p', q') = (N, P, Q) := ⟨_, _, _, rfl⟩
      rw [hop] at HL HO
      have hq0 : Q ≠ 0 := by
        have h : (mulX (n, p, q) (n', p', q')).2.2 = Q := congrArg (fun z => z.2.2) hop
        rw [← h]
        exact Nat.mul_ne_zero (Nat.ne_of_gt HN.out.e) (Nat.ne_of_gt HN.out.f)
      have CT := Aside0.mk (fun (A B : Option Addr) (c d : Nat) (W : World) h1 h2 => rtold_calls N (A := A) (B := B) (c := c) (d := d) (p := P) (q := Q) W h1 h2 HL.1 HL.2 hq0)
      rw [← HO.out] at CT
      have CM1 := (fun (u v : Value) (W : World) h1 h2 => rMulN (u := u) (v := v) (m := p) (n := p') W h1 h2 (Nat.le_trans HN.out.a (by decide)) (Nat.le_trans HN.out.c (by decide)))
      have CM2 := (fun (u v : Value) (W : World) h1 h2 => rMulN (u := u) (v := v) (m := q) (n := q') W h1 h2 (Nat.le_trans HN.out.b (by decide)) (Nat.le_trans HN.out.d (by decide)))
      have hN : (!(n == n')) = N := congrArg (fun z => z.1) hop
      have hP : p * p' = P := congrArg (fun z => z.2.1) hop
      have hQ : q * q' = Q := congrArg (fun z => z.2.2) hop
      rw [hP] at CM1
      rw [hQ] at CM2
      replace CM1 := Aside0.mk CM1
      replace CM2 := Aside0.mk CM2
      subst hN
      clear hP hQ hop HL hq0 HN
      clear hX hY hb hx al CA CB
      obtain ⟨x1, x2, x3, x4, x5, x6⟩ := HU.out.cells
      obtain ⟨y1, y2, y3, y4, y5, y6⟩ := HV.out.cells
      go_wp2_with fail
      clear x1 x2 x3 x4 x5 x6 y1 y2 y3 y4 y5 y6
      generalize hk2 : w2.heap.size = k2 at *
      generalize w2.alloc (.cells #[.bool n', .slice A' (limbs p').length c', .slice B' (limbs q').length d'] 48) = W2 at *
      clear hk2
      have dr := below_drew (Below.refl W2.heap.size W2)
      replace HX := Aside0.mk (HX.out.below dr)
      replace HY := Aside0.mk (HY.out.below dr)
      replace HZ := Aside0.mk (HZ.out.below dr)
      replace HW := Aside0.mk (HW.out.below dr)
      replace HU := Aside0.mk (HU.out.below dr)
      replace HV := Aside0.mk (HV.out.below dr)
      replace HB := Aside0.mk (below_drew HB.out)
      clear dr
      go_region_held3 (fun W' => (W'.cell? ⟨k, 0, none⟩ = some (.bool n) ∧ W'.cell? ⟨k, 1, none⟩ = some (.slice A (limbs p).length c) ∧ W'.cell? ⟨k, 2, none⟩ = some (.slice B (limbs q).length d) ∧ W'.cell? ⟨k2, 0, none⟩ = some (.bool n') ∧ W'.cell? ⟨k2, 1, none⟩ = some (.slice A' (limbs p').length c') ∧ W'.cell? ⟨k2, 2, none⟩ = some (.slice B' (limbs q').length d')))
        (first | exact ⟨HU.out.cells.1, HU.out.cells.2.1, HU.out.cells.2.2.1, HV.out.cells.1, HV.out.cells.2.1, HV.out.cells.2.2.1⟩)
        (first
          | ((with_reducible refine (CT.out _ _ _ _ _ HM1.out HM2.out).mono ?_); rintro e wn ⟨rfl, hb⟩; (replace HX := Aside0.mk (HX.out.below hb)); (replace HY := Aside0.mk (HY.out.below hb)); (replace HZ := Aside0.mk (HZ.out.below hb)); (replace HW := Aside0.mk (HW.out.below hb)); (replace HU := Aside0.mk (HU.out.below hb)); (replace HV := Aside0.mk (HV.out.below hb)); (replace HB := Aside0.mk (below_step HB.out hb)); clear hb)
          | ((with_reducible refine (CM1.out _ _ _ HX.out.v HZ.out.v).mono ?_); rintro e wn ⟨u, rfl, hu, hb⟩; obtain ⟨Au, cu, rfl, _⟩ := hu.v; (replace HX := Aside0.mk (HX.out.below hb)); (replace HY := Aside0.mk (HY.out.below hb)); (replace HZ := Aside0.mk (HZ.out.below hb)); (replace HW := Aside0.mk (HW.out.below hb)); (replace HU := Aside0.mk (HU.out.below hb)); (replace HV := Aside0.mk (HV.out.below hb)); (replace HB := Aside0.mk (below_step HB.out hb)); (try replace HM2 := Aside0.mk (HM2.out.below hb)); have HM1 := Aside0.mk hu.v; clear hb hu)
          | ((with_reducible refine (CM2.out _ _ _ HY.out.v HW.out.v).mono ?_); rintro e wn ⟨u, rfl, hu, hb⟩; obtain ⟨Av, cv, rfl, _⟩ := hu.v; (replace HX := Aside0.mk (HX.out.below hb)); (replace HY := Aside0.mk (HY.out.below hb)); (replace HZ := Aside0.mk (HZ.out.below hb)); (replace HW := Aside0.mk (HW.out.below hb)); (replace HU := Aside0.mk (HU.out.below hb)); (replace HV := Aside0.mk (HV.out.below hb)); (replace HB := Aside0.mk (below_step HB.out hb)); (try replace HM1 := Aside0.mk (HM1.out.below hb)); have HM2 := Aside0.mk hu.v; clear hb hu))
      all_goals
        go_wp2_with fail
        go_ret2
        exact ⟨rfl, HB.out⟩
def tribunalref03_Div.f (a b : ByteArray) : Option (ByteArray × Int) := if few a ∧ few b then some (opS divX true a b) else none
set_option maxHeartbeats 4000000 in
set_option maxRecDepth 100000 in
theorem tribunalref03_Div.calls (a0 a1 r1 : ByteArray) (r2 : Int) (w : World) (h : tribunalref03_Div.f a0 a1 = some (r1, r2)) : Calls Tryd.prog 25 #[.string a0, .string a1] w fun e w' => e = .returned (.tuple #[.string r1, .int .i64 r2]) ∧ Below w.heap.size w w' := by
  unfold tribunalref03_Div.f at h
  by_cases hs : few a0 ∧ few a1
  case neg => rw [if_neg hs] at h; cases h
  rw [if_pos hs] at h
  have hO := (Option.some.inj h).symm
  have h1 : a0.size ≤ 1000000 := hs.1
  have h2 : a1.size ≤ 1000000 := hs.2
  have CA := Aside0.mk (fun W => rget_calls a0 (by omega) W)
  have CB := Aside0.mk (fun W => rget_calls a1 (by omega) W)
  obtain ⟨X, hX⟩ : ∃ X, X = getS a0 := ⟨_, rfl⟩
  obtain ⟨Y, hY⟩ : ∃ Y, Y = getS a1 := ⟨_, rfl⟩
  have HS1 : Aside0 (∀ x, X = some x → sh x.2.1 ≤ 220 ∧ sh x.2.2 ≤ 220 ∧ 0 < x.2.2) := ⟨fun x h => getS_sh (hX.symm.trans h)⟩
  have HS2 : Aside0 (∀ x, Y = some x → sh x.2.1 ≤ 220 ∧ sh x.2.2 ≤ 220 ∧ 0 < x.2.2) := ⟨fun x h => getS_sh (hY.symm.trans h)⟩
  have HO : Aside0 ((r1, r2) = opM divX true X Y) := ⟨by rw [hX, hY]; exact hO⟩
  rw [← hX] at CA
  rw [← hY] at CB
  clear hs hX hY h hO h1 h2
  cases X with
  | none =>
    replace HO : Aside0 ((r1, r2) = ((⟨#[]⟩ : ByteArray), (1 : Int))) := ⟨HO.out⟩
    replace CA := CA.out
    simp only [Option.isSome_none] at CA
    replace CA := Aside0.mk CA
    go_enter Tryd.func25, Tryd.ntmps25
    go_wp2_with fail
    refine (CA.out _).mono ?_
    rintro e w1 ⟨n, A, c, B, d, p, q, rfl, hX, hY, hb, hx⟩
    have HB := Aside0.mk (below_alloc hb (.cells #[.bool n, .slice A (limbs p).length c, .slice B (limbs q).length d] 48))
    clear hX hY hb hx
    go_wp2_with fail
    refine (CB.out _).mono ?_
    rintro e w2 ⟨n', A', c', B', d', p', q', rfl, hX, hY, hb, hx⟩
    replace HB := Aside0.mk (below_step HB.out hb)
    clear hX hY hb hx
    generalize Y.isSome = iy
    cases iy
    all_goals
      go_wp2_with fail
      go_ret2
      exact ⟨by have h := HO.out; cases h; rfl, below_alloc HB.out _⟩
  | some x =>
    cases Y with
    | none =>
      replace HO : Aside0 ((r1, r2) = ((⟨#[]⟩ : ByteArray), (1 : Int))) := ⟨HO.out⟩
      replace CA := CA.out
      simp only [Option.isSome_some] at CA
      replace CA := Aside0.mk CA
      replace CB := CB.out
      simp only [Option.isSome_none] at CB
      replace CB := Aside0.mk CB
      go_enter Tryd.func25, Tryd.ntmps25
      go_wp2_with fail
      refine (CA.out _).mono ?_
      rintro e w1 ⟨n, A, c, B, d, p, q, rfl, hX, hY, hb, hx⟩
      have HB := Aside0.mk (below_alloc hb (.cells #[.bool n, .slice A (limbs p).length c, .slice B (limbs q).length d] 48))
      clear hX hY hb hx
      go_wp2_with fail
      refine (CB.out _).mono ?_
      rintro e w2 ⟨n', A', c', B', d', p', q', rfl, hX, hY, hb, hx⟩
      replace HB := Aside0.mk (below_step HB.out hb)
      clear hX hY hb hx
      go_wp2_with fail
      go_ret2
      exact ⟨by have h := HO.out; cases h; rfl, below_alloc HB.out _⟩
    | some y =>
      have HN : Aside0 (Opens x y) := ⟨(HS1.out x rfl).1, (HS1.out x rfl).2.1, (HS2.out y rfl).1, (HS2.out y rfl).2.1, (HS1.out x rfl).2.2, (HS2.out y rfl).2.2⟩
      replace HO : Aside0 ((r1, r2) = if true = true ∧ y.2.1 = 0 then ((⟨#[]⟩ : ByteArray), (21 : Int)) else toldS (divX x y)) := ⟨HO.out⟩
      replace CA := CA.out
      simp only [Option.isSome_some] at CA
      replace CA := Aside0.mk CA
      replace CB := CB.out
      simp only [Option.isSome_some] at CB
      replace CB := Aside0.mk CB
      clear HS1 HS2
      go_enter Tryd.func25, Tryd.ntmps25
      go_wp2_with fail
      refine (CA.out _).mono ?_
      rintro e w1 ⟨n, A, c, B, d, p, q, rfl, hX, hY, hb, hx⟩
      obtain rfl := hx x rfl
      have al := below_alloc (Below.refl w1.heap.size w1) (.cells #[.bool n, .slice A (limbs p).length c, .slice B (limbs q).length d] 48)
      have HB := Aside0.mk (below_step hb al)
      have HX := Aside0.mk (hX.below al)
      have HY := Aside0.mk (hY.below al)
      have hwk := Aside0.mk (show w.heap.size ≤ w1.heap.size from hb.size)
      have HU := Aside0.mk (C3.new w1 (.bool n) (.slice A (limbs p).length c) (.slice B (limbs q).length d))
      clear hX hY hb hx al
      go_wp2_with fail
      generalize hk : w1.heap.size = k at *
      generalize w1.alloc (.cells #[.bool n, .slice A (limbs p).length c, .slice B (limbs q).length d] 48) = W1 at *
      clear hk
      refine (CB.out _).mono ?_
      rintro e w2 ⟨n', A', c', B', d', p', q', rfl, hX, hY, hb, hx⟩
      obtain rfl := hx y rfl
      have al := below_alloc (Below.refl w2.heap.size w2) (.cells #[.bool n', .slice A' (limbs p').length c', .slice B' (limbs q').length d'] 48)
      have hne := Aside0.mk (show k < w2.heap.size from blk_lt (HU.out.below hb).blk)
      replace HB := Aside0.mk (below_step (below_step HB.out hb) al)
      replace HX := Aside0.mk ((HX.out.below hb).elf.below al)
      replace HY := Aside0.mk ((HY.out.below hb).elf.below al)
      replace HU := Aside0.mk ((HU.out.below hb).below al)
      have HZ := Aside0.mk (hX.elf.below al)
      have HW := Aside0.mk (hY.elf.below al)
      have HV := Aside0.mk (C3.new w2 (.bool n') (.slice A' (limbs p').length c') (.slice B' (limbs q').length d'))

      clear hX hY hb hx al CA CB
      have hl0 := limbs_len0 p'
      by_cases hp0 : p' = 0
      · have g1 : ((((limbs p').length : Nat) : Int) == 0) = true := by rw [beq_iff_eq]; have : ¬ 0 < (limbs p').length := fun h => hl0.1 h hp0; omega
        have g2 : (((limbs p').length : Nat) == 0) = true := by rw [beq_iff_eq]; have : ¬ 0 < (limbs p').length := fun h => hl0.1 h hp0; omega
        replace HO : Aside0 ((r1, r2) = ((⟨#[]⟩ : ByteArray), (21 : Int))) := ⟨by rw [HO.out, if_pos ⟨by simp, hp0⟩]⟩
        clear hl0 hp0
        obtain ⟨x1, x2, x3, x4, x5, x6⟩ := HU.out.cells
        obtain ⟨y1, y2, y3, y4, y5, y6⟩ := HV.out.cells
        go_wp2_with fail
        go_ret2
        exact ⟨by have h := HO.out; cases h; rfl, HB.out⟩
      · have g1 : ((((limbs p').length : Nat) : Int) == 0) = false := by rw [beq_eq_false_iff_ne]; have := hl0.2 hp0; omega
        have g2 : (((limbs p').length : Nat) == 0) = false := by rw [beq_eq_false_iff_ne]; have := hl0.2 hp0; omega
        replace HO : Aside0 ((r1, r2) = toldS (divX (n, p, q) (n', p', q'))) := ⟨by rw [HO.out, if_neg (fun h => hp0 h.2)]⟩
        have HL := divX_sh HN.out
        obtain ⟨N, P, Q, hop⟩ : ∃ N P Q, divX (n, p, q) (n', p', q') = (N, P, Q) := ⟨_, _, _, rfl⟩
        rw [hop] at HL HO
        have hq0 : Q ≠ 0 := by
          have h : (divX (n, p, q) (n', p', q')).2.2 = Q := congrArg (fun z => z.2.2) hop
          rw [← h]
          exact Nat.mul_ne_zero (Nat.ne_of_gt HN.out.e) hp0
        have CT := Aside0.mk (fun (A B : Option Addr) (c d : Nat) (W : World) h1 h2 => rtold_calls N (A := A) (B := B) (c := c) (d := d) (p := P) (q := Q) W h1 h2 HL.1 HL.2 hq0)
        rw [← HO.out] at CT
        have CM1 := (fun (u v : Value) (W : World) h1 h2 => rMulN (u := u) (v := v) (m := p) (n := q') W h1 h2 (Nat.le_trans HN.out.a (by decide)) (Nat.le_trans HN.out.d (by decide)))
        have CM2 := (fun (u v : Value) (W : World) h1 h2 => rMulN (u := u) (v := v) (m := q) (n := p') W h1 h2 (Nat.le_trans HN.out.b (by decide)) (Nat.le_trans HN.out.c (by decide)))
        have hN : (!(n == n')) = N := congrArg (fun z => z.1) hop
        have hP : p * q' = P := congrArg (fun z => z.2.1) hop
        have hQ : q * p' = Q := congrArg (fun z => z.2.2) hop
        rw [hP] at CM1
        rw [hQ] at CM2
        replace CM1 := Aside0.mk CM1
        replace CM2 := Aside0.mk CM2
        subst hN
        clear hP hQ hop HL hq0 HN
        clear hl0 hp0
        obtain ⟨x1, x2, x3, x4, x5, x6⟩ := HU.out.cells
        obtain ⟨y1, y2, y3, y4, y5, y6⟩ := HV.out.cells
        go_wp2_with fail
        clear x1 x2 x3 x4 x5 x6 y1 y2 y3 y4 y5 y6
        generalize hk2 : w2.heap.size = k2 at *
        generalize w2.alloc (.cells #[.bool n', .slice A' (limbs p').length c', .slice B' (limbs q').length d'] 48) = W2 at *
        clear hk2
        have dr := below_drew (Below.refl W2.heap.size W2)
        replace HX := Aside0.mk (HX.out.below dr)
        replace HY := Aside0.mk (HY.out.below dr)
        replace HZ := Aside0.mk (HZ.out.below dr)
        replace HW := Aside0.mk (HW.out.below dr)
        replace HU := Aside0.mk (HU.out.below dr)
        replace HV := Aside0.mk (HV.out.below dr)
        replace HB := Aside0.mk (below_drew HB.out)
        clear dr
        go_region_held3 (fun W' => (W'.cell? ⟨k, 0, none⟩ = some (.bool n) ∧ W'.cell? ⟨k, 1, none⟩ = some (.slice A (limbs p).length c) ∧ W'.cell? ⟨k, 2, none⟩ = some (.slice B (limbs q).length d) ∧ W'.cell? ⟨k2, 0, none⟩ = some (.bool n') ∧ W'.cell? ⟨k2, 1, none⟩ = some (.slice A' (limbs p').length c') ∧ W'.cell? ⟨k2, 2, none⟩ = some (.slice B' (limbs q').length d')))
          (first | exact ⟨HU.out.cells.1, HU.out.cells.2.1, HU.out.cells.2.2.1, HV.out.cells.1, HV.out.cells.2.1, HV.out.cells.2.2.1⟩)
          (first
            | ((with_reducible refine (CT.out _ _ _ _ _ HM1.out HM2.out).mono ?_); rintro e wn ⟨rfl, hb⟩; (replace HX := Aside0.mk (HX.out.below hb)); (replace HY := Aside0.mk (HY.out.below hb)); (replace HZ := Aside0.mk (HZ.out.below hb)); (replace HW := Aside0.mk (HW.out.below hb)); (replace HU := Aside0.mk (HU.out.below hb)); (replace HV := Aside0.mk (HV.out.below hb)); (replace HB := Aside0.mk (below_step HB.out hb)); clear hb)
            | ((with_reducible refine (CM1.out _ _ _ HX.out.v HW.out.v).mono ?_); rintro e wn ⟨u, rfl, hu, hb⟩; obtain ⟨Au, cu, rfl, _⟩ := hu.v; (replace HX := Aside0.mk (HX.out.below hb)); (replace HY := Aside0.mk (HY.out.below hb)); (replace HZ := Aside0.mk (HZ.out.below hb)); (replace HW := Aside0.mk (HW.out.below hb)); (replace HU := Aside0.mk (HU.out.below hb)); (replace HV := Aside0.mk (HV.out.below hb)); (replace HB := Aside0.mk (below_step HB.out hb)); (try replace HM2 := Aside0.mk (HM2.out.below hb)); have HM1 := Aside0.mk hu.v; clear hb hu)
            | ((with_reducible refine (CM2.out _ _ _ HY.out.v HZ.out.v).mono ?_); rintro e wn ⟨u, rfl, hu, hb⟩; obtain ⟨Av, cv, rfl, _⟩ := hu.v; (replace HX := Aside0.mk (HX.out.below hb)); (replace HY := Aside0.mk (HY.out.below hb)); (replace HZ := Aside0.mk (HZ.out.below hb)); (replace HW := Aside0.mk (HW.out.below hb)); (replace HU := Aside0.mk (HU.out.below hb)); (replace HV := Aside0.mk (HV.out.below hb)); (replace HB := Aside0.mk (below_step HB.out hb)); (try replace HM1 := Aside0.mk (HM1.out.below hb)); have HM2 := Aside0.mk hu.v; clear hb hu))
        all_goals
          go_wp2_with fail
          go_ret2
          exact ⟨rfl, HB.out⟩
def tribunalref03_Neg.f (a : ByteArray) : Option (ByteArray × Int) := if few a then some (opS subX false (⟨#[48]⟩ : ByteArray) a) else none
set_option maxHeartbeats 1000000 in
set_option maxRecDepth 100000 in
theorem tribunalref03_Neg.calls (a0 r1 : ByteArray) (r2 : Int) (w : World) (h : tribunalref03_Neg.f a0 = some (r1, r2)) : Calls Tryd.prog 27 #[.string a0] w fun e w' => e = .returned (.tuple #[.string r1, .int .i64 r2]) ∧ Below w.heap.size w w' := by
  have C := Aside0.mk (fun W => tribunalref03_Sub.calls (⟨#[48]⟩ : ByteArray) a0 r1 r2 W (by
    unfold tribunalref03_Neg.f at h
    by_cases hs : few a0
    case neg => rw [if_neg hs] at h; cases h
    rw [if_pos hs] at h
    unfold tribunalref03_Sub.f
    rw [if_pos ⟨by decide, hs⟩]
    exact h))
  clear h
  go_enter Tryd.func27, Tryd.ntmps27
  go_wp2_with fail
  refine (C.out _).mono ?_
  rintro e w1 ⟨rfl, hb⟩
  go_wp2_with fail
  go_ret2
  exact ⟨rfl, hb⟩
def tribunalref03_Right.f (s : ByteArray) : Option Bool := if few s then some (getS s).isSome else none
set_option maxHeartbeats 1000000 in
set_option maxRecDepth 100000 in
theorem tribunalref03_Right.calls (a0 : ByteArray) (r : Bool) (w : World) (h : tribunalref03_Right.f a0 = some r) : Calls Tryd.prog 17 #[.string a0] w fun e w' => e = .returned (.bool r) ∧ Below w.heap.size w w' := by
  unfold tribunalref03_Right.f at h
  by_cases hs : few a0
  case neg => rw [if_neg hs] at h; cases h
  rw [if_pos hs] at h
  obtain rfl := Option.some.inj h
  clear h
  have C := Aside0.mk (fun W => rget_calls a0 (Nat.le_trans hs (by decide)) W)
  clear hs
  go_enter Tryd.func17, Tryd.ntmps17
  go_wp2_with fail
  refine (C.out _).mono ?_
  rintro e w1 ⟨n, A, c, B, d, p, q, rfl, _, _, hb, _⟩
  go_wp2_with fail
  go_ret
  exact ⟨rfl, below_alloc hb _⟩
end Go.Proofs.YtfnhohpmhpbpmaaDoor.G
