/- rat's exported functions. Condition: texts of at most 2^61 bytes; Sum: of few bytes. -/
import Derived.Test.YtfnhohpmhpbpmaaDoorGx0
import Derived.Test.YtfnhohpmhpbpmaaDoorGRatNum
import Derived.Lib.Hide
import Derived.Shelf.Abstract
namespace Go.Proofs.YtfnhohpmhpbpmaaDoor.G
open Go.RowKit Go.Proofs.YtfnhohpmhpbpmaaDoorW.PrintWords Go.Proofs.YtfnhohpmhpbpmaaDoorW.PrintLast Go.Proofs.YtfnhohpmhpbpmaaDoorW.PrintMore

abbrev Num3 := Bool × Nat × Nat
def toldS (x : Num3) : ByteArray × Int := if (strS x.1 x.2.1 x.2.2).size > 1900 then (⟨#[]⟩, 2) else (strS x.1 x.2.1 x.2.2, 0)
def addX (x y : Num3) : Num3 := ((addR x.1 y.1 (x.2.1 * y.2.2) (y.2.1 * x.2.2)).1, (addR x.1 y.1 (x.2.1 * y.2.2) (y.2.1 * x.2.2)).2, x.2.2 * y.2.2)
def subX (x y : Num3) : Num3 := addX x (!y.1, y.2)
def mulX (x y : Num3) : Num3 := (x.1 != y.1, x.2.1 * y.2.1, x.2.2 * y.2.2)
def divX (x y : Num3) : Num3 := (x.1 != y.1, x.2.1 * y.2.2, x.2.2 * y.2.1)
def opM (op : Num3 → Num3 → Num3) (zero : Bool) : Option Num3 → Option Num3 → ByteArray × Int
  | none, _ => (⟨#[]⟩, 1)
  | some _, none => (⟨#[]⟩, 1)
  | some x, some y => if zero = true ∧ y.2.1 = 0 then (⟨#[]⟩, 21) else toldS (op x y)
def opS (op : Num3 → Num3 → Num3) (zero : Bool) (a b : ByteArray) : ByteArray × Int := opM op zero (getS a) (getS b)
def small (s : ByteArray) : Prop := s.size ≤ 2305843009213693952
instance (s : ByteArray) : Decidable (small s) := by unfold small; infer_instance
def rat_Add.f (a b : ByteArray) : Option (ByteArray × Int) := if small a ∧ small b then some (opS addX false a b) else none
def rat_Sub.f (a b : ByteArray) : Option (ByteArray × Int) := if small a ∧ small b then some (opS subX false a b) else none
def rat_Mul.f (a b : ByteArray) : Option (ByteArray × Int) := if small a ∧ small b then some (opS mulX false a b) else none
def rat_Div.f (a b : ByteArray) : Option (ByteArray × Int) := if small a ∧ small b then some (opS divX true a b) else none
def rat_Right.f (s : ByteArray) : Option Bool := if small s then some (getS s).isSome else none
set_option maxHeartbeats 1000000 in
set_option maxRecDepth 100000 in
theorem rat_Right.calls (a0 : ByteArray) (r : Bool) (w : World) (h : rat_Right.f a0 = some r) : Calls Tryd.prog 16 #[.string a0] w fun e w' => e = .returned (.bool r) ∧ Below w.heap.size w w' := by
  unfold rat_Right.f at h
  by_cases hs : small a0
  case neg => rw [if_neg hs] at h; cases h
  rw [if_pos hs] at h
  obtain rfl := Option.some.inj h
  clear h
  have C := Aside0.mk (fun W => get_calls a0 hs W)
  clear hs
  go_enter Tryd.func16, Tryd.ntmps16
  go_wp2_with fail
  refine (C.out _).mono ?_
  rintro e w1 ⟨n, A, c, B, d, p, q, rfl, _, _, hb, _⟩
  go_wp2_with fail
  go_ret
  exact ⟨rfl, below_alloc hb _⟩
structure Opens (x y : Num3) : Prop where
  a : sh x.2.1 ≤ 220
  b : sh x.2.2 ≤ 220
  c : sh y.2.1 ≤ 220
  d : sh y.2.2 ≤ 220
  e : 0 < x.2.2
  f : 0 < y.2.2
/-- What a method that is handed over does. -/
def Does (F : Nat) (op : Num3 → Num3 → Num3) : Prop := ∀ (x y : Num3) (A B C D : Option Addr) (a b c d : Nat) (W : World), Opens x y →
  Lv W (.slice A (limbs x.2.1).length a) x.2.1 → Lv W (.slice B (limbs x.2.2).length b) x.2.2 → Lv W (.slice C (limbs y.2.1).length c) y.2.1 → Lv W (.slice D (limbs y.2.2).length d) y.2.2 →
  Calls Tryd.prog F #[.agg #[.bool x.1, .slice A (limbs x.2.1).length a, .slice B (limbs x.2.2).length b], .agg #[.bool y.1, .slice C (limbs y.2.1).length c, .slice D (limbs y.2.2).length d]] W fun e w' =>
    ∃ u v, e = .returned (.agg #[.bool (op x y).1, u, v]) ∧ Lo w' W.heap.size u (op x y).2.1 ∧ Lo w' W.heap.size v (op x y).2.2 ∧ Below W.heap.size W w'
set_option maxHeartbeats 4000000 in
set_option maxRecDepth 100000 in
theorem both_calls (F : Nat) (op : Num3 → Num3 → Num3) (zero : Bool) (E : ∀ args w, (callFunc F args).run Tryd.prog w = .ok (.enter F args) w) (D : Does F op) (L : ∀ x y, Opens x y → sh (op x y).2.1 ≤ 1000 ∧ sh (op x y).2.2 ≤ 1000) (s t : ByteArray) (hs : small s) (ht : small t) (w : World) :
    Calls Tryd.prog 39 #[.string s, .string t, .func (Fn.func F) #[] #[], .bool zero] w fun e w' => e = .returned (.tuple #[.string (opS op zero s t).1, .int .i64 (opS op zero s t).2]) ∧ Below w.heap.size w w' := by
  have CA := Aside0.mk (fun W => get_calls s hs W)
  have CB := Aside0.mk (fun W => get_calls t ht W)
  obtain ⟨X, hX⟩ : ∃ X, X = getS s := ⟨_, rfl⟩
  obtain ⟨Y, hY⟩ : ∃ Y, Y = getS t := ⟨_, rfl⟩
  have HS1 : Aside0 (∀ x, X = some x → sh x.2.1 ≤ 220 ∧ sh x.2.2 ≤ 220 ∧ 0 < x.2.2) := ⟨fun x h => getS_sh (hX.symm.trans h)⟩
  have HS2 : Aside0 (∀ x, Y = some x → sh x.2.1 ≤ 220 ∧ sh x.2.2 ≤ 220 ∧ 0 < x.2.2) := ⟨fun x h => getS_sh (hY.symm.trans h)⟩
  have HO : Aside0 (opS op zero s t = opM op zero X Y) := ⟨by rw [hX, hY]; rfl⟩
  rw [← hX] at CA
  rw [← hY] at CB
  generalize opS op zero s t = O at *
  clear hs ht hX hY
  cases X with
  | none =>
    have HO : Aside0 (O = (⟨#[]⟩, 1)) := ⟨HO.out⟩
    replace CA := CA.out
    simp only [Option.isSome_none] at CA
    replace CA := Aside0.mk CA
    go_enter Tryd.func39, Tryd.ntmps39
    go_wp2_with fail
    refine (CA.out _).mono ?_
    rintro e w1 ⟨n, A, c, B, d, p, q, rfl, hX, hY, hb, hx⟩
    have HB := Aside0.mk (below_alloc hb (.cells #[.bool n, .slice A (limbs p).length c, .slice B (limbs q).length d] 41))
    clear hX hY hb hx
    go_wp2_with fail
    refine (CB.out _).mono ?_
    rintro e w2 ⟨n', A', c', B', d', p', q', rfl, hX, hY, hb, hx⟩
    replace HB := Aside0.mk (below_step HB.out hb)
    clear hX hY hb hx
    generalize Y.isSome = iy
    cases iy
    all_goals
      go_wp2_with fail
      go_ret2
      exact ⟨by rw [HO.out]; rfl, below_alloc HB.out _⟩
  | some x =>
    cases Y with
    | none =>
      have HO : Aside0 (O = (⟨#[]⟩, 1)) := ⟨HO.out⟩
      replace CA := CA.out
      simp only [Option.isSome_some] at CA
      replace CA := Aside0.mk CA
      replace CB := CB.out
      simp only [Option.isSome_none] at CB
      replace CB := Aside0.mk CB
      go_enter Tryd.func39, Tryd.ntmps39
      go_wp2_with fail
      refine (CA.out _).mono ?_
      rintro e w1 ⟨n, A, c, B, d, p, q, rfl, hX, hY, hb, hx⟩
      have HB := Aside0.mk (below_alloc hb (.cells #[.bool n, .slice A (limbs p).length c, .slice B (limbs q).length d] 41))
      clear hX hY hb hx
      go_wp2_with fail
      refine (CB.out _).mono ?_
      rintro e w2 ⟨n', A', c', B', d', p', q', rfl, hX, hY, hb, hx⟩
      replace HB := Aside0.mk (below_step HB.out hb)
      clear hX hY hb hx
      go_wp2_with fail
      go_ret2
      exact ⟨by rw [HO.out]; rfl, below_alloc HB.out _⟩
    | some y =>
      replace HO : Aside0 (O = if zero = true ∧ y.2.1 = 0 then (⟨#[]⟩, 21) else toldS (op x y)) := ⟨HO.out⟩
      have HN : Aside0 (Opens x y) := ⟨(HS1.out x rfl).1, (HS1.out x rfl).2.1, (HS2.out y rfl).1, (HS2.out y rfl).2.1, (HS1.out x rfl).2.2, (HS2.out y rfl).2.2⟩
      replace CA := CA.out
      simp only [Option.isSome_some] at CA
      replace CA := Aside0.mk CA
      replace CB := CB.out
      simp only [Option.isSome_some] at CB
      replace CB := Aside0.mk CB
      clear HS1 HS2
      have HL := Aside0.mk (L x y HN.out)
      go_enter Tryd.func39, Tryd.ntmps39
      go_wp2_with fail
      refine (CA.out _).mono ?_
      rintro e w1 ⟨n, A, c, B, d, p, q, rfl, hX, hY, hb, hx⟩
      obtain rfl := hx x rfl
      have HB := Aside0.mk (below_alloc hb (.cells #[.bool n, .slice A (limbs p).length c, .slice B (limbs q).length d] 41))
      have HX := Aside0.mk (hX.below (below_alloc (Below.refl _ _) (.cells #[.bool n, .slice A (limbs p).length c, .slice B (limbs q).length d] 41)))
      have HY := Aside0.mk (hY.below (below_alloc (Below.refl _ _) (.cells #[.bool n, .slice A (limbs p).length c, .slice B (limbs q).length d] 41)))
      have HU := Aside0.mk (B3.new w1 (.bool n) (.slice A (limbs p).length c) (.slice B (limbs q).length d))
      clear hX hY hb hx
      go_wp2_with fail
      generalize hk : w1.heap.size = k at *
      generalize w1.alloc (.cells #[.bool n, .slice A (limbs p).length c, .slice B (limbs q).length d] 41) = W1 at *
      clear hk
      refine (CB.out _).mono ?_
      rintro e w2 ⟨n', A', c', B', d', p', q', rfl, hX, hY, hb, hx⟩
      obtain rfl := hx y rfl
      have HE := Aside0.mk (B3.below HU.out hb)
      replace HB := Aside0.mk (below_step HB.out hb)
      replace HX := Aside0.mk (HX.out.below hb)
      replace HY := Aside0.mk (HY.out.below hb)
      replace HU := HE
      clear HE
      have al := below_alloc (Below.refl w2.heap.size w2) (.cells #[.bool n', .slice A' (limbs p').length c', .slice B' (limbs q').length d'] 41)
      replace HB := Aside0.mk (below_step HB.out al)
      replace HX := Aside0.mk (HX.out.below al)
      replace HY := Aside0.mk (HY.out.below al)
      replace HU := Aside0.mk (HU.out.below al)
      have HZ := Aside0.mk (hX.below al)
      have HW := Aside0.mk (hY.below al)
      have HV := Aside0.mk (B3.new w2 (.bool n') (.slice A' (limbs p').length c') (.slice B' (limbs q').length d'))
      clear hX hY hb hx al
      obtain ⟨x1, x2, x3, x4, x5, x6⟩ := HU.out.cells
      obtain ⟨y1, y2, y3, y4, y5, y6⟩ := HV.out.cells
      have DD := Aside0.mk (D (n, p, q) (n', p', q'))
      clear D L
      generalize op (n, p, q) (n', p', q') = z at *
      obtain ⟨N, P, Q⟩ := z
      have CS := Aside0.mk (fun (A B : Option Addr) (c d : Nat) (W : World) h1 h2 => String_calls N (A := A) (B := B) (c := c) (d := d) (p := P) (q := Q) W h1 h2 HL.out.1 HL.out.2)
      have h0 : ((((limbs p').length : Nat) : Int) == 0) = decide (p' = 0) := by
        rw [Bool.eq_iff_iff, beq_iff_eq, decide_eq_true_iff]
        have := limbs_len0 p'
        omega
      have h0' : (((limbs p').length : Nat) == 0) = decide (p' = 0) := by
        rw [Bool.eq_iff_iff, beq_iff_eq, decide_eq_true_iff]
        have := limbs_len0 p'
        omega
      by_cases hp0 : p' = 0
      · rw [decide_eq_true hp0] at h0 h0'
        cases zero
        · replace HO : Aside0 (O = toldS (N, P, Q)) := ⟨by rw [HO.out, if_neg (fun h => by simp at h)]⟩
          unfold toldS at HO
          simp only [] at HO
          generalize strS N P Q = R at *
          clear hp0
          go_wp2_with fail
          refine (DD.out A B A' B' c d c' d' _ HN.out HX.out.v HY.out.v HZ.out.v HW.out.v).mono ?_
          rintro e w3 ⟨u, v, rfl, hu, hv, hb⟩
          replace HB := Aside0.mk (below_step HB.out hb)
          obtain ⟨Au, cu, rfl, _⟩ := hu.v
          obtain ⟨Av, cv, rfl, _⟩ := hv.v
          go_wp2_with fail
          refine (CS.out Au Av cu cv _ hu.v hv.v).mono ?_
          rintro e w4 ⟨rfl, hd⟩
          replace HB := Aside0.mk (below_step HB.out hd)
          clear hu hv hb hd
          by_cases hR : R.size > 1900
          · have HR := Aside0.mk hR
            have g5 : (1900 : Int) < (R.size : Int) := by omega
            clear hR
            go_wp2_with fail
            go_ret2
            exact ⟨by rw [HO.out, if_pos HR.out]; rfl, HB.out⟩
          · have HR := Aside0.mk hR
            have g5 : ¬ (1900 : Int) < (R.size : Int) := by omega
            clear hR
            go_wp2_with fail
            go_ret2
            exact ⟨by rw [HO.out, if_neg HR.out]; rfl, HB.out⟩
        · replace HO : Aside0 (O = (⟨#[]⟩, 21)) := ⟨by rw [HO.out, if_pos ⟨rfl, hp0⟩]⟩
          clear hp0
          go_wp2_with fail
          go_ret2
          exact ⟨by rw [HO.out]; rfl, HB.out⟩
      · rw [decide_eq_false hp0] at h0 h0'
        replace HO : Aside0 (O = toldS (N, P, Q)) := ⟨by rw [HO.out, if_neg (fun h => hp0 h.2)]⟩
        unfold toldS at HO
        simp only [] at HO
        generalize strS N P Q = R at *
        clear hp0
        cases zero
        all_goals
          go_wp2_with fail
          refine (DD.out A B A' B' c d c' d' _ HN.out HX.out.v HY.out.v HZ.out.v HW.out.v).mono ?_
          rintro e w3 ⟨u, v, rfl, hu, hv, hb⟩
          replace HB := Aside0.mk (below_step HB.out hb)
          obtain ⟨Au, cu, rfl, _⟩ := hu.v
          obtain ⟨Av, cv, rfl, _⟩ := hv.v
          go_wp2_with fail
          refine (CS.out Au Av cu cv _ hu.v hv.v).mono ?_
          rintro e w4 ⟨rfl, hd⟩
          replace HB := Aside0.mk (below_step HB.out hd)
          clear hu hv hb hd
          by_cases hR : R.size > 1900
          · have HR := Aside0.mk hR
            have g5 : (1900 : Int) < (R.size : Int) := by omega
            clear hR
            go_wp2_with fail
            go_ret2
            exact ⟨by rw [HO.out, if_pos HR.out]; rfl, HB.out⟩
          · have HR := Aside0.mk hR
            have g5 : ¬ (1900 : Int) < (R.size : Int) := by omega
            clear hR
            go_wp2_with fail
            go_ret2
            exact ⟨by rw [HO.out, if_neg HR.out]; rfl, HB.out⟩
theorem addR_sh (n m : Bool) (x y : Nat) : sh (addR n m x y).2 ≤ sh x + sh y + 1 := by
  unfold addR
  split
  · exact sh_add x y
  · split
    · have := sh_mono (Nat.sub_le y x); show sh (y - x) ≤ _; omega
    · have := sh_mono (Nat.sub_le x y); show sh (x - y) ≤ _; omega
theorem addX_sh {x y : Num3} (h : Opens x y) : sh (addX x y).2.1 ≤ 1000 ∧ sh (addX x y).2.2 ≤ 1000 := by
  have h1 := addR_sh x.1 y.1 (x.2.1 * y.2.2) (y.2.1 * x.2.2)
  have h2 := sh_mul x.2.1 y.2.2
  have h3 := sh_mul y.2.1 x.2.2
  have h4 := sh_mul x.2.2 y.2.2
  have := h.a; have := h.b; have := h.c; have := h.d
  exact ⟨by show sh (addR x.1 y.1 (x.2.1 * y.2.2) (y.2.1 * x.2.2)).2 ≤ _; omega, by show sh (x.2.2 * y.2.2) ≤ _; omega⟩
theorem mulX_sh {x y : Num3} (h : Opens x y) : sh (mulX x y).2.1 ≤ 1000 ∧ sh (mulX x y).2.2 ≤ 1000 := by
  have h1 := sh_mul x.2.1 y.2.1
  have h2 := sh_mul x.2.2 y.2.2
  have := h.a; have := h.b; have := h.c; have := h.d
  exact ⟨by show sh (x.2.1 * y.2.1) ≤ _; omega, by show sh (x.2.2 * y.2.2) ≤ _; omega⟩
theorem divX_sh {x y : Num3} (h : Opens x y) : sh (divX x y).2.1 ≤ 1000 ∧ sh (divX x y).2.2 ≤ 1000 := by
  have h1 := sh_mul x.2.1 y.2.2
  have h2 := sh_mul x.2.2 y.2.1
  have := h.a; have := h.b; have := h.c; have := h.d
  exact ⟨by show sh (x.2.1 * y.2.2) ≤ _; omega, by show sh (x.2.2 * y.2.1) ≤ _; omega⟩
theorem does_add : Does 40 addX := fun x y A B C D a b c d W h hp hq hr hs =>
  add_calls x.1 y.1 W hp hq hr hs (by have := h.a; omega) (by have := h.b; omega) (by have := h.c; omega) (by have := h.d; omega)
theorem does_sub : Does 45 subX := fun x y A B C D a b c d W h hp hq hr hs =>
  sub_calls x.1 y.1 W hp hq hr hs (by have := h.a; omega) (by have := h.b; omega) (by have := h.c; omega) (by have := h.d; omega)
theorem does_mul : Does 49 mulX := fun x y A B C D a b c d W h hp hq hr hs =>
  mul_calls x.1 y.1 W hp hq hr hs (by have := h.a; omega) (by have := h.b; omega) (by have := h.c; omega) (by have := h.d; omega)
theorem does_div : Does 51 divX := fun x y A B C D a b c d W h hp hq hr hs =>
  div_calls x.1 y.1 W hp hq hr hs (by have := h.a; omega) (by have := h.b; omega) (by have := h.c; omega) (by have := h.d; omega)
set_option maxHeartbeats 1000000 in
set_option maxRecDepth 100000 in
theorem rat_Add.calls (a0 a1 r1 : ByteArray) (r2 : Int) (w : World) (h : rat_Add.f a0 a1 = some (r1, r2)) : Calls Tryd.prog 14 #[.string a0, .string a1] w fun e w' => e = .returned (.tuple #[.string r1, .int .i64 r2]) ∧ Below w.heap.size w w' := by
  unfold rat_Add.f at h
  by_cases hs : small a0 ∧ small a1
  case neg => rw [if_neg hs] at h; cases h
  rw [if_pos hs] at h
  have e := Option.some.inj h
  have C := Aside0.mk (fun W => both_calls 40 addX false (enters_of Tryd.func40 (by kernel_rfl) rfl) does_add (fun x y h => addX_sh h) a0 a1 hs.1 hs.2 W)
  rw [e] at C
  clear h e hs
  go_enter Tryd.func14, Tryd.ntmps14
  go_wp2_with fail
  refine (C.out _).mono ?_
  rintro e w1 ⟨rfl, hb⟩
  go_wp2_with fail
  go_ret2
  exact ⟨rfl, hb⟩
set_option maxHeartbeats 1000000 in
set_option maxRecDepth 100000 in
theorem rat_Sub.calls (a0 a1 r1 : ByteArray) (r2 : Int) (w : World) (h : rat_Sub.f a0 a1 = some (r1, r2)) : Calls Tryd.prog 20 #[.string a0, .string a1] w fun e w' => e = .returned (.tuple #[.string r1, .int .i64 r2]) ∧ Below w.heap.size w w' := by
  unfold rat_Sub.f at h
  by_cases hs : small a0 ∧ small a1
  case neg => rw [if_neg hs] at h; cases h
  rw [if_pos hs] at h
  have e := Option.some.inj h
  have C := Aside0.mk (fun W => both_calls 45 subX false (enters_of Tryd.func45 (by kernel_rfl) rfl) does_sub (fun x y h => addX_sh (x := x) (y := (!y.1, y.2)) ⟨h.a, h.b, h.c, h.d, h.e, h.f⟩) a0 a1 hs.1 hs.2 W)
  rw [e] at C
  clear h e hs
  go_enter Tryd.func20, Tryd.ntmps20
  go_wp2_with fail
  refine (C.out _).mono ?_
  rintro e w1 ⟨rfl, hb⟩
  go_wp2_with fail
  go_ret2
  exact ⟨rfl, hb⟩
set_option maxHeartbeats 1000000 in
set_option maxRecDepth 100000 in
theorem rat_Mul.calls (a0 a1 r1 : ByteArray) (r2 : Int) (w : World) (h : rat_Mul.f a0 a1 = some (r1, r2)) : Calls Tryd.prog 22 #[.string a0, .string a1] w fun e w' => e = .returned (.tuple #[.string r1, .int .i64 r2]) ∧ Below w.heap.size w w' := by
  unfold rat_Mul.f at h
  by_cases hs : small a0 ∧ small a1
  case neg => rw [if_neg hs] at h; cases h
  rw [if_pos hs] at h
  have e := Option.some.inj h
  have C := Aside0.mk (fun W => both_calls 49 mulX false (enters_of Tryd.func49 (by kernel_rfl) rfl) does_mul (fun x y h => mulX_sh h) a0 a1 hs.1 hs.2 W)
  rw [e] at C
  clear h e hs
  go_enter Tryd.func22, Tryd.ntmps22
  go_wp2_with fail
  refine (C.out _).mono ?_
  rintro e w1 ⟨rfl, hb⟩
  go_wp2_with fail
  go_ret2
  exact ⟨rfl, hb⟩
set_option maxHeartbeats 1000000 in
set_option maxRecDepth 100000 in
theorem rat_Div.calls (a0 a1 r1 : ByteArray) (r2 : Int) (w : World) (h : rat_Div.f a0 a1 = some (r1, r2)) : Calls Tryd.prog 24 #[.string a0, .string a1] w fun e w' => e = .returned (.tuple #[.string r1, .int .i64 r2]) ∧ Below w.heap.size w w' := by
  unfold rat_Div.f at h
  by_cases hs : small a0 ∧ small a1
  case neg => rw [if_neg hs] at h; cases h
  rw [if_pos hs] at h
  have e := Option.some.inj h
  have C := Aside0.mk (fun W => both_calls 51 divX true (enters_of Tryd.func51 (by kernel_rfl) rfl) does_div (fun x y h => divX_sh h) a0 a1 hs.1 hs.2 W)
  rw [e] at C
  clear h e hs
  go_enter Tryd.func24, Tryd.ntmps24
  go_wp2_with fail
  refine (C.out _).mono ?_
  rintro e w1 ⟨rfl, hb⟩
  go_wp2_with fail
  go_ret2
  exact ⟨rfl, hb⟩
def cmpX (x y : Num3) : Int := if (subX x y).2.1 = 0 then 0 else if (subX x y).1 = true then -1 else 1
def cmpM : Option Num3 → Option Num3 → Int
  | none, _ => 0
  | some _, none => 0
  | some x, some y => cmpX x y
def rat_Cmp.f (a b : ByteArray) : Option Int := if small a ∧ small b then some (cmpM (getS a) (getS b)) else none
theorem div_gcd (p q : Nat) : p / Nat.gcd p q = 0 ↔ p = 0 := by
  constructor
  · intro h
    rcases Nat.eq_zero_or_pos p with h0 | h0
    · exact h0
    · have h1 := Nat.div_pos (Nat.gcd_le_left q h0) (Nat.gcd_pos_of_pos_left q h0)
      omega
  · intro h
    rw [h, Nat.zero_div]
set_option maxHeartbeats 4000000 in
set_option maxRecDepth 100000 in
theorem rat_Cmp.calls (a0 a1 : ByteArray) (r : Int) (w : World) (h : rat_Cmp.f a0 a1 = some r) : Calls Tryd.prog 18 #[.string a0, .string a1] w fun e w' => e = .returned (.int .i64 r) ∧ Below w.heap.size w w' := by
  unfold rat_Cmp.f at h
  by_cases hs : small a0 ∧ small a1
  case neg => rw [if_neg hs] at h; cases h
  rw [if_pos hs] at h
  obtain rfl := Option.some.inj h
  clear h
  have CA := Aside0.mk (fun W => get_calls a0 hs.1 W)
  have CB := Aside0.mk (fun W => get_calls a1 hs.2 W)
  obtain ⟨X, hX⟩ : ∃ X, X = getS a0 := ⟨_, rfl⟩
  obtain ⟨Y, hY⟩ : ∃ Y, Y = getS a1 := ⟨_, rfl⟩
  have HS1 : Aside0 (∀ x, X = some x → sh x.2.1 ≤ 220 ∧ sh x.2.2 ≤ 220 ∧ 0 < x.2.2) := ⟨fun x h => getS_sh (hX.symm.trans h)⟩
  have HS2 : Aside0 (∀ x, Y = some x → sh x.2.1 ≤ 220 ∧ sh x.2.2 ≤ 220 ∧ 0 < x.2.2) := ⟨fun x h => getS_sh (hY.symm.trans h)⟩
  have HO : Aside0 (cmpM (getS a0) (getS a1) = cmpM X Y) := ⟨by rw [hX, hY]⟩
  rw [← hX] at CA
  rw [← hY] at CB
  generalize cmpM (getS a0) (getS a1) = O at *
  clear hs hX hY
  cases X with
  | none =>
    have HO : Aside0 (O = 0) := ⟨HO.out⟩
    replace CA := CA.out
    simp only [Option.isSome_none] at CA
    replace CA := Aside0.mk CA
    go_enter Tryd.func18, Tryd.ntmps18
    go_wp2_with fail
    refine (CA.out _).mono ?_
    rintro e w1 ⟨n, A, c, B, d, p, q, rfl, hX, hY, hb, hx⟩
    have HB := Aside0.mk (below_alloc hb (.cells #[.bool n, .slice A (limbs p).length c, .slice B (limbs q).length d] 41))
    clear hX hY hb hx
    go_wp2_with fail
    refine (CB.out _).mono ?_
    rintro e w2 ⟨n', A', c', B', d', p', q', rfl, hX, hY, hb, hx⟩
    replace HB := Aside0.mk (below_step HB.out hb)
    clear hX hY hb hx
    generalize Y.isSome = iy
    cases iy
    all_goals
      go_wp2_with fail
      go_ret
      exact ⟨by rw [HO.out]; rfl, below_alloc HB.out _⟩
  | some x =>
    cases Y with
    | none =>
      have HO : Aside0 (O = 0) := ⟨HO.out⟩
      replace CA := CA.out
      simp only [Option.isSome_some] at CA
      replace CA := Aside0.mk CA
      replace CB := CB.out
      simp only [Option.isSome_none] at CB
      replace CB := Aside0.mk CB
      go_enter Tryd.func18, Tryd.ntmps18
      go_wp2_with fail
      refine (CA.out _).mono ?_
      rintro e w1 ⟨n, A, c, B, d, p, q, rfl, hX, hY, hb, hx⟩
      have HB := Aside0.mk (below_alloc hb (.cells #[.bool n, .slice A (limbs p).length c, .slice B (limbs q).length d] 41))
      clear hX hY hb hx
      go_wp2_with fail
      refine (CB.out _).mono ?_
      rintro e w2 ⟨n', A', c', B', d', p', q', rfl, hX, hY, hb, hx⟩
      replace HB := Aside0.mk (below_step HB.out hb)
      clear hX hY hb hx
      go_wp2_with fail
      go_ret
      exact ⟨by rw [HO.out]; rfl, below_alloc HB.out _⟩
    | some y =>
      replace HO : Aside0 (O = cmpX x y) := ⟨HO.out⟩
      have HN : Aside0 (Opens x y) := ⟨(HS1.out x rfl).1, (HS1.out x rfl).2.1, (HS2.out y rfl).1, (HS2.out y rfl).2.1, (HS1.out x rfl).2.2, (HS2.out y rfl).2.2⟩
      replace CA := CA.out
      simp only [Option.isSome_some] at CA
      replace CA := Aside0.mk CA
      replace CB := CB.out
      simp only [Option.isSome_some] at CB
      replace CB := Aside0.mk CB
      clear HS1 HS2
      have HL := Aside0.mk (addX_sh (x := x) (y := (!y.1, y.2)) ⟨HN.out.a, HN.out.b, HN.out.c, HN.out.d, HN.out.e, HN.out.f⟩)
      go_enter Tryd.func18, Tryd.ntmps18
      go_wp2_with fail
      refine (CA.out _).mono ?_
      rintro e w1 ⟨n, A, c, B, d, p, q, rfl, hX, hY, hb, hx⟩
      obtain rfl := hx x rfl
      have HB := Aside0.mk (below_alloc hb (.cells #[.bool n, .slice A (limbs p).length c, .slice B (limbs q).length d] 41))
      have HX := Aside0.mk (hX.below (below_alloc (Below.refl _ _) (.cells #[.bool n, .slice A (limbs p).length c, .slice B (limbs q).length d] 41)))
      have HY := Aside0.mk (hY.below (below_alloc (Below.refl _ _) (.cells #[.bool n, .slice A (limbs p).length c, .slice B (limbs q).length d] 41)))
      have HU := Aside0.mk (B3.new w1 (.bool n) (.slice A (limbs p).length c) (.slice B (limbs q).length d))
      clear hX hY hb hx
      go_wp2_with fail
      generalize hk : w1.heap.size = k at *
      generalize w1.alloc (.cells #[.bool n, .slice A (limbs p).length c, .slice B (limbs q).length d] 41) = W1 at *
      clear hk
      refine (CB.out _).mono ?_
      rintro e w2 ⟨n', A', c', B', d', p', q', rfl, hX, hY, hb, hx⟩
      obtain rfl := hx y rfl
      have HE := Aside0.mk (B3.below HU.out hb)
      replace HB := Aside0.mk (below_step HB.out hb)
      replace HX := Aside0.mk (HX.out.below hb)
      replace HY := Aside0.mk (HY.out.below hb)
      replace HU := HE
      clear HE
      have al := below_alloc (Below.refl w2.heap.size w2) (.cells #[.bool n', .slice A' (limbs p').length c', .slice B' (limbs q').length d'] 41)
      replace HB := Aside0.mk (below_step HB.out al)
      replace HX := Aside0.mk (HX.out.below al)
      replace HY := Aside0.mk (HY.out.below al)
      replace HU := Aside0.mk (HU.out.below al)
      have HZ := Aside0.mk (hX.below al)
      have HW := Aside0.mk (hY.below al)
      have HV := Aside0.mk (B3.new w2 (.bool n') (.slice A' (limbs p').length c') (.slice B' (limbs q').length d'))
      clear hX hY hb hx al
      obtain ⟨x1, x2, x3, x4, x5, x6⟩ := HU.out.cells
      obtain ⟨y1, y2, y3, y4, y5, y6⟩ := HV.out.cells
      unfold cmpX at HO
      have DD := Aside0.mk (does_sub (n, p, q) (n', p', q'))
      replace HL : Aside0 (sh (subX (n, p, q) (n', p', q')).2.1 ≤ 1000 ∧ sh (subX (n, p, q) (n', p', q')).2.2 ≤ 1000) := HL
      generalize subX (n, p, q) (n', p', q') = z at *
      obtain ⟨N, P, Q⟩ := z
      simp only [] at HO HL DD
      have CS := Aside0.mk (fun (A B : Option Addr) (c d : Nat) (W : World) h1 h2 => short_calls N (A := A) (B := B) (c := c) (d := d) (p := P) (q := Q) W h1 h2 HL.out.1 HL.out.2)
      have hpq := div_gcd P Q
      have hd : decide (P / Nat.gcd P Q ≠ 0) = !decide (P = 0) := by
        by_cases hP0 : P = 0
        · rw [decide_eq_true hP0, decide_eq_false (show ¬ P / Nat.gcd P Q ≠ 0 from fun h => h (hpq.2 hP0))]; rfl
        · rw [decide_eq_false hP0, decide_eq_true (show P / Nat.gcd P Q ≠ 0 from fun h => hP0 (hpq.1 h))]; rfl
      have h0 : decide (0 < (limbs (P / Nat.gcd P Q)).length) = !decide (P = 0) := by
        rw [← hd, Bool.eq_iff_iff, decide_eq_true_iff, decide_eq_true_iff]
        exact limbs_len0 _
      have h0' : decide ((0 : Int) < ((limbs (P / Nat.gcd P Q)).length : Int)) = !decide (P = 0) := by rw [← h0, Bool.eq_iff_iff, decide_eq_true_iff, decide_eq_true_iff]; omega
      have h1 : (N && decide (P / Nat.gcd P Q ≠ 0)) = (N && !decide (P = 0)) := by rw [hd]
      rw [h1] at CS
      clear hpq h1 hd
      generalize P / Nat.gcd P Q = P1 at *
      generalize Q / Nat.gcd P Q = Q1 at *
      by_cases hP : P = 0
      · replace HO : Aside0 (O = 0) := ⟨by rw [HO.out, if_pos hP]⟩
        have hN : (N && !decide (P = 0)) = false := by rw [hP]; simp
        rw [hN] at CS
        rw [decide_eq_true hP] at h0 h0'
        clear hP hN
        go_wp2_with fail
        refine (DD.out A B A' B' c d c' d' _ HN.out HX.out.v HY.out.v HZ.out.v HW.out.v).mono ?_
        rintro e w3 ⟨u, v, rfl, hu, hv, hb⟩
        replace HB := Aside0.mk (below_step HB.out hb)
        obtain ⟨Au, cu, rfl, _⟩ := hu.v
        obtain ⟨Av, cv, rfl, _⟩ := hv.v
        go_wp2_with fail
        refine (CS.out Au Av cu cv _ hu.v hv.v).mono ?_
        rintro e w4 ⟨u1, v1, rfl, hu1, hv1, hd⟩
        replace HB := Aside0.mk (below_step HB.out hd)
        obtain ⟨Au1, cu1, rfl, _⟩ := hu1.v
        obtain ⟨Av1, cv1, rfl, _⟩ := hv1.v
        clear hu hv hb hd hu1 hv1
        go_wp2_with fail
        go_ret
        exact ⟨by rw [HO.out]; rfl, below_alloc HB.out _⟩
      · replace HO : Aside0 (O = if N = true then -1 else 1) := ⟨by rw [HO.out, if_neg hP]⟩
        have hN : (N && !decide (P = 0)) = N := by rw [decide_eq_false hP]; simp
        rw [hN] at CS
        rw [decide_eq_false hP] at h0 h0'
        clear hP hN
        cases N
        all_goals
          go_wp2_with fail
          refine (DD.out A B A' B' c d c' d' _ HN.out HX.out.v HY.out.v HZ.out.v HW.out.v).mono ?_
          rintro e w3 ⟨u, v, rfl, hu, hv, hb⟩
          replace HB := Aside0.mk (below_step HB.out hb)
          obtain ⟨Au, cu, rfl, _⟩ := hu.v
          obtain ⟨Av, cv, rfl, _⟩ := hv.v
          go_wp2_with fail
          refine (CS.out Au Av cu cv _ hu.v hv.v).mono ?_
          rintro e w4 ⟨u1, v1, rfl, hu1, hv1, hd⟩
          replace HB := Aside0.mk (below_step HB.out hd)
          obtain ⟨Au1, cu1, rfl, _⟩ := hu1.v
          obtain ⟨Av1, cv1, rfl, _⟩ := hv1.v
          clear hu hv hb hd hu1 hv1
          go_wp2_with fail
          go_ret
          exact ⟨by rw [HO.out]; rfl, below_alloc HB.out _⟩
def rat_Neg.f (a : ByteArray) : Option (ByteArray × Int) := if small a then some (opS subX false ⟨#[48]⟩ a) else none
set_option maxHeartbeats 1000000 in
set_option maxRecDepth 100000 in
theorem rat_Neg.calls (a0 r1 : ByteArray) (r2 : Int) (w : World) (h : rat_Neg.f a0 = some (r1, r2)) : Calls Tryd.prog 26 #[.string a0] w fun e w' => e = .returned (.tuple #[.string r1, .int .i64 r2]) ∧ Below w.heap.size w w' := by
  have h' : rat_Sub.f ⟨#[48]⟩ a0 = some (r1, r2) := by
    unfold rat_Neg.f at h
    by_cases hs : small a0
    · rw [if_pos hs] at h
      unfold rat_Sub.f
      rw [if_pos ⟨by decide, hs⟩, h]
    · rw [if_neg hs] at h; cases h
  clear h
  have C := Aside0.mk (fun W => rat_Sub.calls ⟨#[48]⟩ a0 r1 r2 W h')
  clear h'
  go_enter Tryd.func26, Tryd.ntmps26
  go_wp2_with fail
  refine (C.out _).mono ?_
  rintro e w1 ⟨rfl, hb⟩
  go_wp2_with fail
  go_ret2
  exact ⟨rfl, hb⟩
/-- The text of what is written otherwise. -/
def normS (s : ByteArray) : ByteArray × Int :=
  if rightP s = false then (⟨#[]⟩, 12) else if s.size > 900 then (⟨#[]⟩, 2) else if (partsS s).2.2.toList = [48] then (⟨#[]⟩, 21) else (strS (partsS s).1 (decN (partsS s).2.1) (decN (partsS s).2.2), 0)
def rat_Norm.f (s : ByteArray) : Option (ByteArray × Int) := if small s then some (normS s) else none
set_option maxHeartbeats 2000000 in
set_option maxRecDepth 100000 in
theorem rat_Norm.calls (a0 r1 : ByteArray) (r2 : Int) (w : World) (h : rat_Norm.f a0 = some (r1, r2)) : Calls Tryd.prog 12 #[.string a0] w fun e w' => e = .returned (.tuple #[.string r1, .int .i64 r2]) ∧ Below w.heap.size w w' := by
  unfold rat_Norm.f at h
  by_cases hs : small a0
  case neg => rw [if_neg hs] at h; cases h
  rw [if_pos hs] at h
  have h := Option.some.inj h
  have CP := Aside0.mk (fun W => parts_calls a0 hs W)
  unfold normS at h
  by_cases hr : rightP a0 = true
  case neg =>
    have hr : rightP a0 = false := by simpa using hr
    rw [if_pos hr] at h
    injection h with e1 e2
    subst e1 e2
    rw [hr] at CP
    generalize (partsS a0).1 = n at *
    generalize (partsS a0).2.1 = a at *
    generalize (partsS a0).2.2 = b at *
    clear hr hs
    go_enter Tryd.func12, Tryd.ntmps12
    go_wp2_with fail
    refine (CP.out _).mono ?_
    rintro e w1 ⟨rfl, hb⟩
    go_wp2_with fail
    go_ret2
    exact ⟨rfl, hb⟩
  rw [if_neg (by rw [hr]; simp)] at h
  have hr' := hr
  unfold rightP at hr'
  rw [Bool.and_eq_true] at hr'
  have hle := partsS_le a0
  rw [hr] at CP
  by_cases h9 : a0.size > 900
  · rw [if_pos h9] at h
    injection h with e1 e2
    subst e1 e2
    generalize (partsS a0).1 = n at *
    generalize (partsS a0).2.1 = a at *
    generalize (partsS a0).2.2 = b at *
    have g : (900 : Int) < (a0.size : Int) := by omega
    clear hr hs hr' hle h9
    go_enter Tryd.func12, Tryd.ntmps12
    go_wp2_with fail
    refine (CP.out _).mono ?_
    rintro e w1 ⟨rfl, hb⟩
    go_wp2_with fail
    go_ret2
    exact ⟨rfl, hb⟩
  rw [if_neg h9] at h
  have g : ¬ (900 : Int) < (a0.size : Int) := by omega
  have CO := Aside0.mk (fun W => of_calls (partsS a0).1 (partsS a0).2.1 (partsS a0).2.2 hr'.1 hr'.2 (by omega) (by omega) W)
  have l1 : sh (decN (partsS a0).2.1) ≤ 1000 := by have := sh_len9 hr'.1; omega
  have l2 : sh (decN (partsS a0).2.2) ≤ 1000 := by have := sh_len9 hr'.2; omega
  clear hr hs hr' hle h9
  generalize (partsS a0).1 = n at *
  generalize decN (partsS a0).2.1 = p at *
  generalize decN (partsS a0).2.2 = q at *
  generalize (partsS a0).2.1 = a at *
  generalize (partsS a0).2.2 = b at *
  by_cases hb0 : b.toList = [48]
  · rw [if_pos hb0] at h
    injection h with e1 e2
    subst e1 e2
    have gb : (b.toList == [48]) = true := by rw [hb0]; rfl
    clear hb0
    go_enter Tryd.func12, Tryd.ntmps12
    go_wp2_with fail
    refine (CP.out _).mono ?_
    rintro e w1 ⟨rfl, hb⟩
    go_wp2_with fail
    go_ret2
    exact ⟨rfl, hb⟩
  · rw [if_neg hb0] at h
    injection h with e1 e2
    subst e2
    have gb : (b.toList == [48]) = false := by rw [beq_eq_false_iff_ne]; exact hb0
    have CS := Aside0.mk (fun (A B : Option Addr) (c d : Nat) (W : World) h1 h2 => String_calls n (A := A) (B := B) (c := c) (d := d) (p := p) (q := q) W h1 h2 l1 l2)
    rw [e1] at CS
    clear hb0 e1
    go_enter Tryd.func12, Tryd.ntmps12
    go_wp2_with fail
    refine (CP.out _).mono ?_
    rintro e w1 ⟨rfl, hb⟩
    have HB := Aside0.mk hb
    clear hb
    go_wp2_with fail
    refine (CO.out _).mono ?_
    rintro e w2 ⟨A, c, B, d, rfl, hX, hY, hb⟩
    replace HB := Aside0.mk (below_step HB.out hb)
    go_wp2_with fail
    refine (CS.out _ _ _ _ _ hX.v hY.v).mono ?_
    rintro e w3 ⟨rfl, hd⟩
    replace HB := Aside0.mk (below_step HB.out hd)
    clear hb hd hX hY
    go_wp2_with fail
    go_ret2
    exact ⟨rfl, HB.out⟩
end Go.Proofs.YtfnhohpmhpbpmaaDoor.G
