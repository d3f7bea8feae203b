/- nat.limb hands back how often a number, so many limbs up, is in another one, as far as the first guess lets it, and what is left; conditions: limbs of 32 bits, few of them, the divisor's last one is not 0. -/
import Derived.Test.YtfnhohpmhpbpmaaDoorGx0
import Derived.Test.YtfnhohpmhpbpmaaDoorGx1
import Derived.Test.YtfnhohpmhpbpmaaDoorGx7
import Derived.Test.YtfnhohpmhpbpmaaDoorGConcat
import Derived.Test.YtfnhohpmhpbpmaaDoorGNatSub
import Derived.Test.YtfnhohpmhpbpmaaDoorGNatMul
import Derived.Lib.Hide
import Derived.ScopeJumps
import Derived.Laws.Bits64
import Derived.WalkMore
namespace Go.Proofs.YtfnhohpmhpbpmaaDoor.G
open Go.RowKit Go.Proofs.YtfnhohpmhpbpmaaDoorW.PrintWords Go.Proofs.YtfnhohpmhpbpmaaDoorW.PrintLast Go.Proofs.YtfnhohpmhpbpmaaDoorW.PrintMore

def limbTop (l0 l1 : List Int) (i : Nat) : Nat := (atL l0 (i + l1.length)).toNat * 4294967296 + (atL l0 (i + l1.length - 1)).toNat
def limbGuess (l0 l1 : List Int) (i : Nat) : Nat := min (limbTop l0 l1 i / (atL l1 (l1.length - 1)).toNat) 4294967295
def limbUp (l1 : List Int) (i : Nat) : List Int := List.replicate i 0 ++ l1
def limbQ (l0 l1 : List Int) (i : Nat) : Nat := min (limbGuess l0 l1 i) (valN l0 / valN (limbUp l1 i))
def nat_limb.f (l0 l1 : List Int) (a2 : Int) : Option (Int × List Int) :=
  if wfL l0 ∧ wfL l1 ∧ l0.length ≤ 1099511627776 ∧ l1.length ≤ 1099511627776 ∧ 0 ≤ a2 ∧ a2 ≤ 1099511627776 ∧ 0 < l1.length ∧ 2147483648 ≤ atL l1 (l1.length - 1) then
    some ((limbQ l0 l1 a2.toNat : Nat), limbs (valN l0 - valN (limbUp l1 a2.toNat) * limbQ l0 l1 a2.toNat)) else none

theorem concat_reads (w : World) (Az : Option Addr) (cz : Nat) (n : Nat) (z : List Int) (hn : z.length = n) (A : Option Addr) (c : Nat) (l : List Int) (hz : Kd.C (Kd.int .u32) w Az n z) (hcz : n ≤ cz) (hr : Rd w A c l) :
    Kd.C (Kd.slice 71 (Kd.int .u32)) (w.alloc (.cells #[.slice Az n cz, .slice A l.length c] 39)) (some ⟨w.heap.size, 0, none⟩) [z, l].length [z, l] := by
  subst hn
  have hb : Below w.heap.size w (w.alloc (.cells #[.slice Az z.length cz, .slice A l.length c] 39)) := (Below.refl _ _).alloc (Nat.le_refl _) _
  refine ⟨rfl, by simp, fun _ => ⟨_, rfl, ?_⟩⟩
  intro j p hj
  match j, hj with
  | 0, hj =>
    simp at hj
    subst hj
    refine ⟨[.slice Az z.length cz], rfl, ⟨Az, cz, rfl, hcz, Kd.C_below hz hb⟩, ?_⟩
    intro i u hi
    match i, hi with
    | 0, hi => simp at hi; subst hi; rw [add_plain, World.cell?_alloc_at _ _ _ _ rfl]; rfl
  | 1, hj =>
    simp at hj
    subst hj
    refine ⟨[.slice A l.length c], rfl, ⟨A, c, rfl, hr.le, Kd.C_below hr.cells hb⟩, ?_⟩
    intro i u hi
    match i, hi with
    | 0, hi => simp at hi; subst hi; rw [add_plain, World.cell?_alloc_at _ _ _ _ rfl]; rfl

theorem concat_is (l1 : List Int) (i : Nat) (b1 : l1.length ≤ 1099511627776) (b3 : i ≤ 1099511627776) : slices_Concat_uint32_uint32.f [List.replicate i 0, l1] = some (limbUp l1 i) := by
  have h : ([List.replicate i 0, l1] : List (List Int)).flatten = limbUp l1 i := by simp [limbUp]
  rw [slices_Concat_uint32_uint32.f, h, if_pos ⟨by simp [limbUp]; omega, by simp⟩]
theorem lit_reads (w : World) (g : Int) : Kd.C (Kd.int .u32) (w.alloc (.cells #[.int .u32 g] 71)) (some ⟨w.heap.size, 0, none⟩) [g].length [g] := by
  refine ⟨rfl, by simp, fun _ => ⟨_, rfl, ?_⟩⟩
  intro j p hj
  match j, hj with
  | 0, hj =>
    simp at hj
    subst hj
    refine ⟨[.int .u32 g], rfl, rfl, ?_⟩
    intro i u hi
    match i, hi with
    | 0, hi => simp at hi; subst hi; rw [add_plain, World.cell?_alloc_at _ _ _ _ rfl]; rfl
theorem limbUp_wf {l1 : List Int} (h : wfL l1) (i : Nat) : wfL (limbUp l1 i) := wfL_append.2 ⟨wfL_replicate i, h⟩
theorem limbUp_len {l1 : List Int} (h : wfL l1) (i g : Nat) (hg : g < 4294967296) : (limbs (valN (limbUp l1 i) * g)).length ≤ (limbUp l1 i).length + 1 := by
  have hl := valN_lt (limbUp_wf h i)
  refine limbs_length_le ?_
  rw [Nat.pow_succ]
  exact Nat.mul_lt_mul'' hl hg
theorem limbUp_val (l1 : List Int) (i : Nat) : valN (limbUp l1 i) = 4294967296 ^ i * valN l1 := by rw [limbUp, valN_append, valN_replicate, List.length_replicate]; omega
theorem valN_last (l : List Int) (h : 0 < l.length) : valN l = valN (l.take (l.length - 1)) + 4294967296 ^ (l.length - 1) * (atL l (l.length - 1)).toNat := by
  have := valN_take_succ l (l.length - 1)
  rw [show l.length - 1 + 1 = l.length from by omega, List.take_length] at this
  exact this
theorem limbUp_pos {l1 : List Int} (h : 0 < l1.length) (hd : 2147483648 ≤ atL l1 (l1.length - 1)) (i : Nat) : 0 < valN (limbUp l1 i) := by
  rw [limbUp_val, valN_last l1 h]
  have h1 : 0 < 4294967296 ^ i := Nat.pow_pos (by omega)
  have h2 : 0 < 4294967296 ^ (l1.length - 1) * (atL l1 (l1.length - 1)).toNat := Nat.mul_pos (Nat.pow_pos (by omega)) (by omega)
  exact Nat.mul_pos h1 (by omega)
theorem limbQ_is {l0 l1 : List Int} {i : Nat} {g : Int} (hU : 0 < valN (limbUp l1 i)) (h0 : 0 ≤ g) (h1 : limbQ l0 l1 i ≤ g.toNat) (h2 : g.toNat ≤ limbGuess l0 l1 i) (h3 : ¬ valN l0 < valN (limbUp l1 i) * g.toNat) : ((limbQ l0 l1 i : Nat) : Int) = g := by
  have h4 : g.toNat ≤ valN l0 / valN (limbUp l1 i) := by
    rw [Nat.le_div_iff_mul_le hU, Nat.mul_comm]
    omega
  have : limbQ l0 l1 i = g.toNat := by
    unfold limbQ at *
    omega
  omega
theorem limbQ_less {l0 l1 : List Int} {i : Nat} {g : Int} (hU : 0 < valN (limbUp l1 i)) (h0 : 0 ≤ g) (h1 : limbQ l0 l1 i ≤ g.toNat) (h2 : g.toNat ≤ limbGuess l0 l1 i) (h3 : valN l0 < valN (limbUp l1 i) * g.toNat) : 1 ≤ g ∧ limbQ l0 l1 i ≤ (g - 1).toNat ∧ (g - 1).toNat ≤ limbGuess l0 l1 i := by
  have h4 : valN l0 / valN (limbUp l1 i) < g.toNat := by
    rw [Nat.div_lt_iff_lt_mul hU, Nat.mul_comm]
    omega
  have : limbQ l0 l1 i ≤ valN l0 / valN (limbUp l1 i) := by unfold limbQ; omega
  refine ⟨by omega, by omega, by omega⟩

def limbJ (A0 : Option Addr) (c0 : Nat) (l0 : List Int) (ad1 : Addr) (c1 : Nat) (l1 : List Int) (i : Nat) (w : World) (a' : Act) (w' : World) : Prop := ∃ (g : Int) (Au : Option Addr) (cu : Nat) (u3 u4 u5 u9 u12 u13 u14 u15 u16 u17 u18 u19 u20 u21 u22 u23 u24 u25 u26 u27 u28 u29 u30 u31 u32 u33 u34 u35 u36 u37 u38 u39 u40 u41 u42 u43 u44 u45 u46 u47 u48 u49 u50 u51 u52 u53 u54 u55 u56 u57 u58 u59 u60 u61 : Value), a' = { tmps := #[.slice A0 l0.length c0, .slice (some ad1) l1.length c1, .int .i64 (i : Int), u3, u4, u5, .int .u32 0, .slice none 0 0, .int .i64 (l1.length : Int), u9, .int .u64 g, .slice Au (limbUp l1 i).length cu, u12, u13, u14, u15, u16, u17, u18, u19, u20, u21, u22, u23, u24, u25, u26, u27, u28, u29, u30, u31, u32, u33, u34, u35, u36, u37, u38, u39, u40, u41, u42, u43, u44, u45, u46, u47, u48, u49, u50, u51, u52, u53, u54, u55, u56, u57, u58, u59, u60, u61], defers := [] } ∧ 0 ≤ g ∧ g ≤ 4294967295 ∧ Aside0 (limbQ l0 l1 i ≤ g.toNat ∧ g.toNat ≤ limbGuess l0 l1 i) ∧ Aside0 (Kd.R (Kd.int .u32) 71 w' w.heap.size (fun _ => True) (.slice Au (limbUp l1 i).length cu) (limbUp l1 i)) ∧ Aside0 (Below w.heap.size w w')
def limbMu (a' : Act) (_ : World) : Nat := (RowKit.intOf (a'.tmps.getD 10 undef)).toNat
set_option maxHeartbeats 3200000 in
set_option maxRecDepth 100000 in
theorem nat_limb.calls (A0 : Option Addr) (c0 : Nat) (l0 : List Int) (A1 : Option Addr) (c1 : Nat) (l1 : List Int) (a2 : Int) (r1 : Int) (r2 : List Int) (w : World) (hr0 : Kd.C (Kd.int .u32) w A0 l0.length l0) (hc0 : l0.length ≤ c0) (hr1 : Kd.C (Kd.int .u32) w A1 l1.length l1) (hc1 : l1.length ≤ c1) (h : nat_limb.f l0 l1 a2 = some (r1, r2)) :
    Calls Tryd.prog 87 #[.slice A0 l0.length c0, .slice A1 l1.length c1, .int .i64 a2] w fun e w' => ∃ v1_ : Value, e = .returned (.tuple #[.int .u32 r1, v1_]) ∧ Kd.R (Kd.int .u32) 71 w' w.heap.size (fun _ => True) v1_ r2 ∧ Below w.heap.size w w' := by
  unfold nat_limb.f at h
  by_cases hc : wfL l0 ∧ wfL l1 ∧ l0.length ≤ 1099511627776 ∧ l1.length ≤ 1099511627776 ∧ 0 ≤ a2 ∧ a2 ≤ 1099511627776 ∧ 0 < l1.length ∧ 2147483648 ≤ atL l1 (l1.length - 1)
  case neg => rw [if_neg hc] at h; cases h
  rw [if_pos hc] at h
  simp only [Option.some.injEq, Prod.mk.injEq] at h
  obtain ⟨rfl, rfl⟩ := h
  obtain ⟨hw0, hw1, b0, b1, b2, b3, b4, b5⟩ := hc
  obtain ⟨i, rfl⟩ := Int.eq_ofNat_of_zero_le b2
  rw [Int.toNat_natCast]
  have HR0 := Aside0.mk (Rd.mk hw0 hc0 hr0)
  have HR1 := Aside0.mk (Rd.mk hw1 hc1 hr1)
  clear hw0 hw1 hr0 hr1 b2
  have HUP := Aside0.mk (limbUp_pos b4 b5 i)
  have HLN := Aside0.mk (show (limbUp l1 i).length ≤ 2199023255552 by simp [limbUp]; omega)
  have X0 := Aside0.mk (nat_at_is l0 HR0.out.wf (i + l1.length))
  have X1 := Aside0.mk (nat_at_is l0 HR0.out.wf (i + l1.length - 1))
  have r0 := atL_range HR0.out.wf (i + l1.length)
  have r1 := atL_range HR0.out.wf (i + l1.length - 1)
  have r2 := atL_range HR1.out.wf (l1.length - 1)
  obtain ⟨ad1, ea1, hd⟩ := Kd.at_int HR1.out.cells ((l1.length : Int) - 1) (by omega) (by omega)
  subst ea1
  rw [show ((l1.length : Int) - 1) = ((l1.length - 1 : Nat) : Int) from by omega, rd_nat, Int.toNat_natCast] at hd
  obtain ⟨x, hx⟩ : ∃ x, x = atL l0 (i + l1.length) := ⟨_, rfl⟩
  obtain ⟨y, hy⟩ : ∃ y, y = atL l0 (i + l1.length - 1) := ⟨_, rfl⟩
  obtain ⟨d, hd0⟩ : ∃ d, d = atL l1 (l1.length - 1) := ⟨_, rfl⟩
  rw [← hx] at r0 X0
  rw [← hy] at r1 X1
  rw [← hd0] at r2 b5 hd
  have HX := Aside0.mk hx
  have HY := Aside0.mk hy
  have HD := Aside0.mk hd0
  have hor : bits .or .u64 (x * 4294967296) y = x * 4294967296 + y := bits_join .u64 64 (by decide) (fun n h0 h1 => by rw [IntKind.wrap_u64]; exact Int.emod_eq_of_lt h0 (by omega)) 32 _ _ (by omega) (by omega) (by omega) (by omega) (by omega) (by omega)
  obtain ⟨gq, hgq⟩ : ∃ gq : Nat, (gq : Int) = (bits .or .u64 (x * 4294967296) y).tdiv d := ⟨((x * 4294967296 + y) / d).toNat, by
    rw [hor, Int.tdiv_eq_ediv_of_nonneg (by omega), Int.toNat_of_nonneg (Int.ediv_nonneg (by omega) (by omega))]⟩
  have bq : gq ≤ 8589934592 := by
    have h1 : (gq : Int) = (x * 4294967296 + y) / d := by rw [hgq, hor, Int.tdiv_eq_ediv_of_nonneg (by omega)]
    have h2 : (x * 4294967296 + y) / d ≤ (x * 4294967296 + y) / 2147483648 := by
      rw [Int.ediv_le_iff_le_mul (by omega)]
      have h4 : ((x * 4294967296 + y) / 2147483648) * 2147483648 ≤ ((x * 4294967296 + y) / 2147483648) * d := Int.mul_le_mul_of_nonneg_left b5 (by omega)
      omega
    omega
  have HG : Aside0 (limbGuess l0 l1 i = min gq 4294967295) := by
    refine ⟨?_⟩
    have h1 : (gq : Int) = (x * 4294967296 + y) / d := by rw [hgq, hor, Int.tdiv_eq_ediv_of_nonneg (by omega)]
    unfold limbGuess limbTop
    rw [← hx, ← hy, ← hd0]
    congr 1
    have e1 : ((x.toNat * 4294967296 + y.toNat : Nat) : Int) = x * 4294967296 + y := by omega
    have e2 : ((x.toNat * 4294967296 + y.toNat) / d.toNat : Nat) = (gq : Nat) := by
      have : (((x.toNat * 4294967296 + y.toNat) / d.toNat : Nat) : Int) = gq := by
        rw [h1, Int.natCast_ediv, e1, Int.toNat_of_nonneg (by omega)]
      omega
    exact e2
  have hq := hgq.symm
  clear hx hy hd0 hor hgq
  go_enter Tryd.func87, Tryd.ntmps87
  go_wp2_with fail
  refine wp_scope_jumps 0 (limbJ A0 c0 l0 ad1 c1 l1 i w) limbMu rfl ?_ ?_
  · go_wp2_with fail
    refine calls_of_args (by rw [show ((i : Int) + l1.length) = ((i + l1.length : Nat) : Int) from by omega]) ((nat_at.calls A0 c0 l0 _ x _ HR0.out.cells HR0.out.le X0.out).mono ?_)
    rintro e w1 ⟨rfl, hq1⟩
    obtain ⟨nd, rfl⟩ := hq1.out
    clear hq1
    go_wp2_with fail
    refine calls_of_args (by rw [show ((i : Int) + l1.length - 1) = ((i + l1.length - 1 : Nat) : Int) from by omega]) ((nat_at.calls A0 c0 l0 _ y _ (HR0.out.drewN _).cells HR0.out.le X1.out).mono ?_)
    rintro e w1 ⟨rfl, hq1⟩
    obtain ⟨nd1, rfl⟩ := hq1.out
    clear hq1
    have HB0 := Aside0.mk (pw_below_drewN (Below.refl w.heap.size w) (nd + nd1))
    have KEYM := Aside0.mk (fun (v1 : Value) (w1 : World) (h : Kd.R (Kd.int .u32) 71 w1 w.heap.size (fun _ => True) v1 (List.replicate ((i : Int)).toNat 0)) =>
      show ∃ A c, v1 = .slice A i c ∧ i ≤ c ∧ Kd.C (Kd.int .u32) w1 A i (List.replicate i 0) from by
        rw [Int.toNat_natCast] at h
        have h2 := Kd.R_reads h
        rwa [List.length_replicate] at h2)
    by_cases hm : gq ≤ 4294967295
    all_goals
      go_wp2_with (first | ((with_reducible refine gate_dst (N := 41) rfl ?_); refine Kd.R_make (Kd.int .u32) _ 71 rfl (N := 41) rfl 39 _ _ rfl (i : Int) rfl rfl Tryd.underlying39 (.int .u32 0) 4 info71 rfl (by decide) (by omega) 0 (ok := fun _ => True) (okp := fun _ => True) rfl (fun _ hk => hk) trivial (by omega) (by omega) HB0.out HB0.out.size ?_; intro v1 w1 ho1 hb1 hg_ hnew_; clear hg_ hnew_; obtain ⟨Az, cz, ez, hcz, hz⟩ := KEYM.out v1 w1 ho1; subst ez; have HZ := Aside0.mk hz; have HCZ := Aside0.mk hcz; have HB1 := Aside0.mk hb1; clear ho1 hb1 hz hcz))
      have CC := Aside0.mk (slices_Concat_uint32_uint32.calls (some ⟨w1.heap.size, 0, none⟩) 2 [List.replicate i 0, l1] (limbUp l1 i) (w1.alloc (.cells #[.slice Az i cz, .slice (some ad1) l1.length c1] 39)) (concat_reads w1 Az cz i _ (by simp) _ c1 l1 HZ.out HCZ.out (HR1.out.below HB1.out)) (by simp) (concat_is l1 i b1 (by omega)))
      refine CC.out.mono ?_
      rintro e w2 ⟨vu, rfl, hu, hb2⟩
      have HB2 := Aside0.mk (below_step (below_alloc HB1.out _) hb2)
      obtain ⟨Au, cu, eu⟩ := Kd.R_slice hu
      subst eu
      have HU := Aside0.mk (Kd.R_lower hu (below_size (below_alloc HB1.out _)))
      clear hu hb2 CC
      go_wp2_with fail
    · have gb := Aside0.mk (show limbQ l0 l1 i ≤ ((gq : Nat) : Int).toNat ∧ ((gq : Nat) : Int).toNat ≤ limbGuess l0 l1 i by unfold limbQ; rw [HG.out]; omega)
      go_step3
      obtain ⟨km, hkm⟩ := (nat_Mul_is (limbUp l1 i) [(gq : Int)] (limbUp_wf HR1.out.wf i) (wfL_cons.2 ⟨by omega, wfL_nil⟩) (by have := HLN.out; omega) (by simp)).rounds
      rw [show valN [(gq : Int)] = ((gq : Int) : Int).toNat from by simp [valN]] at hkm
      have MULX := Aside0.mk (nat_Mul.calls km Au cu (limbUp l1 i) (some ⟨w2.heap.size, 0, none⟩) 1 [(gq : Int)] _ (w2.alloc (.cells #[.int .u32 ((gq : Int))] 71)) (Kd.C_below (Kd.R_reads' HU.out).2.2 (below_alloc (Below.refl _ _) _)) (Kd.R_reads' HU.out).2.1 (lit_reads w2 _) (by simp) hkm)
      clear hkm
      go_wp2_with fail
      refine MULX.out.mono ?_
      rintro e w4 ⟨vm, rfl, hvm, hb4⟩
      have HB4 := Aside0.mk (below_step (below_alloc HB2.out _) hb4)
      have HU4 := Aside0.mk (Kd.R_below (Kd.R_alloc HU.out _) hb4)
      obtain ⟨Am, cm, em, hcm, hCm⟩ := Kd.R_reads hvm
      subst em
      have HCm := Aside0.mk (Rd.mk (wfL_limbs _) hcm hCm)
      clear hvm hb4 hcm hCm MULX
      by_cases hfit : valN l0 < valN (limbUp l1 i) * ((gq : Int) : Int).toNat
      · have hsub := nat_Sub_is l0 (limbs (valN (limbUp l1 i) * ((gq : Int) : Int).toNat)) HR0.out.wf (wfL_limbs _) (by omega) (by have := limbUp_len HR1.out.wf i ((gq : Int) : Int).toNat (by omega); have := HLN.out; omega)
        rw [valN_limbs, if_pos hfit] at hsub
        have SUBX := Aside0.mk (nat_Sub.calls A0 c0 l0 Am cm _ _ _ w4 (HR0.out.below HB4.out).cells HR0.out.le HCm.out.cells HCm.out.le hsub)
        have LESS := Aside0.mk (limbQ_less HUP.out (by omega) gb.out.1 gb.out.2 hfit)
        have less1 := LESS.out.1
        clear hsub hfit
        go_wp2_with fail
        refine SUBX.out.mono ?_
        rintro e w5 ⟨vs, rfl, hvs, hb5⟩
        have HB5 := Aside0.mk (below_step HB4.out hb5)
        have HU5 := Aside0.mk (Kd.R_below HU4.out hb5)
        clear hvs hb5 SUBX
        go_wp2_with fail
        go_step3
        refine ⟨rfl, ?_⟩
        exact ⟨((gq : Int) : Int) - 1, Au, cu, _, _, _, _, _, _, _, _, _, _, _, _, _, _, _, _, _, _, _, _, _, _, _, _, _, _, _, _, _, _, _, _, _, _, _, _, _, _, _, _, _, _, _, _, _, _, _, _, _, _, _, _, _, _, rfl, by omega, by omega, ⟨LESS.out.2⟩, HU5, HB5⟩
      · have hsub := nat_Sub_is l0 (limbs (valN (limbUp l1 i) * ((gq : Int) : Int).toNat)) HR0.out.wf (wfL_limbs _) (by omega) (by have := limbUp_len HR1.out.wf i ((gq : Int) : Int).toNat (by omega); have := HLN.out; omega)
        rw [valN_limbs, if_neg hfit] at hsub
        have SUBX := Aside0.mk (nat_Sub.calls A0 c0 l0 Am cm _ _ _ w4 (HR0.out.below HB4.out).cells HR0.out.le HCm.out.cells HCm.out.le hsub)
        have QIS := Aside0.mk (limbQ_is HUP.out (by omega) gb.out.1 gb.out.2 hfit)
        clear hsub hfit
        go_wp2_with fail
        refine SUBX.out.mono ?_
        rintro e w5 ⟨vs, rfl, hvs, hb5⟩
        have HB5 := Aside0.mk (below_step HB4.out hb5)
        have HV5 := Aside0.mk (Kd.R_lower hvs HB4.out.size)
        clear hvs hb5 SUBX
        go_wp2_with fail
        simp only [Exit.jump]
        go_ret2
        rw [QIS.out]
        have hv := HV5.out
        rw [show ((gq : Int) : Int).toNat = limbQ l0 l1 i from by have := QIS.out; omega] at hv
        exact ⟨_, rfl, hv, HB5.out⟩
    · have gb := Aside0.mk (show limbQ l0 l1 i ≤ (4294967295 : Int).toNat ∧ (4294967295 : Int).toNat ≤ limbGuess l0 l1 i by unfold limbQ; rw [HG.out]; omega)
      go_step3
      obtain ⟨km, hkm⟩ := (nat_Mul_is (limbUp l1 i) [4294967295] (limbUp_wf HR1.out.wf i) (wfL_cons.2 ⟨by omega, wfL_nil⟩) (by have := HLN.out; omega) (by simp)).rounds
      rw [show valN [4294967295] = (4294967295 : Int).toNat from by simp [valN]] at hkm
      have MULX := Aside0.mk (nat_Mul.calls km Au cu (limbUp l1 i) (some ⟨w2.heap.size, 0, none⟩) 1 [4294967295] _ (w2.alloc (.cells #[.int .u32 (4294967295)] 71)) (Kd.C_below (Kd.R_reads' HU.out).2.2 (below_alloc (Below.refl _ _) _)) (Kd.R_reads' HU.out).2.1 (lit_reads w2 _) (by simp) hkm)
      clear hkm
      go_wp2_with fail
      refine MULX.out.mono ?_
      rintro e w4 ⟨vm, rfl, hvm, hb4⟩
      have HB4 := Aside0.mk (below_step (below_alloc HB2.out _) hb4)
      have HU4 := Aside0.mk (Kd.R_below (Kd.R_alloc HU.out _) hb4)
      obtain ⟨Am, cm, em, hcm, hCm⟩ := Kd.R_reads hvm
      subst em
      have HCm := Aside0.mk (Rd.mk (wfL_limbs _) hcm hCm)
      clear hvm hb4 hcm hCm MULX
      by_cases hfit : valN l0 < valN (limbUp l1 i) * (4294967295 : Int).toNat
      · have hsub := nat_Sub_is l0 (limbs (valN (limbUp l1 i) * (4294967295 : Int).toNat)) HR0.out.wf (wfL_limbs _) (by omega) (by have := limbUp_len HR1.out.wf i (4294967295 : Int).toNat (by omega); have := HLN.out; omega)
        rw [valN_limbs, if_pos hfit] at hsub
        have SUBX := Aside0.mk (nat_Sub.calls A0 c0 l0 Am cm _ _ _ w4 (HR0.out.below HB4.out).cells HR0.out.le HCm.out.cells HCm.out.le hsub)
        have LESS := Aside0.mk (limbQ_less HUP.out (by omega) gb.out.1 gb.out.2 hfit)
        have less1 := LESS.out.1
        clear hsub hfit
        go_wp2_with fail
        refine SUBX.out.mono ?_
        rintro e w5 ⟨vs, rfl, hvs, hb5⟩
        have HB5 := Aside0.mk (below_step HB4.out hb5)
        have HU5 := Aside0.mk (Kd.R_below HU4.out hb5)
        clear hvs hb5 SUBX
        go_wp2_with fail
        go_step3
        refine ⟨rfl, ?_⟩
        exact ⟨(4294967295 : Int) - 1, Au, cu, _, _, _, _, _, _, _, _, _, _, _, _, _, _, _, _, _, _, _, _, _, _, _, _, _, _, _, _, _, _, _, _, _, _, _, _, _, _, _, _, _, _, _, _, _, _, _, _, _, _, _, _, _, _, rfl, by omega, by omega, ⟨LESS.out.2⟩, HU5, HB5⟩
      · have hsub := nat_Sub_is l0 (limbs (valN (limbUp l1 i) * (4294967295 : Int).toNat)) HR0.out.wf (wfL_limbs _) (by omega) (by have := limbUp_len HR1.out.wf i (4294967295 : Int).toNat (by omega); have := HLN.out; omega)
        rw [valN_limbs, if_neg hfit] at hsub
        have SUBX := Aside0.mk (nat_Sub.calls A0 c0 l0 Am cm _ _ _ w4 (HR0.out.below HB4.out).cells HR0.out.le HCm.out.cells HCm.out.le hsub)
        have QIS := Aside0.mk (limbQ_is HUP.out (by omega) gb.out.1 gb.out.2 hfit)
        clear hsub hfit
        go_wp2_with fail
        refine SUBX.out.mono ?_
        rintro e w5 ⟨vs, rfl, hvs, hb5⟩
        have HB5 := Aside0.mk (below_step HB4.out hb5)
        have HV5 := Aside0.mk (Kd.R_lower hvs HB4.out.size)
        clear hvs hb5 SUBX
        go_wp2_with fail
        simp only [Exit.jump]
        go_ret2
        rw [QIS.out]
        have hv := HV5.out
        rw [show (4294967295 : Int).toNat = limbQ l0 l1 i from by have := QIS.out; omega] at hv
        exact ⟨_, rfl, hv, HB5.out⟩
  · rintro a' w2 ⟨g, Au, cu, u3, u4, u5, u9, u12, u13, u14, u15, u16, u17, u18, u19, u20, u21, u22, u23, u24, u25, u26, u27, u28, u29, u30, u31, u32, u33, u34, u35, u36, u37, u38, u39, u40, u41, u42, u43, u44, u45, u46, u47, u48, u49, u50, u51, u52, u53, u54, u55, u56, u57, u58, u59, u60, u61, rfl, hg0, hg1, gb, HU, HB2⟩
    obtain ⟨km, hkm⟩ := (nat_Mul_is (limbUp l1 i) [g] (limbUp_wf HR1.out.wf i) (wfL_cons.2 ⟨by omega, wfL_nil⟩) (by have := HLN.out; omega) (by simp)).rounds
    rw [show valN [g] = (g : Int).toNat from by simp [valN]] at hkm
    have MULX := Aside0.mk (nat_Mul.calls km Au cu (limbUp l1 i) (some ⟨w2.heap.size, 0, none⟩) 1 [g] _ (w2.alloc (.cells #[.int .u32 (g)] 71)) (Kd.C_below (Kd.R_reads' HU.out).2.2 (below_alloc (Below.refl _ _) _)) (Kd.R_reads' HU.out).2.1 (lit_reads w2 _) (by simp) hkm)
    clear hkm
    go_wp2_with fail
    refine MULX.out.mono ?_
    rintro e w4 ⟨vm, rfl, hvm, hb4⟩
    have HB4 := Aside0.mk (below_step (below_alloc HB2.out _) hb4)
    have HU4 := Aside0.mk (Kd.R_below (Kd.R_alloc HU.out _) hb4)
    obtain ⟨Am, cm, em, hcm, hCm⟩ := Kd.R_reads hvm
    subst em
    have HCm := Aside0.mk (Rd.mk (wfL_limbs _) hcm hCm)
    clear hvm hb4 hcm hCm MULX
    by_cases hfit : valN l0 < valN (limbUp l1 i) * (g : Int).toNat
    · have hsub := nat_Sub_is l0 (limbs (valN (limbUp l1 i) * (g : Int).toNat)) HR0.out.wf (wfL_limbs _) (by omega) (by have := limbUp_len HR1.out.wf i (g : Int).toNat (by omega); have := HLN.out; omega)
      rw [valN_limbs, if_pos hfit] at hsub
      have SUBX := Aside0.mk (nat_Sub.calls A0 c0 l0 Am cm _ _ _ w4 (HR0.out.below HB4.out).cells HR0.out.le HCm.out.cells HCm.out.le hsub)
      have LESS := Aside0.mk (limbQ_less HUP.out (by omega) gb.out.1 gb.out.2 hfit)
      have less1 := LESS.out.1
      clear hsub hfit
      go_wp2_with fail
      refine SUBX.out.mono ?_
      rintro e w5 ⟨vs, rfl, hvs, hb5⟩
      have HB5 := Aside0.mk (below_step HB4.out hb5)
      have HU5 := Aside0.mk (Kd.R_below HU4.out hb5)
      clear hvs hb5 SUBX
      go_wp2_with fail
      go_step3
      refine ⟨rfl, ?_⟩
      refine ⟨?_, by simp [limbMu, RowKit.intOf]; omega⟩
      exact ⟨(g : Int) - 1, Au, cu, _, _, _, _, _, _, _, _, _, _, _, _, _, _, _, _, _, _, _, _, _, _, _, _, _, _, _, _, _, _, _, _, _, _, _, _, _, _, _, _, _, _, _, _, _, _, _, _, _, _, _, _, _, _, rfl, by omega, by omega, ⟨LESS.out.2⟩, HU5, HB5⟩
    · have hsub := nat_Sub_is l0 (limbs (valN (limbUp l1 i) * (g : Int).toNat)) HR0.out.wf (wfL_limbs _) (by omega) (by have := limbUp_len HR1.out.wf i (g : Int).toNat (by omega); have := HLN.out; omega)
      rw [valN_limbs, if_neg hfit] at hsub
      have SUBX := Aside0.mk (nat_Sub.calls A0 c0 l0 Am cm _ _ _ w4 (HR0.out.below HB4.out).cells HR0.out.le HCm.out.cells HCm.out.le hsub)
      have QIS := Aside0.mk (limbQ_is HUP.out (by omega) gb.out.1 gb.out.2 hfit)
      clear hsub hfit
      go_wp2_with fail
      refine SUBX.out.mono ?_
      rintro e w5 ⟨vs, rfl, hvs, hb5⟩
      have HB5 := Aside0.mk (below_step HB4.out hb5)
      have HV5 := Aside0.mk (Kd.R_lower hvs HB4.out.size)
      clear hvs hb5 SUBX
      go_wp2_with fail
      simp only [Exit.jump]
      go_ret2
      rw [QIS.out]
      have hv := HV5.out
      rw [show (g : Int).toNat = limbQ l0 l1 i from by have := QIS.out; omega] at hv
      exact ⟨_, rfl, hv, HB5.out⟩


end Go.Proofs.YtfnhohpmhpbpmaaDoor.G
