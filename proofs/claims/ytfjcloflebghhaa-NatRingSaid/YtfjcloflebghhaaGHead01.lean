/- tribunallaw01.head, whose answer is fixed, answers true. No condition. -/
import Derived.Test.YtfjcloflebghhaaGx0
import Derived.Test.YtfjcloflebghhaaGx5
import Derived.Test.YtfjcloflebghhaaGNatSub
import Derived.Test.YtfjcloflebghhaaGx6
import Derived.Test.YtfjcloflebghhaaGx1
import Derived.Test.YtfjcloflebghhaaGNatAdd
import Derived.Test.YtfjcloflebghhaaGRefPure
import Derived.Lib.Hide
namespace Go.Proofs.Ytfjcloflebghhaa.G
open Go.RowKit Go.Proofs.YtfjcloflebghhaaW.PrintWords Go.Proofs.YtfjcloflebghhaaW.PrintLast Go.Proofs.YtfjcloflebghhaaW.PrintMore

theorem lit_readsN (w : World) (xs : List Int) (hl : xs.length ≤ 9223372036854775807) : Kd.C (Kd.int .u32) (w.alloc (.cells (xs.map (Value.int .u32)).toArray 36)) (some ⟨w.heap.size, 0, none⟩) xs.length xs := by
  refine ⟨rfl, hl, fun _ => ⟨_, rfl, ?_⟩⟩
  intro j p hj
  obtain ⟨hlt, rfl⟩ := List.getElem?_eq_some_iff.1 hj
  refine ⟨[.int .u32 xs[j]], rfl, rfl, ?_⟩
  intro i u hi
  match i, hi with
  | 0, hi =>
    simp at hi
    subst hi
    rw [add_plain, World.cell?_alloc_at _ _ _ _ rfl]
    simp [Kd.int, Kd.scalar, List.getElem?_eq_getElem hlt]
theorem Rd.lit (w : World) (xs : List Int) (h : wfL xs) (hl : xs.length ≤ 9223372036854775807) : Rd (w.alloc (.cells (xs.map (Value.int .u32)).toArray 36)) (some ⟨w.heap.size, 0, none⟩) xs.length xs := ⟨h, Nat.le_refl _, lit_readsN w xs hl⟩
theorem Rd.nil (w : World) : Rd w none 0 [] := ⟨wfL_nil, Nat.le_refl _, Kd.C_nil _ _⟩
theorem Rd.alloc {w : World} {A : Option Addr} {c : Nat} {l : List Int} (h : Rd w A c l) (o : Obj) : Rd (w.alloc o) A c l := h.below (below_alloc (Below.refl _ _) o)
theorem Rd.of_R {w : World} {base : Nat} {ok : Nat → Prop} {v : Value} {l : List Int} (hw : wfL l) (h : Kd.R (Kd.int .u32) 36 w base ok v l) : ∃ A c, v = .slice A l.length c ∧ Rd w A c l := by
  obtain ⟨A, c, e, hle, hC⟩ := Kd.R_reads h
  exact ⟨A, c, e, hw, hle, hC⟩
theorem limbs_lit (xs : List Int) (n : Nat) (h : wfL xs) (hn : normL xs = xs) (hv : valN xs = n) : limbs n = xs := by rw [← hv]; exact (limbs_norm h hn).symm
theorem len_lit {n k : Nat} (h : n < 4294967296 ^ k) (hk : k ≤ 100) : (limbs n).length ≤ 100 := Nat.le_trans (limbs_length_le h) hk

def tribunallaw01_head.f : Option (Bool) := some true
set_option maxHeartbeats 8000000 in
set_option maxRecDepth 100000 in
theorem tribunallaw01_head.calls (r : Bool) (w : World) (h : tribunallaw01_head.f = some r) : Calls Try.prog 10 #[] w fun e w' => e = .returned (.bool r) ∧ Below w.heap.size w w' := by
  obtain rfl := Option.some.inj h
  clear h
  obtain ⟨a, ha⟩ : ∃ l, l = limbs 4294967296 := ⟨_, rfl⟩
  have Wa : Aside0 (wfL a) := ⟨by rw [ha]; exact wfL_limbs _⟩
  have Va : Aside0 (valN a = 4294967296 ∧ a.length ≤ 100) := ⟨by rw [ha]; exact ⟨valN_limbs _, len_lit (k := 3) (by decide) (by omega)⟩⟩
  obtain ⟨b, hb⟩ : ∃ l, l = limbs 10 := ⟨_, rfl⟩
  have Wb : Aside0 (wfL b) := ⟨by rw [hb]; exact wfL_limbs _⟩
  have Vb : Aside0 (valN b = 10 ∧ b.length ≤ 100) := ⟨by rw [hb]; exact ⟨valN_limbs _, len_lit (k := 3) (by decide) (by omega)⟩⟩
  obtain ⟨s, hs⟩ : ∃ l, l = limbs 4294967286 := ⟨_, rfl⟩
  have Ws : Aside0 (wfL s) := ⟨by rw [hs]; exact wfL_limbs _⟩
  have Vs : Aside0 (valN s = 4294967286 ∧ s.length ≤ 100) := ⟨by rw [hs]; exact ⟨valN_limbs _, len_lit (k := 3) (by decide) (by omega)⟩⟩
  obtain ⟨q, hq⟩ : ∃ l, l = limbs 429496729 := ⟨_, rfl⟩
  have Wq : Aside0 (wfL q) := ⟨by rw [hq]; exact wfL_limbs _⟩
  have Vq : Aside0 (valN q = 429496729 ∧ q.length ≤ 100) := ⟨by rw [hq]; exact ⟨valN_limbs _, len_lit (k := 3) (by decide) (by omega)⟩⟩
  obtain ⟨r, hr⟩ : ∃ l, l = limbs 6 := ⟨_, rfl⟩
  have Wr : Aside0 (wfL r) := ⟨by rw [hr]; exact wfL_limbs _⟩
  have Vr : Aside0 (valN r = 6 ∧ r.length ≤ 100) := ⟨by rw [hr]; exact ⟨valN_limbs _, len_lit (k := 3) (by decide) (by omega)⟩⟩
  obtain ⟨m, hm⟩ : ∃ l, l = limbs 18446744073709551616 := ⟨_, rfl⟩
  have Wm : Aside0 (wfL m) := ⟨by rw [hm]; exact wfL_limbs _⟩
  have Vm : Aside0 (valN m = 18446744073709551616 ∧ m.length ≤ 100) := ⟨by rw [hm]; exact ⟨valN_limbs _, len_lit (k := 3) (by decide) (by omega)⟩⟩
  obtain ⟨x, hx⟩ : ∃ l, l = limbs 12 := ⟨_, rfl⟩
  have Wx : Aside0 (wfL x) := ⟨by rw [hx]; exact wfL_limbs _⟩
  have Vx : Aside0 (valN x = 12 ∧ x.length ≤ 100) := ⟨by rw [hx]; exact ⟨valN_limbs _, len_lit (k := 3) (by decide) (by omega)⟩⟩
  obtain ⟨y, hy⟩ : ∃ l, l = limbs 18 := ⟨_, rfl⟩
  have Wy : Aside0 (wfL y) := ⟨by rw [hy]; exact wfL_limbs _⟩
  have Vy : Aside0 (valN y = 18 ∧ y.length ≤ 100) := ⟨by rw [hy]; exact ⟨valN_limbs _, len_lit (k := 3) (by decide) (by omega)⟩⟩
  obtain ⟨g, hg⟩ : ∃ l, l = limbs 6 := ⟨_, rfl⟩
  have Wg : Aside0 (wfL g) := ⟨by rw [hg]; exact wfL_limbs _⟩
  have Vg : Aside0 (valN g = 6 ∧ g.length ≤ 100) := ⟨by rw [hg]; exact ⟨valN_limbs _, len_lit (k := 3) (by decide) (by omega)⟩⟩
  obtain ⟨t, ht⟩ : ∃ l, l = limbs 4294967296 := ⟨_, rfl⟩
  have Wt : Aside0 (wfL t) := ⟨by rw [ht]; exact wfL_limbs _⟩
  have Vt : Aside0 (valN t = 4294967296 ∧ t.length ≤ 100) := ⟨by rw [ht]; exact ⟨valN_limbs _, len_lit (k := 3) (by decide) (by omega)⟩⟩
  obtain ⟨k1, E1⟩ : ∃ k, nat_Of.f k 4294967296 = some a := by rw [ha]; exact (nat_Of_is 4294967296 (by omega) (by omega)).rounds
  obtain ⟨k2, E2⟩ : ∃ k, nat_Of.f k 10 = some b := by rw [hb]; exact (nat_Of_is 10 (by omega) (by omega)).rounds
  have E3 : nat_Sub.f a b = some (s, true) := by rw [nat_Sub_is a b Wa.out Wb.out (by have := Va.out.2; omega) (by have := Vb.out.2; omega), Va.out.1, Vb.out.1, hs]; rfl
  have E4 : nat_Sub.f b a = some ([], false) := by rw [nat_Sub_is b a Wb.out Wa.out (by have := Vb.out.2; omega) (by have := Va.out.2; omega), Va.out.1, Vb.out.1]; rfl
  obtain ⟨k5, E5⟩ : ∃ k, nat_Div.f k a b = some (q, r, true) := by
    have h := nat_Div_is a b Wa.out Wb.out (by have := Va.out.2; omega) (by have := Vb.out.2; omega)
    rw [Va.out.1, Vb.out.1, if_neg (by omega)] at h
    rw [hq, hr]
    exact h.rounds
  obtain ⟨k6, E6⟩ : ∃ k, nat_Div.f k a [] = some ([], [], false) := by
    have h := nat_Div_is a [] Wa.out wfL_nil (by have := Va.out.2; omega) (by simp)
    rw [show valN [] = 0 from rfl, if_pos rfl] at h
    exact h.rounds
  obtain ⟨k7, E7⟩ : ∃ k, tribunalref01_Same.f k a [0, 1] = some true := by
    have h := Same_is a [0, 1] (by have := Va.out.2; omega)
    rw [show decide (a = [0, 1]) = true from decide_eq_true (by rw [ha]; exact limbs_lit [0, 1] _ (by decide) (by decide) (by decide))] at h
    exact h.rounds
  obtain ⟨k8, E8⟩ : ∃ k, tribunalref01_Same.f k s [4294967286] = some true := by
    have h := Same_is s [4294967286] (by have := Vs.out.2; omega)
    rw [show decide (s = [4294967286]) = true from decide_eq_true (by rw [hs]; exact limbs_lit [4294967286] _ (by decide) (by decide) (by decide))] at h
    exact h.rounds
  obtain ⟨k9, E9⟩ : ∃ k, tribunalref01_Same.f k q [429496729] = some true := by
    have h := Same_is q [429496729] (by have := Vq.out.2; omega)
    rw [show decide (q = [429496729]) = true from decide_eq_true (by rw [hq]; exact limbs_lit [429496729] _ (by decide) (by decide) (by decide))] at h
    exact h.rounds
  obtain ⟨k10, E10⟩ : ∃ k, tribunalref01_Same.f k r [6] = some true := by
    have h := Same_is r [6] (by have := Vr.out.2; omega)
    rw [show decide (r = [6]) = true from decide_eq_true (by rw [hr]; exact limbs_lit [6] _ (by decide) (by decide) (by decide))] at h
    exact h.rounds
  obtain ⟨k11, E11⟩ : ∃ k, nat_Mul.f k a a = some m := by
    have h := nat_Mul_is a a Wa.out Wa.out (by have := Va.out.2; omega) (by have := Va.out.2; omega)
    rw [Va.out.1] at h
    rw [hm]
    exact h.rounds
  obtain ⟨k12, E12⟩ : ∃ k, tribunalref01_Same.f k m [0, 0, 1] = some true := by
    have h := Same_is m [0, 0, 1] (by have := Vm.out.2; omega)
    rw [show decide (m = [0, 0, 1]) = true from decide_eq_true (by rw [hm]; exact limbs_lit [0, 0, 1] _ (by decide) (by decide) (by decide))] at h
    exact h.rounds
  obtain ⟨k13, E13⟩ : ∃ k, nat_Of.f k 12 = some x := by rw [hx]; exact (nat_Of_is 12 (by omega) (by omega)).rounds
  obtain ⟨k14, E14⟩ : ∃ k, nat_Of.f k 18 = some y := by rw [hy]; exact (nat_Of_is 18 (by omega) (by omega)).rounds
  obtain ⟨k15, E15⟩ : ∃ k, nat_Gcd.f k x y = some g := by
    have h := nat_Gcd_is x y Wx.out Wy.out (by have := Vx.out.2; omega) (by have := Vy.out.2; omega)
    rw [Vx.out.1, Vy.out.1] at h
    rw [hg]
    exact h.rounds
  obtain ⟨k16, E16⟩ : ∃ k, tribunalref01_Same.f k g [6] = some true := by
    have h := Same_is g [6] (by have := Vg.out.2; omega)
    rw [show decide (g = [6]) = true from decide_eq_true (by rw [hg]; exact limbs_lit [6] _ (by decide) (by decide) (by decide))] at h
    exact h.rounds
  obtain ⟨k17, E17⟩ : ∃ k, nat_Cmp.f k a b = some 1 := by
    have h := nat_Cmp_is a b Wa.out Wb.out (by have := Va.out.2; omega) (by have := Vb.out.2; omega)
    rw [Va.out.1, Vb.out.1] at h
    exact h.rounds
  obtain ⟨k18, E18⟩ : ∃ k, nat_Cmp.f k b a = some (-1) := by
    have h := nat_Cmp_is b a Wb.out Wa.out (by have := Vb.out.2; omega) (by have := Va.out.2; omega)
    rw [Va.out.1, Vb.out.1] at h
    exact h.rounds
  have E19 : nat_Add.f s b = some t := by rw [nat_Add_is s b Ws.out Wb.out (by have := Vs.out.2; omega) (by have := Vb.out.2; omega), Vs.out.1, Vb.out.1, ht]
  obtain ⟨k20, E20⟩ : ∃ k, tribunalref01_Same.f k t a = some true := by
    have h := Same_is t a (by have := Vt.out.2; omega)
    rw [show decide (t = a) = true from decide_eq_true (by rw [ht]; rw [ha])] at h
    exact h.rounds
  obtain ⟨k21, E21⟩ : ∃ k, nat_Norm.f k [0, 0] = some [] := by
    have h := nat_Norm_is [0, 0] (by decide) (by decide)
    rw [show valN [0, 0] = 0 from rfl, limbs_zero] at h
    exact h.rounds
  replace E1 := Aside0.mk E1
  replace E2 := Aside0.mk E2
  replace E3 := Aside0.mk E3
  replace E4 := Aside0.mk E4
  replace E5 := Aside0.mk E5
  replace E6 := Aside0.mk E6
  replace E7 := Aside0.mk E7
  replace E8 := Aside0.mk E8
  replace E9 := Aside0.mk E9
  replace E10 := Aside0.mk E10
  replace E11 := Aside0.mk E11
  replace E12 := Aside0.mk E12
  replace E13 := Aside0.mk E13
  replace E14 := Aside0.mk E14
  replace E15 := Aside0.mk E15
  replace E16 := Aside0.mk E16
  replace E17 := Aside0.mk E17
  replace E18 := Aside0.mk E18
  replace E19 := Aside0.mk E19
  replace E20 := Aside0.mk E20
  replace E21 := Aside0.mk E21
  clear ha hb hs hq hr hm hx hy hg ht
  have HB := Aside0.mk (Below.refl w.heap.size w)
  go_enter Try.func10, Try.ntmps10
  go_wp2_with fail
  refine (nat_Of.calls k1 4294967296 a _  E1.out).mono ?_
  rintro e w1 ⟨va, rfl, oa, hb⟩
  replace HB := Aside0.mk (below_step (HB.out) hb)
  obtain ⟨Aa, ca, ea, ha⟩ := Rd.of_R Wa.out oa
  clear oa
  subst ea
  have Ra := Aside0.mk ha
  clear ha
  clear hb
  go_wp2_with fail
  refine (nat_Of.calls k2 10 b _  E2.out).mono ?_
  rintro e w1 ⟨vb, rfl, ob, hb⟩
  replace Ra := Aside0.mk ((Ra.out).below hb)
  replace HB := Aside0.mk (below_step (HB.out) hb)
  obtain ⟨Ab, cb, eb, hb⟩ := Rd.of_R Wb.out ob
  clear ob
  subst eb
  have Rb := Aside0.mk hb
  clear hb
  clear hb
  go_wp2_with fail
  refine (nat_Sub.calls _ _ a _ _ b s true _ (by exact Ra.out.cells) (by exact Ra.out.le) (by exact Rb.out.cells) (by exact Rb.out.le) E3.out).mono ?_
  rintro e w1 ⟨vs, rfl, os, hb⟩
  replace Ra := Aside0.mk ((Ra.out).below hb)
  replace Rb := Aside0.mk ((Rb.out).below hb)
  replace HB := Aside0.mk (below_step (HB.out) hb)
  obtain ⟨As, cs, es, hs⟩ := Rd.of_R Ws.out os
  clear os
  subst es
  have Rs := Aside0.mk hs
  clear hs
  clear hb
  go_wp2_with fail
  refine (nat_Sub.calls _ _ b _ _ a [] false _ (by exact Rb.out.cells) (by exact Rb.out.le) (by exact Ra.out.cells) (by exact Ra.out.le) E4.out).mono ?_
  rintro e w1 ⟨vno1, rfl, ono1, hb⟩
  replace Ra := Aside0.mk ((Ra.out).below hb)
  replace Rb := Aside0.mk ((Rb.out).below hb)
  replace Rs := Aside0.mk ((Rs.out).below hb)
  replace HB := Aside0.mk (below_step (HB.out) hb)
  clear ono1
  clear hb
  go_wp2_with fail
  refine (nat_Div.calls k5 _ _ a _ _ b q r true _ (by exact Ra.out.cells) (by exact Ra.out.le) (by exact Rb.out.cells) (by exact Rb.out.le) E5.out).mono ?_
  rintro e w1 ⟨vq, vr, rfl, oq, or, hb⟩
  replace Ra := Aside0.mk ((Ra.out).below hb)
  replace Rb := Aside0.mk ((Rb.out).below hb)
  replace Rs := Aside0.mk ((Rs.out).below hb)
  replace HB := Aside0.mk (below_step (HB.out) hb)
  obtain ⟨Aq, cq, eq, hq⟩ := Rd.of_R Wq.out oq
  clear oq
  subst eq
  have Rq := Aside0.mk hq
  clear hq
  obtain ⟨Ar, cr, er, hr⟩ := Rd.of_R Wr.out or
  clear or
  subst er
  have Rr := Aside0.mk hr
  clear hr
  clear hb
  go_wp2_with fail
  refine (nat_Div.calls k6 _ _ a _ _ [] [] [] false _ (by exact Ra.out.cells) (by exact Ra.out.le) (by exact (Rd.nil _).cells) (by simp) E6.out).mono ?_
  rintro e w1 ⟨vno2, vno3, rfl, ono2, ono3, hb⟩
  replace Ra := Aside0.mk ((Ra.out).below hb)
  replace Rb := Aside0.mk ((Rb.out).below hb)
  replace Rs := Aside0.mk ((Rs.out).below hb)
  replace Rq := Aside0.mk ((Rq.out).below hb)
  replace Rr := Aside0.mk ((Rr.out).below hb)
  replace HB := Aside0.mk (below_step (HB.out) hb)
  clear ono2
  clear ono3
  clear hb
  go_wp2_with fail
  refine (tribunalref01_Same.calls k7 _ _ a _ _ [0, 1] true _ (by exact (Ra.out.alloc _).cells) (by exact Ra.out.le) (by exact (Rd.lit _ [0, 1] (by decide) (by decide)).cells) (by simp) E7.out).mono ?_
  rintro e w1 ⟨rfl, hd⟩
  have hb := hd.below
  clear hd
  replace Ra := Aside0.mk ((Ra.out.alloc (.cells #[.int .u32 0, .int .u32 1] 36)).below hb)
  replace Rb := Aside0.mk ((Rb.out.alloc (.cells #[.int .u32 0, .int .u32 1] 36)).below hb)
  replace Rs := Aside0.mk ((Rs.out.alloc (.cells #[.int .u32 0, .int .u32 1] 36)).below hb)
  replace Rq := Aside0.mk ((Rq.out.alloc (.cells #[.int .u32 0, .int .u32 1] 36)).below hb)
  replace Rr := Aside0.mk ((Rr.out.alloc (.cells #[.int .u32 0, .int .u32 1] 36)).below hb)
  replace HB := Aside0.mk (below_step (below_alloc HB.out (.cells #[.int .u32 0, .int .u32 1] 36)) hb)
  clear hb
  go_wp2_with fail
  refine (tribunalref01_Same.calls k8 _ _ s _ _ [4294967286] true _ (by exact (Rs.out.alloc _).cells) (by exact Rs.out.le) (by exact (Rd.lit _ [4294967286] (by decide) (by decide)).cells) (by simp) E8.out).mono ?_
  rintro e w1 ⟨rfl, hd⟩
  have hb := hd.below
  clear hd
  replace Ra := Aside0.mk ((Ra.out.alloc (.cells #[.int .u32 4294967286] 36)).below hb)
  replace Rb := Aside0.mk ((Rb.out.alloc (.cells #[.int .u32 4294967286] 36)).below hb)
  replace Rs := Aside0.mk ((Rs.out.alloc (.cells #[.int .u32 4294967286] 36)).below hb)
  replace Rq := Aside0.mk ((Rq.out.alloc (.cells #[.int .u32 4294967286] 36)).below hb)
  replace Rr := Aside0.mk ((Rr.out.alloc (.cells #[.int .u32 4294967286] 36)).below hb)
  replace HB := Aside0.mk (below_step (below_alloc HB.out (.cells #[.int .u32 4294967286] 36)) hb)
  clear hb
  go_wp2_with fail
  refine (tribunalref01_Same.calls k9 _ _ q _ _ [429496729] true _ (by exact (Rq.out.alloc _).cells) (by exact Rq.out.le) (by exact (Rd.lit _ [429496729] (by decide) (by decide)).cells) (by simp) E9.out).mono ?_
  rintro e w1 ⟨rfl, hd⟩
  have hb := hd.below
  clear hd
  replace Ra := Aside0.mk ((Ra.out.alloc (.cells #[.int .u32 429496729] 36)).below hb)
  replace Rb := Aside0.mk ((Rb.out.alloc (.cells #[.int .u32 429496729] 36)).below hb)
  replace Rs := Aside0.mk ((Rs.out.alloc (.cells #[.int .u32 429496729] 36)).below hb)
  replace Rq := Aside0.mk ((Rq.out.alloc (.cells #[.int .u32 429496729] 36)).below hb)
  replace Rr := Aside0.mk ((Rr.out.alloc (.cells #[.int .u32 429496729] 36)).below hb)
  replace HB := Aside0.mk (below_step (below_alloc HB.out (.cells #[.int .u32 429496729] 36)) hb)
  clear hb
  go_wp2_with fail
  refine (tribunalref01_Same.calls k10 _ _ r _ _ [6] true _ (by exact (Rr.out.alloc _).cells) (by exact Rr.out.le) (by exact (Rd.lit _ [6] (by decide) (by decide)).cells) (by simp) E10.out).mono ?_
  rintro e w1 ⟨rfl, hd⟩
  have hb := hd.below
  clear hd
  replace Ra := Aside0.mk ((Ra.out.alloc (.cells #[.int .u32 6] 36)).below hb)
  replace Rb := Aside0.mk ((Rb.out.alloc (.cells #[.int .u32 6] 36)).below hb)
  replace Rs := Aside0.mk ((Rs.out.alloc (.cells #[.int .u32 6] 36)).below hb)
  replace Rq := Aside0.mk ((Rq.out.alloc (.cells #[.int .u32 6] 36)).below hb)
  replace Rr := Aside0.mk ((Rr.out.alloc (.cells #[.int .u32 6] 36)).below hb)
  replace HB := Aside0.mk (below_step (below_alloc HB.out (.cells #[.int .u32 6] 36)) hb)
  clear hb
  go_wp2_with fail
  refine (nat_Mul.calls k11 _ _ a _ _ a m _ (by exact Ra.out.cells) (by exact Ra.out.le) (by exact Ra.out.cells) (by exact Ra.out.le) E11.out).mono ?_
  rintro e w1 ⟨vm, rfl, om, hb⟩
  replace Ra := Aside0.mk ((Ra.out).below hb)
  replace Rb := Aside0.mk ((Rb.out).below hb)
  replace Rs := Aside0.mk ((Rs.out).below hb)
  replace Rq := Aside0.mk ((Rq.out).below hb)
  replace Rr := Aside0.mk ((Rr.out).below hb)
  replace HB := Aside0.mk (below_step (HB.out) hb)
  obtain ⟨Am, cm, em, hm⟩ := Rd.of_R Wm.out om
  clear om
  subst em
  have Rm := Aside0.mk hm
  clear hm
  clear hb
  go_wp2_with fail
  refine (tribunalref01_Same.calls k12 _ _ m _ _ [0, 0, 1] true _ (by exact (Rm.out.alloc _).cells) (by exact Rm.out.le) (by exact (Rd.lit _ [0, 0, 1] (by decide) (by decide)).cells) (by simp) E12.out).mono ?_
  rintro e w1 ⟨rfl, hd⟩
  have hb := hd.below
  clear hd
  replace Ra := Aside0.mk ((Ra.out.alloc (.cells #[.int .u32 0, .int .u32 0, .int .u32 1] 36)).below hb)
  replace Rb := Aside0.mk ((Rb.out.alloc (.cells #[.int .u32 0, .int .u32 0, .int .u32 1] 36)).below hb)
  replace Rs := Aside0.mk ((Rs.out.alloc (.cells #[.int .u32 0, .int .u32 0, .int .u32 1] 36)).below hb)
  replace Rq := Aside0.mk ((Rq.out.alloc (.cells #[.int .u32 0, .int .u32 0, .int .u32 1] 36)).below hb)
  replace Rr := Aside0.mk ((Rr.out.alloc (.cells #[.int .u32 0, .int .u32 0, .int .u32 1] 36)).below hb)
  replace Rm := Aside0.mk ((Rm.out.alloc (.cells #[.int .u32 0, .int .u32 0, .int .u32 1] 36)).below hb)
  replace HB := Aside0.mk (below_step (below_alloc HB.out (.cells #[.int .u32 0, .int .u32 0, .int .u32 1] 36)) hb)
  clear hb
  go_wp2_with fail
  refine (nat_Of.calls k13 12 x _  E13.out).mono ?_
  rintro e w1 ⟨vx, rfl, ox, hb⟩
  replace Ra := Aside0.mk ((Ra.out).below hb)
  replace Rb := Aside0.mk ((Rb.out).below hb)
  replace Rs := Aside0.mk ((Rs.out).below hb)
  replace Rq := Aside0.mk ((Rq.out).below hb)
  replace Rr := Aside0.mk ((Rr.out).below hb)
  replace Rm := Aside0.mk ((Rm.out).below hb)
  replace HB := Aside0.mk (below_step (HB.out) hb)
  obtain ⟨Ax, cx, ex, hx⟩ := Rd.of_R Wx.out ox
  clear ox
  subst ex
  have Rx := Aside0.mk hx
  clear hx
  clear hb
  go_wp2_with fail
  refine (nat_Of.calls k14 18 y _  E14.out).mono ?_
  rintro e w1 ⟨vy, rfl, oy, hb⟩
  replace Ra := Aside0.mk ((Ra.out).below hb)
  replace Rb := Aside0.mk ((Rb.out).below hb)
  replace Rs := Aside0.mk ((Rs.out).below hb)
  replace Rq := Aside0.mk ((Rq.out).below hb)
  replace Rr := Aside0.mk ((Rr.out).below hb)
  replace Rm := Aside0.mk ((Rm.out).below hb)
  replace Rx := Aside0.mk ((Rx.out).below hb)
  replace HB := Aside0.mk (below_step (HB.out) hb)
  obtain ⟨Ay, cy, ey, hy⟩ := Rd.of_R Wy.out oy
  clear oy
  subst ey
  have Ry := Aside0.mk hy
  clear hy
  clear hb
  go_wp2_with fail
  refine (nat_Gcd.calls k15 _ _ x _ _ y g _ (by exact Rx.out.cells) (by exact Rx.out.le) (by exact Ry.out.cells) (by exact Ry.out.le) E15.out).mono ?_
  rintro e w1 ⟨vg, rfl, og, hb⟩
  replace Ra := Aside0.mk ((Ra.out).below hb)
  replace Rb := Aside0.mk ((Rb.out).below hb)
  replace Rs := Aside0.mk ((Rs.out).below hb)
  replace Rq := Aside0.mk ((Rq.out).below hb)
  replace Rr := Aside0.mk ((Rr.out).below hb)
  replace Rm := Aside0.mk ((Rm.out).below hb)
  replace Rx := Aside0.mk ((Rx.out).below hb)
  replace Ry := Aside0.mk ((Ry.out).below hb)
  replace HB := Aside0.mk (below_step (HB.out) hb)
  obtain ⟨Ag, cg, eg, hg⟩ := Rd.of_R Wg.out og
  clear og
  subst eg
  have Rg := Aside0.mk hg
  clear hg
  clear hb
  go_wp2_with fail
  refine (tribunalref01_Same.calls k16 _ _ g _ _ [6] true _ (by exact (Rg.out.alloc _).cells) (by exact Rg.out.le) (by exact (Rd.lit _ [6] (by decide) (by decide)).cells) (by simp) E16.out).mono ?_
  rintro e w1 ⟨rfl, hd⟩
  have hb := hd.below
  clear hd
  replace Ra := Aside0.mk ((Ra.out.alloc (.cells #[.int .u32 6] 36)).below hb)
  replace Rb := Aside0.mk ((Rb.out.alloc (.cells #[.int .u32 6] 36)).below hb)
  replace Rs := Aside0.mk ((Rs.out.alloc (.cells #[.int .u32 6] 36)).below hb)
  replace Rq := Aside0.mk ((Rq.out.alloc (.cells #[.int .u32 6] 36)).below hb)
  replace Rr := Aside0.mk ((Rr.out.alloc (.cells #[.int .u32 6] 36)).below hb)
  replace Rm := Aside0.mk ((Rm.out.alloc (.cells #[.int .u32 6] 36)).below hb)
  replace Rx := Aside0.mk ((Rx.out.alloc (.cells #[.int .u32 6] 36)).below hb)
  replace Ry := Aside0.mk ((Ry.out.alloc (.cells #[.int .u32 6] 36)).below hb)
  replace Rg := Aside0.mk ((Rg.out.alloc (.cells #[.int .u32 6] 36)).below hb)
  replace HB := Aside0.mk (below_step (below_alloc HB.out (.cells #[.int .u32 6] 36)) hb)
  clear hb
  go_wp2_with fail
  refine (nat_Cmp.calls k17 _ _ a _ _ b 1 _ (by exact Ra.out.cells) (by exact Ra.out.le) (by exact Rb.out.cells) (by exact Rb.out.le) E17.out).mono ?_
  rintro e w1 ⟨rfl, hb⟩
  replace Ra := Aside0.mk ((Ra.out).below hb)
  replace Rb := Aside0.mk ((Rb.out).below hb)
  replace Rs := Aside0.mk ((Rs.out).below hb)
  replace Rq := Aside0.mk ((Rq.out).below hb)
  replace Rr := Aside0.mk ((Rr.out).below hb)
  replace Rm := Aside0.mk ((Rm.out).below hb)
  replace Rx := Aside0.mk ((Rx.out).below hb)
  replace Ry := Aside0.mk ((Ry.out).below hb)
  replace Rg := Aside0.mk ((Rg.out).below hb)
  replace HB := Aside0.mk (below_step (HB.out) hb)
  clear hb
  go_wp2_with fail
  refine (nat_Cmp.calls k18 _ _ b _ _ a (-1) _ (by exact Rb.out.cells) (by exact Rb.out.le) (by exact Ra.out.cells) (by exact Ra.out.le) E18.out).mono ?_
  rintro e w1 ⟨rfl, hb⟩
  replace Ra := Aside0.mk ((Ra.out).below hb)
  replace Rb := Aside0.mk ((Rb.out).below hb)
  replace Rs := Aside0.mk ((Rs.out).below hb)
  replace Rq := Aside0.mk ((Rq.out).below hb)
  replace Rr := Aside0.mk ((Rr.out).below hb)
  replace Rm := Aside0.mk ((Rm.out).below hb)
  replace Rx := Aside0.mk ((Rx.out).below hb)
  replace Ry := Aside0.mk ((Ry.out).below hb)
  replace Rg := Aside0.mk ((Rg.out).below hb)
  replace HB := Aside0.mk (below_step (HB.out) hb)
  clear hb
  go_wp2_with fail
  refine (nat_Add.calls _ _ s _ _ b t _ (by exact Rs.out.cells) (by exact Rs.out.le) (by exact Rb.out.cells) (by exact Rb.out.le) E19.out).mono ?_
  rintro e w1 ⟨vt, rfl, ot, hb⟩
  replace Ra := Aside0.mk ((Ra.out).below hb)
  replace Rb := Aside0.mk ((Rb.out).below hb)
  replace Rs := Aside0.mk ((Rs.out).below hb)
  replace Rq := Aside0.mk ((Rq.out).below hb)
  replace Rr := Aside0.mk ((Rr.out).below hb)
  replace Rm := Aside0.mk ((Rm.out).below hb)
  replace Rx := Aside0.mk ((Rx.out).below hb)
  replace Ry := Aside0.mk ((Ry.out).below hb)
  replace Rg := Aside0.mk ((Rg.out).below hb)
  replace HB := Aside0.mk (below_step (HB.out) hb)
  obtain ⟨At, ct, et, ht⟩ := Rd.of_R Wt.out ot
  clear ot
  subst et
  have Rt := Aside0.mk ht
  clear ht
  clear hb
  go_wp2_with fail
  refine (tribunalref01_Same.calls k20 _ _ t _ _ a true _ (by exact Rt.out.cells) (by exact Rt.out.le) (by exact Ra.out.cells) (by exact Ra.out.le) E20.out).mono ?_
  rintro e w1 ⟨rfl, hd⟩
  have hb := hd.below
  clear hd
  replace Ra := Aside0.mk ((Ra.out).below hb)
  replace Rb := Aside0.mk ((Rb.out).below hb)
  replace Rs := Aside0.mk ((Rs.out).below hb)
  replace Rq := Aside0.mk ((Rq.out).below hb)
  replace Rr := Aside0.mk ((Rr.out).below hb)
  replace Rm := Aside0.mk ((Rm.out).below hb)
  replace Rx := Aside0.mk ((Rx.out).below hb)
  replace Ry := Aside0.mk ((Ry.out).below hb)
  replace Rg := Aside0.mk ((Rg.out).below hb)
  replace Rt := Aside0.mk ((Rt.out).below hb)
  replace HB := Aside0.mk (below_step (HB.out) hb)
  clear hb
  go_wp2_with fail
  refine (nat_Norm.calls k21 _ _ [0, 0] [] _ (by exact (Rd.lit _ [0, 0] (by decide) (by decide)).cells) (by simp) E21.out).mono ?_
  rintro e w1 ⟨vno4, rfl, ono4, hb⟩
  replace Ra := Aside0.mk ((Ra.out.alloc (.cells #[.int .u32 0, .int .u32 0] 36)).below hb)
  replace Rb := Aside0.mk ((Rb.out.alloc (.cells #[.int .u32 0, .int .u32 0] 36)).below hb)
  replace Rs := Aside0.mk ((Rs.out.alloc (.cells #[.int .u32 0, .int .u32 0] 36)).below hb)
  replace Rq := Aside0.mk ((Rq.out.alloc (.cells #[.int .u32 0, .int .u32 0] 36)).below hb)
  replace Rr := Aside0.mk ((Rr.out.alloc (.cells #[.int .u32 0, .int .u32 0] 36)).below hb)
  replace Rm := Aside0.mk ((Rm.out.alloc (.cells #[.int .u32 0, .int .u32 0] 36)).below hb)
  replace Rx := Aside0.mk ((Rx.out.alloc (.cells #[.int .u32 0, .int .u32 0] 36)).below hb)
  replace Ry := Aside0.mk ((Ry.out.alloc (.cells #[.int .u32 0, .int .u32 0] 36)).below hb)
  replace Rg := Aside0.mk ((Rg.out.alloc (.cells #[.int .u32 0, .int .u32 0] 36)).below hb)
  replace Rt := Aside0.mk ((Rt.out.alloc (.cells #[.int .u32 0, .int .u32 0] 36)).below hb)
  replace HB := Aside0.mk (below_step (below_alloc HB.out (.cells #[.int .u32 0, .int .u32 0] 36)) hb)
  clear hb
  obtain ⟨A9, c9, e9⟩ : ∃ A c, vno4 = .slice A 0 c := Kd.R_slice ono4
  clear ono4
  subst e9
  go_wp2_with fail
  go_ret
  exact ⟨rfl, HB.out⟩
end Go.Proofs.Ytfjcloflebghhaa.G
