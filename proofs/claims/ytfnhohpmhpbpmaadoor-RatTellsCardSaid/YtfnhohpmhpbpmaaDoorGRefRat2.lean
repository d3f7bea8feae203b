/- The reference's numbers: sums, a text's number, order, and the exported functions, told in the same words as rat's. Condition: texts of at most 2^61 bytes. -/
import Derived.Test.YtfnhohpmhpbpmaaDoorGx0
import Derived.Test.YtfnhohpmhpbpmaaDoorGRefRat
namespace Go.Proofs.YtfnhohpmhpbpmaaDoor.G
open Go.RowKit Go.Proofs.YtfnhohpmhpbpmaaDoorW.PrintWords Go.Proofs.YtfnhohpmhpbpmaaDoorW.PrintLast Go.Proofs.YtfnhohpmhpbpmaaDoorW.PrintMore

set_option maxHeartbeats 4000000 in
set_option maxRecDepth 100000 in
theorem rsum_calls (n m : Bool) {A B C D : Option Addr} {a b c d p q r s : Nat} (w : World) (hp : Lv w (.slice A (limbs p).length a) p) (hq : Lv w (.slice B (limbs q).length b) q) (hr : Lv w (.slice C (limbs r).length c) r) (hs : Lv w (.slice D (limbs s).length d) s)
    (lp : sh p ≤ 490) (lq : sh q ≤ 490) (lr : sh r ≤ 490) (ls : sh s ≤ 490) :
    Calls Tryd.prog 43 #[.agg #[.bool n, .slice A (limbs p).length a, .slice B (limbs q).length b], .agg #[.bool m, .slice C (limbs r).length c, .slice D (limbs s).length d]] w fun e w' =>
      ∃ u v, e = .returned (.agg #[.bool (addR n m (p * s) (r * q)).1, u, v]) ∧ Lo w' w.heap.size u (addR n m (p * s) (r * q)).2 ∧ Lo w' w.heap.size v (q * s) ∧ Below w.heap.size w w' := by
  have HP := Aside0.mk hp
  have HQ := Aside0.mk hq
  have HR := Aside0.mk hr
  have HS := Aside0.mk hs
  have lps : sh (p * s) ≤ 1000 := by have := sh_mul p s; omega
  have lrq : sh (r * q) ≤ 1000 := by have := sh_mul r q; omega
  replace lp : sh p ≤ 1000 := by omega
  replace lq : sh q ≤ 1000 := by omega
  replace lr : sh r ≤ 1000 := by omega
  replace ls : sh s ≤ 1000 := by omega
  clear hp hq hr hs
  go_enter Tryd.func43, Tryd.ntmps43
  go_upto_region 1 with (fail)
  go_cut [5, 6, 7] (fun v5 v6 v7 W => ∃ (Ax Ay Az : Option Addr) (cx cy cz : Nat), v5 = .slice Ax (limbs (p * s)).length cx ∧ v6 = .slice Ay (limbs (r * q)).length cy ∧ v7 = .slice Az (limbs (q * s)).length cz ∧
    Aside0 (Lo W (w.heap.size + 3) v5 (p * s)) ∧ Aside0 (Lo W (w.heap.size + 3) v6 (r * q)) ∧ Aside0 (Lo W (w.heap.size + 3) v7 (q * s)) ∧ Aside0 (Duo w W (.bool n) (.slice A (limbs p).length a) (.slice B (limbs q).length b) (.bool m) (.slice C (limbs r).length c) (.slice D (limbs s).length d) (.bool false) (.slice none 0 0) (.slice none 0 0)))
  case first =>
    rename_i J0 K0 hJ0 hK0
    have T := Duo.start w (.bool n) (.slice A (limbs p).length a) (.slice B (limbs q).length b) (.bool m) (.slice C (limbs r).length c) (.slice D (limbs s).length d) (.bool false) (.slice none 0 0) (.slice none 0 0)
    go_wp2_with fail
    refine (rover_calls n m (p := p) (q := q) (r := r) (s := s) _ (HP.out.below T.hb) (HQ.out.below T.hb) (HR.out.below T.hb) (HS.out.below T.hb) lp lq lr ls).mono ?_
    rintro e W ⟨u, v, z, rfl, hu, hv, hz, hb⟩
    obtain ⟨Ax, cx, rfl, _⟩ := hu.v
    obtain ⟨Ay, cy, rfl, _⟩ := hv.v
    obtain ⟨Az, cz, rfl, _⟩ := hz.v
    have HX := Aside0.mk (hu.lower T.size)
    have HY := Aside0.mk (hv.lower T.size)
    have HZ := Aside0.mk (hz.lower T.size)
    have HU := Aside0.mk (T.below hb)
    clear hb hu hv hz T
    go_wp2_with fail
    refine Met.intro (hJ0 _ _ ?_)
    (repeat apply Exists.intro)
    refine ⟨?rel, rfl⟩
    case rel => exact ⟨Ax, Ay, Az, cx, cy, cz, rfl, rfl, rfl, HX, HY, HZ, HU⟩
  case rest =>
    obtain ⟨Ax, Ay, Az, cx, cy, cz, rfl, rfl, rfl, HX, HY, HZ, HU⟩ := hcut
    obtain ⟨x1, x2, x3, x4, x5, x6⟩ := HU.out.six
    by_cases hnm : n = m
    · subst hnm
      have HA : Aside0 (addR n n (p * s) (r * q) = (n, p * s + r * q)) := ⟨by unfold addR; rw [if_pos rfl]⟩
      go_wp2_with fail
      replace HX := Aside0.mk HX.out.drew
      replace HY := Aside0.mk HY.out.drew
      replace HZ := Aside0.mk HZ.out.drew
      replace HU := Aside0.mk HU.out.drew
      go_region_held3 (fun W' => (W'.cell? ⟨w.heap.size, 0, none⟩ = some (.bool n)))
        (first | exact HU.out.p.cells.1 | exact (HU.out.p.far3 (by omega) _ _ _).cells.1)
        (first | ((with_reducible refine (rAddN (m := p * s) (n := r * q) _ HX.out.v HY.out.v lps lrq).mono ?_); rintro e wn ⟨u, rfl, hu, hb⟩; obtain ⟨Au, cu, rfl, _⟩ := hu.v; replace HZ := Aside0.mk (HZ.out.below hb); have HE := Aside0.mk (hu.lower HU.out.size); replace HU := Aside0.mk (HU.out.below hb); clear hb hu; obtain ⟨y1, y2, y3, y4, y5, y6⟩ := HU.out.r.cells))
      all_goals
        go_wp2_with fail
        refine bodyPost_ret (results_cell_row rfl _ _ (w.heap.size + 1 + 1) 48 _ (0, 0) _ rfl (HU.out.r.put3 _ _ _).blk Tryd.underlying48 rfl (by kernel_rfl)) rfl ?_
        rw [HA.out]
        exact ⟨.slice Au (limbs (p * s + r * q)).length cu, .slice Az (limbs (q * s)).length cz, rfl, (HE.out.set3 (by omega) _ _ _).lower (by omega), (HZ.out.set3 (by omega) _ _ _).lower (by omega), below_set3 HU.out.hb (by omega) _ _ _⟩
    · have hnm1 : (n == m) = false := by simpa using hnm
      by_cases hlt : p * s < r * q
      · have HA : Aside0 (addR n m (p * s) (r * q) = (m, r * q - p * s)) := ⟨by unfold addR; rw [if_neg hnm, if_pos hlt]⟩
        have hd : (!decide (p * s < r * q)) = false := by rw [decide_eq_true hlt]; rfl
        go_wp2_with fail
        refine (rSubN _ HX.out.v HY.out.v lps lrq).mono ?_
        rintro e w1 ⟨u, rfl, hu, hb⟩
        rw [hd]
        obtain ⟨Au, cu, rfl, _⟩ := hu.v
        (replace HX := Aside0.mk (HX.out.below hb)); (replace HY := Aside0.mk (HY.out.below hb)); (replace HZ := Aside0.mk (HZ.out.below hb))
        replace HU := Aside0.mk (HU.out.below hb)
        clear hb hu x1 x2 x3 x4 x5 x6
        obtain ⟨x1, x2, x3, x4, x5, x6⟩ := HU.out.six
        go_wp2_with fail
        refine (rSubN _ HY.out.v HX.out.v lrq lps).mono ?_
        rintro e w2 ⟨u, rfl, hu, hb⟩
        obtain ⟨Ae, ce, rfl, _⟩ := hu.v
        have HE := Aside0.mk (hu.lower HU.out.size)
        (replace HX := Aside0.mk (HX.out.below hb)); (replace HY := Aside0.mk (HY.out.below hb)); (replace HZ := Aside0.mk (HZ.out.below hb))
        replace HU := Aside0.mk (HU.out.below hb)
        clear hb hu x1 x2 x3 x4 x5 x6
        obtain ⟨x1, x2, x3, x4, x5, x6⟩ := HU.out.six
        obtain ⟨y1, y2, y3, y4, y5, y6⟩ := HU.out.r.cells
        go_wp2_with fail
        refine bodyPost_ret (results_cell_row rfl _ _ (w.heap.size + 1 + 1) 48 _ (0, 0) _ rfl (HU.out.r.put3 _ _ _).blk Tryd.underlying48 rfl (by kernel_rfl)) rfl ?_
        rw [HA.out]
        exact ⟨.slice Ae (limbs (r * q - p * s)).length ce, .slice Az (limbs (q * s)).length cz, rfl, (HE.out.set3 (by omega) _ _ _).lower (by omega), (HZ.out.set3 (by omega) _ _ _).lower (by omega), below_set3 HU.out.hb (by omega) _ _ _⟩
      · have HA : Aside0 (addR n m (p * s) (r * q) = (n, p * s - r * q)) := ⟨by unfold addR; rw [if_neg hnm, if_neg hlt]⟩
        have hd : (!decide (p * s < r * q)) = true := by rw [decide_eq_false hlt]; rfl
        go_wp2_with fail
        refine (rSubN _ HX.out.v HY.out.v lps lrq).mono ?_
        rintro e w1 ⟨u, rfl, hu, hb⟩
        rw [hd]
        obtain ⟨Au, cu, rfl, _⟩ := hu.v
        have HE := Aside0.mk (hu.lower HU.out.size)
        (replace HX := Aside0.mk (HX.out.below hb)); (replace HY := Aside0.mk (HY.out.below hb)); (replace HZ := Aside0.mk (HZ.out.below hb))
        replace HU := Aside0.mk (HU.out.below hb)
        clear hb hu x1 x2 x3 x4 x5 x6
        obtain ⟨x1, x2, x3, x4, x5, x6⟩ := HU.out.six
        obtain ⟨y1, y2, y3, y4, y5, y6⟩ := HU.out.r.cells
        go_wp2_with fail
        refine bodyPost_ret (results_cell_row rfl _ _ (w.heap.size + 1 + 1) 48 _ (0, 0) _ rfl (HU.out.r.put3 _ _ _).blk Tryd.underlying48 rfl (by kernel_rfl)) rfl ?_
        rw [HA.out]
        exact ⟨.slice Au (limbs (p * s - r * q)).length cu, .slice Az (limbs (q * s)).length cz, rfl, (HE.out.set3 (by omega) _ _ _).lower (by omega), (HZ.out.set3 (by omega) _ _ _).lower (by omega), below_set3 HU.out.hb (by omega) _ _ _⟩
set_option maxHeartbeats 4000000 in
set_option maxRecDepth 100000 in
theorem rget_calls (s : ByteArray) (hs : s.size ≤ 2305843009213693951) (w : World) : Calls Tryd.prog 41 #[.string s] w fun e w' =>
    ∃ n A c B d p q, e = .returned (.tuple #[.agg #[.bool n, .slice A (limbs p).length c, .slice B (limbs q).length d], .bool (getS s).isSome]) ∧ Lo w' w.heap.size (.slice A (limbs p).length c) p ∧ Lo w' w.heap.size (.slice B (limbs q).length d) q ∧ Below w.heap.size w w' ∧ (∀ x, getS s = some x → x = (n, p, q)) := by
  have hle := partsS_le s
  have CP := Aside0.mk (fun W => rcut_calls s (by omega) W)
  have CR1 := Aside0.mk (fun W => rRightN (partsS s).2.1 (by omega) W)
  have CR2 := Aside0.mk (fun W => rRightN (partsS s).2.2 (by omega) W)
  have hz : (limbs 0).length = 0 := by rw [limbs_zero]; rfl
  have HNone : Aside0 (∀ (W : World), Lo W w.heap.size (.slice none (limbs 0).length 0) 0) := ⟨fun W => by unfold Lo; rw [hz, limbs_zero]; exact Kd.R_nil _ _ _ _ _⟩
  by_cases hc : rightP s = true ∧ s.size ≤ 1900
  · obtain ⟨hr, hl⟩ := hc
    have hr' := hr
    unfold rightP at hr'
    rw [Bool.and_eq_true] at hr'
    have CA := Aside0.mk (fun W => rParseN (partsS s).2.1 hr'.1 (by omega) W)
    have CB := Aside0.mk (fun W => rParseN (partsS s).2.2 hr'.2 (by omega) W)
    have l1 : sh (decN (partsS s).2.1) ≤ 1000 := by have := sh_len9 hr'.1; omega
    have l2 : sh (decN (partsS s).2.2) ≤ 1000 := by have := sh_len9 hr'.2; omega
    rw [hr'.1] at CR1
    rw [hr'.2] at CR2
    have HG : Aside0 (getS s = if 0 < decN (partsS s).2.2 ∧ strS (partsS s).1 (decN (partsS s).2.1) (decN (partsS s).2.2) = s then some ((partsS s).1, decN (partsS s).2.1, decN (partsS s).2.2) else none) := ⟨by
      unfold getS
      by_cases h : 0 < decN (partsS s).2.2 ∧ strS (partsS s).1 (decN (partsS s).2.1) (decN (partsS s).2.2) = s
      · rw [if_pos h, if_pos ⟨hr, hl, h⟩]
      · rw [if_neg h, if_neg (fun g => h g.2.2)]⟩
    have hl2 : ¬ (1900 : Int) < (s.size : Int) := by omega
    generalize (partsS s).1 = n at *
    generalize decN (partsS s).2.1 = p at *
    generalize decN (partsS s).2.2 = q at *
    generalize (partsS s).2.1 = a at *
    generalize (partsS s).2.2 = b at *
    clear hle hr' hl hr
    go_enter Tryd.func41, Tryd.ntmps41
    go_wp2_with fail
    refine (CP.out _).mono ?_
    rintro e w1 ⟨ci, rfl, hb⟩
    have HU := Aside0.mk (C3.below (C3.new w (.bool false) (.slice none 0 0) (.slice none 0 0)) hb)
    have HB := Aside0.mk (below_step (below_alloc (Below.refl w.heap.size w) (.cells #[.bool false, .slice none 0 0, .slice none 0 0] 48)) hb)
    clear hb CP
    go_wp2_with fail
    refine (CR1.out _).mono ?_
    rintro e w2 ⟨rfl, hb⟩
    replace HU := Aside0.mk (HU.out.below hb)
    replace HB := Aside0.mk (below_step HB.out hb)
    clear hb CR1
    go_wp2_with fail
    refine (CR2.out _).mono ?_
    rintro e w3 ⟨rfl, hb⟩
    replace HU := Aside0.mk (HU.out.below hb)
    replace HB := Aside0.mk (below_step HB.out hb)
    clear hb CR2
    go_wp2_with fail
    refine (CA.out _).mono ?_
    rintro e w4 ⟨z, rfl, hzz, hb⟩
    obtain ⟨A, c, rfl, _⟩ := hzz.v
    have hw3 : w.heap.size + 1 ≤ w3.heap.size := blk_lt HU.out.blk
    replace HU := Aside0.mk (HU.out.below hb)
    replace HB := Aside0.mk (below_step HB.out hb)
    have HX := Aside0.mk (hzz.lower hw3)
    have hw4 : w.heap.size + 1 ≤ w4.heap.size := blk_lt HU.out.blk
    clear hb CA hzz hw3
    go_wp2_with fail
    refine (CB.out _).mono ?_
    rintro e w5 ⟨z, rfl, hzz, hb⟩
    obtain ⟨B, d, rfl, _⟩ := hzz.v
    have al := below_alloc (Below.refl w5.heap.size w5) (.cells #[.bool n, .slice A (limbs p).length c, .slice B (limbs q).length d] 48)
    have HV := Aside0.mk (C3.new w5 (.bool n) (.slice A (limbs p).length c) (.slice B (limbs q).length d))
    have hne := Aside0.mk (show w.heap.size < w5.heap.size from blk_lt (HU.out.below hb).blk)
    replace HU := Aside0.mk ((HU.out.below hb).below al)
    replace HB := Aside0.mk (below_step (below_step HB.out hb) al)
    replace HX := Aside0.mk ((HX.out.below hb).below al)
    have HY := Aside0.mk ((hzz.lower hw4).below al)
    clear hb CB hzz hw4 al
    have CT := Aside0.mk (fun (W : World) h1 h2 (q0 : q ≠ 0) => rtext_calls n (A := A) (B := B) (c := c) (d := d) (p := p) (q := q) W h1 h2 l1 l2 q0)
    generalize strS n p q = R at *
    obtain ⟨x1, x2, x3, x4, x5, x6⟩ := HU.out.cells
    obtain ⟨y1, y2, y3, y4, y5, y6⟩ := HV.out.cells
    by_cases hq : q = 0
    · have HE : Aside0 (getS s = none) := ⟨by rw [HG.out, if_neg (fun h => by omega)]⟩
      have g1 : ((((limbs q).length : Nat) : Int) == 0) = true := by rw [hq, hz]; rfl
      have g2 : (((limbs q).length : Nat) == 0) = true := by rw [hq, hz]; rfl
      clear hq HG CT
      go_wp2_with fail
      have HF := HU.out.put3 (.bool false) (.slice none 0 0) (.slice none 0 0)
      obtain ⟨z1, z2, z3, _, _, _⟩ := HF.cells
      refine bodyPost_ret (v := .tuple #[.agg #[.bool false, .slice none 0 0, .slice none 0 0], .bool false]) (by simp [results, Tryd.results41, go_sem, z1, z2, z3]) rfl ?_
      exact ⟨false, none, 0, none, 0, 0, 0, by rw [hz, HE.out]; rfl, HNone.out _, HNone.out _, below_set3 HB.out (Nat.le_refl _) _ _ _, fun x hx => by rw [HE.out] at hx; cases hx⟩
    · have HQ := Aside0.mk hq
      have hp := (limbs_len0 q).2 hq
      have g1 : ((((limbs q).length : Nat) : Int) == 0) = false := by rw [beq_eq_false_iff_ne]; omega
      have g2 : (((limbs q).length : Nat) == 0) = false := by rw [beq_eq_false_iff_ne]; omega
      clear hq hp
      go_wp2_with fail
      refine (CT.out _ HX.out.v HY.out.v HQ.out).mono ?_
      rintro e w6 ⟨rfl, hb⟩
      replace HU := Aside0.mk (HU.out.below hb)
      replace HV := Aside0.mk (HV.out.below hb)
      replace HX := Aside0.mk (HX.out.below hb)
      replace HY := Aside0.mk (HY.out.below hb)
      replace HB := Aside0.mk (below_step HB.out hb)
      clear hb CT x1 x2 x3 x4 x5 x6 y1 y2 y3 y4 y5 y6
      obtain ⟨x1, x2, x3, x4, x5, x6⟩ := HU.out.cells
      obtain ⟨y1, y2, y3, y4, y5, y6⟩ := HV.out.cells
      by_cases hr : R = s
      · have HE : Aside0 (getS s = some (n, p, q)) := ⟨by rw [HG.out, if_pos ⟨Nat.pos_of_ne_zero HQ.out, hr⟩]⟩
        have e1 : (R.toList == s.toList) = true := by rw [hr]; simp
        clear hr HG
        go_wp2_with fail
        have HF := HU.out.put3 (.bool n) (.slice A (limbs p).length c) (.slice B (limbs q).length d)
        obtain ⟨z1, z2, z3, _, _, _⟩ := HF.cells
        refine bodyPost_ret (v := .tuple #[.agg #[.bool n, .slice A (limbs p).length c, .slice B (limbs q).length d], .bool true]) (by simp [results, Tryd.results41, go_sem, z1, z2, z3]) rfl ?_
        exact ⟨n, A, c, B, d, p, q, by rw [HE.out]; rfl, (HX.out.set3 (by omega) _ _ _).lower (by omega), (HY.out.set3 (by omega) _ _ _).lower (by omega), below_set3 HB.out (Nat.le_refl _) _ _ _, fun x hx => by rw [HE.out] at hx; exact (Option.some.inj hx).symm⟩
      · have HE : Aside0 (getS s = none) := ⟨by rw [HG.out, if_neg (fun h => hr h.2)]⟩
        have e1 : (R.toList == s.toList) = false := by rw [beq_eq_false_iff_ne]; exact fun h => hr (toList_inj.1 h)
        clear hr HG
        go_wp2_with fail
        have HF := HU.out.put3 (.bool false) (.slice none 0 0) (.slice none 0 0)
        obtain ⟨z1, z2, z3, _, _, _⟩ := HF.cells
        refine bodyPost_ret (v := .tuple #[.agg #[.bool false, .slice none 0 0, .slice none 0 0], .bool false]) (by simp [results, Tryd.results41, go_sem, z1, z2, z3]) rfl ?_
        exact ⟨false, none, 0, none, 0, 0, 0, by rw [hz, HE.out]; rfl, HNone.out _, HNone.out _, below_set3 HB.out (Nat.le_refl _) _ _ _, fun x hx => by rw [HE.out] at hx; cases hx⟩
  · have HE : Aside0 (getS s = none) := ⟨by unfold getS; rw [if_neg (fun h => hc ⟨h.1, h.2.1⟩)]⟩
    have HR : Aside0 (rightP s = (rightS (partsS s).2.1 && rightS (partsS s).2.2)) := ⟨rfl⟩
    by_cases hl : (1900 : Int) < (s.size : Int)
    · generalize (partsS s).1 = n at *
      generalize (partsS s).2.1 = a at *
      generalize (partsS s).2.2 = b at *
      clear hc CR1 CR2 hle HR
      go_enter Tryd.func41, Tryd.ntmps41
      go_wp2_with fail
      refine (CP.out _).mono ?_
      rintro e w1 ⟨ci, rfl, hb⟩
      have HU := Aside0.mk (C3.below (C3.new w (.bool false) (.slice none 0 0) (.slice none 0 0)) hb)
      have HB := Aside0.mk (below_step (below_alloc (Below.refl w.heap.size w) (.cells #[.bool false, .slice none 0 0, .slice none 0 0] 48)) hb)
      clear hb CP
      obtain ⟨x1, x2, x3, x4, x5, x6⟩ := HU.out.cells
      go_wp2_with fail
      have HF := HU.out.put3 (.bool false) (.slice none 0 0) (.slice none 0 0)
      obtain ⟨z1, z2, z3, _, _, _⟩ := HF.cells
      refine bodyPost_ret (v := .tuple #[.agg #[.bool false, .slice none 0 0, .slice none 0 0], .bool false]) (by simp [results, Tryd.results41, go_sem, z1, z2, z3]) rfl ?_
      exact ⟨false, none, 0, none, 0, 0, 0, by rw [hz, HE.out]; rfl, HNone.out _, HNone.out _, below_set3 HB.out (Nat.le_refl _) _ _ _, fun x hx => by rw [HE.out] at hx; cases hx⟩
    · have hrp : rightP s ≠ true := fun h => hc ⟨h, by omega⟩
      rw [HR.out] at hrp
      cases ha : rightS (partsS s).2.1
      · rw [ha] at CR1
        generalize (partsS s).1 = n at *
        generalize (partsS s).2.1 = a at *
        generalize (partsS s).2.2 = b at *
        clear hc CR2 hle HR hrp ha
        go_enter Tryd.func41, Tryd.ntmps41
        go_wp2_with fail
        refine (CP.out _).mono ?_
        rintro e w1 ⟨ci, rfl, hb⟩
        have HU := Aside0.mk (C3.below (C3.new w (.bool false) (.slice none 0 0) (.slice none 0 0)) hb)
        have HB := Aside0.mk (below_step (below_alloc (Below.refl w.heap.size w) (.cells #[.bool false, .slice none 0 0, .slice none 0 0] 48)) hb)
        clear hb CP
        go_wp2_with fail
        refine (CR1.out _).mono ?_
        rintro e w2 ⟨rfl, hb⟩
        replace HU := Aside0.mk (HU.out.below hb)
        replace HB := Aside0.mk (below_step HB.out hb)
        clear hb CR1
        obtain ⟨x1, x2, x3, x4, x5, x6⟩ := HU.out.cells
        go_wp2_with fail
        have HF := HU.out.put3 (.bool false) (.slice none 0 0) (.slice none 0 0)
        obtain ⟨z1, z2, z3, _, _, _⟩ := HF.cells
        refine bodyPost_ret (v := .tuple #[.agg #[.bool false, .slice none 0 0, .slice none 0 0], .bool false]) (by simp [results, Tryd.results41, go_sem, z1, z2, z3]) rfl ?_
        exact ⟨false, none, 0, none, 0, 0, 0, by rw [hz, HE.out]; rfl, HNone.out _, HNone.out _, below_set3 HB.out (Nat.le_refl _) _ _ _, fun x hx => by rw [HE.out] at hx; cases hx⟩
      · have hb2 : rightS (partsS s).2.2 = false := by
          rw [ha, Bool.true_and] at hrp
          simpa using hrp
        rw [ha] at CR1
        rw [hb2] at CR2
        generalize (partsS s).1 = n at *
        generalize (partsS s).2.1 = a at *
        generalize (partsS s).2.2 = b at *
        clear hc hle HR hrp ha hb2
        go_enter Tryd.func41, Tryd.ntmps41
        go_wp2_with fail
        refine (CP.out _).mono ?_
        rintro e w1 ⟨ci, rfl, hb⟩
        have HU := Aside0.mk (C3.below (C3.new w (.bool false) (.slice none 0 0) (.slice none 0 0)) hb)
        have HB := Aside0.mk (below_step (below_alloc (Below.refl w.heap.size w) (.cells #[.bool false, .slice none 0 0, .slice none 0 0] 48)) hb)
        clear hb CP
        go_wp2_with fail
        refine (CR1.out _).mono ?_
        rintro e w2 ⟨rfl, hb⟩
        replace HU := Aside0.mk (HU.out.below hb)
        replace HB := Aside0.mk (below_step HB.out hb)
        clear hb CR1
        go_wp2_with fail
        refine (CR2.out _).mono ?_
        rintro e w3 ⟨rfl, hb⟩
        replace HU := Aside0.mk (HU.out.below hb)
        replace HB := Aside0.mk (below_step HB.out hb)
        clear hb CR2
        obtain ⟨x1, x2, x3, x4, x5, x6⟩ := HU.out.cells
        go_wp2_with fail
        have HF := HU.out.put3 (.bool false) (.slice none 0 0) (.slice none 0 0)
        obtain ⟨z1, z2, z3, _, _, _⟩ := HF.cells
        refine bodyPost_ret (v := .tuple #[.agg #[.bool false, .slice none 0 0, .slice none 0 0], .bool false]) (by simp [results, Tryd.results41, go_sem, z1, z2, z3]) rfl ?_
        exact ⟨false, none, 0, none, 0, 0, 0, by rw [hz, HE.out]; rfl, HNone.out _, HNone.out _, below_set3 HB.out (Nat.le_refl _) _ _ _, fun x hx => by rw [HE.out] at hx; cases hx⟩
end Go.Proofs.YtfnhohpmhpbpmaaDoor.G
