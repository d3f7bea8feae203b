/- rat.Sum: the sum of texts' numbers. Condition: each sum on the way has at most 490 limbs above and below. -/
import Derived.Test.YtfnhohpmhpbpmaaDoorGx0
import Derived.Test.YtfnhohpmhpbpmaaDoorGRatText
import Derived.Deep.LoopGhost
import Derived.Lib.Hide
namespace Go.Proofs.YtfnhohpmhpbpmaaDoor.G
open Go.RowKit Go.Proofs.YtfnhohpmhpbpmaaDoorW.PrintWords Go.Proofs.YtfnhohpmhpbpmaaDoorW.PrintLast Go.Proofs.YtfnhohpmhpbpmaaDoorW.PrintMore

/-- The sum of texts' numbers, from r on; none, if one is not right. -/
def sumX : List ByteArray → Rat → Option Rat
  | [], r => some r
  | s :: l, r => (getS s).bind fun x => sumX l (r + valX x)
def sumS (l : List ByteArray) : ByteArray × Int := match sumX l 0 with
  | none => (⟨#[]⟩, 1)
  | some r => toldR r
def smallR (r : Rat) : Bool := decide (sh r.num.natAbs ≤ 490) && decide (sh r.den ≤ 490)
/-- Is each sum on the way small? -/
def okB : List ByteArray → Rat → Bool
  | [], r => smallR r
  | s :: l, r => smallR r && (match getS s with | none => true | some x => okB l (r + valX x))
def rat_Sum.f (l : List ByteArray) : Option (ByteArray × Int) := if l.length ≤ 1000000 ∧ (∀ s ∈ l, small s) ∧ okB l 0 = true then some (sumS l) else none
theorem okB_small {l : List ByteArray} {r : Rat} (h : okB l r = true) : sh r.num.natAbs ≤ 490 ∧ sh r.den ≤ 490 := by
  have key : smallR r = true → sh r.num.natAbs ≤ 490 ∧ sh r.den ≤ 490 := fun g => by
    unfold smallR at g
    rw [Bool.and_eq_true, decide_eq_true_iff, decide_eq_true_iff] at g
    exact g
  cases l with
  | nil => exact key h
  | cons s l => unfold okB at h; rw [Bool.and_eq_true] at h; exact key h.1
theorem sh_add2 {m n k : Nat} (hm : sh m ≤ k) (hn : sh n ≤ k) : sh (m + n) ≤ k + 1 := by
  have h1 := Nat.lt_of_lt_of_le (lt_sh m) (Nat.pow_le_pow_right (by decide) hm)
  have h2 := Nat.lt_of_lt_of_le (lt_sh n) (Nat.pow_le_pow_right (by decide) hn)
  refine sh_le ?_
  rw [Nat.pow_succ]
  omega
theorem addX_small {x y : Num3} (h1 : sh x.2.1 ≤ 490) (h2 : sh x.2.2 ≤ 490) (h3 : sh y.2.1 ≤ 220) (h4 : sh y.2.2 ≤ 220) : sh (addX x y).2.1 ≤ 1000 ∧ sh (addX x y).2.2 ≤ 1000 := by
  have a := sh_mul x.2.1 y.2.2
  have b := sh_mul y.2.1 x.2.2
  have c := sh_mul x.2.2 y.2.2
  refine ⟨?_, Nat.le_trans c (by omega)⟩
  have k1 : sh (x.2.1 * y.2.2) ≤ 710 := by omega
  have k2 : sh (y.2.1 * x.2.2) ≤ 710 := by omega
  show sh (addR x.1 y.1 (x.2.1 * y.2.2) (y.2.1 * x.2.2)).2 ≤ 1000
  unfold addR
  split
  · exact Nat.le_trans (sh_add2 k1 k2) (by omega)
  · split
    · exact Nat.le_trans (sh_mono (Nat.sub_le _ _)) (by omega)
    · exact Nat.le_trans (sh_mono (Nat.sub_le _ _)) (by omega)
theorem short_num (n : Bool) (p q : Nat) (hq : q ≠ 0) : numX (valX (n, p, q)) = (n && decide (p / Nat.gcd p q ≠ 0), p / Nat.gcd p q, q / Nat.gcd p q) := by
  have h := strS_val n p q hq
  have h1 := parts_rat (valX (n, p, q))
  have hna : (if n = true then -(p : Int) else p).natAbs = p := by split <;> omega
  have hg : Nat.gcd q p = Nat.gcd p q := Nat.gcd_comm q p
  have hd : (valX (n, p, q)).den = q / Nat.gcd p q := by
    show (mkRat _ q).den = _
    rw [Rat.den_mkRat, if_neg hq, hna, hg]
  have hnum : (valX (n, p, q)).num = if n = true then -((p / Nat.gcd p q : Nat) : Int) else ((p / Nat.gcd p q : Nat) : Int) := by
    show (mkRat _ q).num = _
    rw [Rat.num_mkRat, if_neg hq, hna, hg]
    split
    · rw [Int.neg_ediv_of_dvd (Int.natCast_dvd_natCast.2 (Nat.gcd_dvd_left p q)), Int.natCast_ediv]
    · rw [Int.natCast_ediv]
  unfold numX
  rw [hd, hnum]
  generalize p / Nat.gcd p q = P
  have e1 : (if n = true then -(P : Int) else (P : Int)).natAbs = P := by split <;> omega
  have e2 : decide ((if n = true then -(P : Int) else (P : Int)) < 0) = (n && decide (P ≠ 0)) := by
    cases n
    · rw [if_neg (by simp), decide_eq_false (show ¬ (P : Int) < 0 by omega)]; rfl
    · rw [if_pos rfl, Bool.true_and, Bool.eq_iff_iff, decide_eq_true_iff, decide_eq_true_iff]; omega
  rw [e1, e2]
/-- v reads as n, and lies nowhere in block g. -/
def Ln (w : World) (g : Nat) (v : Value) (n : Nat) : Prop := Kd.R (Kd.int .u32) 71 w 0 (fun k => k ≠ g) v (limbs n)
theorem Ln.v {w : World} {g : Nat} {v : Value} {n : Nat} (h : Ln w g v n) : Lv w v n := Rd.of_R (wfL_limbs n) h
theorem Ln.below {w w1 : World} {g : Nat} {v : Value} {n : Nat} (h : Ln w g v n) (hb : Below w.heap.size w w1) : Ln w1 g v n := Kd.R_below h hb
theorem Ln.set {w : World} {g i : Nat} {v : Value} {n : Nat} (h : Ln w g v n) (u : Value) : Ln (w.setCell ⟨g, i, none⟩ u) g v n := Kd.R_far h (fun _ hk => hk) u
theorem Ln.set3 {w : World} {g : Nat} {v : Value} {n : Nat} (h : Ln w g v n) (a b c : Value) : Ln (((w.setCell ⟨g, 0, none⟩ a).setCell ⟨g, 1, none⟩ b).setCell ⟨g, 2, none⟩ c) g v n := ((h.set a).set b).set c
theorem Lo.far {w : World} {lo g : Nat} {v : Value} {n : Nat} (h : Lo w lo v n) (hg : g < lo) : Ln w g v n := Kd.R_mono (Kd.R_lower (Kd.R_bound h) (Nat.zero_le _)) (fun k hk e => by have := hk.2.1; omega)
theorem Lo.elder {w : World} {lo : Nat} {v : Value} {n : Nat} (h : Lo w lo v n) : Ln w w.heap.size v n := Kd.R_mono (Kd.R_lower (Kd.R_bound h) (Nat.zero_le _)) (fun k hk e => by have := hk.2.2.1; omega)
/-- Block g holds the number r. -/
def AllAt (w : World) (g : Nat) (r : Rat) : Prop := ∃ A c B d, B3 w g (.bool (decide (r.num < 0))) (.slice A (limbs r.num.natAbs).length c) (.slice B (limbs r.den).length d) ∧ Ln w g (.slice A (limbs r.num.natAbs).length c) r.num.natAbs ∧ Ln w g (.slice B (limbs r.den).length d) r.den
theorem bd_sh {k : Nat} {r : Rat} (h : Bd k r) (hk : k ≤ 4002) : sh r.num.natAbs ≤ 446 ∧ sh r.den ≤ 446 := by
  have key : ∀ n : Nat, n < 10 ^ k → sh n ≤ 446 := by
    intro n hn
    refine Nat.le_trans (sh_le (k := (k + 8) / 9) ?_) (by omega)
    refine Nat.lt_of_lt_of_le hn (Nat.le_trans (Nat.pow_le_pow_right (by decide) (show k ≤ 9 * ((k + 8) / 9) by omega)) ?_)
    rw [Nat.pow_mul]
    exact Nat.pow_le_pow_left (by decide) _
  exact ⟨key _ h.n, key _ h.d⟩
theorem getS_bd {s : ByteArray} {x : Num3} (h : getS s = some x) : Bd s.size (valX x) := by
  obtain ⟨h1, h2, h3⟩ := getS_val h
  unfold getS at h
  split at h
  · rename_i hc
    obtain ⟨hr, _, hq, _⟩ := hc
    obtain rfl := Option.some.inj h
    unfold rightP at hr
    rw [Bool.and_eq_true] at hr
    have hle := partsS_le s
    have l1 := dec_lt hr.1
    have l2 := dec_lt hr.2
    have hs : 1 ≤ s.size := by
      rcases Nat.eq_zero_or_pos s.size with h0 | h0
      · have : (partsS s).2.1.size = 0 := by omega
        have hz := hr.1
        unfold rightS rightL at hz
        have hl := bytesN_length (partsS s).2.1
        rw [this] at hl
        rw [List.eq_nil_of_length_eq_zero hl] at hz
        simp at hz
      · exact h0
    rw [valX_eq]
    refine Bd.of_mk (Nat.ne_of_gt hq) ?_ ?_
    · have : (sgn (partsS s).1 (decN (partsS s).2.1)).natAbs = decN (partsS s).2.1 := by unfold sgn; split <;> omega
      show (sgn (partsS s).1 (decN (partsS s).2.1)).natAbs < _
      rw [this]
      exact Nat.lt_of_lt_of_le l1 (Nat.pow_le_pow_right (by decide) (by omega))
    · exact Nat.lt_of_lt_of_le l2 (Nat.pow_le_pow_right (by decide) (by omega))
  · cases h
theorem drop_at (l : List ByteArray) (i : Nat) (h : i < l.length) : l.drop i = rdOf ByteArray.empty l (i : Int) :: l.drop (i + 1) ∧ rdOf ByteArray.empty l (i : Int) ∈ l := by
  have e : rdOf ByteArray.empty l (i : Int) = l[i] := by simp [rdOf, h]
  rw [e]
  exact ⟨List.drop_eq_getElem_cons h, List.getElem_mem h⟩
set_option maxHeartbeats 4000000 in
set_option maxRecDepth 100000 in
theorem rat_Sum.calls (A0 : Option Addr) (c0 : Nat) (l0 : List ByteArray) (r1 : ByteArray) (r2 : Int) (w : World) (hr0 : Kd.C Kd.string w A0 l0.length l0) (_hc0 : l0.length ≤ c0) (h : rat_Sum.f l0 = some (r1, r2)) :
    Calls Tryd.prog 31 #[.slice A0 l0.length c0] w fun e w' => e = .returned (.tuple #[.string r1, .int .i64 r2]) ∧ Below w.heap.size w w' := by
  unfold rat_Sum.f at h
  by_cases hs : l0.length ≤ 1000000 ∧ (∀ s ∈ l0, small s) ∧ okB l0 0 = true
  case neg => rw [if_neg hs] at h; cases h
  rw [if_pos hs] at h
  have HF := Aside0.mk (Option.some.inj h)
  have HL := Aside0.mk hr0
  obtain ⟨hlen, hsm, hok⟩ := hs
  clear h hr0
  have HS := Aside0.mk hsm
  have HK := Aside0.mk hok
  clear hsm hok
  go_enter Tryd.func31, Tryd.ntmps31
  go_wp2_with fail
  refine (ofOne _).mono ?_
  rintro e w1 ⟨vo, rfl, ho, hb⟩
  obtain ⟨Ao, co, rfl, _⟩ := ho.v
  go_wp2_with fail
  have h0 : limbs 0 = [] := limbs_zero
  have al := below_alloc (Below.refl w1.heap.size w1) (.cells #[.bool false, .slice none 0 0, .slice Ao (limbs 1).length co] 41)
  have HA0 : Aside0 (AllAt (w1.alloc (.cells #[.bool false, .slice none 0 0, .slice Ao (limbs 1).length co] 41)) w1.heap.size 0) := ⟨none, 0, Ao, co, by
      have hB := B3.new w1 (.bool false) (.slice none 0 0) (.slice Ao (limbs 1).length co)
      rw [show (0 : Rat).num.natAbs = 0 from rfl, h0]
      exact hB, by
      unfold Ln
      rw [show (0 : Rat).num.natAbs = 0 from rfl, h0]
      exact Kd.R_nil _ _ _ _ _, ho.elder.below al⟩
  have HB0 := Aside0.mk (below_step hb al)
  have hgw0 := Aside0.mk (show w.heap.size ≤ w1.heap.size from hb.size)
  clear ho hb al h0
  generalize hg : w1.heap.size = g at *
  generalize w1.alloc (.cells #[.bool false, .slice none 0 0, .slice Ao (limbs 1).length co] 41) = W1 at *
  clear hg
  go_loopw [14] (fun s14 wr => ∃ (i : Nat) (r : Rat), i ≤ l0.length ∧ s14 = .int .i64 (i : Int) ∧ Aside0 (AllAt wr g r) ∧ Aside0 (Below w.heap.size w wr) ∧ Aside0 (sumX l0 0 = sumX (l0.drop i) r ∧ okB (l0.drop i) r = true)) (fun s14 _ => l0.length - (intOf s14).toNat)
  case atStart => exact ⟨0, 0, Nat.zero_le _, rfl, HA0, HB0, ⟨rfl, HK.out⟩⟩
  case round =>
    obtain ⟨i, r, hi, rfl, HA, HB, HE⟩ := hrel
    obtain ⟨hsum, hokr⟩ := HE.out
    obtain ⟨hp1, hp2⟩ := okB_small hokr
    obtain ⟨Ag, cg, Bg, dg, hB3, hLp, hLq⟩ := HA.out
    have HU := Aside0.mk hB3
    have HP := Aside0.mk hLp
    have HQ := Aside0.mk hLq
    have RD := Aside0.mk r.den_pos
    have hgw := Aside0.mk (show g < wr.heap.size from blk_lt hB3.blk)
    clear HE HA hB3 hLp hLq
    by_cases hlt : i < l0.length
    · obtain ⟨hd, hmem⟩ := drop_at l0 i hlt
      obtain ⟨ad, eA, hcell⟩ := Kd.at_string HL.out (i : Int) (by omega) (by omega)
      cases eA
      rw [Int.toNat_natCast] at hcell
      replace hcell := (HB.out.cell (World.block_lt_of_cell? w _ hcell)).trans hcell
      have hsm := HS.out _ hmem
      rw [hd] at hsum hokr
      clear hd hmem
      generalize rdOf ByteArray.empty l0 (i : Int) = s at *
      rw [show ∀ t : List ByteArray, sumX (s :: t) r = (getS s).bind fun x => sumX t (r + valX x) from fun _ => rfl] at hsum
      unfold okB at hokr
      rw [Bool.and_eq_true] at hokr
      replace hokr := hokr.2
      have CG := Aside0.mk (fun W => get_calls s hsm W)
      have HSH := Aside0.mk (fun x (h : getS s = some x) => getS_sh h)
      clear hsm
      generalize getS s = X at *
      cases X with
      | none =>
        have HN : Aside0 (sumX l0 0 = none) := ⟨hsum⟩
        replace CG := CG.out
        simp only [Option.isSome_none] at CG
        replace CG := Aside0.mk CG
        clear hsum hokr HSH HP HQ HU
        go_wp2_with fail
        refine (CG.out _).mono ?_
        rintro e w2 ⟨n, A, c, B, d, p, q, rfl, hX, hY, hb, hx⟩
        replace HB := Aside0.mk (below_step HB.out hb)
        clear hX hY hb hx
        go_wp2_with fail
        go_ret2
        exact ⟨by have h := HF.out; unfold sumS at h; rw [HN.out] at h; cases h; rfl, below_alloc HB.out _⟩
      | some x =>
        replace CG := CG.out
        simp only [Option.isSome_some] at CG
        replace CG := Aside0.mk CG
        have hsx := HSH.out x rfl
        have HV := Aside0.mk hsx
        have HSUM : Aside0 (sumX l0 0 = sumX (l0.drop (i + 1)) (r + valX x) ∧ okB (l0.drop (i + 1)) (r + valX x) = true) := ⟨hsum, hokr⟩
        clear hsum hokr HSH hsx
        have HPP := Aside0.mk (And.intro hp1 hp2)
        clear hp1 hp2
        go_wp2_with fail
        refine (CG.out _).mono ?_
        rintro e w2 ⟨n, A, c, B, d, p, q, rfl, hX, hY, hb, hx⟩
        obtain rfl := hx x rfl
        have al := below_alloc (Below.refl w2.heap.size w2) (.cells #[.bool n, .slice A (limbs p).length c, .slice B (limbs q).length d] 41)
        replace HB := Aside0.mk (below_step (below_step HB.out hb) al)
        replace HP := Aside0.mk ((HP.out.below hb).below al)
        replace HQ := Aside0.mk ((HQ.out.below hb).below al)
        replace HU := Aside0.mk ((HU.out.below hb).below al)
        have HX := Aside0.mk (hX.below al)
        have HY := Aside0.mk (hY.below al)
        have HW := Aside0.mk (B3.new w2 (.bool n) (.slice A (limbs p).length c) (.slice B (limbs q).length d))
        have hgw2 := Aside0.mk (show g < w2.heap.size from Nat.lt_of_lt_of_le hgw.out hb.size)
        clear hX hY hb hx al CG
        obtain ⟨x1, x2, x3, x4, x5, x6⟩ := HU.out.cells
        obtain ⟨y1, y2, y3, y4, y5, y6⟩ := HW.out.cells
        obtain ⟨N, P, Q, hadd⟩ : ∃ N P Q, addX (numX r) (n, p, q) = (N, P, Q) := ⟨_, _, _, rfl⟩
        have CA := Aside0.mk (fun W h1 h2 h3 h4 => add_calls (decide (r.num < 0)) n (A := Ag) (B := Bg) (C := A) (D := B) (a := cg) (b := dg) (c := c) (d := d) (p := r.num.natAbs) (q := r.den) (r := p) (s := q) W h1 h2 h3 h4 HPP.out.1 HPP.out.2 (Nat.le_trans HV.out.1 (by decide)) (Nat.le_trans HV.out.2.1 (by decide)))
        have hN : (addR (decide (r.num < 0)) n (r.num.natAbs * q) (p * r.den)).1 = N := congrArg (fun z => z.1) hadd
        have hP : (addR (decide (r.num < 0)) n (r.num.natAbs * q) (p * r.den)).2 = P := congrArg (fun z => z.2.1) hadd
        have hQ : r.den * q = Q := congrArg (fun z => z.2.2) hadd
        have hsm2 := addX_small (x := numX r) (y := (n, p, q)) HPP.out.1 HPP.out.2 HV.out.1 HV.out.2.1
        rw [hadd] at hsm2
        replace CA := CA.out
        rw [hN, hP, hQ] at CA
        replace CA := Aside0.mk CA
        have CS := Aside0.mk (fun (A B : Option Addr) (c d : Nat) (W : World) h1 h2 => short_calls N (A := A) (B := B) (c := c) (d := d) (p := P) (q := Q) W h1 h2 hsm2.1 hsm2.2)
        have hq0 : Q ≠ 0 := by rw [← hQ]; exact Nat.mul_ne_zero (Nat.ne_of_gt RD.out) (Nat.ne_of_gt HV.out.2.2)
        have hval : valX (N, P, Q) = r + valX (n, p, q) := by rw [← hadd, val_add (numX_den r) (Nat.ne_of_gt HV.out.2.2), numX_val]
        have hnew := short_num N P Q hq0
        rw [hval] at hnew
        generalize r + valX (n, p, q) = r' at *
        have hn1 : (N && decide (P / Nat.gcd P Q ≠ 0)) = decide (r'.num < 0) := (congrArg (fun z => z.1) hnew).symm
        have hn2 : P / Nat.gcd P Q = r'.num.natAbs := (congrArg (fun z => z.2.1) hnew).symm
        have hn3 : Q / Nat.gcd P Q = r'.den := (congrArg (fun z => z.2.2) hnew).symm
        replace CS := CS.out
        rw [hn1, hn2, hn3] at CS
        replace CS := Aside0.mk CS
        clear hN hP hQ hsm2 hq0 hval hnew hn1 hn2 hn3 hadd HPP HV RD
        generalize decide (r.num < 0) = rn at *
        generalize r.num.natAbs = rp at *
        generalize r.den = rq at *
        go_wp2_with fail
        refine (CA.out _ HP.out.v HQ.out.v HX.out.v HY.out.v).mono ?_
        rintro e w3 ⟨u, v, rfl, hu, hv, hb⟩
        replace HB := Aside0.mk (below_step HB.out hb)
        replace HU := Aside0.mk (HU.out.below hb)
        have hgw3 := Aside0.mk (show g < w3.heap.size from blk_lt HU.out.blk)
        clear hb x1 x2 x3 x4 x5 x6 y1 y2 y3 y4 y5 y6 HX HY HP HQ HW
        obtain ⟨Au, cu, rfl, _⟩ := hu.v
        obtain ⟨Av, cv, rfl, _⟩ := hv.v
        go_wp2_with fail
        refine (CS.out Au Av cu cv _ hu.v hv.v).mono ?_
        rintro e w4 ⟨u', v', rfl, hu', hv', hb⟩
        replace HB := Aside0.mk (below_step HB.out hb)
        replace HU := Aside0.mk (HU.out.below hb)
        obtain ⟨A', c', rfl, _⟩ := hu'.v
        obtain ⟨B', d', rfl, _⟩ := hv'.v
        obtain ⟨x1, x2, x3, x4, x5, x6⟩ := HU.out.cells
        have HX := Aside0.mk (hu'.far hgw3.out)
        have HY := Aside0.mk (hv'.far hgw3.out)
        clear hu hv hu' hv' hb
        go_wp2_with fail
        refine ⟨⟨i + 1, r', by omega, rfl, ⟨A', c', B', d', HU.out.put3 _ _ _, HX.out.set3 _ _ _, HY.out.set3 _ _ _⟩, ⟨below_set3 HB.out hgw0.out _ _ _⟩, HSUM⟩, ?_⟩
        simp [intOf]
        omega
    · have hi' : i = l0.length := by omega
      subst hi'
      rw [List.drop_length] at hsum
      have HR : Aside0 ((r1, r2) = toldR r) := ⟨by rw [← HF.out]; unfold sumS; rw [hsum]; rfl⟩
      have CS := Aside0.mk (fun W h1 h2 => String_calls (decide (r.num < 0)) (A := Ag) (B := Bg) (c := cg) (d := dg) (p := r.num.natAbs) (q := r.den) W h1 h2 (Nat.le_trans hp1 (by decide)) (Nat.le_trans hp2 (by decide)))
      have hS : strS (decide (r.num < 0)) r.num.natAbs r.den = ratS r := by rw [strS_val _ _ _ (Nat.ne_of_gt r.den_pos), val_self]
      rw [hS] at CS
      unfold toldR at HR
      obtain ⟨x1, x2, x3, x4, x5, x6⟩ := HU.out.cells
      clear hS hsum hokr hp1 hp2 RD
      generalize ratS r = R at *
      generalize decide (r.num < 0) = rn at *
      generalize r.num.natAbs = rp at *
      generalize r.den = rq at *
      go_wp2_with fail
      refine (CS.out _ HP.out.v HQ.out.v).mono ?_
      rintro e w4 ⟨rfl, hb⟩
      replace HB := Aside0.mk (below_step HB.out hb)
      clear hb
      by_cases hR : R.size > 1900
      · have g5 : (1900 : Int) < (R.size : Int) := by omega
        replace HR : Aside0 ((r1, r2) = ((⟨#[]⟩ : ByteArray), (2 : Int))) := ⟨by rw [HR.out, if_pos hR]⟩
        clear hR
        go_wp2_with fail
        go_ret2
        exact ⟨by have h := HR.out; cases h; rfl, HB.out⟩
      · have g5 : ¬ (1900 : Int) < (R.size : Int) := by omega
        replace HR : Aside0 ((r1, r2) = (R, (0 : Int))) := ⟨by rw [HR.out, if_neg hR]⟩
        clear hR
        go_wp2_with fail
        go_ret2
        exact ⟨by have h := HR.out; cases h; rfl, HB.out⟩
end Go.Proofs.YtfnhohpmhpbpmaaDoor.G
