/- Numbers in memory: a row of limbs that reads as a number; each function of nat, digits told in numbers. Conditions: few limbs. The methods of rat's numbers: mul, add, sub, div, String. Conditions: few limbs. rat's numbers as texts: String. Conditions: few limbs. rat.parts, of, get: a text's parts, and its number. Condition: a text of at most 2^61 bytes. -/
import Derived.Test.YtfnhohpmhpbpmaaDoorGx0
import Derived.Test.YtfnhohpmhpbpmaaDoorGx7
import Derived.Test.YtfnhohpmhpbpmaaDoorGNatAdd
import Derived.Test.YtfnhohpmhpbpmaaDoorGNatSub
import Derived.Test.YtfnhohpmhpbpmaaDoorGx8
import Derived.Test.YtfnhohpmhpbpmaaDoorGDigText
import Derived.Test.YtfnhohpmhpbpmaaDoorGDigParse
import Derived.Test.YtfnhohpmhpbpmaaDoorGDigRight
import Derived.Test.YtfnhohpmhpbpmaaDoorGx1
import Derived.Test.YtfnhohpmhpbpmaaDoorGStrCut
import Derived.Test.YtfnhohpmhpbpmaaDoorGNatNum
import Derived.Test.YtfnhohpmhpbpmaaDoorGNatSh
import Derived.Test.YtfnhohpmhpbpmaaDoorGDigDec
import Derived.Deep.RegionHeld3
import Derived.Lib.Hide
import Derived.Deep.RegionWith
namespace Go.Proofs.YtfnhohpmhpbpmaaDoor.G
open Go.RowKit Go.Proofs.YtfnhohpmhpbpmaaDoorW.PrintWords Go.Proofs.YtfnhohpmhpbpmaaDoorW.PrintLast Go.Proofs.YtfnhohpmhpbpmaaDoorW.PrintMore

/-- v reads as the number n in w. -/
def Lv (w : World) (v : Value) (n : Nat) : Prop := ∃ A c, v = .slice A (limbs n).length c ∧ Rd w A c (limbs n)
/-- The same; what it lies in is from block lo on. -/
def Lo (w : World) (lo : Nat) (v : Value) (n : Nat) : Prop := Kd.R (Kd.int .u32) 71 w lo (fun _ => True) v (limbs n)
theorem Lo.v {w : World} {lo : Nat} {v : Value} {n : Nat} (h : Lo w lo v n) : Lv w v n := Rd.of_R (wfL_limbs n) h
theorem Lo.below {w w1 : World} {lo : Nat} {v : Value} {n : Nat} (h : Lo w lo v n) (hb : Below w.heap.size w w1) : Lo w1 lo v n := Kd.R_below h hb
theorem Lo.lower {w : World} {lo lo' : Nat} {v : Value} {n : Nat} (h : Lo w lo v n) (hl : lo' ≤ lo) : Lo w lo' v n := Kd.R_lower h hl
theorem Lo.set {w : World} {lo : Nat} {v : Value} {n : Nat} (h : Lo w lo v n) {p : Addr} (hp : p.block < lo) (u : Value) : Lo (w.setCell p u) lo v n :=
  Kd.R_mono (Kd.R_far (Kd.R_bound h) (fun k hk e => by have := hk.2.1; omega) u) (fun _ _ => trivial)
theorem Lv.below {w w1 : World} {v : Value} {n : Nat} (h : Lv w v n) (hb : Below w.heap.size w w1) : Lv w1 v n := by
  obtain ⟨A, c, e, r⟩ := h
  exact ⟨A, c, e, r.below hb⟩
theorem Lv.nil (w : World) : Lv w (.slice none 0 0) 0 := ⟨none, 0, by rw [limbs_zero]; rfl, by rw [limbs_zero]; exact Rd.nil w⟩
section
variable {u v : Value} {m n : Nat} (w : World) (hu : Lv w u m) (hv : Lv w v n) (hm : sh m ≤ 1000) (hn : sh n ≤ 1000)
include hu hv hm hn
theorem mulN : Calls Tryd.prog 64 #[u, v] w fun e w' => ∃ z, e = .returned z ∧ Lo w' w.heap.size z (m * n) ∧ Below w.heap.size w w' := by
  obtain ⟨A, c, rfl, r⟩ := hu
  obtain ⟨B, d, rfl, s⟩ := hv
  obtain ⟨k, h⟩ := (nMul hm hn).rounds
  exact nat_Mul.calls k A c _ B d _ _ w r.cells r.le s.cells s.le h
theorem addN : Calls Tryd.prog 65 #[u, v] w fun e w' => ∃ z, e = .returned z ∧ Lo w' w.heap.size z (m + n) ∧ Below w.heap.size w w' := by
  obtain ⟨A, c, rfl, r⟩ := hu
  obtain ⟨B, d, rfl, s⟩ := hv
  obtain ⟨k, h⟩ := (nAdd hm hn).rounds
  exact nat_Add.calls A c _ B d _ _ w r.cells r.le s.cells s.le h
theorem gcdN : Calls Tryd.prog 69 #[u, v] w fun e w' => ∃ z, e = .returned z ∧ Lo w' w.heap.size z (Nat.gcd m n) ∧ Below w.heap.size w w' := by
  obtain ⟨A, c, rfl, r⟩ := hu
  obtain ⟨B, d, rfl, s⟩ := hv
  obtain ⟨k, h⟩ := (nGcd hm hn).rounds
  exact nat_Gcd.calls k A c _ B d _ _ w r.cells r.le s.cells s.le h
theorem subN : Calls Tryd.prog 66 #[u, v] w fun e w' => ∃ z, e = .returned (.tuple #[z, .bool (!decide (m < n))]) ∧ Lo w' w.heap.size z (m - n) ∧ Below w.heap.size w w' := by
  obtain ⟨A, c, rfl, r⟩ := hu
  obtain ⟨B, d, rfl, s⟩ := hv
  obtain ⟨k, h⟩ := (nSub hm hn).rounds
  have e : subR m n = (limbs (m - n), !decide (m < n)) := by
    unfold subR
    by_cases hlt : m < n
    · rw [if_pos hlt, show m - n = 0 by omega, limbs_zero, decide_eq_true hlt]; rfl
    · rw [if_neg hlt, decide_eq_false hlt]; rfl
  rw [e] at h
  exact nat_Sub.calls A c _ B d _ _ _ w r.cells r.le s.cells s.le h
theorem divN : Calls Tryd.prog 70 #[u, v] w fun e w' => ∃ z x, e = .returned (.tuple #[z, x, .bool (!decide (n = 0))]) ∧ Lo w' w.heap.size z (m / n) ∧ Below w.heap.size w w' := by
  obtain ⟨A, c, rfl, r⟩ := hu
  obtain ⟨B, d, rfl, s⟩ := hv
  obtain ⟨k, h⟩ := (nDiv hm hn).rounds
  obtain ⟨y, e⟩ : ∃ y, divR m n = (limbs (m / n), y, !decide (n = 0)) := by
    unfold divR
    by_cases h0 : n = 0
    · rw [if_pos h0, h0, Nat.div_zero, limbs_zero]; exact ⟨_, rfl⟩
    · rw [if_neg h0, decide_eq_false h0]; exact ⟨_, rfl⟩
  rw [e] at h
  refine (nat_Div.calls k A c _ B d _ _ _ _ w r.cells r.le s.cells s.le h).mono ?_
  rintro e w' ⟨z, x, rfl, hz, _, hb⟩
  exact ⟨z, x, rfl, Kd.R_mono hz (fun _ _ => trivial), hb⟩
theorem cmpN_calls : Calls Tryd.prog 58 #[u, v] w fun e w' => e = .returned (.int .i64 (cmpN m n)) ∧ Below w.heap.size w w' := by
  obtain ⟨A, c, rfl, r⟩ := hu
  obtain ⟨B, d, rfl, s⟩ := hv
  obtain ⟨k, h⟩ := (nCmp hm hn).rounds
  exact nat_Cmp.calls k A c _ B d _ _ w r.cells r.le s.cells s.le h
end
theorem ofN_calls (n : Nat) (hn : n < 18446744073709551616) (w : World) : Calls Tryd.prog 52 #[.int .u64 (n : Int)] w fun e w' => ∃ z, e = .returned z ∧ Lo w' w.heap.size z n ∧ Below w.heap.size w w' := by
  obtain ⟨k, h⟩ := (nat_Of_is (n : Int) (by omega) (by omega)).rounds
  rw [Int.toNat_natCast] at h
  exact nat_Of.calls k _ _ w h
theorem ofOne (w : World) : Calls Tryd.prog 52 #[.int .u64 1] w fun e w' => ∃ z, e = .returned z ∧ Lo w' w.heap.size z 1 ∧ Below w.heap.size w w' := ofN_calls 1 (by decide) w
theorem textN {u : Value} {n : Nat} (w : World) (hu : Lv w u n) (hn : sh n ≤ 1000) : Calls Tryd.prog 57 #[u] w fun e w' => e = .returned (.string (textS n)) ∧ Below w.heap.size w w' := by
  obtain ⟨A, c, rfl, r⟩ := hu
  exact digits_Text.calls A c _ _ w r.cells r.le (by unfold digits_Text.f; rw [if_pos ⟨wfL_limbs n, hn⟩, valN_limbs])
theorem rightN (s : ByteArray) (hs : s.size ≤ 4611686018427387904) (w : World) : Calls Tryd.prog 55 #[.string s] w fun e w' => e = .returned (.bool (rightS s)) ∧ Below w.heap.size w w' :=
  digits_Right.calls s _ w (by unfold digits_Right.f; rw [if_pos hs])
theorem parseN (s : ByteArray) (hr : rightS s = true) (hs : s.size ≤ 1900) (w : World) : Calls Tryd.prog 56 #[.string s] w fun e w' => ∃ z, e = .returned (.tuple #[z, .int .i64 0]) ∧ Lo w' w.heap.size z (decN s) ∧ Below w.heap.size w w' :=
  digits_Parse.calls s _ _ w (by unfold digits_Parse.f; rw [if_pos (by omega), parse_ok hr hs])
set_option maxHeartbeats 1000000 in
set_option maxRecDepth 100000 in
theorem negative_any (n : Bool) (A B : Option Addr) (i j c d : Nat) (w : World) :
    Calls Tryd.prog 68 #[.agg #[.bool n, .slice A i c, .slice B j d]] w fun e w' => e = .returned (.agg #[.bool (!n), .slice A i c, .slice B j d]) ∧ Below w.heap.size w w' := by
  go_enter Tryd.func68, Tryd.ntmps68
  go_wp2_with fail
  refine bodyPost_ret (v := .agg #[.bool (!n), .slice A i c, .slice B j d]) (by simp [results, Tryd.results68, go_sem]) rfl ⟨rfl, ?_⟩
  exact below_alloc (below_alloc (Below.refl _ _) _) _
theorem limbs_len0 (n : Nat) : 0 < (limbs n).length ↔ n ≠ 0 := by
  by_cases h : n = 0
  · rw [h, limbs_zero]; simp
  · rw [limbs_pos h]; simp [h]
theorem alloc_size (w : World) (o : Obj) : (w.alloc o).heap.size = w.heap.size + 1 := by simp
/-- The three cells of a number's block: what they hold; none may not be written. -/
structure B3 (w : World) (g : Nat) (a b c : Value) : Prop where
  blk : w.heap[g]? = some (.cells #[a, b, c] 41 (0, 0))
theorem B3.cells {w : World} {g : Nat} {a b c : Value} (h : B3 w g a b c) : w.cell? ⟨g, 0, none⟩ = some a ∧ w.cell? ⟨g, 1, none⟩ = some b ∧ w.cell? ⟨g, 2, none⟩ = some c ∧ w.frozen? ⟨g, 0, none⟩ = false ∧ w.frozen? ⟨g, 1, none⟩ = false ∧ w.frozen? ⟨g, 2, none⟩ = false :=
  ⟨(blk_cell h.blk 0).trans rfl, (blk_cell h.blk 1).trans rfl, (blk_cell h.blk 2).trans rfl, blk_frozen h.blk 0, blk_frozen h.blk 1, blk_frozen h.blk 2⟩
theorem B3.below {w w1 : World} {g : Nat} {a b c : Value} (h : B3 w g a b c) (hb : Below w.heap.size w w1) : B3 w1 g a b c := ⟨blk_below h.blk hb⟩
theorem B3.first (w : World) (a b c : Value) (o : Obj) : B3 ((w.alloc (.cells #[a, b, c] 41)).alloc o) w.heap.size a b c := ⟨blk_alloc (blk_new _ _) _⟩
theorem B3.last (w : World) (a b c : Value) (o : Obj) : B3 ((w.alloc o).alloc (.cells #[a, b, c] 41)) (w.heap.size + 1) a b c := ⟨by have h := blk_new (w.alloc o) (.cells #[a, b, c] 41); rwa [alloc_size] at h⟩
theorem B3.put0 {w : World} {g : Nat} {a b c : Value} (h : B3 w g a b c) (u : Value) : B3 (w.setCell ⟨g, 0, none⟩ u) g u b c := ⟨blk_put h.blk 0 u rfl⟩
theorem B3.put1 {w : World} {g : Nat} {a b c : Value} (h : B3 w g a b c) (u : Value) : B3 (w.setCell ⟨g, 1, none⟩ u) g a u c := ⟨blk_put h.blk 1 u rfl⟩
theorem B3.put2 {w : World} {g : Nat} {a b c : Value} (h : B3 w g a b c) (u : Value) : B3 (w.setCell ⟨g, 2, none⟩ u) g a b u := ⟨blk_put h.blk 2 u rfl⟩
theorem B3.far {w : World} {g : Nat} {a b c : Value} (h : B3 w g a b c) {p : Addr} (hp : g ≠ p.block) (u : Value) : B3 (w.setCell p u) g a b c := ⟨blk_far h.blk hp u⟩
theorem two_new {w w1 : World} {o1 o2 : Obj} (hb : Below ((w.alloc o1).alloc o2).heap.size ((w.alloc o1).alloc o2) w1) : Below w.heap.size w w1 := below_step (below_alloc (below_alloc (Below.refl _ _) _) _) hb
set_option maxHeartbeats 2000000 in
set_option maxRecDepth 100000 in
theorem short_calls (n : Bool) {A B : Option Addr} {c d p q : Nat} (w : World) (hp : Lv w (.slice A (limbs p).length c) p) (hq : Lv w (.slice B (limbs q).length d) q) (lp : sh p ≤ 1000) (lq : sh q ≤ 1000) :
    Calls Tryd.prog 46 #[.agg #[.bool n, .slice A (limbs p).length c, .slice B (limbs q).length d]] w fun e w' => ∃ u v, e = .returned (.agg #[.bool (n && decide (p / Nat.gcd p q ≠ 0)), u, v]) ∧ Lo w' w.heap.size u (p / Nat.gcd p q) ∧ Lo w' w.heap.size v (q / Nat.gcd p q) ∧ Below w.heap.size w w' := by
  have HP := Aside0.mk hp
  have HQ := Aside0.mk hq
  have lg : sh (Nat.gcd p q) ≤ 1000 := by
    by_cases h0 : p = 0
    · rw [h0, Nat.gcd_zero_left]; exact lq
    · exact Nat.le_trans (sh_mono (Nat.gcd_le_left q (Nat.pos_of_ne_zero h0))) lp
  clear hp hq
  have hA : ∀ o1 o2, Below w.heap.size w ((w.alloc o1).alloc o2) := fun o1 o2 => below_alloc (below_alloc (Below.refl _ _) _) _
  cases n
  all_goals
    go_enter Tryd.func46, Tryd.ntmps46
    go_wp2_with fail
    refine (gcdN _ (HP.out.below (hA _ _)) (HQ.out.below (hA _ _)) lp lq).mono ?_
    rintro e w1 ⟨vg, rfl, hgo, hb⟩
    obtain ⟨Ag, cg, rfl, _⟩ := hgo.v
    have B1 := Aside0.mk ((B3.first w _ _ _ _).below hb)
    have B2 := Aside0.mk ((B3.last w _ _ _ _).below hb)
    have HB := Aside0.mk (two_new hb)
    have HGO := Aside0.mk (hgo.lower (show w.heap.size + 2 ≤ _ by rw [alloc_size, alloc_size]; omega))
    clear hb hgo
    obtain ⟨x1, x2, x3, x4, x5, x6⟩ := B1.out.cells
    go_wp2_with fail
    refine (divN _ (HP.out.below HB.out) HGO.out.v lp lg).mono ?_
    rintro e w2 ⟨vq, vr, rfl, hqo, hb⟩
    obtain ⟨Aq, cq, rfl, _⟩ := hqo.v
    have B1' := Aside0.mk (B1.out.below hb)
    have B2' := Aside0.mk (B2.out.below hb)
    have HB' := Aside0.mk (below_step HB.out hb)
    have HGO' := Aside0.mk (HGO.out.below hb)
    have HQO := Aside0.mk (hqo.lower (show w.heap.size + 2 ≤ w1.heap.size from blk_lt B2.out.blk))
    clear hb hqo x1 x2 x3 x4 x5 x6 HGO HB B1 B2
    obtain ⟨x1, x2, x3, x4, x5, x6⟩ := B1'.out.cells
    go_wp2_with fail
    refine (divN _ (HQ.out.below (below_set HB'.out (Nat.le_refl _))) (HGO'.out.set (by simp) _).v lq lg).mono ?_
    rintro e w3 ⟨vs, vr2, rfl, hso, hb⟩
    obtain ⟨As, cs, rfl, _⟩ := hso.v
    have B1 := Aside0.mk ((B1'.out.put1 _).below hb)
    have B2 := Aside0.mk ((B2'.out.far (by simp) _).below hb)
    have HB := Aside0.mk (below_step (below_set HB'.out (Nat.le_refl _)) hb)
    have HQO' := Aside0.mk ((HQO.out.set (by simp) _).below hb)
    have HSO := Aside0.mk (hso.lower (show w.heap.size + 2 ≤ _ from blk_lt (B2'.out.far (by simp) _).blk))
    clear hb hso x1 x2 x3 x4 x5 x6 HGO' HB' B1' B2' HQO
    obtain ⟨x1, x2, x3, x4, x5, x6⟩ := B1.out.cells
    obtain ⟨y1, y2, y3, y4, y5, y6⟩ := B2.out.cells
    go_wp2_with fail
    refine bodyPost_ret (results_cell_row rfl _ _ (w.heap.size + 1) 41 _ (0, 0) _ rfl (B3.blk (B3.put2 (B3.put1 (B3.put0 (B3.far (B3.far B2.out (by simp) _) (by simp) _) _) _) _)) Tryd.underlying41 rfl (by kernel_rfl)) rfl ?_
    refine ⟨.slice Aq (limbs (p / Nat.gcd p q)).length cq, .slice As (limbs (q / Nat.gcd p q)).length cs, by first | rfl | (simp [limbs_len0]; done), ?_, ?_, ?_⟩
    · exact (((((HQO'.out.set (by simp) _).set (by simp) _).set (by simp) _).set (by simp) _).set (by simp) _).lower (by omega)
    · exact (((((HSO.out.set (by simp) _).set (by simp) _).set (by simp) _).set (by simp) _).set (by simp) _).lower (by omega)
    · exact below_set (below_set (below_set (below_set (below_set HB.out (by omega)) (by omega)) (by omega)) (by omega)) (by omega)
/-- Behind two numbers that were put aside, and room for one: their blocks, all else as it was. -/
structure Two (w W : World) (a b c d e f x y z : Value) : Prop where
  hb : Below w.heap.size w W
  p : B3 W w.heap.size a b c
  q : B3 W (w.heap.size + 1) d e f
  r : B3 W (w.heap.size + 2) x y z
theorem Two.below {w W W1 : World} {a b c d e f x y z : Value} (h : Two w W a b c d e f x y z) (hb : Below W.heap.size W W1) : Two w W1 a b c d e f x y z := ⟨below_step h.hb hb, h.p.below hb, h.q.below hb, h.r.below hb⟩
theorem Two.start (w : World) (a b c d e f x y z : Value) : Two w (((w.alloc (.cells #[a, b, c] 41)).alloc (.cells #[d, e, f] 41)).alloc (.cells #[x, y, z] 41)) a b c d e f x y z :=
  ⟨below_alloc (below_alloc (below_alloc (Below.refl _ _) _) _) _, ⟨blk_alloc (blk_alloc (blk_new _ _) _) _⟩, ⟨blk_alloc (B3.last w d e f _).blk _⟩, ⟨by have h := B3.last (w.alloc (.cells #[a, b, c] 41)) x y z (.cells #[d, e, f] 41); rw [alloc_size] at h; exact h.blk⟩⟩
theorem Two.drew {w W : World} {a b c d e f x y z : Value} (h : Two w W a b c d e f x y z) : Two w W.drew a b c d e f x y z := h.below (below_drew (Below.refl _ _))
theorem six_of {W : World} {g : Nat} {a b c d e f : Value} (p : B3 W g a b c) (q : B3 W (g + 1) d e f) :
    W.cell? ⟨g, 0, none⟩ = some a ∧ W.cell? ⟨g, 1, none⟩ = some b ∧ W.cell? ⟨g, 2, none⟩ = some c ∧ W.cell? ⟨g + 1, 0, none⟩ = some d ∧ W.cell? ⟨g + 1, 1, none⟩ = some e ∧ W.cell? ⟨g + 1, 2, none⟩ = some f :=
  ⟨p.cells.1, p.cells.2.1, p.cells.2.2.1, q.cells.1, q.cells.2.1, q.cells.2.2.1⟩
theorem Two.six {w W : World} {a b c d e f x y z : Value} (h : Two w W a b c d e f x y z) :
    W.cell? ⟨w.heap.size, 0, none⟩ = some a ∧ W.cell? ⟨w.heap.size, 1, none⟩ = some b ∧ W.cell? ⟨w.heap.size, 2, none⟩ = some c ∧ W.cell? ⟨w.heap.size + 1, 0, none⟩ = some d ∧ W.cell? ⟨w.heap.size + 1, 1, none⟩ = some e ∧ W.cell? ⟨w.heap.size + 1, 2, none⟩ = some f :=
  six_of h.p h.q
theorem Lo.drew {w : World} {lo : Nat} {v : Value} {n : Nat} (h : Lo w lo v n) : Lo w.drew lo v n := h.below (below_drew (Below.refl _ _))
theorem B3.far3 {W : World} {g k : Nat} {a b c : Value} (h : B3 W g a b c) (hk : g ≠ k) (u v x : Value) : B3 (((W.setCell ⟨k, 0, none⟩ u).setCell ⟨k, 1, none⟩ v).setCell ⟨k, 2, none⟩ x) g a b c := ((h.far hk _).far hk _).far hk _
theorem B3.put3 {W : World} {g : Nat} {a b c : Value} (h : B3 W g a b c) (u v x : Value) : B3 (((W.setCell ⟨g, 0, none⟩ u).setCell ⟨g, 1, none⟩ v).setCell ⟨g, 2, none⟩ x) g u v x := ((h.put0 _).put1 _).put2 _
theorem Lo.set3 {w : World} {lo k : Nat} {v : Value} {n : Nat} (h : Lo w lo v n) (hk : k < lo) (a b c : Value) : Lo (((w.setCell ⟨k, 0, none⟩ a).setCell ⟨k, 1, none⟩ b).setCell ⟨k, 2, none⟩ c) lo v n := ((h.set hk _).set hk _).set hk _
theorem below_set3 {w W : World} {k : Nat} (h : Below w.heap.size w W) (hk : w.heap.size ≤ k) (a b c : Value) : Below w.heap.size w (((W.setCell ⟨k, 0, none⟩ a).setCell ⟨k, 1, none⟩ b).setCell ⟨k, 2, none⟩ c) := below_set (below_set (below_set h hk) hk) hk
theorem Two.six_far {w W : World} {a b c d e f x y z : Value} (h : Two w W a b c d e f x y z) (u v t : Value) :
    (((W.setCell ⟨w.heap.size + 1 + 1, 0, none⟩ u).setCell ⟨w.heap.size + 1 + 1, 1, none⟩ v).setCell ⟨w.heap.size + 1 + 1, 2, none⟩ t).cell? ⟨w.heap.size, 0, none⟩ = some a ∧ (((W.setCell ⟨w.heap.size + 1 + 1, 0, none⟩ u).setCell ⟨w.heap.size + 1 + 1, 1, none⟩ v).setCell ⟨w.heap.size + 1 + 1, 2, none⟩ t).cell? ⟨w.heap.size, 1, none⟩ = some b ∧ (((W.setCell ⟨w.heap.size + 1 + 1, 0, none⟩ u).setCell ⟨w.heap.size + 1 + 1, 1, none⟩ v).setCell ⟨w.heap.size + 1 + 1, 2, none⟩ t).cell? ⟨w.heap.size, 2, none⟩ = some c ∧ (((W.setCell ⟨w.heap.size + 1 + 1, 0, none⟩ u).setCell ⟨w.heap.size + 1 + 1, 1, none⟩ v).setCell ⟨w.heap.size + 1 + 1, 2, none⟩ t).cell? ⟨w.heap.size + 1, 0, none⟩ = some d ∧ (((W.setCell ⟨w.heap.size + 1 + 1, 0, none⟩ u).setCell ⟨w.heap.size + 1 + 1, 1, none⟩ v).setCell ⟨w.heap.size + 1 + 1, 2, none⟩ t).cell? ⟨w.heap.size + 1, 1, none⟩ = some e ∧ (((W.setCell ⟨w.heap.size + 1 + 1, 0, none⟩ u).setCell ⟨w.heap.size + 1 + 1, 1, none⟩ v).setCell ⟨w.heap.size + 1 + 1, 2, none⟩ t).cell? ⟨w.heap.size + 1, 2, none⟩ = some f :=
  six_of (h.p.far3 (show w.heap.size ≠ w.heap.size + 1 + 1 by omega) u v t) (h.q.far3 (show w.heap.size + 1 ≠ w.heap.size + 1 + 1 by omega) u v t)
theorem Two.size {w W : World} {a b c d e f x y z : Value} (h : Two w W a b c d e f x y z) : w.heap.size + 3 ≤ W.heap.size := blk_lt h.r.blk
set_option maxHeartbeats 4000000 in
set_option maxRecDepth 100000 in
theorem mul_calls (n m : Bool) {A B C D : Option Addr} {a b c d p q r s : Nat} (w : World) (hp : Lv w (.slice A (limbs p).length a) p) (hq : Lv w (.slice B (limbs q).length b) q) (hr : Lv w (.slice C (limbs r).length c) r) (hs : Lv w (.slice D (limbs s).length d) s)
    (lp : sh p ≤ 1000) (lq : sh q ≤ 1000) (lr : sh r ≤ 1000) (ls : sh s ≤ 1000) :
    Calls Tryd.prog 49 #[.agg #[.bool n, .slice A (limbs p).length a, .slice B (limbs q).length b], .agg #[.bool m, .slice C (limbs r).length c, .slice D (limbs s).length d]] w fun e w' =>
      ∃ u v, e = .returned (.agg #[.bool (n != m), u, v]) ∧ Lo w' w.heap.size u (p * r) ∧ Lo w' w.heap.size v (q * s) ∧ Below w.heap.size w w' := by
  have HP := Aside0.mk hp
  have HQ := Aside0.mk hq
  have HR := Aside0.mk hr
  have HS := Aside0.mk hs
  clear hp hq hr hs
  go_enter Tryd.func49, Tryd.ntmps49
  go_wp2_with fail
  obtain ⟨W, hW⟩ : ∃ W : World, W = ((w.alloc (.cells #[.bool n, .slice A (limbs p).length a, .slice B (limbs q).length b] 41)).alloc (.cells #[.bool m, .slice C (limbs r).length c, .slice D (limbs s).length d] 41)).alloc (.cells #[.bool false, .slice none 0 0, .slice none 0 0] 41) := ⟨_, rfl⟩
  have T := Two.start w (.bool n) (.slice A (limbs p).length a) (.slice B (limbs q).length b) (.bool m) (.slice C (limbs r).length c) (.slice D (limbs s).length d) (.bool false) (.slice none 0 0) (.slice none 0 0)
  rw [← hW] at T ⊢
  clear hW
  obtain ⟨x1, x2, x3, x4, x5, x6⟩ := T.six
  have HT := Aside0.mk T
  clear T
  go_region_held3 (fun W' => (W'.cell? ⟨w.heap.size, 0, none⟩ = some (.bool n) ∧ W'.cell? ⟨w.heap.size, 1, none⟩ = some (.slice A (limbs p).length a) ∧ W'.cell? ⟨w.heap.size, 2, none⟩ = some (.slice B (limbs q).length b) ∧ W'.cell? ⟨w.heap.size + 1, 0, none⟩ = some (.bool m) ∧ W'.cell? ⟨w.heap.size + 1, 1, none⟩ = some (.slice C (limbs r).length c) ∧ W'.cell? ⟨w.heap.size + 1, 2, none⟩ = some (.slice D (limbs s).length d)))
    (first | exact HU.out.six | exact HT.out.drew.six | exact HU.out.six_far _ _ _)
    (first
      | ((with_reducible refine (mulN (m := p) (n := r) _ (HP.out.below HU.out.hb) (HR.out.below HU.out.hb) lp lr).mono ?_); rintro e wn ⟨u, rfl, hu, hb⟩; obtain ⟨Au, cu, rfl, _⟩ := hu.v; have HC := Aside0.mk hb; have HX := Aside0.mk (hu.lower HU.out.size); have HU := Aside0.mk (HU.out.below hb); clear hb hu; obtain ⟨y1, y2, y3, y4, y5, y6⟩ := HU.out.r.cells)
      | ((with_reducible refine (mulN (m := q) (n := s) _ (HQ.out.below HU.out.hb) (HS.out.below HU.out.hb) lq ls).mono ?_); rintro e wn ⟨v, rfl, hv, hb⟩; obtain ⟨Av, cv, rfl, _⟩ := hv.v; have HD := Aside0.mk hb; have HY := Aside0.mk (hv.lower HU.out.size); have HU := Aside0.mk (HU.out.below hb); clear hb hv; obtain ⟨y1, y2, y3, y4, y5, y6⟩ := HU.out.r.cells)
      | ((with_reducible refine (mulN (m := p) (n := r) _ (HP.out.below HT.out.drew.hb) (HR.out.below HT.out.drew.hb) lp lr).mono ?_); rintro e wn ⟨u, rfl, hu, hb⟩; obtain ⟨Au, cu, rfl, _⟩ := hu.v; have HC := Aside0.mk hb; have HX := Aside0.mk (hu.lower HT.out.drew.size); have HU := Aside0.mk (HT.out.drew.below hb); clear hb hu; obtain ⟨y1, y2, y3, y4, y5, y6⟩ := HU.out.r.cells)
      | ((with_reducible refine (mulN (m := q) (n := s) _ (HQ.out.below HT.out.drew.hb) (HS.out.below HT.out.drew.hb) lq ls).mono ?_); rintro e wn ⟨v, rfl, hv, hb⟩; obtain ⟨Av, cv, rfl, _⟩ := hv.v; have HD := Aside0.mk hb; have HY := Aside0.mk (hv.lower HT.out.drew.size); have HU := Aside0.mk (HT.out.drew.below hb); clear hb hv; obtain ⟨y1, y2, y3, y4, y5, y6⟩ := HU.out.r.cells))
  all_goals
    go_wp2_with fail
    refine bodyPost_ret (results_cell_row rfl _ _ (w.heap.size + 1 + 1) 41 _ (0, 0) _ rfl (HU.out.r.put3 _ _ _).blk Tryd.underlying41 rfl (by kernel_rfl)) rfl ?_
    refine ⟨.slice Au (limbs (p * r)).length cu, .slice Av (limbs (q * s)).length cv, by first | rfl | (simp; done), ?_, ?_, below_set3 HU.out.hb (by omega) _ _ _⟩
    · first | (with_reducible exact (HX.out.set3 (by omega) _ _ _).lower (by omega)) | (with_reducible exact ((HX.out.below HD.out).set3 (by omega) _ _ _).lower (by omega))
    · first | (with_reducible exact (HY.out.set3 (by omega) _ _ _).lower (by omega)) | (with_reducible exact ((HY.out.below HC.out).set3 (by omega) _ _ _).lower (by omega))
/-- What a sum is: its sign, its first part. -/
def addR (n m : Bool) (x y : Nat) : Bool × Nat := if n = m then (n, x + y) else if x < y then (m, y - x) else (n, x - y)
set_option maxHeartbeats 4000000 in
set_option maxRecDepth 100000 in
theorem add_calls (n m : Bool) {A B C D : Option Addr} {a b c d p q r s : Nat} (w : World) (hp : Lv w (.slice A (limbs p).length a) p) (hq : Lv w (.slice B (limbs q).length b) q) (hr : Lv w (.slice C (limbs r).length c) r) (hs : Lv w (.slice D (limbs s).length d) s)
    (lp : sh p ≤ 490) (lq : sh q ≤ 490) (lr : sh r ≤ 490) (ls : sh s ≤ 490) :
    Calls Tryd.prog 40 #[.agg #[.bool n, .slice A (limbs p).length a, .slice B (limbs q).length b], .agg #[.bool m, .slice C (limbs r).length c, .slice D (limbs s).length d]] w fun e w' =>
      ∃ u v, e = .returned (.agg #[.bool (addR n m (p * s) (r * q)).1, u, v]) ∧ Lo w' w.heap.size u (addR n m (p * s) (r * q)).2 ∧ Lo w' w.heap.size v (q * s) ∧ Below w.heap.size w w' := by
  have HP := Aside0.mk hp
  have HQ := Aside0.mk hq
  have HR := Aside0.mk hr
  have HS := Aside0.mk hs
  have lps : sh (p * s) ≤ 1000 := by have := sh_mul p s; omega
  have lrq : sh (r * q) ≤ 1000 := by have := sh_mul r q; omega
  replace lp : sh p ≤ 1000 := by omega
  replace lq : sh q ≤ 1000 := by omega
  replace lr : sh r ≤ 1000 := by omega
  replace ls : sh s ≤ 1000 := by omega
  clear hp hq hr hs
  go_enter Tryd.func40, Tryd.ntmps40
  go_upto_region 1 with (fail)
  go_cut [5, 6, 7] (fun v5 v6 v7 W => ∃ (Ax Ay Az : Option Addr) (cx cy cz : Nat), v5 = .slice Ax (limbs (p * s)).length cx ∧ v6 = .slice Ay (limbs (r * q)).length cy ∧ v7 = .slice Az (limbs (q * s)).length cz ∧
    Aside0 (Lo W (w.heap.size + 3) v5 (p * s)) ∧ Aside0 (Lo W (w.heap.size + 3) v6 (r * q)) ∧ Aside0 (Lo W (w.heap.size + 3) v7 (q * s)) ∧ Aside0 (Two w W (.bool n) (.slice A (limbs p).length a) (.slice B (limbs q).length b) (.bool m) (.slice C (limbs r).length c) (.slice D (limbs s).length d) (.bool false) (.slice none 0 0) (.slice none 0 0)))
  case first =>
    rename_i J0 K0 hJ0 hK0
    obtain ⟨W, hW⟩ : ∃ W : World, W = ((w.alloc (.cells #[.bool n, .slice A (limbs p).length a, .slice B (limbs q).length b] 41)).alloc (.cells #[.bool m, .slice C (limbs r).length c, .slice D (limbs s).length d] 41)).alloc (.cells #[.bool false, .slice none 0 0, .slice none 0 0] 41) := ⟨_, rfl⟩
    have T := Two.start w (.bool n) (.slice A (limbs p).length a) (.slice B (limbs q).length b) (.bool m) (.slice C (limbs r).length c) (.slice D (limbs s).length d) (.bool false) (.slice none 0 0) (.slice none 0 0)
    rw [← hW] at T ⊢
    clear hW
    obtain ⟨x1, x2, x3, x4, x5, x6⟩ := T.six
    have HT := Aside0.mk T
    clear T
    go_region_held3 (fun W' => (W'.cell? ⟨w.heap.size, 0, none⟩ = some (.bool n) ∧ W'.cell? ⟨w.heap.size, 1, none⟩ = some (.slice A (limbs p).length a) ∧ W'.cell? ⟨w.heap.size, 2, none⟩ = some (.slice B (limbs q).length b) ∧ W'.cell? ⟨w.heap.size + 1, 0, none⟩ = some (.bool m) ∧ W'.cell? ⟨w.heap.size + 1, 1, none⟩ = some (.slice C (limbs r).length c) ∧ W'.cell? ⟨w.heap.size + 1, 2, none⟩ = some (.slice D (limbs s).length d)))
      (first | exact HU.out.six | exact HT.out.drew.six)
      (first
        | ((with_reducible refine (mulN (m := p) (n := s) _ (HP.out.below HU.out.hb) (HS.out.below HU.out.hb) lp ls).mono ?_); rintro e wn ⟨u, rfl, hu, hb⟩; obtain ⟨Ax, cx, rfl, _⟩ := hu.v; (try replace HX := Aside0.mk (HX.out.below hb)); (try replace HY := Aside0.mk (HY.out.below hb)); (try replace HZ := Aside0.mk (HZ.out.below hb)); have HX := Aside0.mk (hu.lower HU.out.size); have HU := Aside0.mk (HU.out.below hb); clear hb hu)
        | ((with_reducible refine (mulN (m := r) (n := q) _ (HR.out.below HU.out.hb) (HQ.out.below HU.out.hb) lr lq).mono ?_); rintro e wn ⟨u, rfl, hu, hb⟩; obtain ⟨Ay, cy, rfl, _⟩ := hu.v; (try replace HX := Aside0.mk (HX.out.below hb)); (try replace HY := Aside0.mk (HY.out.below hb)); (try replace HZ := Aside0.mk (HZ.out.below hb)); have HY := Aside0.mk (hu.lower HU.out.size); have HU := Aside0.mk (HU.out.below hb); clear hb hu)
        | ((with_reducible refine (mulN (m := q) (n := s) _ (HQ.out.below HU.out.hb) (HS.out.below HU.out.hb) lq ls).mono ?_); rintro e wn ⟨u, rfl, hu, hb⟩; obtain ⟨Az, cz, rfl, _⟩ := hu.v; (try replace HX := Aside0.mk (HX.out.below hb)); (try replace HY := Aside0.mk (HY.out.below hb)); (try replace HZ := Aside0.mk (HZ.out.below hb)); have HZ := Aside0.mk (hu.lower HU.out.size); have HU := Aside0.mk (HU.out.below hb); clear hb hu)
        | ((with_reducible refine (mulN (m := p) (n := s) _ (HP.out.below HT.out.drew.hb) (HS.out.below HT.out.drew.hb) lp ls).mono ?_); rintro e wn ⟨u, rfl, hu, hb⟩; obtain ⟨Ax, cx, rfl, _⟩ := hu.v; (try replace HX := Aside0.mk (HX.out.below hb)); (try replace HY := Aside0.mk (HY.out.below hb)); (try replace HZ := Aside0.mk (HZ.out.below hb)); have HX := Aside0.mk (hu.lower HT.out.drew.size); have HU := Aside0.mk (HT.out.drew.below hb); clear hb hu)
        | ((with_reducible refine (mulN (m := r) (n := q) _ (HR.out.below HT.out.drew.hb) (HQ.out.below HT.out.drew.hb) lr lq).mono ?_); rintro e wn ⟨u, rfl, hu, hb⟩; obtain ⟨Ay, cy, rfl, _⟩ := hu.v; (try replace HX := Aside0.mk (HX.out.below hb)); (try replace HY := Aside0.mk (HY.out.below hb)); (try replace HZ := Aside0.mk (HZ.out.below hb)); have HY := Aside0.mk (hu.lower HT.out.drew.size); have HU := Aside0.mk (HT.out.drew.below hb); clear hb hu)
        | ((with_reducible refine (mulN (m := q) (n := s) _ (HQ.out.below HT.out.drew.hb) (HS.out.below HT.out.drew.hb) lq ls).mono ?_); rintro e wn ⟨u, rfl, hu, hb⟩; obtain ⟨Az, cz, rfl, _⟩ := hu.v; (try replace HX := Aside0.mk (HX.out.below hb)); (try replace HY := Aside0.mk (HY.out.below hb)); (try replace HZ := Aside0.mk (HZ.out.below hb)); have HZ := Aside0.mk (hu.lower HT.out.drew.size); have HU := Aside0.mk (HT.out.drew.below hb); clear hb hu))
    all_goals
      refine hK0 _ _ (Met.intro (hJ0 _ _ ?_))
      (repeat apply Exists.intro)
      refine ⟨?rel, rfl⟩
      case rel => exact ⟨Ax, Ay, Az, cx, cy, cz, rfl, rfl, rfl, HX, HY, HZ, HU⟩
  case rest =>
    obtain ⟨Ax, Ay, Az, cx, cy, cz, rfl, rfl, rfl, HX, HY, HZ, HU⟩ := hcut
    obtain ⟨x1, x2, x3, x4, x5, x6⟩ := HU.out.six
    by_cases hnm : n = m
    · subst hnm
      have HA : Aside0 (addR n n (p * s) (r * q) = (n, p * s + r * q)) := ⟨by unfold addR; rw [if_pos rfl]⟩
      go_wp2_with fail
      replace HX := Aside0.mk HX.out.drew
      replace HY := Aside0.mk HY.out.drew
      replace HZ := Aside0.mk HZ.out.drew
      replace HU := Aside0.mk HU.out.drew
      go_region_held3 (fun W' => (W'.cell? ⟨w.heap.size, 0, none⟩ = some (.bool n)))
        (first | exact HU.out.p.cells.1 | exact (HU.out.p.far3 (by omega) _ _ _).cells.1)
        (first | ((refine (addN (m := p * s) (n := r * q) _ HX.out.v HY.out.v lps lrq).mono ?_); rintro e wn ⟨u, rfl, hu, hb⟩; obtain ⟨Au, cu, rfl, _⟩ := hu.v; replace HZ := Aside0.mk (HZ.out.below hb); have HE := Aside0.mk (hu.lower HU.out.size); replace HU := Aside0.mk (HU.out.below hb); clear hb hu; obtain ⟨y1, y2, y3, y4, y5, y6⟩ := HU.out.r.cells))
      all_goals
        go_wp2_with fail
        refine bodyPost_ret (results_cell_row rfl _ _ (w.heap.size + 1 + 1) 41 _ (0, 0) _ rfl (HU.out.r.put3 _ _ _).blk Tryd.underlying41 rfl (by kernel_rfl)) rfl ?_
        rw [HA.out]
        exact ⟨.slice Au (limbs (p * s + r * q)).length cu, .slice Az (limbs (q * s)).length cz, rfl, (HE.out.set3 (by omega) _ _ _).lower (by omega), (HZ.out.set3 (by omega) _ _ _).lower (by omega), below_set3 HU.out.hb (by omega) _ _ _⟩
    · have hnm1 : (n == m) = false := by simpa using hnm
      by_cases hlt : p * s < r * q
      · have HA : Aside0 (addR n m (p * s) (r * q) = (m, r * q - p * s)) := ⟨by unfold addR; rw [if_neg hnm, if_pos hlt]⟩
        have hd : (!decide (p * s < r * q)) = false := by rw [decide_eq_true hlt]; rfl
        go_wp2_with fail
        refine (subN _ HX.out.v HY.out.v lps lrq).mono ?_
        rintro e w1 ⟨u, rfl, hu, hb⟩
        rw [hd]
        obtain ⟨Au, cu, rfl, _⟩ := hu.v
        (replace HX := Aside0.mk (HX.out.below hb)); (replace HY := Aside0.mk (HY.out.below hb)); (replace HZ := Aside0.mk (HZ.out.below hb))
        replace HU := Aside0.mk (HU.out.below hb)
        clear hb hu x1 x2 x3 x4 x5 x6
        obtain ⟨x1, x2, x3, x4, x5, x6⟩ := HU.out.six
        go_wp2_with fail
        refine (subN _ HY.out.v HX.out.v lrq lps).mono ?_
        rintro e w2 ⟨u, rfl, hu, hb⟩
        obtain ⟨Ae, ce, rfl, _⟩ := hu.v
        have HE := Aside0.mk (hu.lower HU.out.size)
        (replace HX := Aside0.mk (HX.out.below hb)); (replace HY := Aside0.mk (HY.out.below hb)); (replace HZ := Aside0.mk (HZ.out.below hb))
        replace HU := Aside0.mk (HU.out.below hb)
        clear hb hu x1 x2 x3 x4 x5 x6
        obtain ⟨x1, x2, x3, x4, x5, x6⟩ := HU.out.six
        obtain ⟨y1, y2, y3, y4, y5, y6⟩ := HU.out.r.cells
        go_wp2_with fail
        refine bodyPost_ret (results_cell_row rfl _ _ (w.heap.size + 1 + 1) 41 _ (0, 0) _ rfl (HU.out.r.put3 _ _ _).blk Tryd.underlying41 rfl (by kernel_rfl)) rfl ?_
        rw [HA.out]
        exact ⟨.slice Ae (limbs (r * q - p * s)).length ce, .slice Az (limbs (q * s)).length cz, rfl, (HE.out.set3 (by omega) _ _ _).lower (by omega), (HZ.out.set3 (by omega) _ _ _).lower (by omega), below_set3 HU.out.hb (by omega) _ _ _⟩
      · have HA : Aside0 (addR n m (p * s) (r * q) = (n, p * s - r * q)) := ⟨by unfold addR; rw [if_neg hnm, if_neg hlt]⟩
        have hd : (!decide (p * s < r * q)) = true := by rw [decide_eq_false hlt]; rfl
        go_wp2_with fail
        refine (subN _ HX.out.v HY.out.v lps lrq).mono ?_
        rintro e w1 ⟨u, rfl, hu, hb⟩
        rw [hd]
        obtain ⟨Au, cu, rfl, _⟩ := hu.v
        have HE := Aside0.mk (hu.lower HU.out.size)
        (replace HX := Aside0.mk (HX.out.below hb)); (replace HY := Aside0.mk (HY.out.below hb)); (replace HZ := Aside0.mk (HZ.out.below hb))
        replace HU := Aside0.mk (HU.out.below hb)
        clear hb hu x1 x2 x3 x4 x5 x6
        obtain ⟨x1, x2, x3, x4, x5, x6⟩ := HU.out.six
        obtain ⟨y1, y2, y3, y4, y5, y6⟩ := HU.out.r.cells
        go_wp2_with fail
        refine bodyPost_ret (results_cell_row rfl _ _ (w.heap.size + 1 + 1) 41 _ (0, 0) _ rfl (HU.out.r.put3 _ _ _).blk Tryd.underlying41 rfl (by kernel_rfl)) rfl ?_
        rw [HA.out]
        exact ⟨.slice Au (limbs (p * s - r * q)).length cu, .slice Az (limbs (q * s)).length cz, rfl, (HE.out.set3 (by omega) _ _ _).lower (by omega), (HZ.out.set3 (by omega) _ _ _).lower (by omega), below_set3 HU.out.hb (by omega) _ _ _⟩
set_option maxHeartbeats 4000000 in
set_option maxRecDepth 100000 in
theorem div_calls (n m : Bool) {A B C D : Option Addr} {a b c d p q r s : Nat} (w : World) (hp : Lv w (.slice A (limbs p).length a) p) (hq : Lv w (.slice B (limbs q).length b) q) (hr : Lv w (.slice C (limbs r).length c) r) (hs : Lv w (.slice D (limbs s).length d) s)
    (lp : sh p ≤ 1000) (lq : sh q ≤ 1000) (lr : sh r ≤ 1000) (ls : sh s ≤ 1000) :
    Calls Tryd.prog 51 #[.agg #[.bool n, .slice A (limbs p).length a, .slice B (limbs q).length b], .agg #[.bool m, .slice C (limbs r).length c, .slice D (limbs s).length d]] w fun e w' =>
      ∃ u v, e = .returned (.agg #[.bool (n != m), u, v]) ∧ Lo w' w.heap.size u (p * s) ∧ Lo w' w.heap.size v (q * r) ∧ Below w.heap.size w w' := by
  have HP := Aside0.mk hp
  have HQ := Aside0.mk hq
  have HR := Aside0.mk hr
  have HS := Aside0.mk hs
  clear hp hq hr hs
  have T := Aside0.mk (Two.start w (.bool n) (.slice A (limbs p).length a) (.slice B (limbs q).length b) (.bool m) (.slice C (limbs r).length c) (.slice D (limbs s).length d) (.bool false) (.slice none 0 0) (.slice none 0 0))
  go_enter Tryd.func51, Tryd.ntmps51
  go_wp2_with fail
  refine (mul_calls n m (p := p) (q := q) (r := s) (s := r) _ (HP.out.below T.out.hb) (HQ.out.below T.out.hb) (HS.out.below T.out.hb) (HR.out.below T.out.hb) lp lq ls lr).mono ?_
  rintro e w1 ⟨u, v, rfl, hu, hv, hb⟩
  have HU := Aside0.mk (T.out.below hb)
  have HX := Aside0.mk (hu.lower T.out.size)
  have HY := Aside0.mk (hv.lower T.out.size)
  obtain ⟨Au, cu, rfl, _⟩ := hu.v
  obtain ⟨Av, cv, rfl, _⟩ := hv.v
  clear hb hu hv T
  obtain ⟨y1, y2, y3, y4, y5, y6⟩ := HU.out.r.cells
  go_wp2_with fail
  refine bodyPost_ret (results_cell_row rfl _ _ (w.heap.size + 1 + 1) 41 _ (0, 0) _ rfl (HU.out.r.put3 _ _ _).blk Tryd.underlying41 rfl (by kernel_rfl)) rfl ?_
  exact ⟨.slice Au (limbs (p * s)).length cu, .slice Av (limbs (q * r)).length cv, rfl, (HX.out.set3 (by omega) _ _ _).lower (by omega), (HY.out.set3 (by omega) _ _ _).lower (by omega), below_set3 HU.out.hb (by omega) _ _ _⟩
set_option maxHeartbeats 4000000 in
set_option maxRecDepth 100000 in
theorem sub_calls (n m : Bool) {A B C D : Option Addr} {a b c d p q r s : Nat} (w : World) (hp : Lv w (.slice A (limbs p).length a) p) (hq : Lv w (.slice B (limbs q).length b) q) (hr : Lv w (.slice C (limbs r).length c) r) (hs : Lv w (.slice D (limbs s).length d) s)
    (lp : sh p ≤ 490) (lq : sh q ≤ 490) (lr : sh r ≤ 490) (ls : sh s ≤ 490) :
    Calls Tryd.prog 45 #[.agg #[.bool n, .slice A (limbs p).length a, .slice B (limbs q).length b], .agg #[.bool m, .slice C (limbs r).length c, .slice D (limbs s).length d]] w fun e w' =>
      ∃ u v, e = .returned (.agg #[.bool (addR n (!m) (p * s) (r * q)).1, u, v]) ∧ Lo w' w.heap.size u (addR n (!m) (p * s) (r * q)).2 ∧ Lo w' w.heap.size v (q * s) ∧ Below w.heap.size w w' := by
  have HP := Aside0.mk hp
  have HQ := Aside0.mk hq
  have HR := Aside0.mk hr
  have HS := Aside0.mk hs
  clear hp hq hr hs
  go_enter Tryd.func45, Tryd.ntmps45
  go_wp2_with fail
  obtain ⟨W, hW⟩ : ∃ W : World, W = ((w.alloc (.cells #[.bool n, .slice A (limbs p).length a, .slice B (limbs q).length b] 41)).alloc (.cells #[.bool m, .slice C (limbs r).length c, .slice D (limbs s).length d] 41)).alloc (.cells #[.bool false, .slice none 0 0, .slice none 0 0] 41) := ⟨_, rfl⟩
  have T := (Two.start w (.bool n) (.slice A (limbs p).length a) (.slice B (limbs q).length b) (.bool m) (.slice C (limbs r).length c) (.slice D (limbs s).length d) (.bool false) (.slice none 0 0) (.slice none 0 0))
  rw [← hW] at T ⊢
  clear hW
  have HT := Aside0.mk T.drew
  clear T
  go_region_held3 (fun W' => (W'.cell? ⟨w.heap.size, 0, none⟩ = some (.bool n) ∧ W'.cell? ⟨w.heap.size, 1, none⟩ = some (.slice A (limbs p).length a) ∧ W'.cell? ⟨w.heap.size, 2, none⟩ = some (.slice B (limbs q).length b) ∧ W'.cell? ⟨w.heap.size + 1, 0, none⟩ = some (.bool m) ∧ W'.cell? ⟨w.heap.size + 1, 1, none⟩ = some (.slice C (limbs r).length c) ∧ W'.cell? ⟨w.heap.size + 1, 2, none⟩ = some (.slice D (limbs s).length d)))
    (first | exact HU.out.six_far _ _ _ | exact HU.out.six | exact HT.out.six)
    (first
      | ((with_reducible refine (add_calls n (!m) (p := p) (q := q) (r := r) (s := s) _ (HP.out.below HU.out.hb) (HQ.out.below HU.out.hb) (HR.out.below HU.out.hb) (HS.out.below HU.out.hb) lp lq lr ls).mono ?_); rintro e wn ⟨u, v, rfl, hu, hv, hb⟩; have HX := Aside0.mk (hu.lower HU.out.size); have HY := Aside0.mk (hv.lower HU.out.size); replace HU := Aside0.mk (HU.out.below hb); obtain ⟨Au, cu, rfl, _⟩ := hu.v; obtain ⟨Av, cv, rfl, _⟩ := hv.v; clear hb hu hv; obtain ⟨y1, y2, y3, y4, y5, y6⟩ := HU.out.r.cells)
      | ((with_reducible refine (negative_any m C D _ _ c d _).mono ?_); rintro e wn ⟨rfl, hb⟩; have HU := Aside0.mk (HT.out.below hb); clear hb))
  all_goals
    go_wp2_with fail
    refine bodyPost_ret (results_cell_row rfl _ _ (w.heap.size + 1 + 1) 41 _ (0, 0) _ rfl (HU.out.r.put3 _ _ _).blk Tryd.underlying41 rfl (by kernel_rfl)) rfl ?_
    exact ⟨.slice Au _ cu, .slice Av (limbs (q * s)).length cv, rfl, (HX.out.set3 (by omega) _ _ _).lower (by omega), (HY.out.set3 (by omega) _ _ _).lower (by omega), below_set3 HU.out.hb (by omega) _ _ _⟩
/-- A number's text: its sign, its parts without a common divisor. -/
def headS (n : Bool) (p : Nat) : ByteArray := if n then (⟨#[45]⟩ : ByteArray) ++ textS p else textS p
def tailS (s : ByteArray) (q : Nat) : ByteArray := if 1 < q then s ++ ((⟨#[47]⟩ : ByteArray) ++ textS q) else s
def strS (n : Bool) (p q : Nat) : ByteArray := tailS (headS (n && decide (p / Nat.gcd p q ≠ 0)) (p / Nat.gcd p q)) (q / Nat.gcd p q)
theorem cat_size (s t : ByteArray) : (s ++ t).size = s.size + t.size := by rw [← bytesN_length, ← bytesN_length, ← bytesN_length, bytesN_append, List.length_append]
theorem textS_max {n : Nat} (h : sh n ≤ 1000) : (textS n).size ≤ 10000 := textS_le (m := 1000) (by omega) h
theorem headS_max (n : Bool) {p : Nat} (h : sh p ≤ 1000) : (headS n p).size ≤ 10001 := by
  have := textS_max h
  unfold headS
  split
  · rw [cat_size, show (⟨#[45]⟩ : ByteArray).size = 1 from rfl]; omega
  · omega
theorem sh_div (p q : Nat) : sh (p / q) ≤ sh p := sh_mono (Nat.div_le_self _ _)
theorem one_cmp (q : Nat) : decide (cmpN q 1 > 0) = decide (1 < q) := by
  unfold cmpN
  rcases Nat.lt_trichotomy q 1 with h | h | h
  · rw [if_pos h, decide_eq_false (by omega), decide_eq_false (by omega)]
  · rw [h]; rfl
  · rw [if_neg (by omega), if_pos h, decide_eq_true (by omega), decide_eq_true h]
set_option maxHeartbeats 4000000 in
set_option maxRecDepth 100000 in
theorem String_calls (n : Bool) {A B : Option Addr} {c d p q : Nat} (w : World) (hp : Lv w (.slice A (limbs p).length c) p) (hq : Lv w (.slice B (limbs q).length d) q) (lp : sh p ≤ 1000) (lq : sh q ≤ 1000) :
    Calls Tryd.prog 34 #[.agg #[.bool n, .slice A (limbs p).length c, .slice B (limbs q).length d]] w fun e w' => e = .returned (.string (strS n p q)) ∧ Below w.heap.size w w' := by
  have HP := Aside0.mk hp
  have HQ := Aside0.mk hq
  clear hp hq
  obtain ⟨R, hR⟩ : ∃ R, R = strS n p q := ⟨_, rfl⟩
  rw [← hR]
  obtain ⟨P, hP⟩ : ∃ P, P = p / Nat.gcd p q := ⟨_, rfl⟩
  obtain ⟨Q, hQ⟩ : ∃ Q, Q = q / Nat.gcd p q := ⟨_, rfl⟩
  obtain ⟨M, hM⟩ : ∃ M, M = (n && decide (P ≠ 0)) := ⟨_, rfl⟩
  have lP : sh P ≤ 1000 := by rw [hP]; exact Nat.le_trans (sh_div _ _) lp
  have lQ : sh Q ≤ 1000 := by rw [hQ]; exact Nat.le_trans (sh_div _ _) lq
  have C1 := Aside0.mk (fun W => short_calls n (A := A) (B := B) (c := c) (d := d) (p := p) (q := q) W)
  rw [← hP, ← hQ, ← hM] at C1
  have HRE : Aside0 (R = tailS (headS M P) Q) := ⟨by rw [hR, strS, ← hP, ← hQ, ← hM]⟩
  clear hR hP hQ hM
  have sP := textS_max lP
  have sQ := textS_max lQ
  have CP := Aside0.mk (fun (u : Value) (W : World) => textN (u := u) (n := P) W)
  have CQ := Aside0.mk (fun (u : Value) (W : World) => textN (u := u) (n := Q) W)
  unfold headS tailS at HRE
  generalize textS P = TP at *
  generalize textS Q = TQ at *
  have CC := Aside0.mk (fun (u v : Value) (W : World) => cmpN_calls (u := u) (v := v) (m := Q) (n := 1) W)
  have hz1 := one_cmp Q
  generalize cmpN Q 1 = z at *
  have l1 : sh 1 ≤ 1000 := Nat.le_trans (sh_le (k := 1) (by decide)) (by decide)
  have hA : ∀ o1, Below w.heap.size w (w.alloc o1) := fun o1 => below_alloc (Below.refl _ _) _
  go_enter Tryd.func34, Tryd.ntmps34
  go_wp2_with fail
  refine (C1.out _ (HP.out.below (hA _)) (HQ.out.below (hA _)) lp lq).mono ?_
  rintro e w1 ⟨u, v, rfl, hu, hv, hb⟩
  have B0 : B3 w1 w.heap.size (.bool n) (.slice A (limbs p).length c) (.slice B (limbs q).length d) := ⟨blk_below (blk_new _ _) hb⟩
  obtain ⟨x1, x2, x3, x4, x5, x6⟩ := B0.cells
  obtain ⟨Au, cu, rfl, _⟩ := hu.v
  obtain ⟨Av, cv, rfl, _⟩ := hv.v
  have hz : w.heap.size < (w.alloc (.cells #[.bool n, .slice A (limbs p).length c, .slice B (limbs q).length d] 41)).heap.size := by rw [alloc_size]; omega
  have HU := Aside0.mk (B0.put3 (.bool M) (.slice Au (limbs P).length cu) (.slice Av (limbs Q).length cv))
  have HX := Aside0.mk (hu.set3 hz (.bool M) (.slice Au (limbs P).length cu) (.slice Av (limbs Q).length cv))
  have HY := Aside0.mk (hv.set3 hz (.bool M) (.slice Au (limbs P).length cu) (.slice Av (limbs Q).length cv))
  have HB := Aside0.mk (below_set3 (below_step (below_alloc (Below.refl w.heap.size w) _) hb) (Nat.le_refl _) (.bool M) (.slice Au (limbs P).length cu) (.slice Av (limbs Q).length cv))
  clear hb hu hv B0 hz C1
  go_wp2_with fail
  refine (CP.out _ _ HX.out.v lP).mono ?_
  rintro e w2 ⟨rfl, hb⟩
  replace HU := Aside0.mk (HU.out.below hb)
  replace HY := Aside0.mk (HY.out.below hb)
  replace HB := Aside0.mk (below_step HB.out hb)
  clear hb HX x1 x2 x3 x4 x5 x6
  obtain ⟨x1, x2, x3, x4, x5, x6⟩ := HU.out.cells
  by_cases hq1 : 1 < Q
  · rw [decide_eq_true hq1] at hz1
    have HZ := Aside0.mk hq1
    clear hq1
    cases M
    all_goals
      go_wp2_with fail
      replace HU := Aside0.mk (B3.below HU.out (below_drew (Below.refl _ _)))
      replace HY := Aside0.mk (HY.out.drew)
      replace HB := Aside0.mk (below_drew HB.out)
      go_region_held3 (fun W' => (W'.cell? ⟨w.heap.size, 2, none⟩ = some (.slice Av (limbs Q).length cv)))
        (first | exact HU.out.cells.2.2.1)
        (first
          | ((with_reducible refine (CC.out _ _ _ HY.out.v HO.out.v lQ l1).mono ?_); rintro e wn ⟨rfl, hb⟩; replace HU := Aside0.mk (HU.out.below hb); replace HY := Aside0.mk (HY.out.below hb); replace HB := Aside0.mk (below_step HB.out hb); clear hb)
          | ((with_reducible refine (ofOne _).mono ?_); rintro e wn ⟨u, rfl, hu, hb⟩; have HO := Aside0.mk hu; obtain ⟨Ao, co, rfl, _⟩ := hu.v; replace HU := Aside0.mk (HU.out.below hb); replace HY := Aside0.mk (HY.out.below hb); replace HB := Aside0.mk (below_step HB.out hb); clear hb hu))
      all_goals
        clear x1 x2 x3 x4 x5 x6
        obtain ⟨x1, x2, x3, x4, x5, x6⟩ := HU.out.cells
        go_wp2_with fail
        refine (CQ.out _ _ HY.out.v lQ).mono ?_
        rintro e w3 ⟨rfl, hb⟩
        replace HB := Aside0.mk (below_step HB.out hb)
        clear hb
        go_wp2_with fail
        go_ret
        exact ⟨by rw [HRE.out, if_pos HZ.out]; rfl, HB.out⟩
  · rw [decide_eq_false hq1] at hz1
    have HZ := Aside0.mk hq1
    clear hq1
    cases M
    all_goals
      go_wp2_with fail
      replace HU := Aside0.mk (B3.below HU.out (below_drew (Below.refl _ _)))
      replace HY := Aside0.mk (HY.out.drew)
      replace HB := Aside0.mk (below_drew HB.out)
      go_region_held3 (fun W' => (W'.cell? ⟨w.heap.size, 2, none⟩ = some (.slice Av (limbs Q).length cv)))
        (first | exact HU.out.cells.2.2.1)
        (first
          | ((with_reducible refine (CC.out _ _ _ HY.out.v HO.out.v lQ l1).mono ?_); rintro e wn ⟨rfl, hb⟩; replace HU := Aside0.mk (HU.out.below hb); replace HY := Aside0.mk (HY.out.below hb); replace HB := Aside0.mk (below_step HB.out hb); clear hb)
          | ((with_reducible refine (ofOne _).mono ?_); rintro e wn ⟨u, rfl, hu, hb⟩; have HO := Aside0.mk hu; obtain ⟨Ao, co, rfl, _⟩ := hu.v; replace HU := Aside0.mk (HU.out.below hb); replace HY := Aside0.mk (HY.out.below hb); replace HB := Aside0.mk (below_step HB.out hb); clear hb hu))
      all_goals
        go_wp2_with fail
        go_ret
        exact ⟨by rw [HRE.out, if_neg HZ.out]; rfl, HB.out⟩
/-- A text without its sign, and whether it has one. -/
def signS (s : ByteArray) : ByteArray × Bool := if 0 < s.size ∧ bt s 0 = 45 then (s.extract 1 s.size, true) else (s, false)
/-- A text's parts: has it a sign? What stands ahead of "/", what behind. -/
def partsS (s : ByteArray) : Bool × ByteArray × ByteArray := ((signS s).2, (cutS (signS s).1).1, if (cutS (signS s).1).2.2 = true then (cutS (signS s).1).2.1 else ⟨#[49]⟩)
def rightP (s : ByteArray) : Bool := rightS (partsS s).2.1 && rightS (partsS s).2.2
theorem extract_le (s : ByteArray) (i j : Nat) : (s.extract i j).size ≤ s.size := by rw [ByteArray.size_extract]; omega
theorem signS_le (s : ByteArray) : (signS s).1.size ≤ s.size := by
  unfold signS
  split
  · exact extract_le _ _ _
  · exact Nat.le_refl _
theorem cutS_le (s : ByteArray) : (cutS s).1.size ≤ s.size ∧ (cutS s).2.1.size ≤ s.size := by
  unfold cutS
  split
  · exact ⟨Nat.le_refl _, Nat.zero_le _⟩
  · exact ⟨extract_le _ _ _, extract_le _ _ _⟩
theorem partsS_le (s : ByteArray) : (partsS s).2.1.size ≤ s.size ∧ (partsS s).2.2.size ≤ max 1 s.size := by
  have h1 := signS_le s
  have h2 := cutS_le (signS s).1
  unfold partsS
  refine ⟨by show (cutS (signS s).1).1.size ≤ _; omega, ?_⟩
  show (if (cutS (signS s).1).2.2 = true then (cutS (signS s).1).2.1 else (⟨#[49]⟩ : ByteArray)).size ≤ _
  split
  · omega
  · show 1 ≤ _; omega
theorem cutPrefix_is (s : ByteArray) (hs : s.size ≤ 4611686018427387904) : strings_CutPrefix.f s (⟨#[45]⟩ : ByteArray) = some (signS s) := by
  have e1 : ((⟨#[45]⟩ : ByteArray).size : Int) = 1 := rfl
  unfold strings_CutPrefix.f stringslite_CutPrefix.f stringslite_HasPrefix.f signS
  rw [e1]
  by_cases h0 : 0 < s.size
  · rw [if_pos (by omega), if_pos (by omega), if_pos (by omega), Option.bind_some]
    have e2 : ((s.extract 0 ((1 : Int) : Int).toNat).toList == (⟨#[45]⟩ : ByteArray).toList) = decide (bt s 0 = 45) := by
      have hb := bt_nat s 0
      have hx : bytesN (s.extract 0 1) = [(bytesN s).getD 0 0] := by
        have hl := bytesN_length s
        rw [bytesN_take]
        cases h : bytesN s with
        | nil => rw [h] at hl; simp at hl; omega
        | cons c l => rfl
      have hlt := bytesN_lt s 0
      rw [Bool.eq_iff_iff, beq_iff_eq, decide_eq_true_iff, toList_inj, ← bytesN_inj, show ((1 : Int) : Int).toNat = 1 from rfl, hx, show bytesN (⟨#[45]⟩ : ByteArray) = [45] from rfl, show bt s 0 = _ from hb]
      simp
      omega
    rw [e2]
    by_cases hb : bt s 0 = 45
    · rw [decide_eq_true hb, if_pos rfl, if_pos (by omega), if_pos (by omega), if_pos ⟨h0, hb⟩]
      rfl
    · rw [decide_eq_false hb, if_neg (by simp), if_neg (fun h : 0 < s.size ∧ bt s 0 = 45 => hb h.2)]
      rfl
  · rw [if_neg (by omega), Option.bind_some, if_neg (by simp), if_neg (fun h : 0 < s.size ∧ bt s 0 = 45 => h0 h.1)]
    rfl
set_option maxHeartbeats 2000000 in
set_option maxRecDepth 100000 in
theorem parts_calls (s : ByteArray) (hs : s.size ≤ 2305843009213693952) (w : World) : Calls Tryd.prog 32 #[.string s] w fun e w' =>
    e = .returned (.tuple #[.bool (partsS s).1, .string (partsS s).2.1, .string (partsS s).2.2, .bool (rightP s)]) ∧ Below w.heap.size w w' := by
  have hle := partsS_le s
  have h1 := signS_le s
  have C1 := Aside0.mk (fun W => strings_CutPrefix.calls s (⟨#[45]⟩ : ByteArray) (signS s).1 (signS s).2 W (cutPrefix_is s (by omega)))
  have C2 := Aside0.mk (fun W => strings_Cut.calls (signS s).1 (⟨#[47]⟩ : ByteArray) (cutS (signS s).1).1 (cutS (signS s).1).2.1 (cutS (signS s).1).2.2 W (by unfold strings_Cut.f; rw [if_pos ⟨by rw [Go.ByteArray.toList_eq], by omega⟩]))
  obtain ⟨a, ha⟩ : ∃ a, a = (partsS s).2.1 := ⟨_, rfl⟩
  obtain ⟨b, hb⟩ : ∃ b, b = (partsS s).2.2 := ⟨_, rfl⟩
  rw [← ha, ← hb] at hle
  have HR : Aside0 (rightP s = (rightS a && rightS b)) := ⟨by rw [ha, hb]; rfl⟩
  have CA := Aside0.mk (fun W => rightN a (by omega) W)
  have CB := Aside0.mk (fun W => rightN b (by omega) W)
  have HA : Aside0 ((cutS (signS s).1).1 = a) := ⟨by rw [ha]; rfl⟩
  have HB : Aside0 ((if (cutS (signS s).1).2.2 = true then (cutS (signS s).1).2.1 else ⟨#[49]⟩) = b) := ⟨by rw [hb]; rfl⟩
  have H1 : Aside0 ((partsS s).1 = (signS s).2) := ⟨rfl⟩
  rw [← ha, ← hb, H1.out, HR.out]
  rw [HA.out] at C2
  generalize (signS s).2 = n at *
  generalize (cutS (signS s).1).2.1 = c at *
  generalize (cutS (signS s).1).2.2 = i at *
  generalize (signS s).1 = t at *
  clear HA H1 HR hle h1 hs ha hb
  have HW := Aside0.mk (Below.refl w.heap.size w)
  generalize rightS a = x at *
  generalize rightS b = y at *
  cases i
  all_goals
    replace HB := HB.out
    simp only [Bool.false_eq_true, if_true, if_false] at HB
    subst HB
    cases x
    all_goals
      go_enter Tryd.func32, Tryd.ntmps32
      go_wp2_with fail
      refine (C1.out _).mono ?_
      rintro e w1 ⟨rfl, hd⟩
      replace HW := Aside0.mk (below_step HW.out hd.below)
      clear hd
      go_wp2_with fail
      refine (C2.out _).mono ?_
      rintro e w1 ⟨rfl, hd⟩
      replace HW := Aside0.mk (below_step HW.out hd.below)
      clear hd
      go_wp2_with fail
      refine (CA.out _).mono ?_
      rintro e w1 ⟨rfl, hd⟩
      replace HW := Aside0.mk (below_step HW.out hd)
      clear hd
      go_wp2_with fail
      first
      | ((with_reducible refine (CB.out _).mono ?_)
         rintro e w1 ⟨rfl, hd⟩
         replace HW := Aside0.mk (below_step HW.out hd)
         clear hd
         go_wp2_with fail
         exact bodyPost_ret (by simp [results, Tryd.results32, go_sem]; rfl) rfl ⟨by simp, HW.out⟩)
      | (exact bodyPost_ret (by simp [results, Tryd.results32, go_sem]; rfl) rfl ⟨by simp, HW.out⟩)
theorem sh_len9 {s : ByteArray} (h : rightS s = true) : sh (decN s) * 9 ≤ s.size + 8 := by
  have h1 := dec_lt h
  have h2 : decN s < 4294967296 ^ ((s.size + 8) / 9) := by
    refine Nat.lt_of_lt_of_le h1 ?_
    refine Nat.le_trans (Nat.pow_le_pow_right (by decide) (show s.size ≤ 9 * ((s.size + 8) / 9) by omega)) ?_
    rw [Nat.pow_mul]
    exact Nat.pow_le_pow_left (by decide) _
  have := sh_le h2
  omega
theorem B3.new (w : World) (a b c : Value) : B3 (w.alloc (.cells #[a, b, c] 41)) w.heap.size a b c := ⟨blk_new _ _⟩
set_option maxHeartbeats 2000000 in
set_option maxRecDepth 100000 in
theorem of_calls (n : Bool) (a b : ByteArray) (ra : rightS a = true) (rb : rightS b = true) (sa : a.size ≤ 1900) (sb : b.size ≤ 1900) (w : World) : Calls Tryd.prog 33 #[.bool n, .string a, .string b] w fun e w' =>
    ∃ A c B d, e = .returned (.agg #[.bool n, .slice A (limbs (decN a)).length c, .slice B (limbs (decN b)).length d]) ∧ Lo w' w.heap.size (.slice A (limbs (decN a)).length c) (decN a) ∧ Lo w' w.heap.size (.slice B (limbs (decN b)).length d) (decN b) ∧ Below w.heap.size w w' := by
  have CA := Aside0.mk (fun W => parseN a ra sa W)
  have CB := Aside0.mk (fun W => parseN b rb sb W)
  clear ra rb sa sb
  generalize decN a = p at *
  generalize decN b = q at *
  go_enter Tryd.func33, Tryd.ntmps33
  go_wp2_with fail
  refine (CA.out _).mono ?_
  rintro e w1 ⟨u, rfl, hu, hb⟩
  have HU := Aside0.mk (B3.below (B3.new w _ _ _) hb)
  have HX := Aside0.mk (hu.lower (show w.heap.size + 1 ≤ _ by rw [alloc_size]; omega))
  have HB := Aside0.mk (below_step (below_alloc (Below.refl w.heap.size w) _) hb)
  obtain ⟨A, c, rfl, _⟩ := hu.v
  clear hu hb
  go_wp2_with fail
  refine (CB.out _).mono ?_
  rintro e w2 ⟨v, rfl, hv, hb⟩
  have HY := Aside0.mk (hv.lower (blk_lt HU.out.blk))
  replace HU := Aside0.mk (HU.out.below hb)
  replace HX := Aside0.mk (HX.out.below hb)
  replace HB := Aside0.mk (below_step HB.out hb)
  obtain ⟨B, d, rfl, _⟩ := hv.v
  clear hv hb
  obtain ⟨x1, x2, x3, x4, x5, x6⟩ := HU.out.cells
  go_wp2_with fail
  refine bodyPost_ret (results_cell_row rfl _ _ w.heap.size 41 _ (0, 0) _ rfl (HU.out.put3 _ _ _).blk Tryd.underlying41 rfl (by kernel_rfl)) rfl ?_
  exact ⟨A, c, B, d, rfl, (HX.out.set3 (by omega) _ _ _).lower (by omega), (HY.out.set3 (by omega) _ _ _).lower (by omega), below_set3 HB.out (by omega) _ _ _⟩
/-- A text's number: its sign and its parts; none, if it is not right. -/
def getS (s : ByteArray) : Option (Bool × Nat × Nat) :=
  if rightP s = true ∧ s.size ≤ 1900 ∧ 0 < decN (partsS s).2.2 ∧ strS (partsS s).1 (decN (partsS s).2.1) (decN (partsS s).2.2) = s then some ((partsS s).1, decN (partsS s).2.1, decN (partsS s).2.2) else none
theorem getS_sh {s : ByteArray} {x : Bool × Nat × Nat} (h : getS s = some x) : sh x.2.1 ≤ 220 ∧ sh x.2.2 ≤ 220 ∧ 0 < x.2.2 := by
  unfold getS at h
  split at h
  · rename_i hc
    obtain ⟨h1, h2, h3, _⟩ := hc
    obtain rfl := Option.some.inj h
    unfold rightP at h1
    rw [Bool.and_eq_true] at h1
    have hle := partsS_le s
    have h4 := sh_len9 h1.1
    have h5 := sh_len9 h1.2
    exact ⟨by show sh (decN (partsS s).2.1) ≤ 220; omega, by show sh (decN (partsS s).2.2) ≤ 220; omega, h3⟩
  · cases h
set_option maxHeartbeats 4000000 in
set_option maxRecDepth 100000 in
theorem get_calls (s : ByteArray) (hs : s.size ≤ 2305843009213693952) (w : World) : Calls Tryd.prog 44 #[.string s] w fun e w' =>
    ∃ n A c B d p q, e = .returned (.tuple #[.agg #[.bool n, .slice A (limbs p).length c, .slice B (limbs q).length d], .bool (getS s).isSome]) ∧ Lo w' w.heap.size (.slice A (limbs p).length c) p ∧ Lo w' w.heap.size (.slice B (limbs q).length d) q ∧ Below w.heap.size w w' ∧ (∀ x, getS s = some x → x = (n, p, q)) := by
  have CP := Aside0.mk (fun W => parts_calls s hs W)
  by_cases hc : rightP s = true ∧ s.size ≤ 1900
  · obtain ⟨hr, hl⟩ := hc
    have hr' := hr
    unfold rightP at hr'
    rw [Bool.and_eq_true] at hr'
    have hle := partsS_le s
    have CO := Aside0.mk (fun W => of_calls (partsS s).1 (partsS s).2.1 (partsS s).2.2 hr'.1 hr'.2 (by omega) (by omega) W)
    have l1 : sh (decN (partsS s).2.1) ≤ 1000 := by have := sh_len9 hr'.1; omega
    have l2 : sh (decN (partsS s).2.2) ≤ 1000 := by have := sh_len9 hr'.2; omega
    rw [hr] at CP
    have HG : Aside0 (getS s = if 0 < decN (partsS s).2.2 ∧ strS (partsS s).1 (decN (partsS s).2.1) (decN (partsS s).2.2) = s then some ((partsS s).1, decN (partsS s).2.1, decN (partsS s).2.2) else none) := ⟨by
      unfold getS
      by_cases h : 0 < decN (partsS s).2.2 ∧ strS (partsS s).1 (decN (partsS s).2.1) (decN (partsS s).2.2) = s
      · rw [if_pos h, if_pos ⟨hr, hl, h⟩]
      · rw [if_neg h, if_neg (fun g => h g.2.2)]⟩
    have hl2 : ¬ (1900 : Int) < (s.size : Int) := by omega
    generalize (partsS s).1 = n at *
    generalize decN (partsS s).2.1 = p at *
    generalize decN (partsS s).2.2 = q at *
    generalize (partsS s).2.1 = a at *
    generalize (partsS s).2.2 = b at *
    clear hle hr' hl hr
    go_enter Tryd.func44, Tryd.ntmps44
    go_wp2_with fail
    refine (CP.out _).mono ?_
    rintro e w1 ⟨rfl, hb⟩
    have HU := Aside0.mk (B3.below (B3.new w _ _ _) hb)
    have HB := Aside0.mk (below_step (below_alloc (Below.refl w.heap.size w) _) hb)
    clear hb
    go_wp2_with fail
    refine (CO.out _).mono ?_
    rintro e w2 ⟨A, c, B, d, rfl, hX, hY, hb⟩
    have HX := Aside0.mk (hX.lower (blk_lt HU.out.blk))
    have HY := Aside0.mk (hY.lower (blk_lt HU.out.blk))
    have hne := Aside0.mk (show w.heap.size < w2.heap.size from blk_lt (HU.out.below hb).blk)
    have HV := Aside0.mk (B3.new w2 (.bool n) (.slice A (limbs p).length c) (.slice B (limbs q).length d))
    replace HX := Aside0.mk (Lo.below HX.out (below_alloc (Below.refl _ _) (.cells #[.bool n, .slice A (limbs p).length c, .slice B (limbs q).length d] 41)))
    replace HY := Aside0.mk (Lo.below HY.out (below_alloc (Below.refl _ _) (.cells #[.bool n, .slice A (limbs p).length c, .slice B (limbs q).length d] 41)))
    replace HU := Aside0.mk (B3.below (HU.out.below hb) (below_alloc (Below.refl _ _) (.cells #[.bool n, .slice A (limbs p).length c, .slice B (limbs q).length d] 41)))
    replace HB := Aside0.mk (below_alloc (below_step HB.out hb) (.cells #[.bool n, .slice A (limbs p).length c, .slice B (limbs q).length d] 41))
    clear hb hX hY
    have ht : (limbs 0).length = 0 := by rw [limbs_zero]; rfl
    have CS := Aside0.mk (fun W h1 h2 => String_calls n (A := A) (B := B) (c := c) (d := d) (p := p) (q := q) W h1 h2 l1 l2)
    generalize strS n p q = R at *
    by_cases hq : q = 0
    · have HE : Aside0 (getS s = none) := ⟨by rw [HG.out, if_neg (fun h => by omega)]⟩
      have g1 : decide ((0 : Int) < ((limbs q).length : Int)) = false := by rw [hq, ht]; rfl
      have g2 : decide (0 < (limbs q).length) = false := by rw [hq, ht]; rfl
      clear hq HG CS ht
      go_wp2_with fail
      generalize hk : w2.heap.size = k at *
      generalize w2.alloc (.cells #[.bool n, .slice A (limbs p).length c, .slice B (limbs q).length d] 41) = W2 at *
      clear hk
      obtain ⟨x1, x2, x3, x4, x5, x6⟩ := HV.out.cells
      obtain ⟨y1, y2, y3, y4, y5, y6⟩ := HU.out.cells
      go_region
      all_goals
        go_wp2_with fail
        have HF := B3.below (HU.out.put3 (.bool n) (.slice A (limbs p).length c) (.slice B (limbs q).length d)) (below_drew (Below.refl _ _))
        obtain ⟨z1, z2, z3, _, _, _⟩ := HF.cells
        refine bodyPost_ret (v := .tuple #[.agg #[.bool n, .slice A (limbs p).length c, .slice B (limbs q).length d], .bool false]) (by simp [results, Tryd.results44, go_sem, z1, z2, z3]) rfl ?_
        exact ⟨n, A, c, B, d, p, q, by rw [HE.out]; rfl, ((HX.out.set3 (by omega) _ _ _).drew).lower (by omega), ((HY.out.set3 (by omega) _ _ _).drew).lower (by omega), below_drew (below_set3 HB.out (Nat.le_refl _) _ _ _), fun x hx => by rw [HE.out] at hx; cases hx⟩
    · have HQ := Aside0.mk hq
      have hp := (limbs_len0 q).2 hq
      have g1 : decide ((0 : Int) < ((limbs q).length : Int)) = true := decide_eq_true (by omega)
      have g2 : decide (0 < (limbs q).length) = true := decide_eq_true hp
      clear hq ht hp
      go_wp2_with fail
      generalize hk : w2.heap.size = k at *
      generalize w2.alloc (.cells #[.bool n, .slice A (limbs p).length c, .slice B (limbs q).length d] 41) = W2 at *
      clear hk
      replace HX := Aside0.mk HX.out.drew
      replace HY := Aside0.mk HY.out.drew
      replace HU := Aside0.mk (B3.below HU.out (below_drew (Below.refl _ _)))
      replace HV := Aside0.mk (B3.below HV.out (below_drew (Below.refl _ _)))
      replace HB := Aside0.mk (below_drew HB.out)
      go_region_held3 (fun W' => W'.cell? ⟨k, 0, none⟩ = some (.bool n) ∧ W'.cell? ⟨k, 1, none⟩ = some (.slice A (limbs p).length c) ∧ W'.cell? ⟨k, 2, none⟩ = some (.slice B (limbs q).length d))
        (first | exact ⟨HV.out.cells.1, HV.out.cells.2.1, HV.out.cells.2.2.1⟩ | exact ⟨(HV.out.far3 (Nat.ne_of_gt hne.out) _ _ _).cells.1, (HV.out.far3 (Nat.ne_of_gt hne.out) _ _ _).cells.2.1, (HV.out.far3 (Nat.ne_of_gt hne.out) _ _ _).cells.2.2.1⟩)
        (first | ((with_reducible refine (CS.out _ HX.out.v HY.out.v).mono ?_); rintro e wn ⟨rfl, hb⟩; replace HX := Aside0.mk (HX.out.below hb); replace HY := Aside0.mk (HY.out.below hb); replace HU := Aside0.mk (HU.out.below hb); replace HV := Aside0.mk (HV.out.below hb); replace HB := Aside0.mk (below_step HB.out hb); clear hb; obtain ⟨y1, y2, y3, y4, y5, y6⟩ := HU.out.cells))
      all_goals
        go_wp2_with fail
        have HF := HU.out.put3 (.bool n) (.slice A (limbs p).length c) (.slice B (limbs q).length d)
        obtain ⟨z1, z2, z3, _, _, _⟩ := HF.cells
        refine bodyPost_ret (v := .tuple #[.agg #[.bool n, .slice A (limbs p).length c, .slice B (limbs q).length d], .bool (R.toList == s.toList)]) (by simp [results, Tryd.results44, go_sem, z1, z2, z3]) rfl ?_
        refine ⟨n, A, c, B, d, p, q, ?_, (HX.out.set3 (by omega) _ _ _).lower (by omega), (HY.out.set3 (by omega) _ _ _).lower (by omega), below_set3 HB.out (Nat.le_refl _) _ _ _, fun x hx => ?_⟩
        · rw [HG.out]
          by_cases hr : R = s
          · rw [if_pos ⟨Nat.pos_of_ne_zero HQ.out, hr⟩, hr]
            simp
          · rw [if_neg (fun h => hr h.2), show (R.toList == s.toList) = false from by rw [beq_eq_false_iff_ne]; exact fun h => hr (toList_inj.1 h)]
            rfl
        · rw [HG.out] at hx
          split at hx
          · exact (Option.some.inj hx).symm
          · cases hx
  · have HG : Aside0 (getS s = none) := ⟨by unfold getS; rw [if_neg (fun h => hc ⟨h.1, h.2.1⟩)]⟩
    by_cases hr : rightP s = true
    · have hl : (1900 : Int) < (s.size : Int) := by have : ¬ s.size ≤ 1900 := fun h => hc ⟨hr, h⟩; omega
      rw [hr] at CP
      generalize (partsS s).1 = n at *
      generalize (partsS s).2.1 = a at *
      generalize (partsS s).2.2 = b at *
      clear hc hr
      go_enter Tryd.func44, Tryd.ntmps44
      go_wp2_with fail
      refine (CP.out _).mono ?_
      rintro e w1 ⟨rfl, hb⟩
      have HU := Aside0.mk (B3.below (B3.new w _ _ _) hb)
      have HB := Aside0.mk (below_step (below_alloc (Below.refl w.heap.size w) _) hb)
      clear hb
      obtain ⟨x1, x2, x3, x4, x5, x6⟩ := HU.out.cells
      go_wp2_with fail
      have HF := HU.out.put3 (.bool false) (.slice none 0 0) (.slice none 0 0)
      obtain ⟨y1, y2, y3, _, _, _⟩ := HF.cells
      refine bodyPost_ret (v := .tuple #[.agg #[.bool false, .slice none 0 0, .slice none 0 0], .bool false]) (by simp [results, Tryd.results44, go_sem, y1, y2, y3]) rfl ?_
      have hz : (limbs 0).length = 0 := by rw [limbs_zero]; rfl
      refine ⟨false, none, 0, none, 0, 0, 0, by rw [hz, HG.out]; rfl, ?_, ?_, below_set3 HB.out (Nat.le_refl _) _ _ _, fun x hx => by rw [HG.out] at hx; cases hx⟩
      all_goals (unfold Lo; rw [limbs_zero]; exact Kd.R_nil _ _ _ _ _)
    · have hr : rightP s = false := by simpa using hr
      rw [hr] at CP
      generalize (partsS s).1 = n at *
      generalize (partsS s).2.1 = a at *
      generalize (partsS s).2.2 = b at *
      clear hc hr
      go_enter Tryd.func44, Tryd.ntmps44
      go_wp2_with fail
      refine (CP.out _).mono ?_
      rintro e w1 ⟨rfl, hb⟩
      have HU := Aside0.mk (B3.below (B3.new w _ _ _) hb)
      have HB := Aside0.mk (below_step (below_alloc (Below.refl w.heap.size w) _) hb)
      clear hb
      obtain ⟨x1, x2, x3, x4, x5, x6⟩ := HU.out.cells
      go_wp2_with fail
      have HF := HU.out.put3 (.bool false) (.slice none 0 0) (.slice none 0 0)
      obtain ⟨y1, y2, y3, _, _, _⟩ := HF.cells
      refine bodyPost_ret (v := .tuple #[.agg #[.bool false, .slice none 0 0, .slice none 0 0], .bool false]) (by simp [results, Tryd.results44, go_sem, y1, y2, y3]) rfl ?_
      have hz : (limbs 0).length = 0 := by rw [limbs_zero]; rfl
      refine ⟨false, none, 0, none, 0, 0, 0, by rw [hz, HG.out]; rfl, ?_, ?_, below_set3 HB.out (Nat.le_refl _) _ _ _, fun x hx => by rw [HG.out] at hx; cases hx⟩
      all_goals (unfold Lo; rw [limbs_zero]; exact Kd.R_nil _ _ _ _ _)
end Go.Proofs.YtfnhohpmhpbpmaaDoor.G
