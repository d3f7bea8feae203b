/- The reference's numbers: a text's parts, a number's text, sums, products, order, told in the same words as rat's. Condition: texts of at most 2^61 bytes. -/
import Derived.Test.YtfnhohpmhpbpmaaDoorGx0
import Derived.Test.YtfnhohpmhpbpmaaDoorGx2
import Derived.Test.YtfnhohpmhpbpmaaDoorGx3
import Derived.Test.YtfnhohpmhpbpmaaDoorGx4
import Derived.Test.YtfnhohpmhpbpmaaDoorGx5
import Derived.Test.YtfnhohpmhpbpmaaDoorGx6
import Derived.Test.YtfnhohpmhpbpmaaDoorGRatText
import Derived.Test.YtfnhohpmhpbpmaaDoorGDigRef
namespace Go.Proofs.YtfnhohpmhpbpmaaDoor.G
open Go.RowKit Go.Proofs.YtfnhohpmhpbpmaaDoorW.PrintWords Go.Proofs.YtfnhohpmhpbpmaaDoorW.PrintLast Go.Proofs.YtfnhohpmhpbpmaaDoorW.PrintMore

section
variable {u v : Value} {m n : Nat} (w : World) (hu : Lv w u m) (hv : Lv w v n) (hm : sh m ≤ 1000) (hn : sh n ≤ 1000)
include hu hv hm hn
theorem rMulN : Calls Tryd.prog 50 #[u, v] w fun e w' => ∃ z, e = .returned z ∧ Lo w' w.heap.size z (m * n) ∧ Below w.heap.size w w' := by
  obtain ⟨A, c, rfl, r⟩ := hu
  obtain ⟨B, d, rfl, s⟩ := hv
  have hE := eRMul (wfL_limbs m) (wfL_limbs n) hm hn
  rw [valN_limbs, valN_limbs] at hE
  obtain ⟨k, h⟩ := hE.rounds
  exact tribunalref01_Mul.calls k A c _ B d _ _ w r.cells r.le s.cells s.le h
theorem rAddN : Calls Tryd.prog 59 #[u, v] w fun e w' => ∃ z, e = .returned z ∧ Lo w' w.heap.size z (m + n) ∧ Below w.heap.size w w' := by
  obtain ⟨A, c, rfl, r⟩ := hu
  obtain ⟨B, d, rfl, s⟩ := hv
  have hE := eRAdd (wfL_limbs m) (wfL_limbs n) hm hn
  rw [valN_limbs, valN_limbs] at hE
  obtain ⟨k, h⟩ := hE.rounds
  exact tribunalref01_Add.calls k A c _ B d _ _ w r.cells r.le s.cells s.le h
theorem rGcdN : Calls Tryd.prog 61 #[u, v] w fun e w' => ∃ z, e = .returned z ∧ Lo w' w.heap.size z (Nat.gcd m n) ∧ Below w.heap.size w w' := by
  obtain ⟨A, c, rfl, r⟩ := hu
  obtain ⟨B, d, rfl, s⟩ := hv
  have hE := eRGcd (wfL_limbs m) (wfL_limbs n) hm hn
  rw [valN_limbs, valN_limbs] at hE
  obtain ⟨k, h⟩ := hE.rounds
  exact tribunalref01_Gcd.calls k A c _ B d _ _ w r.cells r.le s.cells s.le h
theorem rSubN : Calls Tryd.prog 67 #[u, v] w fun e w' => ∃ z, e = .returned (.tuple #[z, .bool (!decide (m < n))]) ∧ Lo w' w.heap.size z (m - n) ∧ Below w.heap.size w w' := by
  obtain ⟨A, c, rfl, r⟩ := hu
  obtain ⟨B, d, rfl, s⟩ := hv
  have hE := eRSub (wfL_limbs m) (wfL_limbs n) hm hn
  rw [valN_limbs, valN_limbs] at hE
  obtain ⟨k, h⟩ := hE.rounds
  have e : subR m n = (limbs (m - n), !decide (m < n)) := by
    unfold subR
    by_cases hlt : m < n
    · rw [if_pos hlt, show m - n = 0 by omega, limbs_zero, decide_eq_true hlt]; rfl
    · rw [if_neg hlt, decide_eq_false hlt]; rfl
  rw [e] at h
  exact tribunalref01_Sub.calls k A c _ B d _ _ _ w r.cells r.le s.cells s.le h
theorem rDivN : Calls Tryd.prog 62 #[u, v] w fun e w' => ∃ z A x, e = .returned (.tuple #[z, x, .bool A]) ∧ Lo w' w.heap.size z (m / n) ∧ Below w.heap.size w w' := by
  obtain ⟨A, c, rfl, r⟩ := hu
  obtain ⟨B, d, rfl, s⟩ := hv
  have hE := eRDiv (wfL_limbs m) (wfL_limbs n) hm hn
  rw [valN_limbs, valN_limbs] at hE
  obtain ⟨k, h⟩ := hE.rounds
  obtain ⟨y, e⟩ : ∃ y, divR m n = (limbs (m / n), y, !decide (n = 0)) := by
    unfold divR
    by_cases h0 : n = 0
    · rw [if_pos h0, h0, Nat.div_zero, limbs_zero]; exact ⟨_, rfl⟩
    · rw [if_neg h0, decide_eq_false h0]; exact ⟨_, rfl⟩
  rw [e] at h
  refine (tribunalref01_Div.calls k A c _ B d _ _ _ _ w r.cells r.le s.cells s.le h).mono ?_
  rintro e w' ⟨z, x, rfl, hz, _, hb⟩
  exact ⟨z, _, x, rfl, Kd.R_mono hz (fun _ _ => trivial), hb⟩
theorem rCmpN : Calls Tryd.prog 48 #[u, v] w fun e w' => e = .returned (.int .i64 (cmpN m n)) ∧ Below w.heap.size w w' := by
  obtain ⟨A, c, rfl, r⟩ := hu
  obtain ⟨B, d, rfl, s⟩ := hv
  have hE := eRCmp (wfL_limbs m) (wfL_limbs n) hm hn
  rw [valN_limbs, valN_limbs] at hE
  obtain ⟨k, h⟩ := hE.rounds
  exact tribunalref01_Cmp.calls k A c _ B d _ _ w r.cells r.le s.cells s.le h
end
theorem rTextN {u : Value} {n : Nat} (w : World) (hu : Lv w u n) (hn : sh n ≤ 1000) : Calls Tryd.prog 63 #[u] w fun e w' => e = .returned (.string (textS n)) ∧ Below w.heap.size w w' := by
  obtain ⟨A, c, rfl, r⟩ := hu
  have hE := RText_is (limbs n) (wfL_limbs n) hn
  rw [valN_limbs] at hE
  obtain ⟨k, h⟩ := hE.rounds
  exact tribunalref02_Text.calls k A c _ _ w r.cells r.le h
theorem rRightN (s : ByteArray) (hs : s.size ≤ 2305843009213693951) (w : World) : Calls Tryd.prog 36 #[.string s] w fun e w' => e = .returned (.bool (rightS s)) ∧ Below w.heap.size w w' := by
  obtain ⟨k, h⟩ := (RRight_is s hs).rounds
  refine (tribunalref02_Right.calls k s _ w h).mono ?_
  rintro e w' ⟨rfl, hd⟩
  exact ⟨rfl, hd.below⟩
theorem rParseN (s : ByteArray) (hr : rightS s = true) (hs : s.size ≤ 1900) (w : World) : Calls Tryd.prog 37 #[.string s] w fun e w' => ∃ z, e = .returned (.tuple #[z, .int .i64 0]) ∧ Lo w' w.heap.size z (decN s) ∧ Below w.heap.size w w' := by
  obtain ⟨k, h⟩ := (RParse_is s (by omega)).rounds
  rw [parse_ok hr hs] at h
  exact tribunalref02_Parse.calls k s _ _ w h
/-! The text's parts. -/
theorem slash_at {t : ByteArray} {i : Nat} (hi : i < t.size) (hb : bt t (i : Int) = 47) (hn : 47 ∉ (bytesN t).take i) : slashAt t = (i : Int) := by
  have hl : i < t.data.toList.length := hi
  have e : t.data.toList = t.data.toList.take i ++ t.data.toList[i] :: t.data.toList.drop (i + 1) := by
    rw [← List.drop_eq_getElem_cons hl, List.take_append_drop]
  have hc : t.data.toList[i] = 47 := by
    have h1 := bt_nat t i
    rw [hb] at h1
    have h2 : (bytesN t).getD i 0 = t.data.toList[i].toNat := by
      unfold bytesN
      rw [List.getD_eq_getElem?_getD, List.getElem?_map, List.getElem?_eq_getElem hl]
      rfl
    rw [h2] at h1
    exact UInt8.toNat_inj.1 (by have : (47 : UInt8).toNat = 47 := rfl; omega)
  unfold slashAt
  rw [e, hc, index_at]
  · rw [List.length_take]; omega
  · show 47 ∉ (t.data.toList.take i).map UInt8.toNat
    unfold bytesN at hn
    rw [← List.map_take] at hn
    exact hn
theorem rcut_l0 (t : ByteArray) (n : Bool) (hs : t.size ≤ 2305843009213693952) (d : Nat) : ∀ i : Nat, i ≤ t.size → t.size ≤ i + d → 47 ∉ (bytesN t).take i →
    ∃ c, Ev (fun k => tribunalref03_cut.l0 k t n (i : Int)) (n, (cutS t).1, (if (cutS t).2.2 = true then (cutS t).2.1 else ⟨#[49]⟩), c) := by
  have fin : 47 ∉ bytesN t → ∃ c, Ev (fun k => tribunalref03_cut.l0 k t n (t.size : Int)) (n, (cutS t).1, (if (cutS t).2.2 = true then (cutS t).2.1 else ⟨#[49]⟩), c) := by
    intro h
    rw [cutS_none h]
    refine ⟨false, ?_⟩
    apply Ev.step
    · intro k; rw [tribunalref03_cut.l0]
    · exact Ev.neg (by omega) (Ev.now _)
  induction d with
  | zero =>
    intro i h1 h2 h3
    obtain rfl : i = t.size := by omega
    rw [List.take_of_length_le (by rw [bytesN_length]; omega)] at h3
    exact fin h3
  | succ d ih =>
    intro i h1 h2 h3
    by_cases hi : i < t.size
    · have w1 : wrap64 ((i : Int) + 1) = ((i + 1 : Nat) : Int) := by rw [wrap64_id (by omega) (by omega)]; rfl
      by_cases hb : bt t (i : Int) = 47
      · have hsl := slash_at hi hb h3
        have hc : cutS t = (t.extract 0 i, t.extract (i + 1) t.size, true) := by
          unfold cutS
          rw [hsl, if_neg (by omega), Int.toNat_natCast]
        rw [hc]
        refine ⟨true, ?_⟩
        apply Ev.step
        · intro k; rw [tribunalref03_cut.l0]
        · rw [w1]
          refine Ev.pos (by omega) (Ev.pos (by omega) (Ev.pos hb (Ev.pos (by omega) (Ev.pos (by omega) (Ev.pos (by omega) (Ev.const ?_))))))
          rw [Int.toNat_natCast, Int.toNat_natCast]
          rfl
      · have h4 : 47 ∉ (bytesN t).take (i + 1) := by
          have hlen : i < (bytesN t).length := by rw [bytesN_length]; exact hi
          rw [List.take_succ_eq_append_getElem hlen, List.mem_append, not_or, List.mem_singleton]
          refine ⟨h3, fun h => hb ?_⟩
          have h1 := bt_nat t i
          rw [h1, List.getD_eq_getElem?_getD, List.getElem?_eq_getElem hlen]
          show (((bytesN t)[i] : Nat) : Int) = 47
          rw [← h]; rfl
        obtain ⟨c, E⟩ := ih (i + 1) (by omega) (by omega) h4
        refine ⟨c, ?_⟩
        apply Ev.step
        · intro k; rw [tribunalref03_cut.l0]
        · rw [w1]
          exact Ev.pos (by omega) (Ev.pos (by omega) (Ev.neg hb E))
    · obtain rfl : i = t.size := by omega
      rw [List.take_of_length_le (by rw [bytesN_length]; omega)] at h3
      exact fin h3
theorem rcut_is (s : ByteArray) (hs : s.size ≤ 2305843009213693952) : ∃ c, Ev (fun k => tribunalref03_cut.f k s) ((partsS s).1, (partsS s).2.1, (partsS s).2.2, c) := by
  have go : ∀ (t : ByteArray) (n : Bool), signS s = (t, n) → t.size ≤ 2305843009213693952 → ∃ c, Ev (fun k => tribunalref03_cut.j1 k t n) ((partsS s).1, (partsS s).2.1, (partsS s).2.2, c) := by
    intro t n e ht
    obtain ⟨c, E⟩ := rcut_l0 t n ht t.size 0 (Nat.zero_le _) (by omega) (by simp)
    refine ⟨c, ?_⟩
    apply Ev.step
    · intro k; rw [tribunalref03_cut.j1]
    · unfold partsS
      rw [e]
      exact E
  by_cases h0 : 0 < s.size
  · by_cases hb : bt s 0 = 45
    · have e : signS s = (s.extract 1 s.size, true) := by unfold signS; rw [if_pos ⟨h0, hb⟩]
      obtain ⟨c, E⟩ := go _ _ e (by have := extract_le s 1 s.size; omega)
      refine ⟨c, ?_⟩
      unfold tribunalref03_cut.f
      refine Ev.pos (by omega) (Ev.pos (by omega) ?_)
      rw [show (bt s 0 == 45) = true from by rw [beq_iff_eq]; exact hb]
      apply Ev.step
      · intro k; rw [tribunalref03_cut.j0]
      · exact Ev.pos rfl (Ev.pos (by omega) E)
    · have e : signS s = (s, false) := by unfold signS; rw [if_neg (fun h => hb h.2)]
      obtain ⟨c, E⟩ := go _ _ e hs
      refine ⟨c, ?_⟩
      unfold tribunalref03_cut.f
      refine Ev.pos (by omega) (Ev.pos (by omega) ?_)
      rw [show (bt s 0 == 45) = false from by rw [beq_eq_false_iff_ne]; exact hb]
      apply Ev.step
      · intro k; rw [tribunalref03_cut.j0]
      · exact Ev.neg (by simp) E
  · have e : signS s = (s, false) := by unfold signS; rw [if_neg (fun h => h0 h.1)]
    obtain ⟨c, E⟩ := go _ _ e hs
    refine ⟨c, ?_⟩
    unfold tribunalref03_cut.f
    refine Ev.neg (by omega) ?_
    apply Ev.step
    · intro k; rw [tribunalref03_cut.j0]
    · exact Ev.neg (by simp) E
theorem rcut_calls (s : ByteArray) (hs : s.size ≤ 2305843009213693952) (w : World) : Calls Tryd.prog 35 #[.string s] w fun e w' =>
    ∃ c, e = .returned (.tuple #[.bool (partsS s).1, .string (partsS s).2.1, .string (partsS s).2.2, .bool c]) ∧ Below w.heap.size w w' := by
  obtain ⟨c, E⟩ := rcut_is s hs
  obtain ⟨k, h⟩ := E.rounds
  refine (tribunalref03_cut.calls k s _ _ _ c w h).mono ?_
  rintro e w' ⟨rfl, hd⟩
  exact ⟨c, rfl, hd.below⟩
/-! Numbers in memory. -/
structure C3 (w : World) (g : Nat) (a b c : Value) : Prop where
  blk : w.heap[g]? = some (.cells #[a, b, c] 48 (0, 0))
theorem C3.cells {w : World} {g : Nat} {a b c : Value} (h : C3 w g a b c) : w.cell? ⟨g, 0, none⟩ = some a ∧ w.cell? ⟨g, 1, none⟩ = some b ∧ w.cell? ⟨g, 2, none⟩ = some c ∧ w.frozen? ⟨g, 0, none⟩ = false ∧ w.frozen? ⟨g, 1, none⟩ = false ∧ w.frozen? ⟨g, 2, none⟩ = false :=
  ⟨(blk_cell h.blk 0).trans rfl, (blk_cell h.blk 1).trans rfl, (blk_cell h.blk 2).trans rfl, blk_frozen h.blk 0, blk_frozen h.blk 1, blk_frozen h.blk 2⟩
theorem C3.below {w w1 : World} {g : Nat} {a b c : Value} (h : C3 w g a b c) (hb : Below w.heap.size w w1) : C3 w1 g a b c := ⟨blk_below h.blk hb⟩
theorem C3.first (w : World) (a b c : Value) (o : Obj) : C3 ((w.alloc (.cells #[a, b, c] 48)).alloc o) w.heap.size a b c := ⟨blk_alloc (blk_new _ _) _⟩
theorem C3.last (w : World) (a b c : Value) (o : Obj) : C3 ((w.alloc o).alloc (.cells #[a, b, c] 48)) (w.heap.size + 1) a b c := ⟨by have h := blk_new (w.alloc o) (.cells #[a, b, c] 48); rwa [alloc_size] at h⟩
theorem C3.put0 {w : World} {g : Nat} {a b c : Value} (h : C3 w g a b c) (u : Value) : C3 (w.setCell ⟨g, 0, none⟩ u) g u b c := ⟨blk_put h.blk 0 u rfl⟩
theorem C3.put1 {w : World} {g : Nat} {a b c : Value} (h : C3 w g a b c) (u : Value) : C3 (w.setCell ⟨g, 1, none⟩ u) g a u c := ⟨blk_put h.blk 1 u rfl⟩
theorem C3.put2 {w : World} {g : Nat} {a b c : Value} (h : C3 w g a b c) (u : Value) : C3 (w.setCell ⟨g, 2, none⟩ u) g a b u := ⟨blk_put h.blk 2 u rfl⟩
theorem C3.far {w : World} {g : Nat} {a b c : Value} (h : C3 w g a b c) {p : Addr} (hp : g ≠ p.block) (u : Value) : C3 (w.setCell p u) g a b c := ⟨blk_far h.blk hp u⟩
theorem duo_new {w w1 : World} {o1 o2 : Obj} (hb : Below ((w.alloc o1).alloc o2).heap.size ((w.alloc o1).alloc o2) w1) : Below w.heap.size w w1 := below_step (below_alloc (below_alloc (Below.refl _ _) _) _) hb
theorem C3.new (w : World) (a b c : Value) : C3 (w.alloc (.cells #[a, b, c] 48)) w.heap.size a b c := ⟨blk_new _ _⟩
structure Duo (w W : World) (a b c d e f x y z : Value) : Prop where
  hb : Below w.heap.size w W
  p : C3 W w.heap.size a b c
  q : C3 W (w.heap.size + 1) d e f
  r : C3 W (w.heap.size + 2) x y z
theorem Duo.below {w W W1 : World} {a b c d e f x y z : Value} (h : Duo w W a b c d e f x y z) (hb : Below W.heap.size W W1) : Duo w W1 a b c d e f x y z := ⟨below_step h.hb hb, h.p.below hb, h.q.below hb, h.r.below hb⟩
theorem Duo.start (w : World) (a b c d e f x y z : Value) : Duo w (((w.alloc (.cells #[a, b, c] 48)).alloc (.cells #[d, e, f] 48)).alloc (.cells #[x, y, z] 48)) a b c d e f x y z :=
  ⟨below_alloc (below_alloc (below_alloc (Below.refl _ _) _) _) _, ⟨blk_alloc (blk_alloc (blk_new _ _) _) _⟩, ⟨blk_alloc (C3.last w d e f _).blk _⟩, ⟨by have h := C3.last (w.alloc (.cells #[a, b, c] 48)) x y z (.cells #[d, e, f] 48); rw [alloc_size] at h; exact h.blk⟩⟩
theorem Duo.drew {w W : World} {a b c d e f x y z : Value} (h : Duo w W a b c d e f x y z) : Duo w W.drew a b c d e f x y z := h.below (below_drew (Below.refl _ _))
theorem siz_of {W : World} {g : Nat} {a b c d e f : Value} (p : C3 W g a b c) (q : C3 W (g + 1) d e f) :
    W.cell? ⟨g, 0, none⟩ = some a ∧ W.cell? ⟨g, 1, none⟩ = some b ∧ W.cell? ⟨g, 2, none⟩ = some c ∧ W.cell? ⟨g + 1, 0, none⟩ = some d ∧ W.cell? ⟨g + 1, 1, none⟩ = some e ∧ W.cell? ⟨g + 1, 2, none⟩ = some f :=
  ⟨p.cells.1, p.cells.2.1, p.cells.2.2.1, q.cells.1, q.cells.2.1, q.cells.2.2.1⟩
theorem Duo.six {w W : World} {a b c d e f x y z : Value} (h : Duo w W a b c d e f x y z) :
    W.cell? ⟨w.heap.size, 0, none⟩ = some a ∧ W.cell? ⟨w.heap.size, 1, none⟩ = some b ∧ W.cell? ⟨w.heap.size, 2, none⟩ = some c ∧ W.cell? ⟨w.heap.size + 1, 0, none⟩ = some d ∧ W.cell? ⟨w.heap.size + 1, 1, none⟩ = some e ∧ W.cell? ⟨w.heap.size + 1, 2, none⟩ = some f :=
  siz_of h.p h.q
theorem C3.far3 {W : World} {g k : Nat} {a b c : Value} (h : C3 W g a b c) (hk : g ≠ k) (u v x : Value) : C3 (((W.setCell ⟨k, 0, none⟩ u).setCell ⟨k, 1, none⟩ v).setCell ⟨k, 2, none⟩ x) g a b c := ((h.far hk _).far hk _).far hk _
theorem C3.put3 {W : World} {g : Nat} {a b c : Value} (h : C3 W g a b c) (u v x : Value) : C3 (((W.setCell ⟨g, 0, none⟩ u).setCell ⟨g, 1, none⟩ v).setCell ⟨g, 2, none⟩ x) g u v x := ((h.put0 _).put1 _).put2 _
theorem Duo.six_far {w W : World} {a b c d e f x y z : Value} (h : Duo w W a b c d e f x y z) (u v t : Value) :
    (((W.setCell ⟨w.heap.size + 1 + 1, 0, none⟩ u).setCell ⟨w.heap.size + 1 + 1, 1, none⟩ v).setCell ⟨w.heap.size + 1 + 1, 2, none⟩ t).cell? ⟨w.heap.size, 0, none⟩ = some a ∧ (((W.setCell ⟨w.heap.size + 1 + 1, 0, none⟩ u).setCell ⟨w.heap.size + 1 + 1, 1, none⟩ v).setCell ⟨w.heap.size + 1 + 1, 2, none⟩ t).cell? ⟨w.heap.size, 1, none⟩ = some b ∧ (((W.setCell ⟨w.heap.size + 1 + 1, 0, none⟩ u).setCell ⟨w.heap.size + 1 + 1, 1, none⟩ v).setCell ⟨w.heap.size + 1 + 1, 2, none⟩ t).cell? ⟨w.heap.size, 2, none⟩ = some c ∧ (((W.setCell ⟨w.heap.size + 1 + 1, 0, none⟩ u).setCell ⟨w.heap.size + 1 + 1, 1, none⟩ v).setCell ⟨w.heap.size + 1 + 1, 2, none⟩ t).cell? ⟨w.heap.size + 1, 0, none⟩ = some d ∧ (((W.setCell ⟨w.heap.size + 1 + 1, 0, none⟩ u).setCell ⟨w.heap.size + 1 + 1, 1, none⟩ v).setCell ⟨w.heap.size + 1 + 1, 2, none⟩ t).cell? ⟨w.heap.size + 1, 1, none⟩ = some e ∧ (((W.setCell ⟨w.heap.size + 1 + 1, 0, none⟩ u).setCell ⟨w.heap.size + 1 + 1, 1, none⟩ v).setCell ⟨w.heap.size + 1 + 1, 2, none⟩ t).cell? ⟨w.heap.size + 1, 2, none⟩ = some f :=
  siz_of (h.p.far3 (show w.heap.size ≠ w.heap.size + 1 + 1 by omega) u v t) (h.q.far3 (show w.heap.size + 1 ≠ w.heap.size + 1 + 1 by omega) u v t)
theorem Duo.size {w W : World} {a b c d e f x y z : Value} (h : Duo w W a b c d e f x y z) : w.heap.size + 3 ≤ W.heap.size := blk_lt h.r.blk
/-- v reads as n, and lies nowhere in block g. -/
def Lf (w : World) (g : Nat) (v : Value) (n : Nat) : Prop := Kd.R (Kd.int .u32) 71 w 0 (fun k => k ≠ g) v (limbs n)
theorem Lf.v {w : World} {g : Nat} {v : Value} {n : Nat} (h : Lf w g v n) : Lv w v n := Rd.of_R (wfL_limbs n) h
theorem Lf.below {w w1 : World} {g : Nat} {v : Value} {n : Nat} (h : Lf w g v n) (hb : Below w.heap.size w w1) : Lf w1 g v n := Kd.R_below h hb
theorem Lf.set {w : World} {g i : Nat} {v : Value} {n : Nat} (h : Lf w g v n) (u : Value) : Lf (w.setCell ⟨g, i, none⟩ u) g v n := Kd.R_far h (fun _ hk => hk) u
theorem Lo.elf {w : World} {lo : Nat} {v : Value} {n : Nat} (h : Lo w lo v n) : Lf w w.heap.size v n := Kd.R_mono (Kd.R_lower (Kd.R_bound h) (Nat.zero_le _)) (fun k hk e => by have := hk.2.2.1; omega)
theorem Lv.one (w : World) : Lv (w.alloc (.cells #[.int .u32 1] 71)) (.slice (some ⟨w.heap.size, 0, none⟩) 1 1) 1 := by
  have e : limbs 1 = [1] := limbs_lit [1] 1 (by decide) (by decide) (by decide)
  exact ⟨_, _, by rw [e]; rfl, by rw [e]; exact Rd.lit w [1] (by decide) (by decide)⟩
theorem cmp_one {Q : Nat} (h0 : Q ≠ 0) : cmpN Q 1 = if Q = 1 then 0 else 1 := by
  unfold cmpN
  by_cases h : Q = 1
  · rw [if_pos h, h]; rfl
  · rw [if_neg h, if_neg (by omega), if_pos (by omega)]
set_option maxHeartbeats 4000000 in
set_option maxRecDepth 100000 in
theorem rtext_calls (n : Bool) {A B : Option Addr} {c d p q : Nat} (w : World) (hp : Lv w (.slice A (limbs p).length c) p) (hq : Lv w (.slice B (limbs q).length d) q) (lp : sh p ≤ 1000) (lq : sh q ≤ 1000) (q0 : q ≠ 0) :
    Calls Tryd.prog 38 #[.agg #[.bool n, .slice A (limbs p).length c, .slice B (limbs q).length d]] w fun e w' => e = .returned (.string (strS n p q)) ∧ Below w.heap.size w w' := by
  have HP := Aside0.mk hp
  have HQ := Aside0.mk hq
  clear hp hq
  have lg : sh (Nat.gcd p q) ≤ 1000 := Nat.le_trans (sh_mono (Nat.gcd_le_right p (Nat.pos_of_ne_zero q0))) lq
  obtain ⟨R, hR⟩ : ∃ R, R = strS n p q := ⟨_, rfl⟩
  rw [← hR]
  obtain ⟨P, hP⟩ : ∃ P, P = p / Nat.gcd p q := ⟨_, rfl⟩
  obtain ⟨Q, hQ⟩ : ∃ Q, Q = q / Nat.gcd p q := ⟨_, rfl⟩
  have lP : sh P ≤ 1000 := by rw [hP]; exact Nat.le_trans (sh_div _ _) lp
  have lQ : sh Q ≤ 1000 := by rw [hQ]; exact Nat.le_trans (sh_div _ _) lq
  have hQ0 : Q ≠ 0 := by rw [hQ]; exact Nat.ne_of_gt (Nat.div_pos (Nat.gcd_le_right p (Nat.pos_of_ne_zero q0)) (Nat.gcd_pos_of_pos_right p (Nat.pos_of_ne_zero q0)))
  have HRE : Aside0 (R = tailS (headS (n && decide (P ≠ 0)) P) Q) := ⟨by rw [hR, strS, ← hP, ← hQ]⟩
  have CG := Aside0.mk (fun (W : World) h1 h2 => rGcdN (u := .slice A (limbs p).length c) (v := .slice B (limbs q).length d) (m := p) (n := q) W h1 h2 lp lq)
  have CDP := Aside0.mk (fun (u v : Value) (W : World) h1 h2 => rDivN (u := u) (v := v) (m := p) (n := Nat.gcd p q) W h1 h2 lp lg)
  have CDQ := Aside0.mk (fun (u v : Value) (W : World) h1 h2 => rDivN (u := u) (v := v) (m := q) (n := Nat.gcd p q) W h1 h2 lq lg)
  rw [← hP] at CDP
  rw [← hQ] at CDQ
  generalize Nat.gcd p q = g at *
  clear hR hP hQ q0
  have sP := textS_max lP
  have sQ := textS_max lQ
  have CP := Aside0.mk (fun (u : Value) (W : World) h => rTextN (u := u) (n := P) W h lP)
  have CQ := Aside0.mk (fun (u : Value) (W : World) h => rTextN (u := u) (n := Q) W h lQ)
  unfold headS tailS at HRE
  generalize textS P = TP at *
  generalize textS Q = TQ at *
  have l1 : sh 1 ≤ 1000 := Nat.le_trans (sh_le (k := 1) (by decide)) (by decide)
  have CC := Aside0.mk (fun (u v : Value) (W : World) h1 h2 => rCmpN (u := u) (v := v) (m := Q) (n := 1) W h1 h2 lQ l1)
  rw [cmp_one hQ0] at CC
  have al := below_alloc (Below.refl w.heap.size w) (.cells #[.bool n, .slice A (limbs p).length c, .slice B (limbs q).length d] 48)
  have HU := Aside0.mk (C3.new w (.bool n) (.slice A (limbs p).length c) (.slice B (limbs q).length d))
  replace HP := Aside0.mk (HP.out.below al)
  replace HQ := Aside0.mk (HQ.out.below al)
  have HB := Aside0.mk al
  clear al
  go_enter Tryd.func38, Tryd.ntmps38
  go_wp2_with fail
  refine (CG.out _ HP.out HQ.out).mono ?_
  rintro e w1 ⟨z, rfl, hz, hb⟩
  obtain ⟨Ag, cg, rfl, _⟩ := hz.v
  replace HU := Aside0.mk (HU.out.below hb)
  replace HP := Aside0.mk (HP.out.below hb)
  replace HQ := Aside0.mk (HQ.out.below hb)
  replace HB := Aside0.mk (below_step HB.out hb)
  have HZ := Aside0.mk hz.v
  clear hz hb CG
  obtain ⟨x1, x2, x3, x4, x5, x6⟩ := HU.out.cells
  go_wp2_with fail
  refine (CDP.out _ _ _ HP.out HZ.out).mono ?_
  rintro e w2 ⟨z, bA, xr, rfl, hz, hb⟩
  obtain ⟨Ap, cp, rfl, _⟩ := hz.v
  replace HU := Aside0.mk (HU.out.below hb)
  replace HQ := Aside0.mk (HQ.out.below hb)
  replace HZ := Aside0.mk (HZ.out.below hb)
  replace HB := Aside0.mk (below_step HB.out hb)
  have HX := Aside0.mk hz.v
  clear hz hb CDP HP x1 x2 x3 x4 x5 x6
  obtain ⟨x1, x2, x3, x4, x5, x6⟩ := HU.out.cells
  go_wp2_with fail
  refine (CDQ.out _ _ _ HQ.out HZ.out).mono ?_
  rintro e w3 ⟨z, bB, xs, rfl, hz, hb⟩
  obtain ⟨Aq, cq, rfl, _⟩ := hz.v
  replace HU := Aside0.mk (HU.out.below hb)
  replace HX := Aside0.mk (HX.out.below hb)
  replace HB := Aside0.mk (below_step HB.out hb)
  have HY := Aside0.mk hz.v
  clear hz hb CDQ HQ HZ x1 x2 x3 x4 x5 x6
  obtain ⟨x1, x2, x3, x4, x5, x6⟩ := HU.out.cells
  go_wp2_with fail
  refine (CP.out _ _ HX.out).mono ?_
  rintro e w4 ⟨rfl, hb⟩
  replace HU := Aside0.mk (HU.out.below hb)
  replace HY := Aside0.mk (HY.out.below hb)
  replace HB := Aside0.mk (below_step HB.out hb)
  clear hb HX CP x1 x2 x3 x4 x5 x6
  obtain ⟨x1, x2, x3, x4, x5, x6⟩ := HU.out.cells
  have al := fun o => below_alloc (Below.refl w4.heap.size w4) o
  have HYA := Aside0.mk (HY.out.below (al (.cells #[.int .u32 1] 71)))
  have HBA := Aside0.mk (below_alloc HB.out (.cells #[.int .u32 1] 71))
  clear al
  have hl0 := limbs_len0 P
  by_cases hp0 : P = 0
  · have g1 : decide ((0 : Int) < ((limbs P).length : Int)) = false := decide_eq_false (by have : ¬ 0 < (limbs P).length := fun h => hl0.1 h hp0; omega)
    have g2 : decide (0 < (limbs P).length) = false := decide_eq_false (fun h => hl0.1 h hp0)
    rw [decide_eq_false (show ¬ P ≠ 0 from fun h => h hp0), Bool.and_false] at HRE
    clear hl0 hp0
    by_cases hq1 : Q = 1
    · rw [if_pos hq1] at CC
      replace HRE : Aside0 (R = TP) := ⟨by rw [HRE.out, if_neg (by omega)]; rfl⟩
      clear hq1 hQ0
      cases n
      all_goals
        go_wp2_with fail
        refine (CC.out _ _ _ HYA.out (Lv.one _)).mono ?_
        rintro e w5 ⟨rfl, hb⟩
        replace HB := Aside0.mk (below_step HBA.out hb)
        clear hb
        go_wp2_with fail
        go_ret
        exact ⟨by rw [HRE.out]; rfl, HB.out⟩
    · rw [if_neg hq1] at CC
      replace HRE : Aside0 (R = (TP ++ (⟨#[47]⟩ : ByteArray)) ++ TQ) := ⟨by rw [HRE.out, if_pos (by omega), ByteArray.append_assoc]; rfl⟩
      clear hq1 hQ0
      cases n
      all_goals
        go_wp2_with fail
        refine (CC.out _ _ _ HYA.out (Lv.one _)).mono ?_
        rintro e w5 ⟨rfl, hb⟩
        replace HB := Aside0.mk (below_step HBA.out hb)
        replace HY := Aside0.mk (HYA.out.below hb)
        clear hb
        go_wp2_with fail
        refine (CQ.out _ _ HY.out).mono ?_
        rintro e w6 ⟨rfl, hb⟩
        replace HB := Aside0.mk (below_step HB.out hb)
        clear hb
        go_wp2_with fail
        go_ret
        exact ⟨by rw [HRE.out]; rfl, HB.out⟩
  · have g1 : decide ((0 : Int) < ((limbs P).length : Int)) = true := decide_eq_true (by have := hl0.2 hp0; omega)
    have g2 : decide (0 < (limbs P).length) = true := decide_eq_true (hl0.2 hp0)
    rw [decide_eq_true hp0, Bool.and_true] at HRE
    clear hl0 hp0
    by_cases hq1 : Q = 1
    · rw [if_pos hq1] at CC
      replace HRE : Aside0 (R = if n = true then (⟨#[45]⟩ : ByteArray) ++ TP else TP) := ⟨by rw [HRE.out, if_neg (show ¬ 1 < Q by omega)]⟩
      clear hq1 hQ0
      cases n
      all_goals
        go_wp2_with fail
        refine (CC.out _ _ _ HYA.out (Lv.one _)).mono ?_
        rintro e w5 ⟨rfl, hb⟩
        replace HB := Aside0.mk (below_step HBA.out hb)
        clear hb
        go_wp2_with fail
        go_ret
        exact ⟨by rw [HRE.out]; rfl, HB.out⟩
    · rw [if_neg hq1] at CC
      replace HRE : Aside0 (R = ((if n = true then (⟨#[45]⟩ : ByteArray) ++ TP else TP) ++ (⟨#[47]⟩ : ByteArray)) ++ TQ) := ⟨by rw [HRE.out, if_pos (show 1 < Q by omega), ByteArray.append_assoc]⟩
      clear hq1 hQ0
      cases n
      all_goals
        go_wp2_with fail
        refine (CC.out _ _ _ HYA.out (Lv.one _)).mono ?_
        rintro e w5 ⟨rfl, hb⟩
        replace HB := Aside0.mk (below_step HBA.out hb)
        replace HY := Aside0.mk (HYA.out.below hb)
        clear hb
        go_wp2_with fail
        refine (CQ.out _ _ HY.out).mono ?_
        rintro e w6 ⟨rfl, hb⟩
        replace HB := Aside0.mk (below_step HB.out hb)
        clear hb
        go_wp2_with fail
        go_ret
        exact ⟨by rw [HRE.out]; rfl, HB.out⟩
set_option maxHeartbeats 1000000 in
set_option maxRecDepth 100000 in
theorem rtold_calls (n : Bool) {A B : Option Addr} {c d p q : Nat} (w : World) (hp : Lv w (.slice A (limbs p).length c) p) (hq : Lv w (.slice B (limbs q).length d) q) (lp : sh p ≤ 1000) (lq : sh q ≤ 1000) (q0 : q ≠ 0) :
    Calls Tryd.prog 42 #[.agg #[.bool n, .slice A (limbs p).length c, .slice B (limbs q).length d]] w fun e w' => e = .returned (.tuple #[.string (toldS (n, p, q)).1, .int .i64 (toldS (n, p, q)).2]) ∧ Below w.heap.size w w' := by
  have al := below_alloc (Below.refl w.heap.size w) (.cells #[.bool n, .slice A (limbs p).length c, .slice B (limbs q).length d] 48)
  have HP := Aside0.mk (hp.below al)
  have HQ := Aside0.mk (hq.below al)
  have HB := Aside0.mk al
  have CT := Aside0.mk (fun (W : World) h1 h2 => rtext_calls n (A := A) (B := B) (c := c) (d := d) (p := p) (q := q) W h1 h2 lp lq q0)
  obtain ⟨O, hO⟩ : ∃ O, O = toldS (n, p, q) := ⟨_, rfl⟩
  rw [← hO]
  unfold toldS at hO
  simp only [] at hO
  generalize strS n p q = R at *
  clear al hp hq lp lq q0
  by_cases hR : R.size > 1900
  · have g5 : (1900 : Int) < (R.size : Int) := by omega
    rw [if_pos hR] at hO
    subst hO
    clear hR
    go_enter Tryd.func42, Tryd.ntmps42
    go_wp2_with fail
    refine (CT.out _ HP.out HQ.out).mono ?_
    rintro e w1 ⟨rfl, hb⟩
    replace HB := Aside0.mk (below_step HB.out hb)
    clear hb
    go_wp2_with fail
    go_ret2
    exact ⟨rfl, HB.out⟩
  · have g5 : ¬ (1900 : Int) < (R.size : Int) := by omega
    rw [if_neg hR] at hO
    subst hO
    clear hR
    go_enter Tryd.func42, Tryd.ntmps42
    go_wp2_with fail
    refine (CT.out _ HP.out HQ.out).mono ?_
    rintro e w1 ⟨rfl, hb⟩
    replace HB := Aside0.mk (below_step HB.out hb)
    clear hb
    go_wp2_with fail
    go_ret2
    exact ⟨rfl, HB.out⟩
/-- Behind two numbers that were put aside. -/
structure Par (w W : World) (a b c d e f : Value) : Prop where
  hb : Below w.heap.size w W
  p : C3 W w.heap.size a b c
  q : C3 W (w.heap.size + 1) d e f
theorem Par.below {w W W1 : World} {a b c d e f : Value} (h : Par w W a b c d e f) (hb : Below W.heap.size W W1) : Par w W1 a b c d e f := ⟨below_step h.hb hb, h.p.below hb, h.q.below hb⟩
theorem Par.start (w : World) (a b c d e f : Value) : Par w ((w.alloc (.cells #[a, b, c] 48)).alloc (.cells #[d, e, f] 48)) a b c d e f :=
  ⟨below_alloc (below_alloc (Below.refl _ _) _) _, C3.first w a b c _, C3.last w d e f _⟩
theorem Par.drew {w W : World} {a b c d e f : Value} (h : Par w W a b c d e f) : Par w W.drew a b c d e f := h.below (below_drew (Below.refl _ _))
theorem Par.six {w W : World} {a b c d e f : Value} (h : Par w W a b c d e f) :
    W.cell? ⟨w.heap.size, 0, none⟩ = some a ∧ W.cell? ⟨w.heap.size, 1, none⟩ = some b ∧ W.cell? ⟨w.heap.size, 2, none⟩ = some c ∧ W.cell? ⟨w.heap.size + 1, 0, none⟩ = some d ∧ W.cell? ⟨w.heap.size + 1, 1, none⟩ = some e ∧ W.cell? ⟨w.heap.size + 1, 2, none⟩ = some f :=
  siz_of h.p h.q
set_option maxHeartbeats 4000000 in
set_option maxRecDepth 100000 in
theorem rover_calls (n m : Bool) {A B C D : Option Addr} {a b c d p q r s : Nat} (w : World) (hp : Lv w (.slice A (limbs p).length a) p) (hq : Lv w (.slice B (limbs q).length b) q) (hr : Lv w (.slice C (limbs r).length c) r) (hs : Lv w (.slice D (limbs s).length d) s)
    (lp : sh p ≤ 1000) (lq : sh q ≤ 1000) (lr : sh r ≤ 1000) (ls : sh s ≤ 1000) :
    Calls Tryd.prog 47 #[.agg #[.bool n, .slice A (limbs p).length a, .slice B (limbs q).length b], .agg #[.bool m, .slice C (limbs r).length c, .slice D (limbs s).length d]] w fun e w' =>
      ∃ u v z, e = .returned (.tuple #[u, v, z]) ∧ Lo w' w.heap.size u (p * s) ∧ Lo w' w.heap.size v (r * q) ∧ Lo w' w.heap.size z (q * s) ∧ Below w.heap.size w w' := by
  have HP := Aside0.mk hp
  have HQ := Aside0.mk hq
  have HR := Aside0.mk hr
  have HS := Aside0.mk hs
  clear hp hq hr hs
  go_enter Tryd.func47, Tryd.ntmps47
  go_wp2_with fail
  obtain ⟨W, hW⟩ : ∃ W : World, W = (w.alloc (.cells #[.bool n, .slice A (limbs p).length a, .slice B (limbs q).length b] 48)).alloc (.cells #[.bool m, .slice C (limbs r).length c, .slice D (limbs s).length d] 48) := ⟨_, rfl⟩
  have T := Par.start w (.bool n) (.slice A (limbs p).length a) (.slice B (limbs q).length b) (.bool m) (.slice C (limbs r).length c) (.slice D (limbs s).length d)
  rw [← hW] at T ⊢
  clear hW
  obtain ⟨x1, x2, x3, x4, x5, x6⟩ := T.six
  have HT := Aside0.mk T
  clear T
  go_region_held3 (fun W' => (W'.cell? ⟨w.heap.size, 0, none⟩ = some (.bool n) ∧ W'.cell? ⟨w.heap.size, 1, none⟩ = some (.slice A (limbs p).length a) ∧ W'.cell? ⟨w.heap.size, 2, none⟩ = some (.slice B (limbs q).length b) ∧ W'.cell? ⟨w.heap.size + 1, 0, none⟩ = some (.bool m) ∧ W'.cell? ⟨w.heap.size + 1, 1, none⟩ = some (.slice C (limbs r).length c) ∧ W'.cell? ⟨w.heap.size + 1, 2, none⟩ = some (.slice D (limbs s).length d)))
    (first | exact HU.out.six | exact HT.out.drew.six)
    (first
      | ((with_reducible refine (rMulN (m := p) (n := s) _ (HP.out.below HU.out.hb) (HS.out.below HU.out.hb) lp ls).mono ?_); rintro e wn ⟨u, rfl, hu, hb⟩; obtain ⟨Ax, cx, rfl, _⟩ := hu.v; (try replace HX := Aside0.mk (HX.out.below hb)); (try replace HY := Aside0.mk (HY.out.below hb)); (try replace HZ := Aside0.mk (HZ.out.below hb)); have HX := Aside0.mk (hu.lower HU.out.hb.size); have HU := Aside0.mk (HU.out.below hb); clear hb hu)
      | ((with_reducible refine (rMulN (m := r) (n := q) _ (HR.out.below HU.out.hb) (HQ.out.below HU.out.hb) lr lq).mono ?_); rintro e wn ⟨u, rfl, hu, hb⟩; obtain ⟨Ay, cy, rfl, _⟩ := hu.v; (try replace HX := Aside0.mk (HX.out.below hb)); (try replace HY := Aside0.mk (HY.out.below hb)); (try replace HZ := Aside0.mk (HZ.out.below hb)); have HY := Aside0.mk (hu.lower HU.out.hb.size); have HU := Aside0.mk (HU.out.below hb); clear hb hu)
      | ((with_reducible refine (rMulN (m := q) (n := s) _ (HQ.out.below HU.out.hb) (HS.out.below HU.out.hb) lq ls).mono ?_); rintro e wn ⟨u, rfl, hu, hb⟩; obtain ⟨Az, cz, rfl, _⟩ := hu.v; (try replace HX := Aside0.mk (HX.out.below hb)); (try replace HY := Aside0.mk (HY.out.below hb)); (try replace HZ := Aside0.mk (HZ.out.below hb)); have HZ := Aside0.mk (hu.lower HU.out.hb.size); have HU := Aside0.mk (HU.out.below hb); clear hb hu)
      | ((with_reducible refine (rMulN (m := p) (n := s) _ (HP.out.below HT.out.drew.hb) (HS.out.below HT.out.drew.hb) lp ls).mono ?_); rintro e wn ⟨u, rfl, hu, hb⟩; obtain ⟨Ax, cx, rfl, _⟩ := hu.v; have HX := Aside0.mk (hu.lower HT.out.drew.hb.size); have HU := Aside0.mk (HT.out.drew.below hb); clear hb hu)
      | ((with_reducible refine (rMulN (m := r) (n := q) _ (HR.out.below HT.out.drew.hb) (HQ.out.below HT.out.drew.hb) lr lq).mono ?_); rintro e wn ⟨u, rfl, hu, hb⟩; obtain ⟨Ay, cy, rfl, _⟩ := hu.v; have HY := Aside0.mk (hu.lower HT.out.drew.hb.size); have HU := Aside0.mk (HT.out.drew.below hb); clear hb hu)
      | ((with_reducible refine (rMulN (m := q) (n := s) _ (HQ.out.below HT.out.drew.hb) (HS.out.below HT.out.drew.hb) lq ls).mono ?_); rintro e wn ⟨u, rfl, hu, hb⟩; obtain ⟨Az, cz, rfl, _⟩ := hu.v; have HZ := Aside0.mk (hu.lower HT.out.drew.hb.size); have HU := Aside0.mk (HT.out.drew.below hb); clear hb hu))
  all_goals
    go_wp2_with fail
    refine bodyPost_ret (v := .tuple #[.slice Ax (limbs (p * s)).length cx, .slice Ay (limbs (r * q)).length cy, .slice Az (limbs (q * s)).length cz]) (by simp [results, Tryd.results47, go_sem]) rfl ?_
    exact ⟨_, _, _, rfl, HX.out, HY.out, HZ.out, HU.out.hb⟩
end Go.Proofs.YtfnhohpmhpbpmaaDoor.G
