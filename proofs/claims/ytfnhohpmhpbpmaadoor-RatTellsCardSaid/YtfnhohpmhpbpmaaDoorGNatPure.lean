/- What the printed functions of nat that need no given one but Clone come to, told in numbers. Conditions: limbs of 32 bits, lengths below 2^45. -/
import Derived.Test.YtfnhohpmhpbpmaaDoorGx0
import Derived.Test.YtfnhohpmhpbpmaaDoorGx1
import Derived.Test.YtfnhohpmhpbpmaaDoorGx7
import Derived.Test.YtfnhohpmhpbpmaaDoorGNatMath
import Derived.Test.YtfnhohpmhpbpmaaDoorGEvWords
namespace Go.Proofs.YtfnhohpmhpbpmaaDoor.G
open Go.RowKit Go.Proofs.YtfnhohpmhpbpmaaDoorW.PrintWords Go.Proofs.YtfnhohpmhpbpmaaDoorW.PrintLast Go.Proofs.YtfnhohpmhpbpmaaDoorW.PrintMore

theorem rev_ind {P : List Int → Prop} (h0 : P []) (h1 : ∀ l x, P l → P (l ++ [x])) (l : List Int) : P l := by
  have key : ∀ m : List Int, P m.reverse := by
    intro m
    induction m with
    | nil => exact h0
    | cons x m ih => rw [List.reverse_cons]; exact h1 _ _ ih
  have := key l.reverse
  rwa [List.reverse_reverse] at this
theorem rd_nat (l : List Int) (i : Nat) : rd l (i : Int) = atL l i := by simp [rd, atL]
theorem nat_at_is (l : List Int) (h : wfL l) (i : Nat) : nat_at.f l (i : Int) = some (atL l i) := by
  have hr := atL_range h i
  unfold nat_at.f
  by_cases hi : (l.length : Int) ≤ i
  · rw [if_pos (by omega), atL_out (by omega)]
  · rw [if_neg (by omega), if_pos (by omega), if_pos (by omega), rd_nat, wrap64_id (by omega) (by omega)]

theorem nat_Norm_l0_ev (l : List Int) : l.length < 4611686018427387904 → Ev (fun k => nat_Norm.l0 k l) (normL l) := by
  induction l using rev_ind with
  | h0 => intro _; exact Ev.some_ fun k => by simp [nat_Norm.l0, normL_nil]
  | h1 l x ih =>
    intro hl
    have hl' : (((l ++ [x]).length : Nat) : Int) - 1 = (l.length : Nat) := by simp
    rw [List.length_append, List.length_singleton] at hl
    have hw : wrap64 (((l ++ [x]).length : Int) - 1) = (l.length : Nat) := by rw [hl', wrap64_id (by omega) (by omega)]
    have hlen : ((l ++ [x]).length : Int) = l.length + 1 := by simp
    have hx : rd (l ++ [x]) (l.length : Nat) = x := by simp [rd]
    have ht : (l ++ [x]).take ((l.length : Nat) : Int).toNat = l := by simp
    rw [normL_snoc]
    by_cases h : x = 0
    · rw [if_pos h]
      refine Ev.step (fun k => ?_) (ih (by omega))
      simp only [nat_Norm.l0]
      rw [hw, hx, ht, if_pos (by omega), if_pos (by omega), if_pos (by omega), if_pos h, if_pos (by omega)]
    · rw [if_neg h]
      refine Ev.some_ (fun k => ?_)
      simp only [nat_Norm.l0]
      rw [hw, hx, if_pos (by omega), if_pos (by omega), if_pos (by omega), if_neg h]

theorem nat_Norm_Ev (l : List Int) (hl : l.length < 35184372088832) : Ev (fun k => nat_Norm.f k l) (normL l) := by
  unfold nat_Norm.f
  refine Ev.bind (f := fun k t => nat_Norm.l0 k t) (a := l) ⟨0, fun k _ => ?_⟩ (nat_Norm_l0_ev l (by omega))
  rw [slices_Clone_uint32_uint32.f, if_pos hl]
theorem nat_Norm_ev (l : List Int) (hl : l.length < 35184372088832) : ∃ k, nat_Norm.f k l = some (normL l) := (nat_Norm_Ev l hl).rounds
theorem nat_Norm_is (l : List Int) (h : wfL l) (hl : l.length < 35184372088832) : Ev (fun k => nat_Norm.f k l) (limbs (valN l)) := by
  rw [← normL_limbs h]; exact nat_Norm_Ev l hl

/-! ### Cmp -/
theorem atL_set (l : List Int) (i j : Nat) (x : Int) : atL (l.set i x) j = if i = j ∧ i < l.length then x else atL l j := by
  unfold atL
  rw [List.getD_eq_getElem?_getD, List.getD_eq_getElem?_getD, List.getElem?_set]
  by_cases h : i = j
  · subst h
    by_cases hl : i < l.length
    · simp [hl]
    · simp [hl]
  · simp [h]
theorem ext_atL {a b : List Int} (hl : a.length = b.length) (h : ∀ t, t < a.length → atL a t = atL b t) : a = b := by
  apply List.ext_getElem hl
  intro t h1 h2
  have := h t h1
  simpa [atL, List.getElem?_eq_getElem h1, List.getElem?_eq_getElem h2] using this
theorem atL_reverse (a : List Int) (t : Nat) (ht : t < a.length) : atL a.reverse t = atL a (a.length - 1 - t) := by
  unfold atL
  rw [List.getD_eq_getElem?_getD, List.getD_eq_getElem?_getD, List.getElem?_reverse ht]

theorem Reverse_l0_ev (a : List Int) (hn : a.length < 4611686018427387904) (d : Nat) : ∀ (i : Nat) (x : List Int), a.length ≤ 2 * i + d → 2 * i ≤ a.length + 1 → x.length = a.length →
    (∀ t, t < a.length → atL x t = if t < i ∨ a.length ≤ t + i then atL a (a.length - 1 - t) else atL a t) →
    Ev (fun k => slices_Reverse_uint32_uint32.l0 k x (i : Int) ((a.length : Int) - 1 - i)) a.reverse := by
  induction d with
  | zero =>
    intro i x h1 h2 hl hx
    have hr : x = a.reverse := by
      refine ext_atL (by simp [hl]) fun t ht => ?_
      rw [atL_reverse a t (by omega), hx t (by omega), if_pos (by omega)]
    subst hr
    refine Ev.some_ fun k => ?_
    simp only [slices_Reverse_uint32_uint32.l0]
    rw [if_neg (by omega)]
  | succ d ih =>
    intro i x h1 h2 hl hx
    by_cases hlt : (i : Int) < (a.length : Int) - 1 - i
    · have ej : ((a.length : Int) - 1 - i) = ((a.length - 1 - i : Nat) : Int) := by omega
      rw [ej] at hlt ⊢
      refine Ev.step (f := fun k => slices_Reverse_uint32_uint32.l0 k ((x.set i (atL x (a.length - 1 - i))).set (a.length - 1 - i) (atL x i)) ((i + 1 : Nat) : Int) ((a.length : Int) - 1 - (i + 1 : Nat))) (fun k => ?_) (ih (i + 1) _ (by omega) (by omega) (by simp [hl]) fun t ht => ?_)
      · simp only [slices_Reverse_uint32_uint32.l0]
        rw [if_pos hlt, if_pos (by omega), if_pos (by omega), if_pos (by omega), if_pos (by omega), rd_nat, rd_nat, wrap64_id (by omega) (by omega), wrap64_id (by omega) (by omega), Int.toNat_natCast, Int.toNat_natCast]
        congr 1
        omega
      · rw [atL_set, atL_set, hx _ (by omega), hx _ (by omega)]
        simp only [List.length_set]
        by_cases e1 : a.length - 1 - i = t
        · subst e1
          rw [if_pos ⟨rfl, by omega⟩, if_neg (by omega), if_pos (by omega)]
          congr 1
          omega
        · by_cases e2 : i = t
          · subst e2
            rw [if_neg (by omega), if_pos ⟨rfl, by omega⟩, if_neg (by omega), if_pos (by omega)]
          · rw [if_neg (by omega), if_neg (by omega), hx t ht]
            by_cases h : t < i ∨ a.length ≤ t + i
            · rw [if_pos h, if_pos (by omega)]
            · rw [if_neg h, if_neg (by omega)]
    · have hr : x = a.reverse := by
        refine ext_atL (by simp [hl]) fun t ht => ?_
        rw [atL_reverse a t (by omega), hx t (by omega)]
        by_cases h : t < i ∨ a.length ≤ t + i
        · rw [if_pos h]
        · rw [if_neg h]
          congr 1
          omega
      subst hr
      refine Ev.some_ fun k => ?_
      simp only [slices_Reverse_uint32_uint32.l0]
      rw [if_neg hlt]
theorem Reverse_ev (a : List Int) (hn : a.length < 4611686018427387904) : Ev (fun k => slices_Reverse_uint32_uint32.f k a) a.reverse := by
  unfold slices_Reverse_uint32_uint32.f
  rw [wrap64_id (by omega) (by omega)]
  have := Reverse_l0_ev a hn a.length 0 a (by omega) (by omega) rfl (fun t ht => by rw [if_neg (by omega)])
  simpa using this

/-- Held against each other from the first on. -/
def lexc : List Int → List Int → Int
  | [], [] => 0
  | [], _ :: _ => -1
  | _ :: _, [] => 1
  | x :: a, y :: b => if x = y then lexc a b else if x < y then -1 else 1
theorem cmp_is (x y : Int) : cmp_Compare_uint32.f x y = some (if x = y then 0 else if x < y then -1 else 1) := by
  unfold cmp_Compare_uint32.f cmp_isNaN_uint32.f
  simp only [bne_self_eq_false, Option.bind_some, Bool.false_eq_true, if_false]
  by_cases h1 : x < y
  · rw [if_pos h1, if_neg (by omega), if_pos h1]
  · rw [if_neg h1]
    by_cases h2 : x > y
    · rw [if_pos h2, if_neg (by omega), if_neg h1]
    · rw [if_neg h2, if_pos (by omega)]
theorem drop_atL (a : List Int) (i : Nat) (h : i < a.length) : a.drop i = atL a i :: a.drop (i + 1) := by
  rw [List.drop_eq_getElem_cons h]
  simp [atL, List.getElem?_eq_getElem h]
theorem Compare_l0_ev (a b : List Int) (hn : a.length < 4611686018427387904) (d : Nat) : ∀ i : Nat, i ≤ a.length → i ≤ b.length → a.length ≤ i + d →
    Ev (fun k => slices_Compare_uint32_uint32.l0 k a b a (a.length : Int) (i : Int)) (lexc (a.drop i) (b.drop i)) := by
  have last : ∀ i : Nat, i = a.length → i ≤ b.length → Ev (fun k => slices_Compare_uint32_uint32.l0 k a b a (a.length : Int) (i : Int)) (lexc (a.drop i) (b.drop i)) := by
    intro i hi hb
    refine Ev.some_ fun k => ?_
    simp only [slices_Compare_uint32_uint32.l0]
    rw [if_neg (by omega), List.drop_eq_nil_of_le (by omega : a.length ≤ i)]
    by_cases h : (a.length : Int) < b.length
    · rw [if_pos h, drop_atL b i (by omega)]; rfl
    · rw [if_neg h, List.drop_eq_nil_of_le (by omega : b.length ≤ i)]; rfl
  induction d with
  | zero => intro i h1 h2 h3; exact last i (by omega) h2
  | succ d ih =>
    intro i h1 h2 h3
    by_cases hi : i < a.length
    · rw [drop_atL a i hi]
      by_cases hb : i < b.length
      · rw [drop_atL b i hb, lexc]
        by_cases he : atL a i = atL b i
        · rw [if_pos he]
          refine Ev.step (fun k => ?_) (ih (i + 1) (by omega) (by omega) (by omega))
          simp only [slices_Compare_uint32_uint32.l0]
          rw [if_pos (by omega), if_pos (by omega), if_pos (by omega), if_neg (by omega), if_pos (by omega), cmp_is, rd_nat, rd_nat, if_pos he, Option.bind_some, if_pos rfl, wrap64_id (by omega) (by omega)]
          rfl
        · rw [if_neg he]
          refine Ev.some_ (fun k => ?_)
          simp only [slices_Compare_uint32_uint32.l0]
          rw [if_pos (by omega), if_pos (by omega), if_pos (by omega), if_neg (by omega), if_pos (by omega), cmp_is, rd_nat, rd_nat, if_neg he, Option.bind_some]
          by_cases hl : atL a i < atL b i
          · rw [if_pos hl]; simp
          · rw [if_neg hl]; simp
      · rw [List.drop_eq_nil_of_le (by omega : b.length ≤ i)]
        refine Ev.some_ (fun k => ?_)
        simp only [slices_Compare_uint32_uint32.l0]
        rw [if_pos (by omega), if_pos (by omega), if_pos (by omega), if_pos (by omega)]
        rfl
    · exact last i (by omega) h2
theorem Compare_ev (a b : List Int) (hn : a.length < 4611686018427387904) : Ev (fun k => slices_Compare_uint32_uint32.f k a b) (lexc a b) := by
  have := Compare_l0_ev a b hn a.length 0 (by omega) (by omega) (by omega)
  unfold slices_Compare_uint32_uint32.f
  simpa using this
def cmpN (m n : Nat) : Int := if m < n then -1 else if n < m then 1 else 0
/-- As long, from the highest on. -/
theorem lexc_rev (a : List Int) : ∀ b : List Int, a.length = b.length → wfL a → wfL b → lexc a.reverse b.reverse = cmpN (valN a) (valN b) := by
  induction a using rev_ind with
  | h0 =>
    intro b hl _ _
    obtain rfl : b = [] := List.eq_nil_of_length_eq_zero (by simpa using hl.symm)
    rfl
  | h1 a x ih =>
    intro b
    induction b using rev_ind with
    | h0 => intro hl; simp at hl
    | h1 b y _ =>
      intro hl ha hb
      have hl' : a.length = b.length := by simpa using hl
      have ha' := wfL_append.1 ha
      have hb' := wfL_append.1 hb
      have hx := (wfL_cons.1 ha'.2).1
      have hy := (wfL_cons.1 hb'.2).1
      have la := valN_lt ha'.1
      have lb := valN_lt hb'.1
      rw [List.reverse_append, List.reverse_append, List.reverse_singleton, List.reverse_singleton, List.singleton_append, List.singleton_append, lexc, valN_append, valN_append, ← hl']
      rw [← hl'] at lb
      simp only [valN, Nat.mul_zero, Nat.add_zero]
      by_cases he : x = y
      · subst he
        rw [if_pos rfl, ih b hl' ha'.1 hb'.1]
        unfold cmpN
        by_cases h1 : valN a < valN b
        · rw [if_pos h1, if_pos (by omega)]
        · by_cases h2 : valN b < valN a
          · rw [if_neg h1, if_pos h2, if_neg (by omega), if_pos (by omega)]
          · rw [if_neg h1, if_neg h2, if_neg (by omega), if_neg (by omega)]
      · rw [if_neg he]
        unfold cmpN
        generalize 4294967296 ^ a.length = p at *
        by_cases h1 : x < y
        · have hp : p * (x.toNat + 1) ≤ p * y.toNat := Nat.mul_le_mul_left _ (by omega)
          rw [Nat.mul_succ] at hp
          rw [if_pos h1, if_pos (by omega)]
        · have hp : p * (y.toNat + 1) ≤ p * x.toNat := Nat.mul_le_mul_left _ (by omega)
          rw [Nat.mul_succ] at hp
          rw [if_neg h1, if_neg (by omega), if_pos (by omega)]
theorem nat_Cmp_is (a b : List Int) (ha : wfL a) (hb : wfL b) (la : a.length < 35184372088832) (lb : b.length < 35184372088832) : Ev (fun k => nat_Cmp.f k a b) (cmpN (valN a) (valN b)) := by
  have Ha := nat_Norm_is a ha la
  have Hb := nat_Norm_is b hb lb
  have hla : (limbs (valN a)).length ≤ a.length := by rw [← normL_limbs ha]; exact normL_length_le a
  have hlb : (limbs (valN b)).length ≤ b.length := by rw [← normL_limbs hb]; exact normL_length_le b
  generalize valN a = m at *
  generalize valN b = n at *
  unfold nat_Cmp.f
  refine Ev.bind (f := fun k t => _) Ha (Ev.bind (f := fun k t => _) Hb ?_)
  by_cases he : ((limbs m).length : Int) = (limbs n).length
  · simp only [if_pos he]
    refine Ev.bind (f := fun k t => _) (Reverse_ev _ (by omega)) (Ev.bind (f := fun k t => _) (Reverse_ev _ (by omega)) ?_)
    refine Ev.bind (f := fun _ t => some t) (Compare_ev _ _ (by rw [List.length_reverse]; omega)) ?_
    rw [lexc_rev _ _ (by omega) (wfL_limbs m) (wfL_limbs n), valN_limbs, valN_limbs]
    exact Ev.now _
  · simp only [if_neg he]
    rw [wrap64_id (by omega) (by omega)]
    have : mx (-1) (mn 1 (((limbs m).length : Int) - (limbs n).length)) = cmpN m n := by
      rcases Nat.lt_or_gt_of_ne (show (limbs m).length ≠ (limbs n).length by omega) with h | h
      · have h3 := limbs_length_lt h
        have e : cmpN m n = -1 := by unfold cmpN; rw [if_pos h3]
        rw [e]
        unfold mx mn
        repeat' split
        all_goals omega
      · have h3 := limbs_length_lt h
        have e : cmpN m n = 1 := by unfold cmpN; rw [if_neg (by omega), if_pos h3]
        rw [e]
        unfold mx mn
        repeat' split
        all_goals omega
    rw [this]
    exact Ev.now _

/-- A slice of limbs that is read. -/
structure Rd (w : World) (A : Option Addr) (c : Nat) (l : List Int) : Prop where
  wf : wfL l
  le : l.length ≤ c
  cells : Kd.C (Kd.int .u32) w A l.length l
theorem Rd.below {w w1 : World} {A : Option Addr} {c : Nat} {l : List Int} (h : Rd w A c l) (hb : Below w.heap.size w w1) : Rd w1 A c l := ⟨h.wf, h.le, Kd.C_below h.cells hb⟩
theorem Rd.drewN {w : World} {A : Option Addr} {c : Nat} {l : List Int} (h : Rd w A c l) (n : Nat) : Rd (w.drewN n) A c l := ⟨h.wf, h.le, Kd.C_drewN h.cells n⟩
theorem nat_at_q (A : Option Addr) (c : Nat) (l : List Int) (i n : Nat) (w : World) (h : Rd w A c l) :
    Calls Tryd.prog 83 #[.slice A l.length c, .int .i64 (i : Int)] (w.drewN n) fun e w' => e = .returned (.int .i64 (atL l i)) ∧ ∃ m, w' = (w.drewN n).drewN m :=
  (nat_at.calls A c l _ _ _ (h.drewN n).cells h.le (nat_at_is l h.wf i)).mono fun _ _ h => ⟨h.1, h.2.out⟩

end Go.Proofs.YtfnhohpmhpbpmaaDoor.G
