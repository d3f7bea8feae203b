/- Plain facts on lists of limbs, with no program in sight: the number that limbs are, its limbs in short, what a carry leaves. No condition. -/
import Derived.Laws.BitsLemmas
namespace Go.Proofs.YtfnhohpmhpbpmaaDoor.G
open Go

def wfL (l : List Int) : Prop := ∀ x ∈ l, 0 ≤ x ∧ x < 4294967296
instance (l : List Int) : Decidable (wfL l) := by unfold wfL; infer_instance
theorem wfL_nil : wfL [] := fun _ h => by cases h
theorem wfL_cons {x : Int} {l : List Int} : wfL (x :: l) ↔ (0 ≤ x ∧ x < 4294967296) ∧ wfL l := by simp [wfL]
theorem wfL_append {a b : List Int} : wfL (a ++ b) ↔ wfL a ∧ wfL b := by
  simp only [wfL, List.mem_append]
  exact ⟨fun h => ⟨fun x hx => h x (.inl hx), fun x hx => h x (.inr hx)⟩, fun h x hx => hx.elim (h.1 x) (h.2 x)⟩
theorem wfL_take {l : List Int} (h : wfL l) (n : Nat) : wfL (l.take n) := fun x hx => h x (List.mem_of_mem_take hx)
theorem wfL_drop {l : List Int} (h : wfL l) (n : Nat) : wfL (l.drop n) := fun x hx => h x (List.mem_of_mem_drop hx)
theorem wfL_replicate (n : Nat) : wfL (List.replicate n 0) := fun x hx => by rw [List.eq_of_mem_replicate hx]; omega
theorem wfL_set {l : List Int} (h : wfL l) (i : Nat) {x : Int} (hx : 0 ≤ x ∧ x < 4294967296) : wfL (l.set i x) := fun y hy => (List.mem_or_eq_of_mem_set hy).elim (h y) (fun e => e ▸ hx)
def atL (l : List Int) (i : Nat) : Int := l.getD i 0
theorem atL_range {l : List Int} (h : wfL l) (i : Nat) : 0 ≤ atL l i ∧ atL l i < 4294967296 := by
  unfold atL
  rw [List.getD_eq_getElem?_getD]
  rcases Nat.lt_or_ge i l.length with hi | hi
  · rw [List.getElem?_eq_getElem hi]
    exact h _ (List.getElem_mem hi)
  · rw [List.getElem?_eq_none hi]
    exact ⟨by simp, by simp⟩
theorem atL_out {l : List Int} {i : Nat} (h : l.length ≤ i) : atL l i = 0 := by simp [atL, List.getElem?_eq_none h]
theorem atL_zero (x : Int) (l : List Int) : atL (x :: l) 0 = x := rfl
theorem atL_succ (x : Int) (l : List Int) (i : Nat) : atL (x :: l) (i + 1) = atL l i := rfl

/-! ### The number that limbs are -/
def valN : List Int → Nat
  | [] => 0
  | x :: l => x.toNat + 4294967296 * valN l
theorem valN_append (a b : List Int) : valN (a ++ b) = valN a + 4294967296 ^ a.length * valN b := by
  induction a with
  | nil => simp [valN]
  | cons x a ih => simp only [List.cons_append, valN, ih, List.length_cons, Nat.pow_succ]; grind
theorem valN_replicate (n : Nat) : valN (List.replicate n 0) = 0 := by
  induction n with
  | zero => rfl
  | succ n ih => simp [List.replicate_succ, valN, ih]
theorem valN_lt {l : List Int} (h : wfL l) : valN l < 4294967296 ^ l.length := by
  induction l with
  | nil => simp [valN]
  | cons x l ih =>
    have h' := wfL_cons.1 h
    have := ih h'.2
    simp only [valN, List.length_cons, Nat.pow_succ]
    omega
theorem valN_take_succ (l : List Int) (i : Nat) : valN (l.take (i + 1)) = valN (l.take i) + 4294967296 ^ i * (atL l i).toNat := by
  induction l generalizing i with
  | nil => simp [valN, atL]
  | cons x l ih =>
    cases i with
    | zero => simp [valN, atL]
    | succ i =>
      simp only [List.take_succ_cons, valN, ih i, atL_succ, Nat.pow_succ]
      grind

/-! ### Limbs in short -/
def limbs (n : Nat) : List Int := if h : n = 0 then [] else ((n % 4294967296 : Nat) : Int) :: limbs (n / 4294967296)
termination_by n
decreasing_by omega
theorem limbs_zero : limbs 0 = [] := by rw [limbs]; simp
theorem limbs_pos {n : Nat} (h : n ≠ 0) : limbs n = ((n % 4294967296 : Nat) : Int) :: limbs (n / 4294967296) := by rw [limbs, dif_neg h]
theorem valN_limbs (n : Nat) : valN (limbs n) = n := by
  induction n using Nat.strongRecOn with
  | _ n ih =>
    by_cases h : n = 0
    · subst h; rw [limbs_zero]; rfl
    · rw [limbs_pos h, valN, ih _ (by omega)]
      omega
theorem wfL_limbs (n : Nat) : wfL (limbs n) := by
  induction n using Nat.strongRecOn with
  | _ n ih =>
    by_cases h : n = 0
    · subst h; rw [limbs_zero]; exact wfL_nil
    · rw [limbs_pos h]
      exact wfL_cons.2 ⟨by omega, ih _ (by omega)⟩
theorem limbs_eq_nil {n : Nat} : limbs n = [] ↔ n = 0 := by
  by_cases h : n = 0
  · subst h; simp [limbs_zero]
  · rw [limbs_pos h]; simp [h]
theorem limbs_inj {m n : Nat} : limbs m = limbs n ↔ m = n := ⟨fun h => by rw [← valN_limbs m, ← valN_limbs n, h], fun h => by rw [h]⟩
theorem limbs_length_le {n k : Nat} (h : n < 4294967296 ^ k) : (limbs n).length ≤ k := by
  induction k generalizing n with
  | zero => have : n = 0 := by simpa using h
            subst this; simp [limbs_zero]
  | succ k ih =>
    by_cases h0 : n = 0
    · subst h0; simp [limbs_zero]
    · rw [limbs_pos h0, List.length_cons]
      have : n / 4294967296 < 4294967296 ^ k := by rw [Nat.div_lt_iff_lt_mul (by omega)]; rw [Nat.pow_succ] at h; exact h
      have := ih this
      omega
/-- n limbs in short: n is at least the power below its length. -/
theorem limbs_length_ge (n : Nat) (h : n ≠ 0) : 4294967296 ^ ((limbs n).length - 1) ≤ n := by
  induction n using Nat.strongRecOn with
  | _ n ih =>
    rw [limbs_pos h, List.length_cons, Nat.add_sub_cancel]
    by_cases h1 : n / 4294967296 = 0
    · rw [h1, limbs_zero]; simp; omega
    · have := ih _ (by omega) h1
      have hp : (limbs (n / 4294967296)).length = ((limbs (n / 4294967296)).length - 1) + 1 := by
        rw [limbs_pos h1]; simp
      rw [hp, Nat.pow_succ]
      generalize 4294967296 ^ ((limbs (n / 4294967296)).length - 1) = p at *
      omega

/-- Without noughts at its end. -/
def normL (l : List Int) : List Int := (l.reverse.dropWhile (· == 0)).reverse
theorem normL_snoc (l : List Int) (x : Int) : normL (l ++ [x]) = if x = 0 then normL l else l ++ [x] := by
  unfold normL
  rw [List.reverse_append, List.reverse_singleton, List.singleton_append, List.dropWhile_cons]
  by_cases h : x = 0
  · simp [h]
  · simp [h]
theorem normL_nil : normL [] = [] := rfl
theorem normL_cons (x : Int) (l : List Int) : normL (x :: l) = if normL l = [] then (if x = 0 then [] else [x]) else x :: normL l := by
  have key : ∀ (m : List Int), (m ++ [x]).dropWhile (· == 0) = if m.dropWhile (· == 0) = [] then (if x = 0 then [] else [x]) else m.dropWhile (· == 0) ++ [x] := by
    intro m
    induction m with
    | nil => by_cases h : x = 0 <;> simp [h]
    | cons y m ih =>
      rw [List.cons_append, List.dropWhile_cons, List.dropWhile_cons]
      by_cases h : y = 0
      · simp [h, ih]
      · simp [h]
  unfold normL
  rw [List.reverse_cons, key]
  by_cases h : l.reverse.dropWhile (· == 0) = []
  · simp only [h, List.reverse_nil, if_true]
    split <;> rfl
  · rw [if_neg h, if_neg (by simpa using h)]
    simp
theorem normL_limbs {l : List Int} (h : wfL l) : normL l = limbs (valN l) := by
  induction l with
  | nil => simp [normL_nil, valN, limbs_zero]
  | cons x l ih =>
    have h' := wfL_cons.1 h
    rw [normL_cons, ih h'.2, valN]
    by_cases hv : valN l = 0
    · rw [hv, limbs_zero]
      simp only [if_true]
      by_cases hx : x = 0
      · subst hx; simp [limbs_zero]
      · rw [if_neg hx, limbs_pos (by omega)]
        have h1 : (x.toNat + 4294967296 * 0) % 4294967296 = x.toNat := by omega
        have h2 : (x.toNat + 4294967296 * 0) / 4294967296 = 0 := by omega
        rw [h1, h2, limbs_zero]
        congr 1
        omega
    · rw [if_neg (by rw [limbs_eq_nil]; exact hv), limbs_pos (n := x.toNat + 4294967296 * valN l) (by omega)]
      have h1 : (x.toNat + 4294967296 * valN l) % 4294967296 = x.toNat := by omega
      have h2 : (x.toNat + 4294967296 * valN l) / 4294967296 = valN l := by omega
      rw [h1, h2]
      congr 1
      omega
theorem limbs_norm {l : List Int} (h : wfL l) (hn : normL l = l) : l = limbs (valN l) := by rw [← normL_limbs h, hn]
theorem normL_length_le (l : List Int) : (normL l).length ≤ l.length := by
  unfold normL
  rw [List.length_reverse]
  have := List.IsSuffix.length_le (List.dropWhile_suffix (fun x : Int => x == 0) (l := l.reverse))
  simpa using this

/-! ### What is carried -/
/-- What is carried into limb j. -/
def cst (F : Nat → Int) : Nat → Int
  | 0 => 0
  | j + 1 => (cst F j + F j) / 4294967296
def cout (F : Nat → Int) (n : Nat) : List Int := (List.range n).map fun j => (cst F j + F j) % 4294967296
theorem cout_length (F : Nat → Int) (n : Nat) : (cout F n).length = n := by simp [cout]
theorem cout_succ (F : Nat → Int) (n : Nat) : cout F (n + 1) = cout F n ++ [(cst F n + F n) % 4294967296] := by simp [cout, List.range_succ]
/-- The limbs behind k rounds: the others are 0 yet. -/
def csofar (F : Nat → Int) (n k : Nat) : List Int := (List.range n).map fun j => if j < k then (cst F j + F j) % 4294967296 else 0
theorem csofar_zero (F : Nat → Int) (n : Nat) : csofar F n 0 = List.replicate n 0 := by
  apply List.ext_getElem <;> simp [csofar]
theorem csofar_all (F : Nat → Int) (n : Nat) : csofar F n n = cout F n := by
  apply List.ext_getElem <;> simp +contextual [csofar, cout]
theorem csofar_length (F : Nat → Int) (n k : Nat) : (csofar F n k).length = n := by simp [csofar]
theorem csofar_set (F : Nat → Int) (n k : Nat) (_hk : k < n) : (csofar F n k).set k ((cst F k + F k) % 4294967296) = csofar F n (k + 1) := by
  apply List.ext_getElem
  · simp [csofar]
  · intro j h1 h2
    rw [List.getElem_set]
    simp only [csofar, List.getElem_map, List.getElem_range]
    by_cases e : k = j
    · subst e; simp
    · rw [if_neg e]
      by_cases h : j < k
      · rw [if_pos h, if_pos (by omega)]
      · rw [if_neg h, if_neg (by omega)]
theorem cst_range (F : Nat → Int) (hF : ∀ j, -8589934592 ≤ F j ∧ F j ≤ 8589934592) (j : Nat) : -4 ≤ cst F j ∧ cst F j ≤ 4 := by
  induction j with
  | zero => simp [cst]
  | succ j ih => have := hF j; simp only [cst]; omega
theorem cout_wf (F : Nat → Int) (n : Nat) : wfL (cout F n) := by
  intro x hx
  simp only [cout, List.mem_map, List.mem_range] at hx
  obtain ⟨j, _, rfl⟩ := hx
  omega
/-- The sum of what each limb is. -/
def fsum (F : Nat → Int) : Nat → Int
  | 0 => 0
  | n + 1 => fsum F n + 4294967296 ^ n * F n
theorem cout_val (F : Nat → Int) (n : Nat) : (valN (cout F n) : Int) + 4294967296 ^ n * cst F n = fsum F n := by
  induction n with
  | zero => simp [cout, valN, cst, fsum]
  | succ n ih =>
    rw [cout_succ, valN_append, cout_length, fsum, ← ih]
    have h : (((cst F n + F n) % 4294967296).toNat : Int) = (cst F n + F n) % 4294967296 := by omega
    have h2 : (cst F n + F n) % 4294967296 + 4294967296 * cst F (n + 1) = cst F n + F n := by simp only [cst]; omega
    simp only [valN, Nat.mul_zero, Nat.add_zero, Int.natCast_add, Int.natCast_mul, Int.natCast_pow, h, Int.pow_succ]
    have : ((4294967296 : Nat) : Int) = 4294967296 := rfl
    rw [this]
    generalize (4294967296 : Int) ^ n = p at *
    generalize (cst F n + F n) % 4294967296 = m at *
    grind

theorem carry_val (F : Nat → Int) (n : Nat) (h0 : 0 ≤ fsum F n) (h1 : fsum F n < 4294967296 ^ n) : (valN (cout F n) : Int) = fsum F n := by
  have hv := cout_val F n
  have hl := valN_lt (cout_wf F n)
  rw [cout_length] at hl
  have hl' : (valN (cout F n) : Int) < 4294967296 ^ n := by
    have := Int.ofNat_lt.2 hl
    simpa using this
  have hp : (0 : Int) < 4294967296 ^ n := Int.pow_pos (by omega)
  generalize (4294967296 : Int) ^ n = p at *
  generalize cst F n = c at *
  have hc : c = 0 := by
    rcases Int.lt_trichotomy c 0 with h | h | h
    · have : p * c ≤ p * (-1) := Int.mul_le_mul_of_nonneg_left (by omega) (by omega)
      omega
    · exact h
    · have : p * 1 ≤ p * c := Int.mul_le_mul_of_nonneg_left (by omega) (by omega)
      omega
  subst hc
  omega
theorem fsum_at (l : List Int) (h : wfL l) (n : Nat) : fsum (atL l) n = (valN (l.take n) : Int) := by
  induction n with
  | zero => simp [fsum, valN]
  | succ n ih =>
    have := atL_range h n
    rw [fsum, ih, valN_take_succ]
    simp only [Int.natCast_add, Int.natCast_mul, Int.natCast_pow, Int.toNat_of_nonneg this.1]
    rfl
theorem fsum_add (F G : Nat → Int) (n : Nat) : fsum (fun i => F i + G i) n = fsum F n + fsum G n := by
  induction n with
  | zero => rfl
  | succ n ih => simp only [fsum, ih]; grind
theorem fsum_sub (F G : Nat → Int) (n : Nat) : fsum (fun i => F i - G i) n = fsum F n - fsum G n := by
  induction n with
  | zero => rfl
  | succ n ih => simp only [fsum, ih]; grind
theorem pow_cast (n : Nat) : ((4294967296 ^ n : Nat) : Int) = 4294967296 ^ n := by simp
theorem valN_take_le (l : List Int) (n : Nat) : valN (l.take n) ≤ valN l := by
  have h := valN_append (l.take n) (l.drop n)
  rw [List.take_append_drop] at h
  omega
theorem valN_take_all {l : List Int} {n : Nat} (hn : valN l < 4294967296 ^ n) : valN (l.take n) = valN l := by
  rcases Nat.lt_or_ge n l.length with h | h
  · have h1 := valN_append (l.take n) (l.drop n)
    rw [List.take_append_drop, List.length_take, Nat.min_eq_left (by omega)] at h1
    have h2 : valN (l.drop n) = 0 := by
      rcases Nat.eq_zero_or_pos (valN (l.drop n)) with h3 | h3
      · exact h3
      · have := Nat.mul_le_mul_left (4294967296 ^ n) (show 1 ≤ valN (l.drop n) from h3)
        omega
    rw [h2] at h1
    omega
  · rw [List.take_of_length_le h]

theorem and_low (s : Int) : bits .and .i64 s 4294967295 % 4294967296 = s % 4294967296 := by
  have h : bits .and .i64 s 4294967295 = IntKind.i64.wrap (((BitVec.ofInt 64 s).toNat &&& (2 ^ 32 - 1) : Nat) : Int) := by
    simp only [bits, IntKind.bits]
    rfl
  rw [h, Nat.and_two_pow_sub_one_eq_mod, BitVec.toNat_ofInt, IntKind.wrap_i64]
  omega
theorem limbs_length_lt {m n : Nat} (h : (limbs m).length < (limbs n).length) : m < n := by
  have hn : n ≠ 0 := fun e => by subst e; rw [limbs_zero] at h; simp at h
  have h1 := limbs_length_ge n hn
  have h2 := valN_lt (wfL_limbs m)
  rw [valN_limbs] at h2
  have h3 : 4294967296 ^ (limbs m).length ≤ 4294967296 ^ ((limbs n).length - 1) := Nat.pow_le_pow_right (by omega) (by omega)
  omega
theorem limbs_length_mono {m n : Nat} (h : m ≤ n) : (limbs m).length ≤ (limbs n).length := by
  rcases Nat.lt_or_ge (limbs n).length (limbs m).length with h1 | h1
  · have := limbs_length_lt h1; omega
  · exact h1
end Go.Proofs.YtfnhohpmhpbpmaaDoor.G
