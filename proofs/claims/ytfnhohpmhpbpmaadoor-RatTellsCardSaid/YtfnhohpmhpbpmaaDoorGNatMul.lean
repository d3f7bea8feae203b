/- What nat.Mul comes to, told in numbers. Conditions: limbs of 32 bits, at most 2^42 of them. -/
import Derived.Test.YtfnhohpmhpbpmaaDoorGx0
import Derived.Test.YtfnhohpmhpbpmaaDoorGx7
import Derived.Test.YtfnhohpmhpbpmaaDoorGNatPure
import Derived.Laws.Bits64
namespace Go.Proofs.YtfnhohpmhpbpmaaDoor.G
open Go.RowKit Go.Proofs.YtfnhohpmhpbpmaaDoorW.PrintWords Go.Proofs.YtfnhohpmhpbpmaaDoorW.PrintLast Go.Proofs.YtfnhohpmhpbpmaaDoorW.PrintMore

theorem wrap_u64_id {x : Int} (h0 : 0 ≤ x) (h1 : x < 18446744073709551616) : IntKind.u64.wrap x = x := by rw [IntKind.wrap_u64]; omega
theorem valN_set (l : List Int) (p : Nat) (v : Int) (hp : p < l.length) : valN (l.set p v) + 4294967296 ^ p * (atL l p).toNat = valN l + 4294967296 ^ p * v.toNat := by
  induction l generalizing p with
  | nil => simp at hp
  | cons x l ih =>
    cases p with
    | zero => simp only [List.set_cons_zero, valN, atL_zero, Nat.pow_zero]; omega
    | succ p =>
      have := ih p (by simpa using hp)
      simp only [List.set_cons_succ, valN, atL_succ, Nat.pow_succ]
      grind
theorem mul_bound {x y o l : Int} (hx : 0 ≤ x ∧ x < 4294967296) (hy : 0 ≤ y ∧ y < 4294967296) (ho : 0 ≤ o ∧ o < 4294967296) (hl : 0 ≤ l ∧ l < 4294967296) : 0 ≤ x * y ∧ x * y + o < 18446744073709551616 ∧ l + (x * y + o) < 18446744073709551616 := by
  have h1 : 0 ≤ x * y := Int.mul_nonneg hx.1 hy.1
  have h2 : x * y ≤ 4294967295 * y := Int.mul_le_mul_of_nonneg_right (by omega) hy.1
  omega

structure MulOut (a b : List Int) (i : Nat) (out : List Int) : Prop where
  len : out.length = a.length + b.length
  wf : wfL out
  val : valN out = valN (a.take i) * valN b
  rest : ∀ t, i + b.length ≤ t → atL out t = 0
structure MulIn (a b : List Int) (i j : Nat) (out : List Int) (left : Int) : Prop where
  len : out.length = a.length + b.length
  wf : wfL out
  lo : 0 ≤ left
  hi : left < 4294967296
  val : valN out + 4294967296 ^ (i + j) * left.toNat = valN (a.take i) * valN b + 4294967296 ^ i * ((atL a i).toNat * valN (b.take j))
  rest : ∀ t, i + b.length ≤ t → atL out t = 0

theorem MulIn.step {a b : List Int} {i j : Nat} {out : List Int} {left : Int} (ha : wfL a) (hb : wfL b) (hi : i < a.length) (hj : j < b.length) (h : MulIn a b i j out left) :
    MulIn a b i (j + 1) (out.set (i + j) ((left + (atL a i * atL b j + atL out (i + j))) % 4294967296)) ((left + (atL a i * atL b j + atL out (i + j))) / 4294967296) := by
  have hx := atL_range ha i
  have hy := atL_range hb j
  have ho := atL_range h.wf (i + j)
  have h0 := h.lo
  have h9 := h.hi
  obtain ⟨m1, m2, m3⟩ := mul_bound hx hy ho ⟨h.lo, h.hi⟩
  have hp : i + j < out.length := by rw [h.len]; omega
  refine ⟨by rw [List.length_set]; exact h.len, wfL_set h.wf _ (by omega), by omega, by omega, ?_, ?_⟩
  · have hs := valN_set out (i + j) ((left + (atL a i * atL b j + atL out (i + j))) % 4294967296) hp
    have hv := h.val
    rw [valN_take_succ]
    have e1 : (atL a i * atL b j).toNat = (atL a i).toNat * (atL b j).toNat := Int.toNat_mul hx.1 hy.1
    have e2 : ((left + (atL a i * atL b j + atL out (i + j))) % 4294967296).toNat + 4294967296 * ((left + (atL a i * atL b j + atL out (i + j))) / 4294967296).toNat = left.toNat + ((atL a i).toNat * (atL b j).toNat + (atL out (i + j)).toNat) := by
      rw [← e1]; omega
    rw [show i + (j + 1) = i + j + 1 from rfl, Nat.pow_succ]
    rw [show 4294967296 ^ (i + j) = 4294967296 ^ i * 4294967296 ^ j from Nat.pow_add ..] at *
    generalize ((left + (atL a i * atL b j + atL out (i + j))) % 4294967296).toNat = m at *
    generalize ((left + (atL a i * atL b j + atL out (i + j))) / 4294967296).toNat = q at *
    generalize 4294967296 ^ i = pi at *
    generalize 4294967296 ^ j = pj at *
    generalize (atL a i).toNat = x at *
    generalize (atL b j).toNat = y at *
    generalize (atL out (i + j)).toNat = o at *
    generalize left.toNat = l at *
    generalize valN (List.set _ _ _) = V at *
    generalize valN out = v at *
    generalize valN (a.take i) * valN b = t at *
    generalize valN (b.take j) = s at *
    grind
  · intro t ht
    rw [atL_set, if_neg (by omega)]
    exact h.rest t ht

theorem MulIn.last {a b : List Int} {i : Nat} {out : List Int} {left : Int} (hi : i < a.length) (h : MulIn a b i b.length out left) : MulOut a b (i + 1) (out.set (i + b.length) (left % 4294967296)) := by
  have hl := h.lo
  have hh := h.hi
  have e : left % 4294967296 = left := by omega
  rw [e]
  refine ⟨by rw [List.length_set]; exact h.len, wfL_set h.wf _ ⟨h.lo, h.hi⟩, ?_, ?_⟩
  · have hs := valN_set out (i + b.length) left (by rw [h.len]; omega)
    rw [h.rest _ (Nat.le_refl _)] at hs
    have hv := h.val
    rw [List.take_length] at hv
    rw [valN_take_succ]
    have z : (0 : Int).toNat = 0 := rfl
    rw [z, Nat.mul_zero, Nat.add_zero] at hs
    rw [hs, hv]
    grind
  · intro t ht
    rw [atL_set, if_neg (by omega)]
    exact h.rest t (by omega)
theorem MulOut.first {a b : List Int} {i : Nat} {out : List Int} (h : MulOut a b i out) : MulIn a b i 0 out 0 :=
  ⟨h.len, h.wf, by omega, by omega, by simp [valN, h.val], h.rest⟩

theorem Mul_l1_ev (a b : List Int) (R : List Int) (ha : wfL a) (hb : wfL b) (la : a.length ≤ 4398046511104) (lb : b.length ≤ 4398046511104) (i : Nat) (hi : i < a.length)
    (next : ∀ out, MulOut a b (i + 1) out → Ev (fun k => nat_Mul.l0 k b out a (a.length : Int) ((i + 1 : Nat) : Int)) R) (d : Nat) :
    ∀ (j : Nat) (out : List Int) (left : Int), j ≤ b.length → b.length ≤ j + d → MulIn a b i j out left →
      Ev (fun k => nat_Mul.l1 k b out (i : Int) (atL a i) left a (a.length : Int) (i : Int) b (b.length : Int) (j : Int)) R := by
  have fin : ∀ (j : Nat) (out : List Int) (left : Int), j = b.length → MulIn a b i j out left →
      Ev (fun k => nat_Mul.l1 k b out (i : Int) (atL a i) left a (a.length : Int) (i : Int) b (b.length : Int) (j : Int)) R := by
    intro j out left hj h
    subst hj
    refine Ev.step (fun k => ?_) (next _ (h.last hi))
    simp only [nat_Mul.l1]
    have hl := h.len
    rw [if_neg (by omega), wrap64_id (by omega) (by omega), if_pos (by omega), if_pos (by omega), wrap64_id (by omega) (by omega)]
    congr 1
  induction d with
  | zero => intro j out left h1 h2 h; exact fin j out left (by omega) h
  | succ d ih =>
    intro j out left h1 h2 h
    by_cases hj : j < b.length
    · have hl := h.len
      refine Ev.step (fun k => ?_) (ih (j + 1) _ _ (by omega) (by omega) (h.step ha hb hi hj))
      have hx := atL_range ha i
      have hy := atL_range hb j
      have ho := atL_range h.wf (i + j)
      have h0 := h.lo
      have h9 := h.hi
      obtain ⟨m1, m2, m3⟩ := mul_bound hx hy ho ⟨h.lo, h.hi⟩
      simp only [nat_Mul.l1]
      have e : ((i : Int) + (j : Int)) = ((i + j : Nat) : Int) := by omega
      rw [if_pos (by omega), if_pos (by omega), if_pos (by omega), wrap64_id (x := (i : Int) + j) (by omega) (by omega), if_pos (by omega), if_pos (by omega), e, rd_nat, rd_nat,
        wrap_u64_id (x := atL a i) hx.1 (by omega), wrap_u64_id (x := atL b j) hy.1 (by omega), wrap_u64_id (x := atL out (i + j)) ho.1 (by omega), wrap_u64_id (x := atL a i * atL b j) m1 (by omega),
        wrap_u64_id (x := atL a i * atL b j + atL out (i + j)) (by omega) m2, wrap_u64_id (x := left + (atL a i * atL b j + atL out (i + j))) (by omega) m3, wrap64_id (by omega) (by omega), Int.toNat_natCast]
      rfl
    · exact fin j out left (by omega) h

theorem Mul_l0_ev (a b : List Int) (ha : wfL a) (hb : wfL b) (la : a.length ≤ 4398046511104) (lb : b.length ≤ 4398046511104) (d : Nat) :
    ∀ (i : Nat) (out : List Int), i ≤ a.length → a.length ≤ i + d → MulOut a b i out → Ev (fun k => nat_Mul.l0 k b out a (a.length : Int) (i : Int)) (limbs (valN a * valN b)) := by
  have fin : ∀ (i : Nat) (out : List Int), i = a.length → MulOut a b i out → Ev (fun k => nat_Mul.l0 k b out a (a.length : Int) (i : Int)) (limbs (valN a * valN b)) := by
    intro i out hi h
    subst hi
    have hv := h.val
    rw [List.take_length] at hv
    rw [← hv]
    refine Ev.step (f := fun k => (nat_Norm.f k out).bind fun t => some t) (fun k => ?_) (Ev.bind (f := fun _ t => some t) (nat_Norm_is out h.wf (by rw [h.len]; omega)) (Ev.now _))
    simp only [nat_Mul.l0]
    rw [if_neg (by omega)]
  induction d with
  | zero => intro i out h1 h2 h; exact fin i out (by omega) h
  | succ d ih =>
    intro i out h1 h2 h
    by_cases hi : i < a.length
    · refine Ev.step (fun k => ?_) (Mul_l1_ev a b _ ha hb la lb i hi (fun out' h' => ih (i + 1) out' (by omega) (by omega) h') b.length 0 out 0 (by omega) (by omega) h.first)
      simp only [nat_Mul.l0]
      rw [if_pos (by omega), if_pos (by omega), if_pos (by omega), rd_nat]
      rfl
    · exact fin i out (by omega) h

theorem nat_Mul_is (a b : List Int) (ha : wfL a) (hb : wfL b) (la : a.length ≤ 4398046511104) (lb : b.length ≤ 4398046511104) : Ev (fun k => nat_Mul.f k a b) (limbs (valN a * valN b)) := by
  have h : MulOut a b 0 (List.replicate (a.length + b.length) 0) :=
    ⟨by simp, wfL_replicate _, by simp [valN_replicate, valN], fun t _ => by
      unfold atL
      rw [List.getD_eq_getElem?_getD, List.getElem?_replicate]
      split <;> rfl⟩
  refine Ev.congr (fun k => ?_) (Mul_l0_ev a b ha hb la lb a.length 0 _ (by omega) (by omega) h)
  unfold nat_Mul.f
  rw [wrap64_id (by omega) (by omega), if_pos (by omega), if_pos (by omega), show ((a.length : Int) + (b.length : Int)).toNat = a.length + b.length from by omega]
  rfl
end Go.Proofs.YtfnhohpmhpbpmaaDoor.G
