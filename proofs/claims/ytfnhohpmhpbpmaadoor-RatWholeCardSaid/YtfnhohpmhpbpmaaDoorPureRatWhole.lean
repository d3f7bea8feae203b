/- RatWhole: of whole numbers, sums and products are whole, and as of numbers of 64 bits; the plain law behind the printed walk. No condition beyond the statement's own guards. -/
import Derived.Test.YtfnhohpmhpbpmaaDoorGx11
import Derived.Test.YtfnhohpmhpbpmaaDoorGRatLaws
namespace Go.Proofs.YtfnhohpmhpbpmaaDoor.Pure
open Go.RowKit Go.Proofs.YtfnhohpmhpbpmaaDoor.G Go.Proofs.YtfnhohpmhpbpmaaDoorW.PrintWords Go.Proofs.YtfnhohpmhpbpmaaDoorW.PrintLast

theorem strOfNums_one (c : Nat) : strOfNums [(c : Int)] = ofN [c] := rfl
theorem one_dig (x : Nat) (h : x < 10) (s : ByteArray) : bytesN (strOfNums [((48 + x : Nat) : Int)] ++ s) = (48 + x) :: bytesN s ∧ (strOfNums [((48 + x : Nat) : Int)]).size = 1 := by
  have e : strOfNums [((48 + x : Nat) : Int)] = ofN [48 + x] := strOfNums_one (48 + x)
  rw [e]
  exact ⟨by rw [bytesN_append, bytesN_ofN _ (by intro c hc; simp at hc; omega)]; rfl, by rw [ofN_size]; rfl⟩
theorem tdiv_sgn (b : Bool) (N : Nat) : Int.tdiv (sgn b N) 10 = sgn b (N / 10) := by
  cases b
  · rfl
  · show Int.tdiv (-(N : Int)) 10 = -((N / 10 : Nat) : Int)
    rw [Int.neg_tdiv]; rfl
theorem tmod_sgn (b : Bool) (N : Nat) : Int.tmod (sgn b N) 10 = sgn b (N % 10) := by
  cases b
  · rfl
  · show Int.tmod (-(N : Int)) 10 = -((N % 10 : Nat) : Int)
    rw [Int.neg_tmod]; rfl
theorem decL_nil : decL 0 = [] := by unfold decL; rw [show nd 0 = 0 from (Nat.le_zero.1 ((nd_lt 0 0).1 (by decide)))]; rfl
theorem whole_l0 (x0 : Int) (b : Bool) (d : Nat) : ∀ (N : Nat) (s : ByteArray), nd N ≤ d → N ≤ 9223372036854775807 → s.size + d ≤ 1000 →
    ∃ R, Ev (fun k => tribunallaw03_whole.l0 k x0 s (sgn b N)) R ∧ bytesN R = (if x0 < 0 then [45] else []) ++ (decL N ++ bytesN s) := by
  induction d with
  | zero =>
    intro N s h1 _ h2
    have hN : N = 0 := by have := (nd_lt 0 N).2 h1; omega
    subst hN
    rw [decL_nil]
    have h0 : sgn b 0 = 0 := by cases b <;> rfl
    by_cases hx : x0 < 0
    · refine ⟨(⟨#[45]⟩ : ByteArray) ++ s, ?_, by rw [if_pos hx, bytesN_append]; rfl⟩
      apply Ev.step
      · intro k; rw [tribunallaw03_whole.l0]
      · exact Ev.pos h0 (Ev.pos hx (Ev.pos (by omega) (Ev.now _)))
    · refine ⟨s, ?_, by rw [if_neg hx]; rfl⟩
      apply Ev.step
      · intro k; rw [tribunallaw03_whole.l0]
      · exact Ev.pos h0 (Ev.neg hx (Ev.now _))
  | succ d ih =>
    intro N s h1 hN h2
    by_cases h0 : N = 0
    · subst h0
      exact (fun ⟨R, a, c⟩ => ⟨R, a, c⟩) (ih 0 s (by have := (nd_lt 0 0).1 (by decide); omega) (by omega) (by omega))
    · have hp := nd_pos h0
      obtain ⟨e1, e2⟩ := one_dig (N % 10) (by omega) s
      obtain ⟨R, E, eR⟩ := ih (N / 10) (strOfNums [((48 + N % 10 : Nat) : Int)] ++ s) (by omega) (by omega) (by rw [cat_size, e2]; omega)
      refine ⟨R, ?_, by rw [eR, e1, decL_step h0, List.append_assoc]; rfl⟩
      have hsz : (strOfNums [((48 + N % 10 : Nat) : Int)]).size + s.size ≤ 9223372036854775807 := by rw [e2]; omega
      have hne : ¬ sgn b N = 0 := by cases b <;> simp [sgn] <;> omega
      have hw : wrap64 (Int.tdiv (sgn b N) 10) = sgn b (N / 10) := by
        rw [tdiv_sgn]
        have : (sgn b (N / 10)).natAbs = N / 10 := by unfold sgn; split <;> omega
        exact wrap64_id (by omega) (by omega)
      apply Ev.step
      · intro k; rw [tribunallaw03_whole.l0]
      · rw [tmod_sgn, hw]
        refine Ev.neg hne ?_
        by_cases hm : sgn b (N % 10) < 0
        · have hb : b = true := by cases b; (simp [sgn] at hm; omega); rfl
          have e3 : (wrap64 (48 + wrap64 (-(sgn b (N % 10))))) % 256 = ((48 + N % 10 : Nat) : Int) := by
            rw [hb]
            show (wrap64 (48 + wrap64 (-(-((N % 10 : Nat) : Int))))) % 256 = _
            rw [wrap64_id (x := -(-((N % 10 : Nat) : Int))) (by omega) (by omega), wrap64_id (by omega) (by omega)]
            omega
          rw [e3]
          exact Ev.pos hm (Ev.bind (Ev.const rfl) (Ev.pos (by exact_mod_cast hsz) E))
        · have e3 : (wrap64 (48 + sgn b (N % 10))) % 256 = ((48 + N % 10 : Nat) : Int) := by
            have : sgn b (N % 10) = ((N % 10 : Nat) : Int) := by
              cases b
              · rfl
              · simp [sgn] at hm ⊢; omega
            rw [this, wrap64_id (by omega) (by omega)]
            omega
          rw [e3]
          exact Ev.neg hm (Ev.bind (Ev.const rfl) (Ev.pos (by exact_mod_cast hsz) E))
theorem whole_is (n : Int) (h : n.natAbs ≤ 9223372036854775807) : Ev (fun k => tribunallaw03_whole.f k n) (ratS (n : Rat)) := by
  unfold tribunallaw03_whole.f
  by_cases h0 : n = 0
  · subst h0
    refine Ev.pos rfl ?_
    rw [rat0]
    exact Ev.now _
  · refine Ev.neg h0 ?_
    have hn : sgn (decide (n < 0)) n.natAbs = n := by
      unfold sgn
      by_cases hx : n < 0
      · rw [if_pos (decide_eq_true hx)]; omega
      · rw [if_neg (by simpa using hx)]; omega
    have hd : nd n.natAbs ≤ 19 := (nd_lt 19 _).1 (by omega)
    obtain ⟨R, E, eR⟩ := whole_l0 n (decide (n < 0)) 19 n.natAbs ⟨#[]⟩ hd h (by decide)
    rw [hn] at E
    have : R = ratS (n : Rat) := bytesN_inj.1 (by
      rw [eR, bytes_rat, Rat.num_intCast, Rat.den_intCast, if_neg (show ¬ 1 < 1 by omega), textL, if_neg (show ¬ n.natAbs = 0 by omega)]
      rfl)
    rw [← this]
    exact E
theorem bd_int (n : Int) (h : n.natAbs ≤ 9223372036854775807) : Bd 19 (n : Rat) := ⟨by rw [Rat.num_intCast]; omega, by rw [Rat.den_intCast]; decide⟩
theorem RatWhole : tribunallaw03_RatWhole.Pure := by
  intro x y hx hy
  have m1 : IntKind.i32.min = -2147483648 := by decide
  have m2 : IntKind.i32.max = 2147483647 := by decide
  have hx' : -2147483648 ≤ x ∧ x ≤ 2147483647 := by simpa [Lit.wf, m1, m2] using hx
  have hy' : -2147483648 ≤ y ∧ y ≤ 2147483647 := by simpa [Lit.wf, m1, m2] using hy
  clear hx hy
  refine Ev.rounds (g := fun k => tribunallaw03_RatWhole.f k x y) ?_
  unfold tribunallaw03_RatWhole.f
  have wx : wrap64 x = x := wrap64_id (by omega) (by omega)
  have wy : wrap64 y = y := wrap64_id (by omega) (by omega)
  have hs : -9223372036854775807 ≤ x + y ∧ x + y ≤ 9223372036854775807 := by omega
  have hm : (x * y).natAbs ≤ 4611686018427387904 := by
    rw [Int.natAbs_mul]
    exact Nat.le_trans (Nat.mul_le_mul (show x.natAbs ≤ 2147483648 by omega) (show y.natAbs ≤ 2147483648 by omega)) (by decide)
  have bx := bd_int x (by omega)
  have by' := bd_int y (by omega)
  have fin : ∀ c : Int, c = cmpQ (x : Rat) (y : Rat) → Ev (fun k => tribunallaw03_RatWhole.j0 k x y true (ratS (x : Rat)) (ratS (y : Rat)) c) true := by
    intro c hc
    apply Ev.step
    · intro k; rw [tribunallaw03_RatWhole.j0]
    · rw [wx, wy, wrap64_id (x := x + y) (by omega) (by omega), wrap64_id (x := x * y) (by omega) (by omega)]
      refine Ev.pos rfl (Ev.bind (Ev.const (rPlus bx by' (by omega))) (Ev.bind (whole_is _ (by omega)) ?_))
      refine Ev.pos (by rw [Rat.intCast_add]) (Ev.bind (Ev.const (rTimes bx by' (by omega))) (Ev.bind (whole_is _ (by omega)) ?_))
      refine Ev.pos (by rw [Rat.intCast_mul]) (Ev.bind (Ev.const (rCmp bx by' (by omega) (by omega))) (Ev.pos hc.symm ?_))
      exact Ev.bind (Ev.const (rRight bx (by omega))) (Ev.now _)
  rw [wx, wy]
  refine Ev.bind (Ev.const head_true) (Ev.bind (whole_is x (by omega)) (Ev.bind (whole_is y (by omega)) ?_))
  by_cases h1 : x < y
  · exact Ev.pos h1 (fin _ (by unfold cmpQ; rw [if_pos (Rat.intCast_lt_intCast.2 h1)]))
  · refine Ev.neg h1 ?_
    by_cases h2 : x > y
    · exact Ev.pos h2 (fin _ (by unfold cmpQ; rw [if_neg (fun h => h1 (Rat.intCast_lt_intCast.1 h)), if_pos (Rat.intCast_lt_intCast.2 h2)]))
    · exact Ev.neg h2 (fin _ (by unfold cmpQ; rw [if_neg (fun h => h1 (Rat.intCast_lt_intCast.1 h)), if_neg (fun h => h2 (Rat.intCast_lt_intCast.1 h))]))
end Go.Proofs.YtfnhohpmhpbpmaaDoor.Pure
