/- NatOrder: of any three numbers the order is one, and what is greater by something is greater; the plain law behind the printed walk. No condition beyond the statement's own guards. -/
import Derived.Test.YtfjcloflebghhaaGx11
import Derived.Test.YtfjcloflebghhaaGNatLaws
namespace Go.Proofs.Ytfjcloflebghhaa.Pure
open Go.RowKit Go.Proofs.Ytfjcloflebghhaa.G Go.Proofs.YtfjcloflebghhaaW.PrintWords Go.Proofs.YtfjcloflebghhaaW.PrintLast

theorem cmpN_flip (m n : Nat) : cmpN m n = wrap64 (-cmpN n m) := by
  unfold cmpN
  rcases Nat.lt_trichotomy m n with h | h | h
  · rw [if_pos h, if_neg (by omega), if_pos h]; unfold wrap64; omega
  · subst h; simp only [Nat.lt_irrefl, if_false]; unfold wrap64; omega
  · rw [if_neg (by omega), if_pos h, if_pos h]; unfold wrap64; omega
theorem cmpN_zero (m n : Nat) : (cmpN m n == 0) = decide (limbs m = limbs n) := by
  rw [Bool.eq_iff_iff, beq_iff_eq, decide_eq_true_iff, limbs_inj]
  unfold cmpN
  rcases Nat.lt_trichotomy m n with h | h | h
  · rw [if_pos h]; omega
  · subst h; simp
  · rw [if_neg (by omega), if_pos h]; omega
theorem cmpN_add (m n c : Nat) : cmpN (m + c) (n + c) = cmpN m n := by
  unfold cmpN
  rcases Nat.lt_trichotomy m n with h | h | h
  · rw [if_pos h, if_pos (by omega)]
  · subst h; simp
  · rw [if_neg (by omega : ¬ m + c < n + c), if_pos (by omega : n + c < m + c), if_neg (by omega : ¬ m < n), if_pos h]
theorem cmpN_trans {m n c : Nat} (h1 : ¬ cmpN m n > 0) (h2 : ¬ cmpN n c > 0) : cmpN m c ≤ 0 := by
  have a1 : m ≤ n := by
    rcases Nat.lt_or_ge n m with h | h
    · exact absurd (show cmpN m n > 0 by unfold cmpN; rw [if_neg (by omega), if_pos h]; decide) h1
    · exact h
  have a2 : n ≤ c := by
    rcases Nat.lt_or_ge c n with h | h
    · exact absurd (show cmpN n c > 0 by unfold cmpN; rw [if_neg (by omega), if_pos h]; decide) h2
    · exact h
  unfold cmpN
  by_cases h : m < c
  · rw [if_pos h]; decide
  · rw [if_neg h, if_neg (by omega)]; decide

theorem NatOrder : tribunallaw01_NatOrder.Pure := by
  intro a b c la _ wa lb _ wb lc _ wc
  have ha := wfL_of wa
  have hb := wfL_of wb
  have hc := wfL_of wc
  clear la lb lc
  refine Ev.rounds (g := fun k => tribunallaw01_NatOrder.f k a b c) ?_
  unfold tribunallaw01_NatOrder.f
  refine Ev.bind (Ev.const rfl) ?_
  have great : Ev (fun k => tribunallaw01_NatOrder.j0 k a b c true true) true := by
    apply Ev.step
    · intro k; rw [tribunallaw01_NatOrder.j0]
    · exact Ev.yes (Ev.now _)
  by_cases hg : a.length ≤ 20 ∧ b.length ≤ 20
  · obtain ⟨la, lb⟩ := hg
    refine Ev.bind (Ev.const (show tribunallaw01_Great.f a b = some false by unfold tribunallaw01_Great.f; rw [if_neg (by omega)]; simp; omega)) (Ev.no ?_)
    by_cases hcl : c.length ≤ 60
    · rw [show decide ((c.length : Int) > 60) = false from decide_eq_false (by omega)]
      have s1 := sh_val ha
      have s2 := sh_val hb
      have s3 := sh_val hc
      have s4 := sh_add (valN a) 1
      have s5 := sh_add (valN a) (valN c)
      have s6 := sh_add (valN b) (valN c)
      have h1 : sh 1 ≤ 1 := sh_le (by decide)
      have o1 : Ev (fun k => nat_Of.f k 1) (limbs 1) := nat_Of_is 1 (by omega) (by omega)
      have last : ∀ r : Bool, r = true → Ev (fun k => (nat_Of.f k 1).bind fun t => (nat_Add.f a t).bind fun t2 => (nat_Cmp.f k t2 a).bind fun t3 => if t3 = 1 then ((nat_Add.f a c).bind fun t4 => (nat_Add.f b c).bind fun t5 => (nat_Cmp.f k t4 t5).bind fun t6 => some (t6 == cmpN (valN a) (valN b))) else none) r := by
        intro r hr
        subst hr
        refine Ev.bind o1 (Ev.bind (eAdd ha (wfL_limbs 1) (by omega) (by rw [sh_len]; omega)) ?_)
        rw [valN_limbs]
        refine Ev.bind (eCmp (wfL_limbs _) ha (by rw [sh_len]; omega) (by omega)) (Ev.pos (by rw [valN_limbs]; unfold cmpN; rw [if_neg (by omega), if_pos (by omega)]) ?_)
        refine Ev.bind (eAdd ha hc (by omega) (by omega)) (Ev.bind (eAdd hb hc (by omega) (by omega)) (Ev.bind (nCmp (by omega) (by omega)) ?_))
        rw [cmpN_add]
        exact Ev.const (by simp)
      apply Ev.step
      · intro k; rw [tribunallaw01_NatOrder.j0]
      · refine Ev.no (Ev.bind (eCmp ha hb (by omega) (by omega)) (Ev.bind (eCmp hb hc (by omega) (by omega)) (Ev.yes (Ev.bind (eCmp hb ha (by omega) (by omega)) (Ev.pos (cmpN_flip _ _) ?_)))))
        refine Ev.bind (eNorm ha (by omega)) (Ev.bind (eNorm hb (by omega)) (Ev.bind (Same_is _ _ (by rw [sh_len]; omega)) (Ev.pos (by rw [cmpN_zero]; simp) ?_)))
        by_cases h2 : cmpN (valN a) (valN b) > 0
        · exact Ev.pos h2 (last _ rfl)
        · refine Ev.neg h2 ?_
          by_cases h3 : cmpN (valN b) (valN c) > 0
          · exact Ev.pos h3 (last _ rfl)
          · exact Ev.neg h3 (Ev.bind (eCmp ha hc (by omega) (by omega)) (Ev.pos (cmpN_trans h2 h3) (last _ rfl)))
    · rw [show decide ((c.length : Int) > 60) = true from decide_eq_true (by omega)]
      exact great
  · refine Ev.bind (Ev.const (show tribunallaw01_Great.f a b = some true by unfold tribunallaw01_Great.f; split <;> simp; omega)) (Ev.yes ?_)
    exact great
end Go.Proofs.Ytfjcloflebghhaa.Pure
