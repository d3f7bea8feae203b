/- NatPowers: a number times 2 to a power is shifted by its limbs, and divided by it, what is left is what stood below; the plain law behind the printed walk. No condition beyond the statement's own guards. -/
import Derived.Test.YtfjcloflebghhaaGx13
import Derived.Test.YtfjcloflebghhaaGNatLaws
namespace Go.Proofs.Ytfjcloflebghhaa.Pure
open Go.RowKit Go.Proofs.Ytfjcloflebghhaa.G Go.Proofs.YtfjcloflebghhaaW.PrintWords Go.Proofs.YtfjcloflebghhaaW.PrintLast

theorem NatPowers : tribunallaw01_NatPowers.Pure := by
  intro a n la _ wa wn
  have ha := wfL_of wa
  have hn : 0 ≤ n ∧ n ≤ 255 := by
    simp [Lit.wf, IntKind.min, IntKind.max, IntKind.bits, IntKind.signed] at wn
    omega
  clear la
  refine Ev.rounds (g := fun k => tribunallaw01_NatPowers.f k a n) ?_
  unfold tribunallaw01_NatPowers.f
  refine Ev.bind (Ev.const rfl) ?_
  by_cases la : a.length ≤ 20
  · refine Ev.neg (by omega) ?_
    obtain ⟨k, hk, hk8⟩ : ∃ k : Nat, wrap64 (Int.tmod n 8) = (k : Int) ∧ k < 8 := ⟨(n % 8).toNat, by rw [tmod_nat hn.1, wrap64_id (by omega) (by omega)]; omega, by omega⟩
    rw [hk]
    have hm : mn (k : Int) (a.length : Int) = ((min k a.length : Nat) : Int) := by unfold mn; split <;> omega
    rw [hm, Int.toNat_natCast, Int.toNat_natCast]
    have hp : wfL (List.replicate k 0 ++ [1]) := wfL_append.2 ⟨wfL_replicate k, wfL_cons.2 ⟨by omega, wfL_nil⟩⟩
    have vp : valN (List.replicate k 0 ++ [1]) = 4294967296 ^ k := by rw [valN_append, valN_replicate, List.length_replicate]; simp [valN]
    have hs : wfL (List.replicate k 0 ++ a) := wfL_append.2 ⟨wfL_replicate k, ha⟩
    have vs : valN (List.replicate k 0 ++ a) = 4294967296 ^ k * valN a := by rw [valN_append, valN_replicate, List.length_replicate]; omega
    have hpos : 0 < 4294967296 ^ k := Nat.pow_pos (by omega)
    have low : valN (a.take (min k a.length)) = valN a % 4294967296 ^ k ∧ valN (a.drop (min k a.length)) = valN a / 4294967296 ^ k := by
      rcases Nat.lt_or_ge k a.length with h | h
      · rw [Nat.min_eq_left (by omega)]
        have h1 := valN_append (a.take k) (a.drop k)
        rw [List.take_append_drop, List.length_take, Nat.min_eq_left (by omega)] at h1
        have h2 := valN_lt (wfL_take ha k)
        rw [List.length_take, Nat.min_eq_left (by omega)] at h2
        rw [h1]
        refine ⟨?_, ?_⟩
        · rw [Nat.add_mul_mod_self_left, Nat.mod_eq_of_lt h2]
        · rw [Nat.add_mul_div_left _ _ hpos, Nat.div_eq_of_lt h2, Nat.zero_add]
      · rw [Nat.min_eq_right (by omega), List.take_length, List.drop_length]
        have h1 := valN_lt ha
        have h2 : 4294967296 ^ a.length ≤ 4294967296 ^ k := Nat.pow_le_pow_right (by omega) h
        rw [Nat.mod_eq_of_lt (by omega), Nat.div_eq_of_lt (by omega)]
        exact ⟨rfl, rfl⟩
    have s1 := sh_val ha
    have s2 := sh_val hs
    have s3 := sh_mono (Nat.div_le_self (valN a) (4294967296 ^ k))
    have s4 := sh_mono (Nat.mod_le (valN a) (4294967296 ^ k))
    simp only [List.length_append, List.length_replicate] at s2
    refine Ev.pos (by omega) (Ev.pos (by omega) (Ev.bind (Ev.const rfl) (Ev.pos (by simp; omega) (Ev.bind (Ev.const rfl) ?_))))
    refine Ev.bind (eMul ha hp (by omega) (by simp; omega)) (Ev.bind (eDiv ha hp (by omega) (by simp; omega)) ?_)
    rw [vp]
    unfold divR
    rw [if_neg (by omega)]
    refine Ev.pos (by omega) (Ev.pos (by omega) ?_)
    refine Ev.bind (eNorm (wfL_take ha _) (by rw [List.length_take]; omega)) (Ev.bind (eNorm (wfL_drop ha _) (by rw [List.length_drop]; omega)) ?_)
    rw [low.1, low.2]
    refine Ev.yes (Ev.yes (Ev.bind (Ev.const rfl) (Ev.pos (by simp; omega) (Ev.bind (eNorm hs (by simp; omega)) ?_))))
    rw [vs, Nat.mul_comm (4294967296 ^ k)]
    rw [vs, Nat.mul_comm (4294967296 ^ k)] at s2
    refine Ev.bind (Same_self _ (by rw [sh_len]; omega)) (Ev.yes (Ev.bind (Same_self _ (by rw [sh_len]; omega)) (Ev.yes ?_)))
    exact Ev.bind (Same_self _ (by rw [sh_len]; omega)) (Ev.now _)
  · exact Ev.pos (by omega) (Ev.now _)
end Go.Proofs.Ytfjcloflebghhaa.Pure
