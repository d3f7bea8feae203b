/- DigitsLong: decimals of more than 1900 digits are too many, of 1900 not; noughts behind one are as many digits as there are; the plain law behind the printed walk. No condition beyond the statement's own guards. -/
import Derived.Test.YtioofejjjgggkaaDoorGx12
import Derived.Test.YtioofejjjgggkaaDoorGDigLaws
namespace Go.Proofs.YtioofejjjgggkaaDoor.Pure
open Go.RowKit Go.Proofs.YtioofejjjgggkaaDoor.G Go.Proofs.YtioofejjjgggkaaDoorW.PrintWords Go.Proofs.YtioofejjjgggkaaDoorW.PrintLast

theorem mn_nat (a b : Nat) : mn (a : Int) (b : Int) = ((min a b : Nat) : Int) := by
  unfold mn
  split <;> omega
theorem ones_right (s : ByteArray) (j : Nat) (hb : bytesN s = 49 :: List.replicate j 48) : rightS s = true := by
  have h : (List.replicate j 48).all isDig = true := by
    rw [List.all_eq_true]
    intro c hc
    rw [(List.mem_replicate.1 hc).2]
    rfl
  rw [rightS, rightL, hb, List.all_cons, h]
  rfl
theorem Long_l0 (K : Nat) (hK : K ≤ 2500) (d : Nat) : ∀ (j : Nat) (s : ByteArray), bytesN s = 49 :: List.replicate j 48 → j + 1 ≤ K → K ≤ j + 1 + d → Ev (fun k => tribunallaw02_DigitsLong.l0 k true (K : Int) s) true := by
  have fin : ∀ (j : Nat) (s : ByteArray), bytesN s = 49 :: List.replicate j 48 → j + 1 = K → Ev (fun k => tribunallaw02_DigitsLong.l0 k true (K : Int) s) true := by
    intro j s hb hj
    have hs : s.size = j + 1 := by rw [← bytesN_length, hb]; simp
    have hr := ones_right s j hb
    apply Ev.step
    · intro k; rw [tribunallaw02_DigitsLong.l0]
    · refine Ev.neg (by omega) (Ev.bind (eParse (by omega)) ?_)
      by_cases h19 : K > 1900
      · have hp : parseR s = ([], 2) := by rw [parseR, if_pos hr, if_pos (by omega)]
        rw [hp]
        refine Ev.pos (by omega) (Ev.yes (Ev.pos rfl (Ev.pos rfl (Ev.bind (eRight (by omega)) ?_))))
        rw [hr]
        exact Ev.now _
      · rw [parse_ok hr (by omega)]
        refine Ev.neg (by omega) (Ev.yes (Ev.pos rfl (Ev.bind (eText (wfL_limbs _) (by rw [sh_len]; have := sh_len10 hr; omega)) ?_)))
        rw [valN_limbs, text_dec s hr]
        exact Ev.const (by simp)
  induction d with
  | zero => intro j s hb h1 h2; exact fin j s hb (by omega)
  | succ d ih =>
    intro j s hb h1 h2
    by_cases hj : j + 1 = K
    · exact fin j s hb hj
    · have hs : s.size = j + 1 := by rw [← bytesN_length, hb]; simp
      obtain ⟨m, hm⟩ : ∃ m, m = min 10 (K - (j + 1)) := ⟨_, rfl⟩
      have hmn : mn 10 (wrap64 ((K : Int) - (s.size : Int))) = (m : Int) := by
        rw [wrap64_id (by omega) (by omega), show (K : Int) - (s.size : Int) = ((K - (j + 1) : Nat) : Int) from by omega, hm]
        exact mn_nat 10 _
      have hx : bytesN ((⟨#[48, 48, 48, 48, 48, 48, 48, 48, 48, 48]⟩ : ByteArray).extract 0 m) = List.replicate m 48 := by
        rw [bytesN_take, show bytesN (⟨#[48, 48, 48, 48, 48, 48, 48, 48, 48, 48]⟩ : ByteArray) = List.replicate 10 48 from rfl, List.take_replicate]
        congr 1
        omega
      have hxs : ((⟨#[48, 48, 48, 48, 48, 48, 48, 48, 48, 48]⟩ : ByteArray).extract 0 m).size = m := by rw [← bytesN_length, hx, List.length_replicate]
      have I := ih (j + m) (s ++ (⟨#[48, 48, 48, 48, 48, 48, 48, 48, 48, 48]⟩ : ByteArray).extract 0 m) (by rw [bytesN_append, hb, hx, List.cons_append, List.replicate_append_replicate]) (by omega) (by omega)
      apply Ev.step
      · intro k; rw [tribunallaw02_DigitsLong.l0]
      · rw [hmn, Int.toNat_natCast]
        exact Ev.pos (by omega) (Ev.pos (by omega) (Ev.pos (by omega) (Ev.pos (by rw [hxs]; omega) I)))
theorem DigitsLong : tribunallaw02_DigitsLong.Pure := by
  intro n wn
  have hn : 0 ≤ n ∧ n < 65536 := by
    simp [Lit.wf, IntKind.min, IntKind.max, IntKind.bits, IntKind.signed] at wn
    omega
  refine Ev.rounds (g := fun k => tribunallaw02_DigitsLong.f k n) ?_
  unfold tribunallaw02_DigitsLong.f
  refine Ev.bind (Ev.const rfl) ?_
  have e : wrap64 (1 + wrap64 (Int.tmod n 2500)) = ((1 + (n % 2500).toNat : Nat) : Int) := by
    rw [Int.tmod_eq_emod_of_nonneg hn.1]
    unfold wrap64
    omega
  rw [e]
  exact Long_l0 _ (by omega) 2500 0 ⟨#[49]⟩ rfl (by omega) (by omega)
end Go.Proofs.YtioofejjjgggkaaDoor.Pure
