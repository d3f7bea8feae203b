/- RatParts: a number's text has a sign, decimals, and others behind a "/" just if it is no whole number; the other way round it has the sign alone turned; the plain law behind the printed walk. No condition beyond the statement's own guards. -/
import Derived.Test.YtfnhohpmhpbpmaaDoorGx20
import Derived.Test.YtfnhohpmhpbpmaaDoorGRatLaws
namespace Go.Proofs.YtfnhohpmhpbpmaaDoor.Pure
open Go.RowKit Go.Proofs.YtfnhohpmhpbpmaaDoor.G Go.Proofs.YtfnhohpmhpbpmaaDoorW.PrintWords Go.Proofs.YtfnhohpmhpbpmaaDoorW.PrintLast

def slashes (l : List Nat) : Nat := l.count 47
/-- Each byte but the first is a digit or "/"; the first may be "-". -/
def okL (l : List Nat) : Prop := ∀ i, i < l.length → (48 ≤ l.getD i 0 ∧ l.getD i 0 ≤ 57) ∨ l.getD i 0 = 47 ∨ (l.getD i 0 = 45 ∧ i = 0)
theorem take_slash (l : List Nat) (i : Nat) (h : i < l.length) : slashes (l.take (i + 1)) = slashes (l.take i) + if l.getD i 0 = 47 then 1 else 0 := by
  unfold slashes
  rw [List.take_succ_eq_append_getElem h, List.count_append, List.count_singleton, List.getD_eq_getElem?_getD, List.getElem?_eq_getElem h]
  simp
theorem Parts_l0 (s n : ByteArray) (hs : s.size ≤ 2000) (hok : okL (bytesN s)) (e : Int) (d : Nat) : ∀ i : Nat, i ≤ s.size → s.size ≤ i + d →
    Ev (fun k => tribunallaw03_RatParts.l0 k true s n e ((slashes (bytesN s) : Nat) : Int) (s.size : Int)) true → Ev (fun k => tribunallaw03_RatParts.l0 k true s n e ((slashes ((bytesN s).take i) : Nat) : Int) (i : Int)) true := by
  have hl := bytesN_length s
  induction d with
  | zero =>
    intro i h1 h2 E
    rw [List.take_of_length_le (by omega), show i = s.size by omega]
    exact E
  | succ d ih =>
    intro i h1 h2 E
    by_cases hi : i < s.size
    · have I := ih (i + 1) (by omega) (by omega) E
      have hb := bt_nat s i
      have hc := hok i (by omega)
      rw [take_slash _ _ (by omega)] at I
      have hcount : slashes ((bytesN s).take i) ≤ s.size := by
        unfold slashes
        refine Nat.le_trans List.count_le_length ?_
        rw [List.length_take]
        omega
      generalize (bytesN s).getD i 0 = c at *
      generalize slashes ((bytesN s).take i) = m at *
      have w1 : wrap64 ((i : Int) + 1) = ((i + 1 : Nat) : Int) := by rw [wrap64_id (by omega) (by omega)]; rfl
      have w2 : wrap64 ((m : Int) + 1) = ((m + 1 : Nat) : Int) := by rw [wrap64_id (by omega) (by omega)]; rfl
      apply Ev.step
      · intro k; rw [tribunallaw03_RatParts.l0]
      · rw [hb, w1, w2]
        refine Ev.pos (by omega) (Ev.pos (by omega) ?_)
        rcases hc with ⟨c1, c2⟩ | c1 | ⟨c1, c2⟩
        · rw [if_neg (by omega)] at I
          exact Ev.neg (by omega) (Ev.pos (by omega) (Ev.pos (by omega) I))
        · rw [if_pos c1] at I
          exact Ev.pos (by omega) (Ev.neg (by omega) I)
        · rw [if_neg (by omega)] at I
          exact Ev.neg (by omega) (Ev.neg (by omega) (Ev.pos (by omega) (Ev.neg (by omega) I)))
    · rw [List.take_of_length_le (by omega), show i = s.size by omega]
      exact E
theorem count_text (n : Nat) : slashes (textL n) = 0 := by
  unfold slashes
  rw [List.count_eq_zero]
  exact textL_no n 47 (by omega)
theorem slashes_rat (r : Rat) : slashes (bytesN (ratS r)) ≤ 1 := by
  rw [bytes_rat]
  have h1 := count_text r.num.natAbs
  have h2 := count_text r.den
  unfold slashes at *
  rw [List.count_append, List.count_append, h1]
  split <;> split <;> simp [h2]
theorem ok_rat (r : Rat) : okL (bytesN (ratS r)) := by
  have key : ∀ l : List Nat, (∀ c ∈ l, (48 ≤ c ∧ c ≤ 57) ∨ c = 47) → ∀ i, i < l.length → (48 ≤ l.getD i 0 ∧ l.getD i 0 ≤ 57) ∨ l.getD i 0 = 47 := by
    intro l h i hi
    rw [List.getD_eq_getElem?_getD, List.getElem?_eq_getElem hi]
    exact h _ (List.getElem_mem hi)
  have hT : ∀ c ∈ textL r.num.natAbs ++ (if 1 < r.den then 47 :: textL r.den else []), (48 ≤ c ∧ c ≤ 57) ∨ c = 47 := by
    intro c hc
    rw [List.mem_append] at hc
    rcases hc with hc | hc
    · exact .inl (textL_lt _ c hc)
    · split at hc
      · rw [List.mem_cons] at hc
        rcases hc with hc | hc
        · exact .inr hc
        · exact .inl (textL_lt _ c hc)
      · cases hc
  intro i hi
  rw [bytes_rat] at hi ⊢
  generalize textL r.num.natAbs ++ (if 1 < r.den then 47 :: textL r.den else []) = l at *
  by_cases h : r.num < 0
  · rw [if_pos h] at hi ⊢
    cases i with
    | zero => exact .inr (.inr ⟨rfl, rfl⟩)
    | succ i =>
      have := key l hT i (by simpa using hi)
      rcases this with h | h
      · exact .inl h
      · exact .inr (.inl h)
  · rw [if_neg h] at hi ⊢
    rcases key l hT i hi with h | h
    · exact .inl h
    · exact .inr (.inl h)
theorem neg_bytes {r : Rat} (h : r.num < 0) : bytesN (ratS r) = 45 :: bytesN (ratS (-r)) := by
  rw [bytes_rat, bytes_rat, if_pos h, Rat.neg_num, Rat.neg_den, Int.natAbs_neg, if_neg (show ¬ -r.num < 0 by omega)]
  rfl
theorem RatParts : tribunallaw03_RatParts.Pure := by
  intro x hx
  refine Ev.rounds (g := fun k => tribunallaw03_RatParts.f k x) ?_
  unfold tribunallaw03_RatParts.f
  refine Ev.bind (Ev.const head_true) ?_
  by_cases h : x.size ≤ 160
  · refine Ev.neg (by omega) (Ev.bind (Ev.const (rNorm_eq x (by omega))) ?_)
    rcases norm_cases x 160 h (by omega) with ⟨a, ea, ba⟩ | ⟨e, he, ee⟩
    · rw [ea]
      have hsz := ba.size
      have hpos : 0 < (ratS a).size := by
        obtain ⟨c, l, ec, _⟩ := textL_cons a.num.natAbs
        rw [← bytesN_length, bytes_rat, ec]
        simp
        omega
      have hne : ¬ (ratS a).toList = ([] : List UInt8) := fun he => by
        have h1 : (ratS a).data.toList = [] := by rw [← Go.ByteArray.toList_eq, he]
        have h2 : (ratS a).size = (ratS a).data.toList.length := rfl
        rw [h1, List.length_nil] at h2
        omega
      refine Ev.pos rfl (Ev.bind (Ev.const (rNeg ba (by omega))) (Ev.neg hne ?_))
      have L := Parts_l0 (ratS a) (ratS (-a)) (by omega) (ok_rat a) 0 (ratS a).size 0 (Nat.zero_le _) (by omega)
      refine L ?_
      have hcnt := slashes_rat a
      have hb := bt_nat (ratS a) 0
      have fin : (some (decide (((slashes (bytesN (ratS a)) : Nat) : Int) ≤ 1)) : Option Bool) = some true := congrArg some (decide_eq_true (by omega))
      have hz : (ratS a).toList = ([48] : List UInt8) ↔ a = 0 := by
        rw [← toList_mk [48], toList_inj]
        show ratS a = (⟨#[48]⟩ : ByteArray) ↔ _
        rw [rat0, ratS_inj]
      apply Ev.step
      · intro k; rw [tribunallaw03_RatParts.l0]
      · refine Ev.neg (by omega) (Ev.pos (by omega) (Ev.pos (by omega) ?_))
        by_cases hn : a.num < 0
        · have hbn := neg_bytes hn
          have h0 : a ≠ 0 := fun h => by rw [h] at hn; exact absurd hn (by decide)
          refine Ev.pos (by rw [show bt (ratS a) 0 = _ from hb, hbn]; rfl) (Ev.pos (by omega) (Ev.neg (fun h => h0 (hz.1 h)) (Ev.yes (Ev.pos rfl (Ev.pos ?_ (Ev.const fin))))))
          rw [toList_inj, ← bytesN_inj, bytes_drop, hbn]
          rfl
        · have hb0 : ¬ bt (ratS a) 0 = 45 := by
            obtain ⟨c, l, ec, hc⟩ := textL_cons a.num.natAbs
            rw [show bt (ratS a) 0 = _ from hb, bytes_rat, if_neg hn, ec]
            show ¬ ((c : Nat) : Int) = 45
            omega
          refine Ev.neg hb0 ?_
          by_cases h0 : a = 0
          · refine Ev.pos (hz.2 h0) (Ev.yes (Ev.pos rfl (Ev.pos ?_ (Ev.const fin))))
            rw [h0, Rat.neg_zero]
          · refine Ev.neg (fun h => h0 (hz.1 h)) (Ev.yes (Ev.pos rfl (Ev.pos ?_ (Ev.const fin))))
            have hnum : a.num ≠ 0 := fun h => h0 (Rat.num_eq_zero.1 h)
            have hm := neg_bytes (r := -a) (by rw [Rat.neg_num]; omega)
            rw [Rat.neg_neg] at hm
            rw [toList_inj, ← bytesN_inj, hm, bytesN_append]
            rfl
    · rw [ee]
      exact Ev.neg he (Ev.now _)
  · exact Ev.pos (by omega) (Ev.now _)
end Go.Proofs.YtfnhohpmhpbpmaaDoor.Pure
