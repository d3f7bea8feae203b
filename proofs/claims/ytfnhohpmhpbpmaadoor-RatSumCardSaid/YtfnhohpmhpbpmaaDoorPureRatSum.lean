/- RatSum: the sum of all is that of each added to the others, in whatever order; with each the other way round besides it is 0; the plain law behind the printed walk. No condition beyond the statement's own guards. -/
import Derived.Test.YtfnhohpmhpbpmaaDoorGx13
import Derived.Test.YtfnhohpmhpbpmaaDoorGRatLaws
import Derived.Test.YtfnhohpmhpbpmaaDoorGRatSum
namespace Go.Proofs.YtfnhohpmhpbpmaaDoor.Pure
open Go.RowKit Go.Proofs.YtfnhohpmhpbpmaaDoor.G Go.Proofs.YtfnhohpmhpbpmaaDoorW.PrintWords Go.Proofs.YtfnhohpmhpbpmaaDoorW.PrintLast

/-- THE ONE PURE STATEMENT of tribunallaw03.RatSum. -/
def RatSumP : Prop := ∀ (l : List ByteArray) (a1 : Int), (Lit.int .u8 a1).wf = true → ∃ k, tribunallaw03_RatSum.f k l a1 = some true
def total : List Rat → Rat
  | [] => 0
  | x :: l => x + total l
def both : List Rat → List Rat
  | [] => []
  | x :: l => x :: -x :: both l
theorem total_perm {l m : List Rat} (h : l.Perm m) : total l = total m := by
  induction h with
  | nil => rfl
  | cons x _ ih => show x + _ = x + _; rw [ih]
  | swap x y l => show y + (x + total l) = x + (y + total l); grind
  | trans _ _ h1 h2 => exact h1.trans h2
theorem total_append (l : List Rat) (x : Rat) : total (l ++ [x]) = total l + x := by
  rw [total_perm (List.perm_append_comm (l₁ := l) (l₂ := [x]))]
  show x + total l = _
  grind
theorem total_both (l : List Rat) : total (both l) = 0 := by
  induction l with
  | nil => rfl
  | cons x l ih => show x + (-x + total (both l)) = 0; rw [ih]; grind
theorem both_append (l : List Rat) (x : Rat) : both (l ++ [x]) = both l ++ [x, -x] := by
  induction l with
  | nil => rfl
  | cons y l ih => show y :: -y :: both (l ++ [x]) = y :: -y :: (both l ++ [x, -x]); rw [ih]
theorem both_len (l : List Rat) : (both l).length = 2 * l.length := by
  induction l with
  | nil => rfl
  | cons y l ih => show (y :: -y :: both l).length = _; simp [ih]; omega
theorem both_bd {l : List Rat} (h : ∀ x ∈ l, Bd 40 x) : ∀ x ∈ both l, Bd 40 x := by
  induction l with
  | nil => intro x hx; cases hx
  | cons y l ih =>
    intro x hx
    have hy := h y (by simp)
    rcases List.mem_cons.1 hx with rfl | hx
    · exact hy
    · rcases List.mem_cons.1 hx with rfl | hx
      · exact hy.neg
      · exact ih (fun z hz => h z (by simp [hz])) x hx
theorem smallR_bd {k : Nat} {r : Rat} (h : Bd k r) (hk : k ≤ 4002) : smallR r = true := by
  have := bd_sh h hk
  unfold smallR
  rw [decide_eq_true (by omega), decide_eq_true (by omega)]
  rfl
theorem sum_is (rs : List Rat) : ∀ (r : Rat) (k : Nat), (∀ x ∈ rs, Bd 40 x) → Bd k r → k + 41 * rs.length ≤ 4002 → okB (rs.map ratS) r = true ∧ sumX (rs.map ratS) r = some (r + total rs) := by
  induction rs with
  | nil =>
    intro r k _ hr hk
    refine ⟨smallR_bd hr (by simpa using hk), ?_⟩
    show some r = some (r + 0)
    rw [Rat.add_zero]
  | cons x l ih =>
    intro r k hx hr hk
    rw [List.length_cons] at hk
    have hb := hx x (by simp)
    have hs := hb.size
    have hg := getS_rat (r := x) (by omega)
    obtain ⟨h1, h2⟩ := ih (r + x) (k + 40 + 1) (fun y hy => hx y (by simp [hy])) (hr.add hb) (by omega)
    have e : valX (decide (x.num < 0), x.num.natAbs, x.den) = x := val_self x
    constructor
    · show (smallR r && (match getS (ratS x) with | none => true | some y => okB (l.map ratS) (r + valX y))) = true
      rw [hg]
      show (smallR r && okB (l.map ratS) (r + valX (decide (x.num < 0), x.num.natAbs, x.den))) = true
      rw [e, h1, smallR_bd hr (by omega)]
      rfl
    · show ((getS (ratS x)).bind fun y => sumX (l.map ratS) (r + valX y)) = _
      rw [hg]
      show sumX (l.map ratS) (r + valX (decide (x.num < 0), x.num.natAbs, x.den)) = _
      rw [e, h2]
      show some (r + x + total l) = some (r + (x + total l))
      rw [Rat.add_assoc]
theorem sum_f (rs : List Rat) (hx : ∀ x ∈ rs, Bd 40 x) (hl : rs.length ≤ 80) : rat_Sum.f (rs.map ratS) = some (toldR (total rs)) := by
  obtain ⟨h1, h2⟩ := sum_is rs 0 1 hx bd0 (by omega)
  have hsm : ∀ s ∈ rs.map ratS, small s := by
    intro s hs
    obtain ⟨x, hm, rfl⟩ := List.mem_map.1 hs
    have := (hx x hm).size
    exact small_of (by omega)
  unfold rat_Sum.f
  rw [if_pos ⟨by rw [List.length_map]; omega, hsm, h1⟩]
  unfold sumS
  rw [h2, Rat.zero_add]
theorem sum_bad : rat_Sum.f [⟨#[49]⟩, ⟨#[50, 47, 49]⟩] = some (⟨#[]⟩, 1) := by
  have q2 : ratS 2 = ⟨#[50]⟩ := ratS_lit _ _ ⟨#[50]⟩ ⟨#[49]⟩ (by decide) (by decide) (by decide) (by decide) (by decide)
  have g1 : getS ⟨#[49]⟩ = some (decide ((1 : Rat).num < 0), (1 : Rat).num.natAbs, (1 : Rat).den) := by rw [rat1]; exact getS_rat (bd1.le (by decide))
  have g2 : getS ⟨#[50, 47, 49]⟩ = none := getS_not (s := ⟨#[50, 47, 49]⟩) (t := ⟨#[50]⟩) (by
      rw [show (partsS ⟨#[50, 47, 49]⟩).1 = false from by decide, show decN (partsS ⟨#[50, 47, 49]⟩).2.1 = 2 from by decide, show decN (partsS ⟨#[50, 47, 49]⟩).2.2 = 1 from by decide, strS_val _ _ _ (by decide), show valX (false, 2, 1) = 2 from by decide, q2]) (by decide)
  have e : valX (decide ((1 : Rat).num < 0), (1 : Rat).num.natAbs, (1 : Rat).den) = 1 := val_self 1
  have hok : okB [⟨#[49]⟩, ⟨#[50, 47, 49]⟩] 0 = true := by
    unfold okB
    rw [g1, smallR_bd bd0 (by decide)]
    show okB [⟨#[50, 47, 49]⟩] (0 + valX (decide ((1 : Rat).num < 0), (1 : Rat).num.natAbs, (1 : Rat).den)) = true
    rw [e]
    unfold okB
    rw [g2, Rat.zero_add, smallR_bd bd1 (by decide)]
    rfl
  unfold rat_Sum.f
  rw [if_pos ⟨by decide, by decide, hok⟩]
  unfold sumS sumX
  rw [g1]
  show some (match sumX [⟨#[50, 47, 49]⟩] (0 + valX (decide ((1 : Rat).num < 0), (1 : Rat).num.natAbs, (1 : Rat).den)) with | none => ((⟨#[]⟩ : ByteArray), (1 : Int)) | some r => toldR r) = _
  unfold sumX
  rw [g2]
  rfl
/-- What `all` holds: nothing any more, or the sum. -/
def AllOk (s : ByteArray) (r : Rat) : Prop := s = ⟨#[]⟩ ∨ (s = ratS r ∧ (ratS r).size ≤ 1900)
theorem getS_empty : getS ⟨#[]⟩ = none := by
  unfold getS
  rw [if_neg (fun h => absurd h.1 (by decide))]
theorem told_ok (r : Rat) : AllOk (toldR r).1 r := by
  unfold toldR
  split
  · exact .inl rfl
  · exact .inr ⟨rfl, by omega⟩
theorem plus_ok {s : ByteArray} {r a : Rat} (h : AllOk s r) (ha : (ratS a).size ≤ 1900) : ∃ t, tribunallaw03_plus.f s (ratS a) = some t ∧ AllOk t (r + a) := by
  unfold tribunallaw03_plus.f rat_Add.f
  rcases h with rfl | ⟨rfl, hs⟩
  · rw [if_pos ⟨by decide, small_of ha⟩]
    refine ⟨⟨#[]⟩, ?_, .inl rfl⟩
    unfold opS
    rw [getS_empty]
    rfl
  · rw [if_pos ⟨small_of hs, small_of ha⟩, opS_add hs ha]
    exact ⟨_, rfl, told_ok _⟩
def turned (rs : List Rat) (t : Nat) : List Rat := (List.range rs.length).map fun i => rs.getD ((rs.length - 1 - i + t) % rs.length) 0
theorem turned_perm (rs : List Rat) (t : Nat) : (turned rs t).Perm rs := by
  have e : turned rs t = (rs.drop (t % rs.length) ++ rs.take (t % rs.length)).reverse := by
    refine List.ext_getElem ?_ ?_
    · simp [turned]
      rcases Nat.eq_zero_or_pos rs.length with h | h
      · omega
      · have := Nat.mod_lt t h; omega
    · intro i h1 h2
      have hi : i < rs.length := by simpa [turned] using h1
      have hm := Nat.mod_lt t (show 0 < rs.length by omega)
      generalize hmm : t % rs.length = m at *
      have hlen : (rs.drop m ++ rs.take m).length = rs.length := by simp; omega
      rw [List.getElem_reverse]
      have key : (turned rs t)[i] = rs.getD ((rs.length - 1 - i + t) % rs.length) 0 := by simp [turned]
      rw [key, Nat.add_mod, hmm, Nat.mod_eq_of_lt (show rs.length - 1 - i < rs.length by omega)]
      simp only [hlen]
      have main : ∀ (j : Nat) (hj : j < (rs.drop m ++ rs.take m).length), rs.getD ((j + m) % rs.length) 0 = (rs.drop m ++ rs.take m)[j] := ?_
      · exact main _ _
      clear key
      intro j hj
      rw [hlen] at hj
      by_cases hc : j + m < rs.length
      · rw [Nat.mod_eq_of_lt hc, List.getElem_append_left (by simp; omega), List.getElem_drop, List.getD_eq_getElem?_getD, List.getElem?_eq_getElem hc]
        simp [Nat.add_comm]
      · rw [Nat.mod_eq_sub_mod (by omega), Nat.mod_eq_of_lt (by omega), List.getElem_append_right (by simp; omega), List.getElem_take, List.getD_eq_getElem?_getD, List.getElem?_eq_getElem (by omega)]
        simp
        congr 1
        omega
  rw [e]
  refine (List.reverse_perm _).trans (List.perm_append_comm.trans ?_)
  rw [List.take_append_drop]
theorem rd_at (rs : List Rat) (i : Nat) (h : i < rs.length) : rdOf ByteArray.empty (rs.map ratS) ((i : Nat) : Int) = ratS rs[i] := by simp [rdOf, h]
theorem right_any {r : Rat} (h : (ratS r).size ≤ 1900) : rat_Right.f (ratS r) = some true := by
  unfold rat_Right.f
  rw [if_pos (small_of h), getS_rat h]
  rfl
section
variable (a1 : Int) (ha : 0 ≤ a1 ∧ a1 ≤ 255) (rs : List Rat) (hx : ∀ x ∈ rs, Bd 40 x) (hl : rs.length ≤ 40) (x8 : ByteArray) (h8 : AllOk x8 (total rs))
include ha hx hl h8
theorem Sum_l1 (d : Nat) : ∀ j : Nat, j ≤ rs.length → rs.length ≤ j + d →
    Ev (fun k => tribunallaw03_RatSum.l1 k a1 true (rs.map ratS) ((both rs).map ratS) x8 (((turned rs a1.toNat).map ratS).take j) (j : Int)) true := by
  have hlen : (turned rs a1.toNat).length = rs.length := by simp [turned]
  have fin : Ev (fun k => tribunallaw03_RatSum.l1 k a1 true (rs.map ratS) ((both rs).map ratS) x8 ((turned rs a1.toNat).map ratS) (rs.length : Int)) true := by
    have hp := turned_perm rs a1.toNat
    have s1 := sum_f rs hx (by omega)
    have s2 := sum_f (turned rs a1.toNat) (fun x h => hx x (hp.mem_iff.1 h)) (by omega)
    have s3 := sum_f (both rs) (both_bd hx) (by rw [both_len]; omega)
    rw [total_perm hp] at s2
    rw [total_both, toldR_bd bd0 (by decide)] at s3
    apply Ev.step
    · intro k; rw [tribunallaw03_RatSum.l1]
    · refine Ev.neg (by rw [List.length_map]; omega) (Ev.bind (Ev.const s1) (Ev.bind (Ev.const s2) (Ev.bind (Ev.const s3) (Ev.bind (Ev.const sum_bad) ?_))))
      refine Ev.pos rfl (Ev.pos (by show (ratS 0).toList = _; rw [← rat0]; exact toList_mk _) (Ev.pos rfl (Ev.pos rfl (Ev.pos rfl (Ev.pos rfl ?_)))))
      unfold toldR
      by_cases hs : (ratS (total rs)).size > 1900
      · rw [if_pos hs]
        exact Ev.pos rfl (Ev.pos (toList_mk _) (Ev.now _))
      · rw [if_neg hs]
        refine Ev.neg (show ¬ (0 : Int) = 2 by decide) (Ev.pos rfl (Ev.bind (Ev.const (right_any (by omega))) (Ev.pos rfl ?_)))
        rcases h8 with rfl | ⟨rfl, _⟩
        · exact Ev.pos (toList_mk _) (Ev.now _)
        · by_cases h0 : (ratS (total rs)).toList = ([] : List UInt8)
          · exact Ev.pos h0 (Ev.now _)
          · refine Ev.neg h0 (Ev.const ?_)
            rw [beq_self_eq_true]
  induction d with
  | zero =>
    intro j h1 h2
    rw [List.take_of_length_le (by rw [List.length_map]; omega), show j = rs.length by omega]
    exact fin
  | succ d ih =>
    intro j h1 h2
    by_cases hj : j < rs.length
    · have I := ih (j + 1) (by omega) (by omega)
      have hn : (((rs.map ratS).length : Nat) : Int) = (rs.length : Int) := by rw [List.length_map]
      have ei : wrap64 (wrap64 (wrap64 (((rs.map ratS).length : Int) - 1) - (j : Int)) + wrap64 a1) = ((rs.length - 1 - j + a1.toNat : Nat) : Int) := by
        rw [hn, wrap64_id (x := a1) (by omega) (by omega), wrap64_id (x := (rs.length : Int) - 1) (by omega) (by omega), wrap64_id (x := (rs.length : Int) - 1 - (j : Int)) (by omega) (by omega), wrap64_id (by omega) (by omega)]
        omega
      have em : Int.tmod ((rs.length - 1 - j + a1.toNat : Nat) : Int) ((rs.map ratS).length : Int) = (((rs.length - 1 - j + a1.toNat) % rs.length : Nat) : Int) := by
        rw [hn]; rfl
      have hmlt := Nat.mod_lt (rs.length - 1 - j + a1.toNat) (show 0 < rs.length by omega)
      have eg : ((turned rs a1.toNat).map ratS).take j ++ [rdOf ByteArray.empty (rs.map ratS) (((rs.length - 1 - j + a1.toNat) % rs.length : Nat) : Int)] = ((turned rs a1.toNat).map ratS).take (j + 1) := by
        rw [List.take_succ_eq_append_getElem (by rw [List.length_map]; omega)]
        congr 2
        rw [rd_at rs _ hmlt, List.getElem_map]
        simp [turned, List.getD_eq_getElem?_getD, List.getElem?_eq_getElem hmlt]
      apply Ev.step
      · intro k; rw [tribunallaw03_RatSum.l1]
      · rw [ei, em, eg, show wrap64 ((j : Int) + 1) = ((j + 1 : Nat) : Int) from by rw [wrap64_id (by omega) (by omega)]; rfl]
        refine Ev.pos (by rw [hn]; omega) (Ev.neg (by rw [hn]; omega) (Ev.pos (by omega) (Ev.pos (by rw [hn]; omega) (Ev.pos ?_ I))))
        rw [List.length_take, List.length_map]
        omega
    · rw [List.take_of_length_le (by rw [List.length_map]; omega), show j = rs.length by omega]
      exact fin
end
theorem Sum_l0 (l : List ByteArray) (hl : l.length ≤ 40) (a1 : Int) (ha : 0 ≤ a1 ∧ a1 ≤ 255) (d : Nat) : ∀ (i : Nat) (rs : List Rat) (x8 : ByteArray), i ≤ l.length → l.length ≤ i + d → rs.length ≤ i → (∀ x ∈ rs, Bd 40 x) → AllOk x8 (total rs) →
    Ev (fun k => tribunallaw03_RatSum.l0 k l a1 true (rs.map ratS) ((both rs).map ratS) x8 (i : Int)) true := by
  induction d with
  | zero =>
    intro i rs x8 h1 h2 h3 hx h8
    apply Ev.step
    · intro k; rw [tribunallaw03_RatSum.l0]
    · refine Ev.neg (by omega) ?_
      exact Sum_l1 a1 ha rs hx (by omega) x8 h8 rs.length 0 (by omega) (by omega)
  | succ d ih =>
    intro i rs x8 h1 h2 h3 hx h8
    by_cases hi : i < l.length
    · apply Ev.step
      · intro k; rw [tribunallaw03_RatSum.l0]
      · refine Ev.pos (by omega) (Ev.pos (by omega) ?_)
        rw [show wrap64 ((i : Int) + 1) = ((i + 1 : Nat) : Int) from by rw [wrap64_id (by omega) (by omega)]; rfl]
        by_cases hs : ((rdOf ByteArray.empty l (i : Int)).size : Int) > 40
        · exact Ev.pos hs (Ev.now _)
        · refine Ev.neg hs ?_
          generalize rdOf ByteArray.empty l (i : Int) = s at *
          refine Ev.bind (Ev.const (rNorm_eq s (by omega))) ?_
          rcases norm_cases s 40 (by omega) (by omega) with ⟨a, ea, ba⟩ | ⟨e, he, ee⟩
          · rw [ea]
            have hsz := ba.size
            obtain ⟨t, et, ht⟩ := plus_ok h8 (a := a) (by omega)
            have I := ih (i + 1) (rs ++ [a]) t (by omega) (by omega) (by simp; omega) (fun x hm => by
              rcases List.mem_append.1 hm with hm | hm
              · exact hx x hm
              · rw [List.mem_singleton] at hm; rw [hm]; exact ba) (by rw [total_append]; exact ht)
            rw [both_append, List.map_append, List.map_append] at I
            refine Ev.pos rfl (Ev.bind (Ev.const (rNeg ba (by omega))) (Ev.pos (by rw [List.length_map]; omega) (Ev.bind (Ev.const rfl) (Ev.pos ?_ (Ev.bind (Ev.const et) I)))))
            rw [List.length_map, both_len]
            simp
            omega
          · rw [ee]
            exact Ev.neg he (ih (i + 1) rs x8 (by omega) (by omega) (by omega) hx h8)
    · apply Ev.step
      · intro k; rw [tribunallaw03_RatSum.l0]
      · refine Ev.neg (by omega) ?_
        exact Sum_l1 a1 ha rs hx (by omega) x8 h8 rs.length 0 (by omega) (by omega)
theorem RatSum : RatSumP := by
  intro l a1 h1
  have m1 : IntKind.u8.min = 0 := by decide
  have m2 : IntKind.u8.max = 255 := by decide
  have ha : 0 ≤ a1 ∧ a1 ≤ 255 := by simpa [Lit.wf, m1, m2] using h1
  refine Ev.rounds (g := fun k => tribunallaw03_RatSum.f k l a1) ?_
  unfold tribunallaw03_RatSum.f
  refine Ev.bind (Ev.const head_true) ?_
  by_cases h : (l.length : Int) > 40
  · exact Ev.pos h (Ev.now _)
  · refine Ev.neg h ?_
    have h8 : AllOk (⟨#[48]⟩ : ByteArray) (total []) := .inr ⟨rat0, bd0.le (by decide)⟩
    exact Sum_l0 l (by omega) a1 ha l.length 0 [] _ (by omega) (by omega) (by simp) (fun x hx => by cases hx) h8
end Go.Proofs.YtfnhohpmhpbpmaaDoor.Pure
