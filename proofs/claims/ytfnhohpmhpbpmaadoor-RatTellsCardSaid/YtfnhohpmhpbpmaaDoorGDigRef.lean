/- What the printed functions of tribunalref02 come to. Conditions: limbs of 32 bits, few of them; texts shorter than 2^62. -/
import Derived.Test.YtfnhohpmhpbpmaaDoorGx0
import Derived.Test.YtfnhohpmhpbpmaaDoorGx2
import Derived.Test.YtfnhohpmhpbpmaaDoorGx6
import Derived.Test.YtfnhohpmhpbpmaaDoorGx3
import Derived.Test.YtfnhohpmhpbpmaaDoorGDigParse
import Derived.Test.YtfnhohpmhpbpmaaDoorGDigText
import Derived.Test.YtfnhohpmhpbpmaaDoorGNatLaws
import Derived.Test.YtfnhohpmhpbpmaaDoorGDigDec
namespace Go.Proofs.YtfnhohpmhpbpmaaDoor.G
open Go.RowKit Go.Proofs.YtfnhohpmhpbpmaaDoorW.PrintWords Go.Proofs.YtfnhohpmhpbpmaaDoorW.PrintLast Go.Proofs.YtfnhohpmhpbpmaaDoorW.PrintMore

theorem RRight_l0_ev (s : ByteArray) (hs : s.size ≤ 2305843009213693951) (d : Nat) : ∀ p : Nat, p ≤ s.size → s.size ≤ p + d → (bytesN s).all isDig = ((bytesN s).drop p).all isDig → Ev (fun k => tribunalref02_Right.l0 k s (p : Int)) (rightS s) := by
  have hl := bytesN_length s
  have fin : ∀ p : Nat, p = s.size → (bytesN s).all isDig = ((bytesN s).drop p).all isDig → Ev (fun k => tribunalref02_Right.l0 k s (p : Int)) (rightS s) := by
    intro p hp hall
    rw [List.drop_eq_nil_of_le (by omega)] at hall
    refine Ev.some_ fun k => ?_
    simp only [tribunalref02_Right.l0]
    rw [if_neg (by omega)]
    have hb := bt_nat s 0
    unfold rightS rightL
    rw [hall, hl]
    by_cases h1 : s.size = 1
    · rw [if_pos (by omega)]
      congr 1
      obtain ⟨c, hc⟩ : ∃ c, bytesN s = [c] := by
        cases h : bytesN s with
        | nil => rw [h] at hl; simp at hl; omega
        | cons c l => cases l with
          | nil => exact ⟨c, rfl⟩
          | cons x l => rw [h] at hl; simp at hl; omega
      rw [hc, h1]
      by_cases h48 : c = 48
      · rw [h48]; rfl
      · simp [h48]
    · rw [if_neg (by omega)]
      have hne : bytesN s ≠ [48] := fun h => by rw [h] at hl; simp at hl; omega
      rw [decide_eq_false hne]
      by_cases h2 : s.size > 1
      · rw [if_pos (by omega), if_pos (by omega), show bt s 0 = _ from hb]
        congr 1
        rw [decide_eq_true (show 0 < s.size by omega)]
        rw [show ((((bytesN s).getD 0 0 : Nat) : Int) != 48) = decide ((bytesN s).getD 0 0 ≠ 48) from by rw [Bool.eq_iff_iff, bne_iff_ne, decide_eq_true_iff]; omega]
        rfl
      · rw [if_neg (by omega), decide_eq_false (show ¬ 0 < s.size by omega)]
        rfl
  induction d with
  | zero => intro p h1 h2 h3; exact fin p (by omega) h3
  | succ d ih =>
    intro p h1 h2 h3
    by_cases hp : p < s.size
    · have hb := bt_nat s p
      have hd := all_drop (l := bytesN s) (p := p) (by omega)
      by_cases hg : isDig ((bytesN s).getD p 0) = true
      · have hc : 48 ≤ (bytesN s).getD p 0 ∧ (bytesN s).getD p 0 ≤ 57 := by simpa [isDig] using hg
        refine Ev.step (fun k => ?_) (ih (p + 1) (by omega) (by omega) (by rw [h3, hd, hg]; rfl))
        simp only [tribunalref02_Right.l0]
        rw [if_pos (by omega), if_pos (by omega), hb, if_neg (by omega), if_neg (by omega), wrap64_id (by omega) (by omega)]
        rfl
      · have hg : isDig ((bytesN s).getD p 0) = false := by simpa using hg
        have hc : (bytesN s).getD p 0 < 48 ∨ 57 < (bytesN s).getD p 0 := by
          rcases Nat.lt_or_ge ((bytesN s).getD p 0) 48 with h | h
          · exact .inl h
          · refine .inr ?_
            rcases Nat.lt_or_ge 57 ((bytesN s).getD p 0) with h' | h'
            · exact h'
            · rw [isDig, decide_eq_true h, decide_eq_true h'] at hg
              cases hg
        have hr : rightS s = false := by rw [rightS, rightL, h3, hd, hg]; rfl
        rw [hr]
        refine Ev.some_ fun k => ?_
        simp only [tribunalref02_Right.l0]
        rw [if_pos (by omega), if_pos (by omega), hb]
        rcases hc with h | h
        · rw [if_pos (by omega)]
        · rw [if_neg (by omega), if_pos (by omega)]
    · exact fin p (by omega) h3
theorem RRight_is (s : ByteArray) (hs : s.size ≤ 2305843009213693951) : Ev (fun k => tribunalref02_Right.f k s) (rightS s) := RRight_l0_ev s hs s.size 0 (Nat.zero_le _) (by omega) rfl

theorem tenth_l0_ev (a : List Int) (ha : wfL a) (la : a.length ≤ 1099511627776) (j : Nat) :
    ∀ (q : List Int) (left : Int), j ≤ a.length → SmallInv a 10 j q left → Ev (fun k => tribunalref02_tenth.l0 k a q left ((j : Int) - 1)) (limbs (valN a / 10), 48 + ((valN a % 10 : Nat) : Int)) := by
  induction j with
  | zero =>
    intro q left _ h
    have h0 := h.lo
    have h1 := h.hi
    have hv := h.val
    rw [List.drop_zero, List.drop_zero] at hv
    have e1 : valN a / 10 = valN q := by
      rw [hv, Nat.mul_comm, Nat.mul_add_div (by decide), Nat.div_eq_of_lt (by omega)]; rfl
    have e2 : ((valN a % 10 : Nat) : Int) = left := by
      rw [hv, Nat.mul_comm, Nat.mul_add_mod, Nat.mod_eq_of_lt (by omega)]; omega
    rw [e1, e2]
    refine Ev.step (f := fun k => (tribunalref01_Norm.f k q).bind fun t => some (t, (IntKind.u64.wrap (48 + left)) % 256)) (fun k => ?_) ?_
    · simp only [tribunalref02_tenth.l0]
      rw [if_neg (by omega)]
    · have hw : (IntKind.u64.wrap (48 + left)) % 256 = 48 + left := by rw [wrap_u64_id (by omega) (by omega)]; omega
      rw [hw]
      exact Ev.map_ (fun t => (t, 48 + left)) (RNorm_is q h.wf (by rw [h.len]; omega))
  | succ j ih =>
    intro q left hj h
    have h0 := h.lo
    have h1 := h.hi
    have hx := atL_range ha j
    have ej : (((j + 1 : Nat) : Int) - 1) = (j : Nat) := by omega
    have hT : 0 ≤ left * 4294967296 + atL a j := by omega
    obtain ⟨T, hTe⟩ : ∃ T : Nat, (T : Int) = left * 4294967296 + atL a j := ⟨(left * 4294967296 + atL a j).toNat, Int.toNat_of_nonneg hT⟩
    have hTd : T / 10 < 4294967296 := by omega
    have hTm : T % 10 < 10 := Nat.mod_lt _ (by decide)
    have e := Nat.div_add_mod T 10
    have eq1 : Int.tdiv (T : Int) 10 = ((T / 10 : Nat) : Int) := rfl
    have eq2 : Int.tmod (T : Int) 10 = ((T % 10 : Nat) : Int) := rfl
    generalize T / 10 = Q at *
    generalize T % 10 = S at *
    have next : SmallInv a 10 j (q.set j (Q : Int)) (S : Int) := by
      refine ⟨by rw [List.length_set]; exact h.len, wfL_set h.wf _ ⟨by omega, by omega⟩, by omega, by omega, ?_, fun t ht => by rw [atL_set, if_neg (by omega)]; exact h.rest t (by omega)⟩
      have hl := h.len
      rw [valN_drop a j (by omega), valN_drop (q.set j _) j (by rw [List.length_set]; omega), atL_set, if_pos ⟨rfl, by omega⟩, drop_set_lt _ _ _ _ (by omega), h.val]
      have e2 : (atL a j).toNat + 4294967296 * left.toNat = T := by omega
      rw [Int.toNat_natCast, Int.toNat_natCast]
      rw [← e] at e2
      grind
    refine Ev.step (fun k => ?_) (ih _ _ (by omega) next)
    simp only [tribunalref02_tenth.l0]
    have hl := h.len
    rw [ej, if_pos (by omega), if_pos (by omega), if_pos (by omega), if_pos (by omega), rd_nat, wrap_u64_id (x := left * 4294967296) (by omega) (by omega), wrap_u64_id (x := atL a j) (by omega) (by omega), wrap_u64_id (x := left * 4294967296 + atL a j) (by omega) (by omega), ← hTe, wrap64_id (by omega) (by omega), Int.toNat_natCast,
      eq1, eq2, wrap_u64_id (by omega) (by omega), show (Q : Int) % 4294967296 = (Q : Int) from by omega]
theorem tenth_is (a : List Int) (ha : wfL a) (la : a.length ≤ 1099511627776) : Ev (fun k => tribunalref02_tenth.f k a) (limbs (valN a / 10), 48 + ((valN a % 10 : Nat) : Int)) := by
  have inv : SmallInv a 10 a.length (List.replicate a.length 0) 0 := by
    refine ⟨by simp, wfL_replicate _, by omega, by omega, by simp [valN], fun t ht => ?_⟩
    unfold atL
    rw [List.getD_eq_getElem?_getD, List.getElem?_replicate]
    split <;> rfl
  refine Ev.congr (fun k => ?_) (tenth_l0_ev a ha la a.length _ 0 (by omega) inv)
  unfold tribunalref02_tenth.f
  rw [if_pos (by omega), if_pos (by omega), wrap64_id (by omega) (by omega), Int.toNat_natCast]

theorem strOfNums_nat (l : List Nat) : strOfNums (l.map Int.ofNat) = ofN l := by
  unfold strOfNums ofN
  rw [List.map_map]
  rfl
theorem RText_l1_ev (b : List Int) (hb : b.length ≤ 1000000) (j : Nat) : ∀ x : List Int, j ≤ b.length → x.length + j ≤ 2000000 → Ev (fun k => tribunalref02_Text.l1 k b x ((j : Int) - 1)) (strOfNums (x ++ (b.take j).reverse)) := by
  induction j with
  | zero =>
    intro x _ _
    refine Ev.some_ fun k => ?_
    simp only [tribunalref02_Text.l1]
    rw [if_neg (by omega), List.take_zero, List.reverse_nil, List.append_nil]
  | succ j ih =>
    intro x hj hx
    have e : x ++ (b.take (j + 1)).reverse = (x ++ [rd b (j : Int)]) ++ (b.take j).reverse := by
      rw [List.take_add_one, List.getElem?_eq_getElem (by omega), List.reverse_append, List.append_assoc]
      congr 1
      show [b[j]].reverse ++ _ = _
      rw [rd_nat, atL, List.getD_eq_getElem?_getD, List.getElem?_eq_getElem (by omega)]
      rfl
    rw [e]
    refine Ev.step (fun k => ?_) (ih (x ++ [rd b (j : Int)]) (by omega) (by rw [List.length_append, List.length_singleton]; omega))
    simp only [tribunalref02_Text.l1]
    rw [show (((j + 1 : Nat) : Int) - 1) = (j : Nat) from by omega, if_pos (by omega), if_pos (by omega), if_pos (by omega), if_pos (by omega), wrap64_id (by omega) (by omega)]
theorem RText_l0_ev (n : Nat) : ∀ b : List Int, (limbs n).length ≤ 1000 → nd n + b.length ≤ 1000000 → Ev (fun k => tribunalref02_Text.l0 k (limbs n) b) (strOfNums ((decL n).map Int.ofNat ++ b.reverse)) := by
  induction n using Nat.strongRecOn with
  | _ n ih =>
    intro b hl hb
    by_cases h0 : n = 0
    · subst h0
      have h1 := RText_l1_ev b (by omega) b.length [] (Nat.le_refl _) (by simp; omega)
      rw [List.take_length, List.nil_append] at h1
      rw [show decL 0 = [] from by rw [decL, nd_zero]; rfl, List.map_nil, List.nil_append]
      refine Ev.step (fun k => ?_) h1
      simp only [tribunalref02_Text.l0]
      rw [limbs_zero, if_neg (by simp), wrap64_id (by omega) (by omega)]
    · have hpos : 0 < (limbs n).length := by rw [limbs_pos h0]; simp
      have T := tenth_is (limbs n) (wfL_limbs n) (by omega)
      rw [valN_limbs] at T
      have hlt : n / 10 < n := Nat.div_lt_self (by omega) (by decide)
      have I := ih (n / 10) hlt (b ++ [48 + ((n % 10 : Nat) : Int)]) (Nat.le_trans (limbs_length_mono (Nat.le_of_lt hlt)) hl) (by rw [nd_pos h0] at hb; rw [List.length_append, List.length_singleton]; omega)
      have e : strOfNums ((decL n).map Int.ofNat ++ b.reverse) = strOfNums ((decL (n / 10)).map Int.ofNat ++ (b ++ [48 + ((n % 10 : Nat) : Int)]).reverse) := by
        rw [decL_step h0, List.map_append, List.reverse_append, List.append_assoc]
        rfl
      rw [e]
      apply Ev.step
      · intro k
        simp only [tribunalref02_Text.l0]
        rw [if_pos (by omega)]
      · refine Ev.bind T (Ev.congr (fun k => ?_) I)
        rw [if_pos (by omega)]
theorem RText_is (a : List Int) (ha : wfL a) (la : a.length ≤ 1000) : Ev (fun k => tribunalref02_Text.f k a) (textS (valN a)) := by
  have hn := nd_le_of (valN_lt ha)
  unfold tribunalref02_Text.f
  refine Ev.bind (RNorm_is a ha (by omega)) ?_
  by_cases h0 : valN a = 0
  · rw [h0]
    refine Ev.congr (fun k => ?_) (Ev.now _)
    rw [limbs_zero, if_pos (by simp)]
    rfl
  · have hl : (limbs (valN a)).length ≤ 1000 := Nat.le_trans (sh_val ha) la
    have h := RText_l0_ev (valN a) [] hl (by simp; omega)
    rw [List.reverse_nil, List.append_nil, strOfNums_nat] at h
    have e : textS (valN a) = ofN (decL (valN a)) := by rw [textS, textL, if_neg h0]
    rw [e]
    refine Ev.congr (fun k => ?_) h
    rw [if_neg (by rw [limbs_pos h0]; simp; omega)]
theorem RParse_l0_ev (s : ByteArray) (hs : s.size ≤ 1900) (hd : (bytesN s).all isDig = true) (d : Nat) : ∀ i : Nat, i ≤ s.size → s.size ≤ i + d →
    Ev (fun k => tribunalref02_Parse.l0 k s (limbs (decF 0 ((bytesN s).take i))) (i : Int)) (limbs (decN s), 0) := by
  have hl := bytesN_length s
  have fin : ∀ i : Nat, i = s.size → Ev (fun k => tribunalref02_Parse.l0 k s (limbs (decF 0 ((bytesN s).take i))) (i : Int)) (limbs (decN s), 0) := by
    intro i hi
    have hb : decF 0 (bytesN s) < 10 ^ s.size := by have := decF_lt _ hd; rwa [hl] at this
    have N := RNorm_is (limbs (decF 0 (bytesN s))) (wfL_limbs _) (by have := ten_sh _ _ hb; omega)
    rw [valN_limbs] at N
    rw [List.take_of_length_le (by omega)]
    refine Ev.step (f := fun k => (tribunalref01_Norm.f k (limbs (decF 0 (bytesN s)))).bind fun t => some (t, 0)) (fun k => ?_) (Ev.map_ (fun t => (t, (0 : Int))) N)
    simp only [tribunalref02_Parse.l0]
    rw [if_neg (by omega)]
  induction d with
  | zero => intro i h1 h2; exact fin i (by omega)
  | succ d ih =>
    intro i h1 h2
    by_cases hi : i < s.size
    · have hb := bt_nat s i
      have hst := decF_step (bytesN s) i (by omega)
      obtain ⟨V, hV⟩ : ∃ V, V = decF 0 ((bytesN s).take i) := ⟨_, rfl⟩
      have hVp : V < 10 ^ i := by
        have h := decF_lt _ (all_take hd i)
        rw [List.length_take, hl, Nat.min_eq_left h1, ← hV] at h
        exact h
      have hc : 48 ≤ (bytesN s).getD i 0 ∧ (bytesN s).getD i 0 ≤ 57 := by
        have h := List.all_eq_true.1 hd ((bytesN s)[i]'(by omega)) (List.getElem_mem _)
        rw [List.getD_eq_getElem?_getD, List.getElem?_eq_getElem (by omega)]
        simpa [isDig] using h
      generalize (bytesN s).getD i 0 = c at *
      have I := ih (i + 1) (by omega) (by omega)
      rw [hst, ← hV] at I
      rw [← hV]
      have hlV := ten_sh V i hVp
      have M := RMul_is (limbs V) [10] (wfL_limbs V) (by decide) (by omega) (by simp)
      rw [valN_limbs, show valN [10] = 10 from rfl] at M
      have hV10 : V * 10 < 10 ^ (i + 1) := by rw [Nat.pow_succ]; omega
      have wc : wfL [(((c : Int) - 48) % 256)] := fun x hx => by rw [List.mem_singleton] at hx; subst hx; omega
      have A := RAdd_is (limbs (V * 10)) [(((c : Int) - 48) % 256)] (wfL_limbs _) wc (by have := ten_sh _ _ hV10; omega) (by simp)
      rw [valN_limbs, show valN [(((c : Int) - 48) % 256)] = c - 48 from by simp [valN]; omega, Nat.mul_comm V 10] at A
      apply Ev.step
      · intro k
        simp only [tribunalref02_Parse.l0]
        rw [if_pos (by omega)]
      · refine Ev.bind M (Ev.pos (by omega) ?_)
        rw [hb]
        rw [Nat.mul_comm V 10]
        refine Ev.bind A (Ev.congr (fun k => ?_) I)
        rw [wrap64_id (by omega) (by omega)]
        rfl
    · exact fin i (by omega)
theorem RParse_is (s : ByteArray) (hs : s.size ≤ 2305843009213693951) : Ev (fun k => tribunalref02_Parse.f k s) (parseR s) := by
  unfold tribunalref02_Parse.f parseR
  refine Ev.bind (RRight_is s hs) ?_
  cases hr : rightS s with
  | false => exact Ev.now _
  | true =>
    have hd : (bytesN s).all isDig = true := by unfold rightS rightL at hr; rw [Bool.and_eq_true] at hr; exact hr.1
    rw [if_pos rfl]
    refine Ev.yes ?_
    by_cases hl : s.size > 1900
    · rw [if_pos hl]
      exact Ev.pos (by omega) (Ev.now _)
    · rw [if_neg hl]
      refine Ev.neg (by omega) ?_
      have h := RParse_l0_ev s (by omega) hd s.size 0 (Nat.zero_le _) (by omega)
      rw [List.take_zero, show decF 0 [] = 0 from rfl, limbs_zero] at h
      exact h
end Go.Proofs.YtfnhohpmhpbpmaaDoor.G
