/- What nat.Of, nat.small, nat.shift, nat.Div and nat.Gcd come to, told in numbers. Conditions: limbs of 32 bits, at most 2^38 of them. -/
import Derived.Test.YtfnhohpmhpbpmaaDoorGx0
import Derived.Test.YtfnhohpmhpbpmaaDoorGx7
import Derived.Test.YtfnhohpmhpbpmaaDoorGx8
import Derived.Test.YtfnhohpmhpbpmaaDoorGNatLimb
import Derived.Test.YtfnhohpmhpbpmaaDoorGNatMul
namespace Go.Proofs.YtfnhohpmhpbpmaaDoor.G
open Go.RowKit Go.Proofs.YtfnhohpmhpbpmaaDoorW.PrintWords Go.Proofs.YtfnhohpmhpbpmaaDoorW.PrintLast Go.Proofs.YtfnhohpmhpbpmaaDoorW.PrintMore

theorem nat_Of_is (n : Int) (h0 : 0 ≤ n) (h1 : n < 18446744073709551616) : Ev (fun k => nat_Of.f k n) (limbs n.toNat) := by
  unfold nat_Of.f
  have hw : wfL [n % 4294967296, n / 4294967296 % 4294967296] := wfL_cons.2 ⟨by omega, wfL_cons.2 ⟨by omega, wfL_nil⟩⟩
  have hv : valN [n % 4294967296, n / 4294967296 % 4294967296] = n.toNat := by simp only [valN]; omega
  have := Ev.map_ id (nat_Norm_is _ hw (by simp))
  rw [hv] at this
  exact this
theorem limbs_small {n : Nat} (h : n < 4294967296) : limbs n = if n = 0 then [] else [(n : Int)] := by
  by_cases h0 : n = 0
  · subst h0; simp [limbs_zero]
  · rw [limbs_pos h0, if_neg h0, Nat.mod_eq_of_lt h, Nat.div_eq_of_lt h, limbs_zero]
theorem or_join (x y : Int) (hx : 0 ≤ x) (hx1 : x < 4294967296) (hy : 0 ≤ y) (hy1 : y < 4294967296) : bits .or .u64 (IntKind.u64.wrap (x * 4294967296)) (IntKind.u64.wrap y) = x * 4294967296 + y := by
  rw [wrap_u64_id (by omega) (by omega), wrap_u64_id hy (by omega)]
  exact bits_join .u64 64 (by decide) (fun n h0 h1 => by rw [IntKind.wrap_u64]; exact Int.emod_eq_of_lt h0 (by omega)) 32 _ _ (by omega) (by omega) (by omega) (by omega) (by omega) (by omega)

structure SmallInv (a : List Int) (d : Nat) (j : Nat) (q : List Int) (left : Int) : Prop where
  len : q.length = a.length
  wf : wfL q
  lo : 0 ≤ left
  hi : left < d
  val : valN (a.drop j) = valN (q.drop j) * d + left.toNat
  rest : ∀ t, t < j → atL q t = 0
theorem valN_drop (l : List Int) (j : Nat) (h : j < l.length) : valN (l.drop j) = (atL l j).toNat + 4294967296 * valN (l.drop (j + 1)) := by
  rw [drop_atL l j h, valN]
theorem drop_set_lt (l : List Int) (p j : Nat) (x : Int) (h : p < j) : (l.set p x).drop j = l.drop j := List.drop_set_of_lt h
theorem small_l0_ev (a : List Int) (d : Nat) (ha : wfL a) (la : a.length ≤ 1099511627776) (hd : 0 < d) (hd1 : d ≤ 4294967296) (j : Nat) :
    ∀ (q : List Int) (left : Int), j ≤ a.length → SmallInv a d j q left → Ev (fun k => nat_small.l0 k a (d : Int) q left ((j : Int) - 1)) (limbs (valN a / d), limbs (valN a % d)) := by
  induction j with
  | zero =>
    intro q left _ h
    have h0 := h.lo
    have h1 := h.hi
    have hv := h.val
    rw [List.drop_zero, List.drop_zero] at hv
    have e1 : valN a / d = valN q := by
      rw [hv, Nat.mul_comm, Nat.mul_add_div hd, Nat.div_eq_of_lt (by omega)]; rfl
    have e2 : valN a % d = left.toNat := by
      rw [hv, Nat.mul_comm, Nat.mul_add_mod, Nat.mod_eq_of_lt (by omega)]
    rw [e1, e2]
    refine Ev.step (f := fun k => (nat_Norm.f k q).bind fun t => (nat_Of.f k left).bind fun u => some (t, u)) (fun k => ?_) (Ev.bind (f := fun k t => (nat_Of.f k left).bind fun u => some (t, u)) (nat_Norm_is q h.wf (by rw [h.len]; omega)) (Ev.map_ (fun u => (limbs (valN q), u)) (nat_Of_is left h0 (by omega))))
    simp only [nat_small.l0]
    rw [if_neg (by omega)]
  | succ j ih =>
    intro q left hj h
    have h0 := h.lo
    have h1 := h.hi
    have hx := atL_range ha j
    have ej : (((j + 1 : Nat) : Int) - 1) = (j : Nat) := by omega
    have hT : 0 ≤ left * 4294967296 + atL a j := by omega
    obtain ⟨T, hTe⟩ : ∃ T : Nat, (T : Int) = left * 4294967296 + atL a j := ⟨(left * 4294967296 + atL a j).toNat, Int.toNat_of_nonneg hT⟩
    have hTd : T / d < 4294967296 := by
      rw [Nat.div_lt_iff_lt_mul hd]
      have : left.toNat * 4294967296 + 4294967296 ≤ d * 4294967296 := by
        have : left.toNat + 1 ≤ d := by omega
        have := Nat.mul_le_mul_right 4294967296 this
        omega
      omega
    have hTm : T % d < d := Nat.mod_lt _ hd
    have e := Nat.div_add_mod T d
    have eq1 : Int.tdiv (T : Int) (d : Int) = ((T / d : Nat) : Int) := rfl
    have eq2 : Int.tmod (T : Int) (d : Int) = ((T % d : Nat) : Int) := rfl
    generalize T / d = Q at *
    generalize T % d = S at *
    have next : SmallInv a d j (q.set j (Q : Int)) (S : Int) := by
      refine ⟨by rw [List.length_set]; exact h.len, wfL_set h.wf _ ⟨by omega, by omega⟩, by omega, by omega, ?_, fun t ht => by rw [atL_set, if_neg (by omega)]; exact h.rest t (by omega)⟩
      have hl := h.len
      rw [valN_drop a j (by omega), valN_drop (q.set j _) j (by rw [List.length_set]; omega), atL_set, if_pos ⟨rfl, by omega⟩, drop_set_lt _ _ _ _ (by omega), h.val]
      have e2 : (atL a j).toNat + 4294967296 * left.toNat = T := by omega
      rw [Int.toNat_natCast, Int.toNat_natCast]
      rw [← e] at e2
      grind
    refine Ev.step (fun k => ?_) (ih _ _ (by omega) next)
    simp only [nat_small.l0]
    have hl := h.len
    rw [ej, if_pos (by omega), if_pos (by omega), if_pos (by omega), if_neg (by omega), if_pos (by omega), rd_nat, or_join _ _ h0 (by omega) hx.1 hx.2, ← hTe, wrap64_id (by omega) (by omega), Int.toNat_natCast,
      eq1, eq2, wrap_u64_id (by omega) (by omega), show (Q : Int) % 4294967296 = (Q : Int) from by omega]
theorem nat_small_is (a : List Int) (d : Nat) (ha : wfL a) (la : a.length ≤ 1099511627776) (hd : 0 < d) (hd1 : d ≤ 4294967296) : Ev (fun k => nat_small.f k a (d : Int)) (limbs (valN a / d), limbs (valN a % d)) := by
  have inv : SmallInv a d a.length (List.replicate a.length 0) 0 := by
    refine ⟨by simp, wfL_replicate _, by omega, by omega, by simp [valN], fun t ht => ?_⟩
    unfold atL
    rw [List.getD_eq_getElem?_getD, List.getElem?_replicate]
    split <;> rfl
  refine Ev.congr (fun k => ?_) (small_l0_ev a d ha la hd hd1 a.length _ 0 (by omega) inv)
  unfold nat_small.f
  rw [if_pos (by omega), if_pos (by omega), wrap64_id (by omega) (by omega), Int.toNat_natCast]

theorem nat_shift_is (a : List Int) (n : Nat) (ha : wfL a) (la : a.length ≤ 1099511627776) (hn : n < 32) : Ev (fun k => nat_shift.f k a (n : Int)) (limbs (valN a * 2 ^ n)) := by
  have hp : (2 : Nat) ^ n ≤ 2 ^ 31 := Nat.pow_le_pow_right (by omega) (by omega)
  have hs : shl .u32 1 (n : Int) = ((2 ^ n : Nat) : Int) := by
    have e : ((2 ^ n : Nat) : Int) = 2 ^ n := by simp
    unfold shl
    rw [Int.toNat_natCast, Nat.min_eq_left (by show n ≤ 32; omega), IntKind.wrap_u32, Int.one_mul, ← e]
    generalize (2 : Nat) ^ n = p at *
    omega
  unfold nat_shift.f
  rw [hs]
  generalize (2 : Nat) ^ n = p at *
  have hm := Ev.map_ id (nat_Mul_is a [(p : Int)] ha (wfL_cons.2 ⟨by omega, wfL_nil⟩) (by omega) (by simp))
  rw [show valN [(p : Int)] = p from by simp only [valN]; omega] at hm
  refine Ev.congr (fun k => ?_) hm
  rw [if_pos (by omega)]
  rfl

/-! ### Div -/
theorem atL_limbs (n i : Nat) : atL (limbs n) i = ((n / 4294967296 ^ i % 4294967296 : Nat) : Int) := by
  induction i generalizing n with
  | zero =>
    by_cases h : n = 0
    · subst h; simp [limbs_zero, atL]
    · rw [limbs_pos h, atL_zero]; simp
  | succ i ih =>
    by_cases h : n = 0
    · subst h; simp [limbs_zero, atL]
    · rw [limbs_pos h, atL_succ, ih, Nat.pow_succ, Nat.mul_comm, ← Nat.div_div_eq_div_mul]
theorem limbs_length_eq {n k : Nat} (h0 : 4294967296 ^ k ≤ n) (h1 : n < 4294967296 ^ (k + 1)) : (limbs n).length = k + 1 := by
  have a := limbs_length_le h1
  have b := valN_lt (wfL_limbs n)
  rw [valN_limbs] at b
  have c : k < (limbs n).length := by
    rcases Nat.lt_or_ge k (limbs n).length with h | h
    · exact h
    · have := Nat.pow_le_pow_right (show 0 < 4294967296 by omega) h
      omega
  omega
/-- The first guess is never too small. -/
theorem limbQ_exact {R n k : Nat} (hn : 0 < n) (hR : R < n * 4294967296 ^ (k + 1)) : limbQ (limbs R) (limbs n) k = R / (n * 4294967296 ^ k) := by
  have hup : valN (limbUp (limbs n) k) = n * 4294967296 ^ k := by rw [limbUp_val, valN_limbs, Nat.mul_comm]
  have hpk : 0 < 4294967296 ^ k := Nat.pow_pos (by omega)
  have hU : 0 < n * 4294967296 ^ k := Nat.mul_pos hn hpk
  unfold limbQ
  rw [hup, valN_limbs]
  refine Nat.min_eq_right ?_
  have hlen : 0 < (limbs n).length := by rw [limbs_pos (by omega)]; simp
  obtain ⟨m, hm⟩ : ∃ m, (limbs n).length = m + 1 := ⟨(limbs n).length - 1, by omega⟩
  have hge := limbs_length_ge n (by omega)
  have hlt := valN_lt (wfL_limbs n)
  rw [valN_limbs, hm] at hlt
  rw [hm, Nat.add_sub_cancel] at hge
  have hq : R / (n * 4294967296 ^ k) < 4294967296 := by
    rw [Nat.div_lt_iff_lt_mul hU]
    rw [Nat.pow_succ] at hR
    grind
  have htop : limbTop (limbs R) (limbs n) k = R / 4294967296 ^ (k + m) := by
    unfold limbTop
    rw [hm, atL_limbs, atL_limbs, Int.toNat_natCast, Int.toNat_natCast, show k + (m + 1) - 1 = k + m from by omega, show k + (m + 1) = k + m + 1 from by omega, Nat.pow_succ, ← Nat.div_div_eq_div_mul]
    have hb : R / 4294967296 ^ (k + m) / 4294967296 < 4294967296 := by
      rw [Nat.div_lt_iff_lt_mul (by omega), Nat.div_lt_iff_lt_mul (Nat.pow_pos (by omega))]
      have h1 : n * 4294967296 ^ (k + 1) ≤ 4294967296 ^ (m + 1) * 4294967296 ^ (k + 1) := Nat.mul_le_mul_right _ (by omega)
      have h2 : 4294967296 ^ (m + 1) * 4294967296 ^ (k + 1) = 4294967296 * 4294967296 * 4294967296 ^ (k + m) := by
        rw [← Nat.pow_add, show m + 1 + (k + 1) = k + m + 1 + 1 from by omega, Nat.pow_succ, Nat.pow_succ]; grind
      omega
    rw [Nat.mod_eq_of_lt hb]
    omega
  have hd : (atL (limbs n) ((limbs n).length - 1)).toNat = n / 4294967296 ^ m := by
    rw [hm, Nat.add_sub_cancel, atL_limbs, Int.toNat_natCast, Nat.mod_eq_of_lt]
    rw [Nat.div_lt_iff_lt_mul (Nat.pow_pos (by omega))]
    rw [Nat.pow_succ] at hlt
    grind
  unfold limbGuess
  rw [htop, hd]
  refine Nat.le_min.2 ⟨?_, by omega⟩
  have hpm : 0 < 4294967296 ^ m := Nat.pow_pos (by omega)
  have hdp : 0 < n / 4294967296 ^ m := Nat.div_pos hge hpm
  rw [Nat.div_div_eq_div_mul]
  refine Nat.div_le_div_left ?_ (Nat.mul_pos (Nat.pow_pos (by omega)) hdp)
  rw [Nat.pow_add, Nat.mul_assoc, Nat.mul_comm n]
  exact Nat.mul_le_mul_left _ (Nat.mul_div_le n (4294967296 ^ m))
structure DivInv (M N K t : Nat) (q : List Int) (R : Nat) : Prop where
  len : q.length = K
  wf : wfL q
  lt : R < N * 4294967296 ^ (K - t)
  val : M = R + N * valN q
  rest : ∀ p, p < K - t → atL q p = 0
theorem DivInv.step {M N K t : Nat} {q : List Int} {R : Nat} (hN : 0 < N) (ht : t < K) (h : DivInv M N K t q R) :
    DivInv M N K (t + 1) (q.set (K - 1 - t) ((R / (N * 4294967296 ^ (K - 1 - t)) : Nat) : Int)) (R - N * 4294967296 ^ (K - 1 - t) * (R / (N * 4294967296 ^ (K - 1 - t)))) := by
  have hU : 0 < N * 4294967296 ^ (K - 1 - t) := Nat.mul_pos hN (Nat.pow_pos (by omega))
  have hlt := h.lt
  rw [show K - t = K - 1 - t + 1 from by omega, Nat.pow_succ] at hlt
  have hq : R / (N * 4294967296 ^ (K - 1 - t)) < 4294967296 := by
    rw [Nat.div_lt_iff_lt_mul hU]
    grind
  have hl := h.len
  have hmod : R - N * 4294967296 ^ (K - 1 - t) * (R / (N * 4294967296 ^ (K - 1 - t))) = R % (N * 4294967296 ^ (K - 1 - t)) := by
    have := Nat.div_add_mod R (N * 4294967296 ^ (K - 1 - t))
    omega
  have hr := Nat.mod_lt R hU
  have hdm := Nat.div_add_mod R (N * 4294967296 ^ (K - 1 - t))
  have hset := valN_set q (K - 1 - t) ((R / (N * 4294967296 ^ (K - 1 - t)) : Nat) : Int) (by omega)
  rw [h.rest _ (by omega), Int.toNat_natCast] at hset
  have hv := h.val
  rw [hmod]
  generalize R / (N * 4294967296 ^ (K - 1 - t)) = Q at *
  generalize R % (N * 4294967296 ^ (K - 1 - t)) = S at *
  refine ⟨by rw [List.length_set]; exact hl, wfL_set h.wf _ ⟨by omega, by omega⟩, by rw [show K - (t + 1) = K - 1 - t from by omega]; exact hr, ?_, fun p hp => by rw [atL_set, if_neg (by omega)]; exact h.rest p (by omega)⟩
  have z : (0 : Int).toNat = 0 := rfl
  rw [z, Nat.mul_zero, Nat.add_zero] at hset
  rw [hset, hv, ← hdm]
  grind

theorem nat_limb_is (R N k : Nat) (hN : 0 < N) (hR : R < N * 4294967296 ^ (k + 1)) (l0 : (limbs R).length ≤ 1099511627776) (l1 : (limbs N).length ≤ 1099511627776) (hk : k ≤ 1099511627776) (htop : 2147483648 ≤ atL (limbs N) ((limbs N).length - 1)) :
    nat_limb.f (limbs R) (limbs N) (k : Int) = some (((R / (N * 4294967296 ^ k) : Nat) : Int), limbs (R - N * 4294967296 ^ k * (R / (N * 4294967296 ^ k)))) := by
  have hlen : 0 < (limbs N).length := by rw [limbs_pos (by omega)]; simp
  rw [nat_limb.f, if_pos ⟨wfL_limbs _, wfL_limbs _, l0, l1, by omega, by omega, hlen, htop⟩, Int.toNat_natCast, limbQ_exact hN hR, limbUp_val, valN_limbs, valN_limbs, Nat.mul_comm (4294967296 ^ k) N]

theorem Div_l1_ev (lift M N K : Nat) (hN : 0 < N) (hlift : lift < 32) (hM : (limbs M).length ≤ 549755813888) (hl1 : (limbs N).length ≤ 549755813888) (hK : K ≤ 1099511627776) (htop : 2147483648 ≤ atL (limbs N) ((limbs N).length - 1)) (d : Nat) :
    ∀ (t : Nat) (q : List Int) (R : Nat), t ≤ K → K ≤ t + d → DivInv M N K t q R →
      Ev (fun k => nat_Div.l1 k (lift : Int) (limbs R) (limbs N) q (K : Int) (t : Int)) (limbs (M / N), limbs (M % N / 2 ^ lift), true) := by
  have hRM : ∀ {t : Nat} {q : List Int} {R : Nat}, DivInv M N K t q R → (limbs R).length ≤ 549755813888 := by
    intro t q R h
    rcases Nat.lt_or_ge (limbs M).length (limbs R).length with h1 | h1
    · have := limbs_length_lt h1
      have := h.val
      omega
    · omega
  have fin : ∀ (t : Nat) (q : List Int) (R : Nat), t = K → DivInv M N K t q R →
      Ev (fun k => nat_Div.l1 k (lift : Int) (limbs R) (limbs N) q (K : Int) (t : Int)) (limbs (M / N), limbs (M % N / 2 ^ lift), true) := by
    intro t q R ht h
    subst ht
    have hlt := h.lt
    rw [Nat.sub_self, Nat.pow_zero, Nat.mul_one] at hlt
    have hv := h.val
    have e1 : M / N = valN q := by rw [hv, Nat.add_mul_div_left _ _ hN, Nat.div_eq_of_lt hlt, Nat.zero_add]
    have e2 : M % N = R := by rw [hv, Nat.add_mul_mod_self_left, Nat.mod_eq_of_lt hlt]
    rw [e1, e2]
    have hp : (2 : Nat) ^ lift ≤ 2 ^ 31 := Nat.pow_le_pow_right (by omega) (by omega)
    have hp0 : 0 < (2 : Nat) ^ lift := Nat.pow_pos (by omega)
    have hs : shl .u64 1 (lift : Int) = ((2 ^ lift : Nat) : Int) := by
      have e : ((2 ^ lift : Nat) : Int) = 2 ^ lift := by simp
      unfold shl
      rw [Int.toNat_natCast, Nat.min_eq_left (by show lift ≤ 64; omega), IntKind.wrap_u64, Int.one_mul, ← e]
      generalize (2 : Nat) ^ lift = p at *
      omega
    have Hs := nat_small_is (limbs R) (2 ^ lift) (wfL_limbs R) (by have := hRM h; omega) hp0 (by omega)
    rw [valN_limbs] at Hs
    refine Ev.step (f := fun k => (nat_small.f k (limbs R) ((2 ^ lift : Nat) : Int)).bind fun bt => (nat_Norm.f k q).bind fun u => some (u, bt.1, true)) (fun k => ?_)
      (Ev.bind (f := fun k bt => (nat_Norm.f k q).bind fun u => some (u, bt.1, true)) Hs (Ev.map_ (fun u => (u, limbs (R / 2 ^ lift), true)) (nat_Norm_is q h.wf (by have := h.len; omega))))
    simp only [nat_Div.l1]
    rw [if_neg (by omega), if_pos (by omega), hs]
  induction d with
  | zero => intro t q R h1 h2 h; exact fin t q R (by omega) h
  | succ d ih =>
    intro t q R h1 h2 h
    by_cases ht : t < K
    · have hl := h.len
      have hlt := h.lt
      rw [show K - t = K - 1 - t + 1 from by omega] at hlt
      have hlimb := nat_limb_is R N (K - 1 - t) hN hlt (by have := hRM h; omega) (by omega) (by omega) htop
      refine Ev.step (fun k => ?_) (ih (t + 1) _ _ (by omega) (by omega) (h.step hN ht))
      simp only [nat_Div.l1]
      have e0 : wrap64 ((q.length : Int) - 1) = (q.length : Int) - 1 := wrap64_id (by omega) (by omega)
      have e : wrap64 ((q.length : Int) - 1 - (t : Int)) = ((K - 1 - t : Nat) : Int) := by rw [wrap64_id (by omega) (by omega)]; omega
      rw [if_pos (by omega), e0, e, hlimb]
      simp only [Option.bind_some]
      rw [if_pos (by omega), if_pos (by omega), wrap64_id (by omega) (by omega), Int.toNat_natCast]
      rfl
    · exact fin t q R (by omega) h

theorem DivInv.start {M N : Nat} (hN : 0 < N) (hMN : N ≤ M) : DivInv M N ((limbs M).length - (limbs N).length + 1) 0 (List.replicate ((limbs M).length - (limbs N).length + 1) 0) M := by
  have hge := limbs_length_ge N (by omega)
  have hlt := valN_lt (wfL_limbs M)
  rw [valN_limbs] at hlt
  have hlN : 0 < (limbs N).length := by rw [limbs_pos (by omega)]; simp
  have hmono := limbs_length_mono hMN
  refine ⟨by simp, wfL_replicate _, ?_, by simp [valN_replicate], fun p hp => ?_⟩
  · have h1 : 4294967296 ^ ((limbs N).length - 1) * 4294967296 ^ ((limbs M).length - (limbs N).length + 1 - 0) ≤ N * 4294967296 ^ ((limbs M).length - (limbs N).length + 1 - 0) := Nat.mul_le_mul_right _ hge
    rw [← Nat.pow_add, show (limbs N).length - 1 + ((limbs M).length - (limbs N).length + 1 - 0) = (limbs M).length from by omega] at h1
    omega
  · unfold atL
    rw [List.getD_eq_getElem?_getD, List.getElem?_replicate]
    split <;> rfl

theorem room_for {x lift : Nat} (h : x * 2 ^ lift < 4294967296) (hl : lift < 32) : (x + 1) * 2 ^ lift ≤ 4294967296 := by
  have h2 : (4294967296 : Nat) = 2 ^ lift * 2 ^ (32 - lift) := by rw [← Nat.pow_add, show lift + (32 - lift) = 32 from by omega]
  rw [h2, Nat.mul_comm _ (2 ^ lift)]
  refine Nat.mul_le_mul_left _ ?_
  rcases Nat.lt_or_ge x (2 ^ (32 - lift)) with h3 | h3
  · omega
  · have h4 := Nat.mul_le_mul_right (2 ^ lift) h3
    rw [Nat.mul_comm (2 ^ (32 - lift)), ← h2] at h4
    omega
/-- A number's highest limb, and its length, behind a shift that leaves it room. -/
theorem shifted_top {n lift : Nat} (hn : 0 < n) (hlo : 2147483648 ≤ (atL (limbs n) ((limbs n).length - 1)).toNat * 2 ^ lift) (hhi : (atL (limbs n) ((limbs n).length - 1)).toNat * 2 ^ lift < 4294967296) (hlift : lift < 32) :
    (limbs (n * 2 ^ lift)).length = (limbs n).length ∧ 2147483648 ≤ atL (limbs (n * 2 ^ lift)) ((limbs n).length - 1) := by
  obtain ⟨m, hm⟩ : ∃ m, (limbs n).length = m + 1 := ⟨(limbs n).length - 1, by have : 0 < (limbs n).length := by rw [limbs_pos (by omega)]; simp
                                                                              omega⟩
  have hge := limbs_length_ge n (by omega)
  have hlt := valN_lt (wfL_limbs n)
  rw [valN_limbs, hm] at hlt
  rw [hm, Nat.add_sub_cancel] at hge hlo hhi ⊢
  have hpm : 0 < 4294967296 ^ m := Nat.pow_pos (by omega)
  have hv : (atL (limbs n) m).toNat = n / 4294967296 ^ m := by
    rw [atL_limbs, Int.toNat_natCast, Nat.mod_eq_of_lt]
    rw [Nat.div_lt_iff_lt_mul hpm]
    rw [Nat.pow_succ] at hlt
    grind
  rw [hv] at hlo hhi
  have hd := Nat.div_add_mod n (4294967296 ^ m)
  have hr := Nat.mod_lt n hpm
  have hq := room_for hhi hlift
  have hub : n * 2 ^ lift < 4294967296 ^ m * 4294967296 := by
    have h3 : n < 4294967296 ^ m * (n / 4294967296 ^ m + 1) := by rw [Nat.mul_succ]; omega
    have h4 : n * 2 ^ lift < 4294967296 ^ m * (n / 4294967296 ^ m + 1) * 2 ^ lift := Nat.mul_lt_mul_of_pos_right h3 (Nat.pow_pos (by omega))
    have h5 : 4294967296 ^ m * ((n / 4294967296 ^ m + 1) * 2 ^ lift) ≤ 4294967296 ^ m * 4294967296 := Nat.mul_le_mul_left _ hq
    rw [Nat.mul_assoc] at h4
    omega
  have hlb : 4294967296 ^ m * 2147483648 ≤ n * 2 ^ lift := by
    have h3 : 4294967296 ^ m * (n / 4294967296 ^ m * 2 ^ lift) ≤ n * 2 ^ lift := by
      rw [← Nat.mul_assoc]
      exact Nat.mul_le_mul_right _ (Nat.mul_div_le n _)
    have h4 : 4294967296 ^ m * 2147483648 ≤ 4294967296 ^ m * (n / 4294967296 ^ m * 2 ^ lift) := Nat.mul_le_mul_left _ hlo
    omega
  refine ⟨limbs_length_eq ?_ (by rw [Nat.pow_succ]; exact hub), ?_⟩
  · have := Nat.mul_le_mul_left (4294967296 ^ m) (show 1 ≤ 2147483648 by omega)
    omega
  · rw [atL_limbs]
    have h5 : n * 2 ^ lift / 4294967296 ^ m < 4294967296 := by rw [Nat.div_lt_iff_lt_mul hpm, Nat.mul_comm 4294967296]; exact hub
    have h6 : 2147483648 ≤ n * 2 ^ lift / 4294967296 ^ m := by rw [Nat.le_div_iff_mul_le hpm, Nat.mul_comm 2147483648]; exact hlb
    rw [Nat.mod_eq_of_lt h5]
    omega

theorem Div_l0_ev (m n : Nat) (hn : 0 < n) (hmn : n ≤ m) (lm : (limbs m).length ≤ 274877906944) (d : Nat) :
    ∀ lift : Nat, 32 ≤ lift + d → (atL (limbs n) ((limbs n).length - 1)).toNat * 2 ^ lift < 4294967296 →
      Ev (fun k => nat_Div.l0 k (limbs m) (limbs n) (lift : Int)) (limbs (m / n), limbs (m % n), true) := by
  have hlN : 0 < (limbs n).length := by rw [limbs_pos (by omega)]; simp
  have hmono := limbs_length_mono hmn
  have hv := atL_range (wfL_limbs n) ((limbs n).length - 1)
  have hv1 : 1 ≤ (atL (limbs n) ((limbs n).length - 1)).toNat := by
    have h1 := valN_last (limbs n) hlN
    have h2 := valN_lt (wfL_take (wfL_limbs n) ((limbs n).length - 1))
    have h3 := limbs_length_ge n (by omega)
    rw [List.length_take, Nat.min_eq_left (by omega)] at h2
    rw [valN_limbs] at h1
    rcases Nat.eq_zero_or_pos (atL (limbs n) ((limbs n).length - 1)).toNat with h | h
    · rw [h, Nat.mul_zero] at h1; omega
    · omega
  induction d with
  | zero =>
    intro lift h1 h2
    have := Nat.pow_le_pow_right (show 0 < 2 by omega) (show 32 ≤ lift by omega)
    have := Nat.mul_le_mul hv1 this
    omega
  | succ d ih =>
    intro lift h1 h2
    have hlift : lift < 32 := by
      rcases Nat.lt_or_ge lift 32 with h | h
      · exact h
      · have := Nat.pow_le_pow_right (show 0 < 2 by omega) h
        have := Nat.mul_le_mul hv1 this
        omega
    have hs : shl .u32 (atL (limbs n) ((limbs n).length - 1)) (lift : Int) = (((atL (limbs n) ((limbs n).length - 1)).toNat * 2 ^ lift : Nat) : Int) := by
      have e : (((atL (limbs n) ((limbs n).length - 1)).toNat * 2 ^ lift : Nat) : Int) = atL (limbs n) ((limbs n).length - 1) * 2 ^ lift := by
        rw [Int.natCast_mul, Int.toNat_of_nonneg hv.1]; simp
      unfold shl
      rw [Int.toNat_natCast, Nat.min_eq_left (by show lift ≤ 32; omega), IntKind.wrap_u32, ← e]
      generalize (atL (limbs n) ((limbs n).length - 1)).toNat * 2 ^ lift = p at *
      omega
    have ew : wrap64 (((limbs n).length : Int) - 1) = (((limbs n).length - 1 : Nat) : Int) := by rw [wrap64_id (by omega) (by omega)]; omega
    by_cases hlo : (atL (limbs n) ((limbs n).length - 1)).toNat * 2 ^ lift < 2147483648
    · refine Ev.step (fun k => ?_) (ih (lift + 1) (by omega) (by rw [Nat.pow_succ, ← Nat.mul_assoc]; omega))
      simp only [nat_Div.l0]
      rw [ew, rd_nat, hs, if_pos (by omega), if_pos (by omega), if_pos (by omega), if_pos (by omega), wrap64_id (by omega) (by omega)]
      rfl
    · obtain ⟨hlen, htop⟩ := shifted_top hn (by omega) h2 hlift
      have hp0 : 0 < (2 : Nat) ^ lift := Nat.pow_pos (by omega)
      have hMN : n * 2 ^ lift ≤ m * 2 ^ lift := Nat.mul_le_mul_right _ hmn
      have hlM : (limbs (m * 2 ^ lift)).length ≤ (limbs m).length + 1 := by
        refine limbs_length_le ?_
        have h3 := valN_lt (wfL_limbs m)
        rw [valN_limbs] at h3
        rw [Nat.pow_succ]
        have h4 : (2 : Nat) ^ lift ≤ 2 ^ 31 := Nat.pow_le_pow_right (by omega) (by omega)
        exact Nat.mul_lt_mul'' h3 (by omega)
      have hN : 0 < n * 2 ^ lift := Nat.mul_pos hn hp0
      have S1 := nat_shift_is (limbs m) lift (wfL_limbs m) (by omega) hlift
      have S2 := nat_shift_is (limbs n) lift (wfL_limbs n) (by omega) hlift
      rw [valN_limbs] at S1 S2
      have hmono2 := limbs_length_mono hMN
      have FIN := Div_l1_ev lift (m * 2 ^ lift) (n * 2 ^ lift) ((limbs (m * 2 ^ lift)).length - (limbs (n * 2 ^ lift)).length + 1) hN hlift (by omega) (by omega) (by omega) (by rw [hlen]; exact htop) _ 0 _ _ (by omega) (Nat.le_add_left _ _) (DivInv.start hN hMN)
      rw [Nat.mul_div_mul_right _ _ hp0, Nat.mul_mod_mul_right, Nat.mul_div_cancel _ hp0] at FIN
      apply Ev.step
      · intro k
        simp only [nat_Div.l0]
        rw [ew, rd_nat, hs, if_pos (by omega), if_pos (by omega), if_pos (by omega), if_neg (by omega)]
      · refine Ev.bind S1 (Ev.bind S2 (Ev.congr (fun k => ?_) FIN))
        rw [wrap64_id (x := ((limbs (m * 2 ^ lift)).length : Int) - (limbs (n * 2 ^ lift)).length) (by omega) (by omega), wrap64_id (by omega) (by omega), if_pos (by omega), if_pos (by omega),
          show (((limbs (m * 2 ^ lift)).length : Int) - (limbs (n * 2 ^ lift)).length + 1).toNat = (limbs (m * 2 ^ lift)).length - (limbs (n * 2 ^ lift)).length + 1 from by omega, Option.bind_some, List.length_replicate]
        rfl

theorem nat_Div_is (a b : List Int) (ha : wfL a) (hb : wfL b) (la : a.length ≤ 274877906944) (lb : b.length ≤ 274877906944) :
    Ev (fun k => nat_Div.f k a b) (if valN b = 0 then ([], [], false) else (limbs (valN a / valN b), limbs (valN a % valN b), true)) := by
  have Ha := nat_Norm_is a ha (by omega)
  have Hb := nat_Norm_is b hb (by omega)
  have hla : (limbs (valN a)).length ≤ a.length := by rw [← normL_limbs ha]; exact normL_length_le a
  have hlb : (limbs (valN b)).length ≤ b.length := by rw [← normL_limbs hb]; exact normL_length_le b
  generalize valN a = m at *
  generalize valN b = n at *
  unfold nat_Div.f
  refine Ev.bind Ha (Ev.bind Hb ?_)
  by_cases h0 : n = 0
  · subst h0
    rw [if_pos rfl, limbs_zero]
    exact Ev.congr (fun k => by simp) (Ev.now _)
  · have hln : 0 < (limbs n).length := by rw [limbs_pos h0]; simp
    rw [if_neg h0]
    by_cases h1 : (limbs n).length = 1
    · have hn1 : n < 4294967296 := by
        have := valN_lt (wfL_limbs n)
        rw [valN_limbs, h1] at this
        simpa using this
      have hl : limbs n = [(n : Int)] := by rw [limbs_small hn1, if_neg h0]
      have H := nat_small_is (limbs m) n (wfL_limbs m) (by omega) (by omega) (by omega)
      rw [valN_limbs] at H
      refine Ev.congr (fun k => ?_) (Ev.map_ (fun bt => (bt.1, bt.2, true)) H)
      rw [if_neg (by omega), if_pos (by omega), if_pos (by omega), hl, show rd [(n : Int)] 0 = (n : Int) from rfl, wrap_u64_id (by omega) (by omega)]
    · have C := nat_Cmp_is (limbs m) (limbs n) (wfL_limbs m) (wfL_limbs n) (by omega) (by omega)
      rw [valN_limbs, valN_limbs] at C
      apply Ev.congr
      · intro k
        rw [if_neg (by omega), if_neg (by omega)]
      · refine Ev.bind C ?_
        by_cases hlt : m < n
        · rw [Nat.div_eq_of_lt hlt, Nat.mod_eq_of_lt hlt, limbs_zero]
          refine Ev.congr (fun k => ?_) (Ev.now _)
          rw [if_pos (by unfold cmpN; rw [if_pos hlt]; decide)]
        · have hge : ¬ cmpN m n < 0 := by
            unfold cmpN
            rw [if_neg hlt]
            by_cases h2 : n < m
            · rw [if_pos h2]; decide
            · rw [if_neg h2]; decide
          have hv := atL_range (wfL_limbs n) ((limbs n).length - 1)
          refine Ev.congr (fun k => ?_) (Div_l0_ev m n (by omega) (by omega) (by omega) 32 0 (by omega) (by rw [Nat.pow_zero]; omega))
          rw [if_neg hge]
          rfl

theorem Gcd_l0_ev (n : Nat) : ∀ m : Nat, (limbs m).length ≤ 274877906944 → (limbs n).length ≤ 274877906944 → Ev (fun k => nat_Gcd.l0 k (limbs m) (limbs n)) (limbs (Nat.gcd n m)) := by
  induction n using Nat.strongRecOn with
  | _ n ih =>
    intro m lm ln
    by_cases h0 : n = 0
    · subst h0
      rw [Nat.gcd_zero_left]
      refine Ev.some_ fun k => ?_
      simp only [nat_Gcd.l0]
      rw [if_neg (by rw [limbs_zero]; simp)]
    · have hl : 0 < (limbs n).length := by rw [limbs_pos h0]; simp
      have D := nat_Div_is (limbs m) (limbs n) (wfL_limbs m) (wfL_limbs n) lm ln
      rw [valN_limbs, valN_limbs, if_neg h0] at D
      have hr : m % n < n := Nat.mod_lt _ (by omega)
      have hr2 := limbs_length_mono (Nat.le_of_lt hr)
      have I := ih (m % n) hr n ln (by omega)
      rw [← Nat.gcd_rec] at I
      apply Ev.step
      · intro k
        simp only [nat_Gcd.l0]
        rw [if_pos (by omega)]
      · exact Ev.bind D I
theorem nat_Gcd_is (a b : List Int) (ha : wfL a) (hb : wfL b) (la : a.length ≤ 274877906944) (lb : b.length ≤ 274877906944) : Ev (fun k => nat_Gcd.f k a b) (limbs (Nat.gcd (valN a) (valN b))) := by
  have Ha := nat_Norm_is a ha (by omega)
  have Hb := nat_Norm_is b hb (by omega)
  have hla : (limbs (valN a)).length ≤ a.length := by rw [← normL_limbs ha]; exact normL_length_le a
  have hlb : (limbs (valN b)).length ≤ b.length := by rw [← normL_limbs hb]; exact normL_length_le b
  rw [Nat.gcd_comm]
  unfold nat_Gcd.f
  exact Ev.bind Ha (Ev.bind Hb (Gcd_l0_ev _ _ (by omega) (by omega)))
end Go.Proofs.YtfnhohpmhpbpmaaDoor.G
