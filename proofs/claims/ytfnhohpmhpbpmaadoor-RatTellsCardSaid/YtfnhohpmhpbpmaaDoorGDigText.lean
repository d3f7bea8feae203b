/- tribunal/digits.Text hands back a number's decimals. Condition: limbs of 32 bits, at most 1000 of them. -/
import Derived.Test.YtfnhohpmhpbpmaaDoorGx0
import Derived.Test.YtfnhohpmhpbpmaaDoorGx7
import Derived.Test.YtfnhohpmhpbpmaaDoorGx8
import Derived.Test.YtfnhohpmhpbpmaaDoorGDigTrim
import Derived.Test.YtfnhohpmhpbpmaaDoorGDigMath
import Derived.Test.YtfnhohpmhpbpmaaDoorGNatDiv
import Derived.Test.YtfnhohpmhpbpmaaDoorGNatSh
import Derived.WalkSpells
import Derived.Deep.LoopGhost
import Derived.Lib.Hide
namespace Go.Proofs.YtfnhohpmhpbpmaaDoor.G
open Go.RowKit Go.Proofs.YtfnhohpmhpbpmaaDoorW.PrintWords Go.Proofs.YtfnhohpmhpbpmaaDoorW.PrintLast Go.Proofs.YtfnhohpmhpbpmaaDoorW.PrintMore

theorem encode_dig (c : Int) (h0 : 0 ≤ c) (h1 : c < 128) : Utf8.encode c = ofN [c.toNat] := by
  have hv : Utf8.valid c = true := by simp [Utf8.valid]; omega
  unfold Utf8.encode
  simp only [hv, if_true]
  rw [if_pos (by omega)]
  rfl
theorem ofN_append (a b : List Nat) : ofN a ++ ofN b = ofN (a ++ b) := by
  apply congrArg ByteArray.mk
  simp [ofN, List.map_append]
theorem ofN_size (a : List Nat) : (ofN a).size = a.length := by simp [ofN, ByteArray.size]
theorem out_bound {N j m : Nat} (hm : m ≤ 1000) (hN : N < 4294967296 ^ m) (h : 0 < N / 10 ^ (9 * j)) : j ≤ 32000 := by
  have h1 : 10 ^ (9 * j) ≤ N := by
    rcases Nat.lt_or_ge N (10 ^ (9 * j)) with h2 | h2
    · rw [Nat.div_eq_of_lt h2] at h; omega
    · exact h2
  have h2 : 2 ^ j ≤ 10 ^ (9 * j) := by
    rw [Nat.pow_mul]
    exact Nat.pow_le_pow_left (by decide) j
  have h3 : 4294967296 ^ m = 2 ^ (32 * m) := by rw [show 4294967296 = 2 ^ 32 from rfl, ← Nat.pow_mul]
  have h4 : 2 ^ j < 2 ^ (32 * m) := by omega
  have := (Nat.pow_lt_pow_iff_right (by decide)).1 h4
  omega
def digits_Text.f (l0 : List Int) : Option ByteArray := if wfL l0 ∧ l0.length ≤ 1000 then some (textS (valN l0)) else none
set_option maxHeartbeats 4000000 in
set_option maxRecDepth 100000 in
theorem digits_Text.calls (A0 : Option Addr) (c0 : Nat) (l0 : List Int) (r : ByteArray) (w : World) (hr0 : Kd.C (Kd.int .u32) w A0 l0.length l0) (hc0 : l0.length ≤ c0) (h : digits_Text.f l0 = some r) :
    Calls Tryd.prog 57 #[.slice A0 l0.length c0] w fun e w' => e = .returned (.string r) ∧ Below w.heap.size w w' := by
  unfold digits_Text.f at h
  by_cases hc : wfL l0 ∧ l0.length ≤ 1000
  case neg => rw [if_neg hc] at h; cases h
  rw [if_pos hc] at h
  obtain rfl := Option.some.inj h
  clear h
  obtain ⟨hw, hl⟩ := hc
  have HR0 := Aside0.mk (Rd.mk hw hc0 hr0)
  obtain ⟨N, hN⟩ : ∃ N, N = valN l0 := ⟨_, rfl⟩
  have hNlt : Aside0 (l0.length ≤ 1000 ∧ N < 4294967296 ^ l0.length) := ⟨hl, by
    rw [hN]
    exact valN_lt hw⟩
  have hsh : Aside0 (∀ j, (limbs (N / 10 ^ (9 * j))).length ≤ 1000) := ⟨fun j => Nat.le_trans (sh_mono (Nat.div_le_self _ _)) (by rw [hN]; exact Nat.le_trans (sh_val hw) hl)⟩
  obtain ⟨kn, En⟩ : ∃ k, nat_Norm.f k l0 = some (limbs N) := by rw [hN]; exact (nat_Norm_is l0 hw (by omega)).rounds
  have EN := Aside0.mk En
  rw [← hN]
  clear hr0 hc0 hN hw hl En
  have HB0 := Aside0.mk (Below.refl w.heap.size w)
  obtain ⟨L0, hL0⟩ : ∃ L, L = limbs (N / 10 ^ (9 * 0)) := ⟨_, rfl⟩
  have WL0 : Aside0 (wfL L0) := ⟨by rw [hL0]; exact wfL_limbs _⟩
  have EN0 : Aside0 (nat_Norm.f kn l0 = some L0) := ⟨by rw [hL0, Nat.mul_zero, Nat.pow_zero, Nat.div_one]; exact EN.out⟩
  clear EN
  have HL0 := Aside0.mk hL0
  clear hL0
  go_enter Tryd.func57, Tryd.ntmps57
  go_wp2_with fail
  refine (nat_Norm.calls kn A0 c0 l0 L0 _ HR0.out.cells HR0.out.le EN0.out).mono ?_
  rintro e w1 ⟨v0, rfl, o0, hb⟩
  have HB1 := Aside0.mk (below_step HB0.out hb)
  obtain ⟨A1, c1, e1, h1⟩ := Rd.of_R WL0.out o0
  clear o0 hb
  subst e1
  have R1 := Aside0.mk h1
  clear h1
  go_wp2_with fail
  go_loopg [0, 3] 32001 (fun kq s0 s3 wr => ∃ (j : Nat) (A : Option Addr) (c : Nat) (L : List Int) (out : ByteArray), s0 = .slice A L.length c ∧ s3 = .string out ∧ Aside0 (L = limbs (N / 10 ^ (9 * j)) ∧ out = ofN (digs (9 * j) N) ∧ (kq + j = 32001)) ∧ Aside0 (Rd wr A c L) ∧ Aside0 (Below w.heap.size w wr))
  case atStart => exact ⟨0, A1, c1, L0, ⟨#[]⟩, rfl, rfl, ⟨HL0.out, rfl, rfl⟩, R1, HB1⟩
  case round =>
    obtain ⟨j, A, c, L, out, rfl, rfl, ⟨HL, hout, hk⟩, RL, HB⟩ := hrel
    obtain ⟨X, hX⟩ : ∃ X, X = N / 10 ^ (9 * j) := ⟨_, rfl⟩
    rw [← hX] at HL
    have hLX : L.length ≤ 1000 := by rw [HL, hX]; exact hsh.out j
    by_cases hp : 0 < L.length
    · have hX0 : X ≠ 0 := by
        intro h
        rw [HL, h, limbs_zero] at hp
        simp at hp
      have hj := out_bound hNlt.out.1 hNlt.out.2 (show 0 < N / 10 ^ (9 * j) by rw [← hX]; omega)
      obtain ⟨kp, rfl⟩ : ∃ kp, gk = kp + 1 := ⟨gk - 1, by omega⟩
      obtain ⟨M, hM⟩ : ∃ M, M = X % 1000000000 := ⟨_, rfl⟩
      have hM9 : M < 1000000000 := by rw [hM]; exact Nat.mod_lt _ (by decide)
      obtain ⟨Q, hQ⟩ : ∃ Q, Q = limbs (X / 1000000000) := ⟨_, rfl⟩
      obtain ⟨R, hR⟩ : ∃ R, R = limbs M := ⟨_, rfl⟩
      have WQ : Aside0 (wfL Q) := ⟨by rw [hQ]; exact wfL_limbs _⟩
      have WR : Aside0 (wfL R) := ⟨by rw [hR]; exact wfL_limbs _⟩
      obtain ⟨kd, Ed⟩ : ∃ k, nat_Div.f k L [1000000000] = some (Q, R, true) := by
        have h := nat_Div_is L [1000000000] RL.out.wf (by decide) (by omega) (by decide)
        rw [HL, valN_limbs, show valN [1000000000] = 1000000000 from rfl, if_neg (by omega), ← hM, ← hQ, ← hR] at h
        rw [HL]
        exact h.rounds
      have ED := Aside0.mk Ed
      have HRM := Aside0.mk hR
      have FACTS := Aside0.mk (And.intro HL (And.intro hout (And.intro hX (And.intro hM hQ))))
      clear Ed hR HL hout hX hM hQ
      go_wp2_with fail
      refine (nat_Div.calls kd _ _ L _ _ [1000000000] Q R true _ (by exact (RL.out.alloc _).cells) (by exact RL.out.le) (by exact (Rd.lit _ [1000000000] (by decide) (by decide)).cells) (by simp) ED.out).mono ?_
      rintro e w2 ⟨vq, vr, rfl, oq, or, hb⟩
      have HB2 := Aside0.mk (below_step (below_alloc HB.out (.cells #[.int .u32 1000000000] 71)) hb)
      clear hb RL HB ED
      obtain ⟨Aq, cq, eq, hq⟩ := Rd.of_R WQ.out oq
      subst eq
      clear oq
      have RQ := Aside0.mk hq
      obtain ⟨Ar, cr, er, hr⟩ := Rd.of_R WR.out or
      subst er
      clear or hq WQ WR
      by_cases hM0 : M = 0
      · have hR0 : R = [] := by rw [HRM.out, hM0, limbs_zero]
        subst hR0
        clear hr
        have HM0 := Aside0.mk hM0
        clear hM0
        go_wp2_with fail

        go_loopw [7, 8, 27] (fun s7 s8 s27 wi => ∃ (i : Nat) (part : ByteArray), i ≤ 9 ∧ s7 = .int .u32 ((M / 10 ^ i : Nat) : Int) ∧ s8 = .string part ∧ s27 = .int .i64 (i : Int) ∧ Aside0 (part = ofN (digs i M)) ∧ Aside0 (Drawn0 w2 wi)) (fun _ _ s27 _ => 9 - (intOf s27).toNat)
        case atStart => exact ⟨0, ⟨#[]⟩, by omega, by rw [Nat.pow_zero, Nat.div_one, HM0.out]; rfl, rfl, rfl, ⟨rfl⟩, ⟨Drawn0.refl _⟩⟩
        case round =>
          obtain ⟨i, part, hi, rfl, rfl, rfl, HP, HD⟩ := hrel
          obtain ⟨nd, rfl⟩ := HD.out
          obtain ⟨x, hx⟩ : ∃ x, x = M / 10 ^ i := ⟨_, rfl⟩
          have hxM : x < 1000000000 := by rw [hx]; exact Nat.lt_of_le_of_lt (Nat.div_le_self _ _) hM9
          have hps : part.size = i := by rw [HP.out, ofN_size, digs_length]
          rw [← hx]
          have HX := Aside0.mk hx
          clear hx
          by_cases hlt : i < 9
          · have hEv : Utf8.encode (48 + (x : Int) % 10) = ofN [48 + x % 10] := by
              rw [show 48 + (x : Int) % 10 = ((48 + x % 10 : Nat) : Int) from by omega]
              exact encode_dig _ (by omega) (by omega)
            have hES : (Utf8.encode (48 + (x : Int) % 10)).size + part.size ≤ 9223372036854775807 := by rw [hEv, hps, ofN_size]; simp; omega
            have HEV := Aside0.mk hEv
            clear hEv hps
            go_wp2_with fail
            have hm : 9 - (intOf (.int .i64 ((i : Int) + 1))).toNat < 9 - (intOf (.int .i64 (i : Int))).toNat := by simp [intOf]; omega
            refine ⟨⟨i + 1, Utf8.encode (48 + (x : Int) % 10) ++ part, by omega, ?_, rfl, rfl, ⟨?_⟩, ⟨⟨_, rfl⟩⟩⟩, hm⟩
            · rw [show M / 10 ^ (i + 1) = x / 10 from by rw [Nat.pow_succ, ← Nat.div_div_eq_div_mul, ← HX.out]]
              rfl
            · rw [HP.out, HEV.out, ofN_append, digs, ← HX.out]
              rfl
          · have hi9 : i = 9 := by omega
            subst hi9
            have hos : out.size = 9 * j := by rw [FACTS.out.2.1, ofN_size, digs_length]
            go_wp2_with fail
            go_roundg kp
            case measure => omega
            case rel =>
              refine ⟨j + 1, Aq, cq, Q, part ++ out, rfl, rfl, ⟨?_, ?_, by omega⟩, ⟨RQ.out.drewN _⟩, ⟨pw_below_drewN HB2.out _⟩⟩
              · rw [FACTS.out.2.2.2.2, FACTS.out.2.2.1, Nat.div_div_eq_div_mul, show 9 * (j + 1) = 9 * j + 9 from by omega, Nat.pow_add]
              · rw [HP.out, FACTS.out.2.1, ofN_append, show 9 * (j + 1) = 9 + 9 * j from by omega, digs_add (9 * j) 9 N, ← FACTS.out.2.2.1, FACTS.out.2.2.2.1, show (1000000000 : Nat) = 10 ^ 9 from rfl, digs_mod 9 9 X (Nat.le_refl _)]
      · have hR1 : R = [(M : Int)] := by rw [HRM.out, limbs_small (by omega), if_neg hM0]
        subst hR1
        obtain ⟨ad, rfl, hcell⟩ := Kd.at_int hr.cells 0 (by omega) (by simp)
        replace hcell : w2.cell? ad = some (.int .u32 (M : Int)) := by have h := hcell; rw [show ad.add (Int.toNat 0) = ad from by simp [Addr.add]] at h; exact h
        go_wp2_with fail
        go_loopw [7, 8, 27] (fun s7 s8 s27 wi => ∃ (i : Nat) (part : ByteArray), i ≤ 9 ∧ s7 = .int .u32 ((M / 10 ^ i : Nat) : Int) ∧ s8 = .string part ∧ s27 = .int .i64 (i : Int) ∧ Aside0 (part = ofN (digs i M)) ∧ Aside0 (Drawn0 w2 wi)) (fun _ _ s27 _ => 9 - (intOf s27).toNat)
        case atStart => exact ⟨0, ⟨#[]⟩, by omega, by rw [Nat.pow_zero, Nat.div_one], rfl, rfl, ⟨rfl⟩, ⟨Drawn0.refl _⟩⟩
        case round =>
          obtain ⟨i, part, hi, rfl, rfl, rfl, HP, HD⟩ := hrel
          obtain ⟨nd, rfl⟩ := HD.out
          obtain ⟨x, hx⟩ : ∃ x, x = M / 10 ^ i := ⟨_, rfl⟩
          have hxM : x < 1000000000 := by rw [hx]; exact Nat.lt_of_le_of_lt (Nat.div_le_self _ _) hM9
          have hps : part.size = i := by rw [HP.out, ofN_size, digs_length]
          rw [← hx]
          have HX := Aside0.mk hx
          clear hx
          by_cases hlt : i < 9
          · have hEv : Utf8.encode (48 + (x : Int) % 10) = ofN [48 + x % 10] := by
              rw [show 48 + (x : Int) % 10 = ((48 + x % 10 : Nat) : Int) from by omega]
              exact encode_dig _ (by omega) (by omega)
            have hES : (Utf8.encode (48 + (x : Int) % 10)).size + part.size ≤ 9223372036854775807 := by rw [hEv, hps, ofN_size]; simp; omega
            have HEV := Aside0.mk hEv
            clear hEv hps
            go_wp2_with fail
            have hm : 9 - (intOf (.int .i64 ((i : Int) + 1))).toNat < 9 - (intOf (.int .i64 (i : Int))).toNat := by simp [intOf]; omega
            refine ⟨⟨i + 1, Utf8.encode (48 + (x : Int) % 10) ++ part, by omega, ?_, rfl, rfl, ⟨?_⟩, ⟨⟨_, rfl⟩⟩⟩, hm⟩
            · rw [show M / 10 ^ (i + 1) = x / 10 from by rw [Nat.pow_succ, ← Nat.div_div_eq_div_mul, ← HX.out]]
              rfl
            · rw [HP.out, HEV.out, ofN_append, digs, ← HX.out]
              rfl
          · have hi9 : i = 9 := by omega
            subst hi9
            have hos : out.size = 9 * j := by rw [FACTS.out.2.1, ofN_size, digs_length]
            go_wp2_with fail
            go_roundg kp
            case measure => omega
            case rel =>
              refine ⟨j + 1, Aq, cq, Q, part ++ out, rfl, rfl, ⟨?_, ?_, by omega⟩, ⟨RQ.out.drewN _⟩, ⟨pw_below_drewN HB2.out _⟩⟩
              · rw [FACTS.out.2.2.2.2, FACTS.out.2.2.1, Nat.div_div_eq_div_mul, show 9 * (j + 1) = 9 * j + 9 from by omega, Nat.pow_add]
              · rw [HP.out, FACTS.out.2.1, ofN_append, show 9 * (j + 1) = 9 + 9 * j from by omega, digs_add (9 * j) 9 N, ← FACTS.out.2.2.1, FACTS.out.2.2.2.1, show (1000000000 : Nat) = 10 ^ 9 from rfl, digs_mod 9 9 X (Nat.le_refl _)]
    · have hL0 : L = [] := List.eq_nil_of_length_eq_zero (by omega)
      have hX0 : X = 0 := by
        have h := congrArg valN HL
        rw [hL0, valN_limbs] at h
        exact h.symm
      subst hL0
      have hlt : N < 10 ^ (9 * j) := by
        rcases Nat.lt_or_ge N (10 ^ (9 * j)) with h | h
        · exact h
        · have := Nat.div_pos h (Nat.pow_pos (n := 9 * j) (show 0 < 10 by decide))
          omega
      obtain ⟨T, hT, hTb⟩ : ∃ T, strings_TrimLeft.f out ⟨#[48]⟩ = some T ∧ bytesN T = decL N := ⟨trimZ out, by unfold strings_TrimLeft.f; rw [if_pos (by rw [Go.ByteArray.toList_eq])], by
        rw [bytesN_trimZ, hout, bytesN_ofN _ (fun c h => by have := digs_lt _ _ c h; omega)]
        exact dropZ_digs _ _ hlt⟩
      have HT := Aside0.mk hT
      have HTB := Aside0.mk hTb
      clear hT hTb HL hout hX hX0 hlt
      go_wp2_with fail
      refine (strings_TrimLeft.calls out ⟨#[48]⟩ T _ HT.out).mono ?_
      rintro e w2 ⟨rfl, ⟨nd, rfl⟩⟩
      by_cases hN0 : N = 0
      · have hT0 : T = ⟨#[]⟩ := bytesN_inj.1 (by rw [HTB.out, hN0, decL, nd_zero]; rfl)
        subst hT0
        have hr0 : textS N = ⟨#[48]⟩ := by rw [hN0]; rfl
        have HR := Aside0.mk hr0
        clear hr0 hN0
        go_wp2_with fail
        go_ret
        exact ⟨by rw [HR.out]; rfl, pw_below_drewN HB.out _⟩
      · have hTl : ¬ T.toList = [] := fun h => by
          have h2 := HTB.out
          rw [bytesN, ← Go.ByteArray.toList_eq, h, decL, nd_pos hN0] at h2
          cases h2
        have hTe : T.toList.isEmpty = false := by rw [List.isEmpty_eq_false_iff]; exact hTl
        have hr0 : textS N = T := bytesN_inj.1 (by rw [bytesN_textS, HTB.out, textL, if_neg hN0])
        have HR := Aside0.mk hr0
        clear hr0 hN0
        go_wp2_with fail
        all_goals (go_ret; exact ⟨by rw [HR.out]; rfl, pw_below_drewN HB.out _⟩)
end Go.Proofs.YtfnhohpmhpbpmaaDoor.G
