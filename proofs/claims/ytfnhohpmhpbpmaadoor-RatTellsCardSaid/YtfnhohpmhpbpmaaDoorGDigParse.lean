/- tribunal/digits.Parse hands back the number of decimals, or tells what is wrong. Condition: a text of at most 2^62 bytes. -/
import Derived.Test.YtfnhohpmhpbpmaaDoorGx0
import Derived.Test.YtfnhohpmhpbpmaaDoorGDigRight
import Derived.Test.YtfnhohpmhpbpmaaDoorGx7
import Derived.Test.YtfnhohpmhpbpmaaDoorGNatAdd
import Derived.Test.YtfnhohpmhpbpmaaDoorGDigMath
import Derived.Test.YtfnhohpmhpbpmaaDoorGNatMul
import Derived.Test.YtfnhohpmhpbpmaaDoorGNatSh
import Derived.WalkKit
import Derived.WalkSpells
import Derived.Deep.LoopGhost
import Derived.Lib.OthersKept
import Derived.Lib.IndexBytes
import Derived.Lib.PathFns
import Derived.WalkSmall
import Derived.Lib.Hide
namespace Go.Proofs.YtfnhohpmhpbpmaaDoor.G
open Go.RowKit Go.Proofs.YtfnhohpmhpbpmaaDoorW.PrintWords Go.Proofs.YtfnhohpmhpbpmaaDoorW.PrintLast Go.Proofs.YtfnhohpmhpbpmaaDoorW.PrintMore

theorem decF_app (v : Nat) (l m : List Nat) : decF v (l ++ m) = decF (decF v l) m := List.foldl_append ..
theorem decF_at (l : List Nat) : ∀ v, decF v l = v * 10 ^ l.length + decF 0 l := by
  induction l with
  | nil => intro v; simp [decF]
  | cons c l ih =>
    intro v
    show decF (10 * v + (c - 48)) l = v * 10 ^ (l.length + 1) + decF (10 * 0 + (c - 48)) l
    rw [Nat.mul_zero, Nat.zero_add, ih, ih (c - 48), Nat.pow_succ, Nat.add_mul]
    have : 10 * v * 10 ^ l.length = v * (10 ^ l.length * 10) := by rw [Nat.mul_comm 10 v, Nat.mul_assoc, Nat.mul_comm 10]
    omega
theorem decF_lt (l : List Nat) (h : l.all isDig = true) : decF 0 l < 10 ^ l.length := by
  induction l with
  | nil => simp [decF]
  | cons c l ih =>
    show decF (10 * 0 + (c - 48)) l < 10 ^ (l.length + 1)
    rw [List.all_cons, Bool.and_eq_true] at h
    have hc : c ≤ 57 := by have := h.1; simp [isDig] at this; omega
    have := ih h.2
    rw [decF_at, Nat.pow_succ]
    have h2 : (10 * 0 + (c - 48)) * 10 ^ l.length ≤ 9 * 10 ^ l.length := Nat.mul_le_mul_right _ (by omega)
    omega
theorem ten_sh (v p : Nat) (h : v < 10 ^ p) : (limbs v).length ≤ p := limbs_length_le (Nat.lt_of_lt_of_le h (Nat.pow_le_pow_left (by decide) p))
theorem all_take {l : List Nat} (h : l.all isDig = true) (p : Nat) : (l.take p).all isDig = true := by
  rw [List.all_eq_true] at h ⊢
  exact fun x hx => h x (List.mem_of_mem_take hx)
theorem all_drop' {l : List Nat} (h : l.all isDig = true) (p : Nat) : (l.drop p).all isDig = true := by
  rw [List.all_eq_true] at h ⊢
  exact fun x hx => h x (List.mem_of_mem_drop hx)
theorem decF_step (l : List Nat) (q : Nat) (h : q < l.length) : decF 0 (l.take (q + 1)) = 10 * decF 0 (l.take q) + (l.getD q 0 - 48) := by
  rw [List.take_add_one, decF_app, List.getD_eq_getElem?_getD, List.getElem?_eq_getElem h]
  rfl
theorem bytesN_take (s : ByteArray) (k : Nat) : bytesN (s.extract 0 k) = (bytesN s).take k := by
  unfold bytesN
  rw [Go.Lib.Pa.extract_upto_list, List.map_take]
theorem bytesN_drop (s : ByteArray) (k : Nat) : bytesN (s.extract k s.size) = (bytesN s).drop k := by
  unfold bytesN
  rw [Go.Lib.extract_to_end, List.map_drop]
def parseR (s : ByteArray) : List Int × Int := if rightS s = true then (if s.size > 1900 then ([], 2) else (limbs (decN s), 0)) else ([], 12)
def digits_Parse.f (a0 : ByteArray) : Option (List Int × Int) := if a0.size ≤ 4611686018427387904 then some (parseR a0) else none
set_option maxHeartbeats 4000000 in
set_option maxRecDepth 100000 in
theorem digits_Parse.calls (a0 : ByteArray) (r1 : List Int) (r2 : Int) (w : World) (h : digits_Parse.f a0 = some (r1, r2)) :
    Calls Tryd.prog 56 #[.string a0] w fun e w' => ∃ v0_ : Value, e = .returned (.tuple #[v0_, .int .i64 r2]) ∧ Kd.R (Kd.int .u32) 71 w' w.heap.size (fun _ => True) v0_ r1 ∧ Below w.heap.size w w' := by
  unfold digits_Parse.f at h
  by_cases hsz : a0.size ≤ 4611686018427387904
  case neg => rw [if_neg hsz] at h; cases h
  rw [if_pos hsz] at h
  have h := Option.some.inj h
  have HRT := Aside0.mk (show digits_Right.f a0 = some (rightS a0) by unfold digits_Right.f; rw [if_pos hsz])
  have HB0 := Aside0.mk (Below.refl w.heap.size w)
  unfold parseR at h
  cases hr : rightS a0 with
  | false =>
    rw [hr, if_neg (by simp)] at h
    injection h with ha hb
    subst ha
    subst hb
    rw [hr] at HRT
    clear hr
    go_enter Tryd.func56, Tryd.ntmps56
    go_wp2_with fail
    refine (digits_Right.calls a0 false _ HRT.out).mono ?_
    rintro e w1 ⟨rfl, hb⟩
    have HB1 := Aside0.mk (below_step HB0.out hb)
    clear hb
    go_wp2_with fail
    go_ret2
    exact ⟨_, rfl, Kd.R_nil _ _ _ _ _, HB1.out⟩
  | true =>
    rw [hr, if_pos rfl] at h
    rw [hr] at HRT
    by_cases hlong : a0.size > 1900
    · rw [if_pos hlong] at h
      injection h with ha hb
      subst ha
      subst hb
      clear hr
      go_enter Tryd.func56, Tryd.ntmps56
      go_wp2_with fail
      refine (digits_Right.calls a0 true _ HRT.out).mono ?_
      rintro e w1 ⟨rfl, hb⟩
      have HB1 := Aside0.mk (below_step HB0.out hb)
      clear hb
      go_wp2_with fail
      all_goals (go_ret2; exact ⟨_, rfl, Kd.R_nil _ _ _ _ _, HB1.out⟩)
    · rw [if_neg hlong] at h
      injection h with ha hb
      subst hb
      have HRES := Aside0.mk ha
      have HALL : Aside0 ((bytesN a0).all isDig = true) := ⟨by unfold rightS rightL at hr; rw [Bool.and_eq_true] at hr; exact hr.1⟩
      clear hr ha
      go_enter Tryd.func56, Tryd.ntmps56
      go_wp2_with fail
      refine (digits_Right.calls a0 true _ HRT.out).mono ?_
      rintro e w1 ⟨rfl, hb⟩
      have HB1 := Aside0.mk (below_step HB0.out hb)
      clear hb
      go_wp2_with fail
      go_loopg [0, 4] 1901 (fun kq s0 s4 wr => ∃ (p : Nat) (A : Option Addr) (c : Nat) (L : List Int) (s : ByteArray), s0 = .string s ∧ s4 = .slice A L.length c ∧ Aside0 (L = limbs (decF 0 ((bytesN a0).take p)) ∧ bytesN s = (bytesN a0).drop p ∧ p ≤ a0.size ∧ (kq + p ≥ 1901)) ∧ Aside0 (Kd.R (Kd.int .u32) 71 wr w.heap.size (fun _ => True) (.slice A L.length c) L) ∧ Aside0 (Below w.heap.size w wr))
      case atStart => exact ⟨0, none, 0, [], a0, rfl, rfl, ⟨by simp [decF, limbs_zero], rfl, Nat.zero_le _, by omega⟩, ⟨Kd.R_nil _ _ _ _ _⟩, HB1⟩
      case round =>
        obtain ⟨p, A, c, L, s, rfl, rfl, ⟨HL, hs, hp, hk⟩, RL, HB⟩ := hrel
        have hlen := bytesN_length a0
        have hsl : s.size = a0.size - p := by rw [← bytesN_length, hs, List.length_drop, hlen]
        obtain ⟨m, hm⟩ : ∃ m, s.size = m := ⟨_, rfl⟩
        have HSL := Aside0.mk (hm ▸ hsl : m = a0.size - p)
        have hm9 : m ≤ 1900 := by omega
        clear hsl
        by_cases h0 : 0 < m
        · obtain ⟨kp, rfl⟩ : ∃ kp, gk = kp + 1 := ⟨gk - 1, by have := HSL.out; omega⟩
          obtain ⟨n, hn, hn1, hn9⟩ : ∃ n : Nat, n = (m - 1) % 9 + 1 ∧ n ≤ m ∧ n ≤ 9 := ⟨_, rfl, by omega, by omega⟩
          obtain ⟨sn, hsn⟩ : ∃ sn, sn = s.extract 0 n := ⟨_, rfl⟩
          have hsnB : bytesN sn = (bytesN s).take n := by rw [hsn, bytesN_take]
          have hsnL : sn.size = n := by rw [← bytesN_length, hsnB, List.length_take, bytesN_length]; omega
          obtain ⟨B, hB⟩ : ∃ B, B = bytesN sn := ⟨_, rfl⟩
          have hBall : B.all isDig = true := by rw [hB, hsnB, hs]; exact all_take (all_drop' HALL.out p) n
          have hBl : B.length = n := by rw [hB, bytesN_length, hsnL]
          have FACTS := Aside0.mk (And.intro HL (And.intro hs (And.intro hB hsnB)))
          have HBALL := Aside0.mk hBall
          have HBL := Aside0.mk hBl
          have e1 : ((m : Int) - 1) % 9 + 1 = (n : Int) := by omega
          have HSN := Aside0.mk hsn
          clear HL hs hB hsnB hBall hBl hn hsn
          go_wp2_with fail
          rw [← HSN.out]
          have RD : Aside0 (Rd wr A c L) := ⟨by
            obtain ⟨_, h2, h3⟩ := Kd.R_reads' RL.out
            exact ⟨by rw [FACTS.out.1]; exact wfL_limbs _, h2, h3⟩⟩
          clear RL
          obtain ⟨wo, hwo⟩ : ∃ x, x = wr := ⟨_, rfl⟩
          subst hwo
          go_loopw [6, 7] (fun v6 v7 wi => ∃ q : Nat, wi.heap[wo.heap.size]? = some (.stringIter sn q) ∧ Below wo.heap.size wo wi ∧ q ≤ n ∧ v6 = .int .u32 ((decF 0 (B.take q) : Nat) : Int) ∧ v7 = .int .u32 ((10 ^ q : Nat) : Int)) (fun _ _ wi => n - wi.iterPos wo.heap.size)
          case atStart => exact ⟨0, World.iter_heap wo sn 0, (Below.refl _ _).alloc (Nat.le_refl _) _, Nat.zero_le _, rfl, rfl⟩
          case round =>
            obtain ⟨q, hit, hbi, hq, rfl, rfl⟩ := hrel
            have hpos0 := iterPos_of hit
            have hYb : 10 ^ q ≤ 1000000000 := Nat.le_trans (Nat.pow_le_pow_right (by decide) (show q ≤ 9 by omega)) (by decide)
            have hPb : decF 0 (B.take q) < 10 ^ q := by
              have h := decF_lt _ (all_take HBALL.out q)
              rw [List.length_take, HBL.out, Nat.min_eq_left hq] at h
              exact h
            by_cases hlt : q < n
            · have hp2 : q < sn.size := by rw [hsnL]; exact hlt
              have hget : B.getD q 0 = (sn[q]'hp2).toNat := by rw [FACTS.out.2.2.1]; exact bytesN_get sn q hp2
              have hdig : isDig (B.getD q 0) = true := by
                have h := List.all_eq_true.1 HBALL.out (B[q]'(by rw [HBL.out]; exact hlt)) (List.getElem_mem _)
                rw [List.getD_eq_getElem?_getD, List.getElem?_eq_getElem (by rw [HBL.out]; exact hlt)]
                exact h
              have hst := decF_step B q (by rw [HBL.out]; exact hlt)
              obtain ⟨ch, hch⟩ : ∃ ch, ch = (sn[q]'hp2).toNat := ⟨_, rfl⟩
              rw [← hch] at hget
              rw [hget] at hst hdig
              have hcl : 48 ≤ ch ∧ ch ≤ 57 := by simp [isDig] at hdig; exact hdig
              have hnx : ∀ ty, (Instr.next (.pointer (some ⟨wo.heap.size, 0, none⟩)) true ty).run Tryd.prog wr = _ := fun ty => Lib.run_next_ascii_at wr wo.heap.size sn q ty hit hp2 (by omega)
              rw [← hch] at hnx
              have hit2 := Lib.iterAt_heap wr wo.heap.size sn q (q + 1) hit
              have hbi2 := Lib.below_iterAt hbi (k := wo.heap.size) (Nat.le_refl _) sn (q + 1)
              obtain ⟨W1, hW1⟩ : ∃ W1, W1 = wr.iterAt wo.heap.size sn (q + 1) := ⟨_, rfl⟩
              rw [← hW1] at hnx hit2 hbi2
              have hY8 : 10 ^ q ≤ 100000000 := Nat.le_trans (Nat.pow_le_pow_right (by decide) (show q ≤ 8 by omega)) (by decide)
              have hY2 : 10 ^ (q + 1) = 10 ^ q * 10 := Nat.pow_succ ..
              obtain ⟨Y, hY⟩ : ∃ Y, Y = 10 ^ q := ⟨_, rfl⟩
              obtain ⟨P, hP⟩ : ∃ P, P = decF 0 (B.take q) := ⟨_, rfl⟩
              rw [← hY] at hPb hYb hY8 hY2
              rw [← hP] at hPb hst
              rw [← hY, ← hP]
              have HST := Aside0.mk (And.intro hst hY2)
              clear hW1 hit hbi hch hst hY2 hY hP hdig hget
              go_wp2_with fail
              refine ⟨⟨q + 1, hit2, hbi2, by omega, ?_, ?_⟩, ?_⟩
              · rw [HST.out.1]
                congr 1
                omega
              · rw [HST.out.2]
                congr 1
              · rw [iterPos_of hit2, hpos0]
                omega
            · obtain rfl : q = n := by omega
              have hnx : ∀ ty, (Instr.next (.pointer (some ⟨wo.heap.size, 0, none⟩)) true ty).run Tryd.prog wr = _ := fun ty => Lib.run_next_end_at wr wo.heap.size sn q ty hit (by omega)
              have HBI := Aside0.mk (below_step HB.out hbi)
              have RDI := Aside0.mk (RD.out.below hbi)
              obtain ⟨V, hV⟩ : ∃ V, V = decF 0 ((bytesN a0).take p) := ⟨_, rfl⟩
              obtain ⟨Y, hY⟩ : ∃ Y, Y = 10 ^ q := ⟨_, rfl⟩
              obtain ⟨P, hP⟩ : ∃ P, P = decF 0 (B.take q) := ⟨_, rfl⟩
              have hPlt : P < 1000000000 := by rw [hP]; omega
              have hVp : V < 10 ^ p := by
                have h := decF_lt _ (all_take HALL.out p)
                rw [List.length_take, hlen, Nat.min_eq_left hp, ← hV] at h
                exact h
              have hVY : V * Y + P < 10 ^ (p + q) := by
                have h1 : (V + 1) * Y ≤ 10 ^ p * Y := Nat.mul_le_mul_right _ hVp
                rw [Nat.pow_add, ← hY]
                rw [Nat.add_mul] at h1
                rw [← hP, ← hY] at hPb
                omega
              have hnew : decF 0 ((bytesN a0).take (p + q)) = V * Y + P := by
                have hBt : B.take q = B := List.take_of_length_le (by rw [HBL.out]; exact Nat.le_refl _)
                have hB2 : B = ((bytesN a0).drop p).take q := by rw [FACTS.out.2.2.1, FACTS.out.2.2.2, FACTS.out.2.1]
                rw [List.take_add, decF_app, ← hB2, decF_at, HBL.out, ← hV, ← hY, hP, hBt]
              have wY : wfL [(Y : Int)] := fun x hx => by rw [List.mem_singleton] at hx; subst hx; rw [hY]; omega
              have wP : wfL [(P : Int)] := fun x hx => by rw [List.mem_singleton] at hx; subst hx; omega
              have vY : valN [(Y : Int)] = Y := by simp [valN]
              have vP : valN [(P : Int)] = P := by simp [valN]
              have lV : L.length ≤ p := by rw [FACTS.out.1, ← hV]; exact ten_sh V p hVp
              obtain ⟨M1, hM1⟩ : ∃ M, M = limbs (V * Y) := ⟨_, rfl⟩
              obtain ⟨R1, hR1⟩ : ∃ M, M = limbs (V * Y + P) := ⟨_, rfl⟩
              have lM : M1.length ≤ p + q := by rw [hM1]; exact ten_sh _ _ (by omega)
              obtain ⟨km, Em⟩ : ∃ k, nat_Mul.f k L [(Y : Int)] = some M1 := by
                have h := nat_Mul_is L [(Y : Int)] RD.out.wf wY (by omega) (by simp)
                rw [vY, FACTS.out.1, valN_limbs, ← hV, ← hM1] at h
                rw [FACTS.out.1, ← hV]
                exact h.rounds
              have Ea : nat_Add.f M1 [(P : Int)] = some R1 := by
                rw [nat_Add_is M1 [(P : Int)] (by rw [hM1]; exact wfL_limbs _) wP (by omega) (by simp), vP, hM1, valN_limbs, hR1]
              have EM := Aside0.mk Em
              have EA := Aside0.mk Ea
              have WM : Aside0 (wfL M1) := ⟨by rw [hM1]; exact wfL_limbs _⟩
              have WYP := Aside0.mk (And.intro wY wP)
              have HN := Aside0.mk (And.intro hnew hR1)
              have hYi : (10 : Int) ^ q = (Y : Int) := by rw [hY]; simp
              rw [← hY, ← hP]
              clear hit hbi hV hY hP hPlt hVp hVY hnew wY wP vY vP lV lM Em Ea hM1 hR1 hPb hYb
              go_wp2_with fail
              refine (nat_Mul.calls km _ _ L _ _ [(Y : Int)] M1 _ (by exact (RDI.out.alloc _).cells) (by exact RDI.out.le) (by exact (Rd.lit _ [(Y : Int)] WYP.out.1 (by simp)).cells) (by simp) EM.out).mono ?_
              rintro e w2 ⟨vm, rfl, om, hb⟩
              have HB2 := Aside0.mk (below_step (below_alloc HBI.out (.cells #[.int .u32 (Y : Int)] 71)) hb)
              clear hb
              obtain ⟨Am, cm, em, hm2⟩ := Rd.of_R WM.out om
              clear om
              subst em
              have RM := Aside0.mk hm2
              clear hm2
              go_wp2_with fail
              refine (nat_Add.calls _ _ M1 _ _ [(P : Int)] R1 _ (by exact (RM.out.alloc _).cells) (by exact RM.out.le) (by exact (Rd.lit _ [(P : Int)] WYP.out.2 (by simp)).cells) (by simp) EA.out).mono ?_
              rintro e w3 ⟨vr, rfl, o3, hb⟩
              have HB3 := Aside0.mk (below_step (below_alloc HB2.out (.cells #[.int .u32 (P : Int)] 71)) hb)
              have O3 := Aside0.mk (Kd.R_lower o3 (Nat.le_trans HB2.out.size (by simp)))
              clear hb
              obtain ⟨A3, c3, e3⟩ := Kd.R_slice o3
              subst e3
              clear o3
              go_wp2_with fail
              go_roundg kp
              case measure => omega
              case rel => exact ⟨p + q, A3, c3, R1, s.extract q s.size, by first | rfl | rw [hm] | (rw [hm]; rfl), rfl, ⟨by rw [HN.out.1]; exact HN.out.2, by rw [bytesN_drop, FACTS.out.2.1, List.drop_drop], by have := HSL.out; omega, by omega⟩, O3, HB3⟩
        · have hp2 : p = a0.size := by have := HSL.out; omega
          have HR1 : Aside0 (L = r1) := ⟨by rw [HL, ← HRES.out, hp2, List.take_of_length_le (by omega)]; rfl⟩
          clear HL hs
          go_wp2_with fail
          go_ret2
          exact ⟨_, rfl, by rw [← HR1.out]; exact RL.out, HB.out⟩
end Go.Proofs.YtfnhohpmhpbpmaaDoor.G
