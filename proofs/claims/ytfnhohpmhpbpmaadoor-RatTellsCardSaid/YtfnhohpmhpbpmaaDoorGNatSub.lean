/- nat.Sub hands back a slice in new memory with the limbs of the difference and true, or a nil one and false; condition: limbs of 32 bits, at most 2^43 of them. -/
import Derived.Test.YtfnhohpmhpbpmaaDoorGx0
import Derived.Test.YtfnhohpmhpbpmaaDoorGx1
import Derived.Test.YtfnhohpmhpbpmaaDoorGx7
import Derived.Test.YtfnhohpmhpbpmaaDoorGNatPure
import Derived.Lib.Hide
namespace Go.Proofs.YtfnhohpmhpbpmaaDoor.G
open Go.RowKit Go.Proofs.YtfnhohpmhpbpmaaDoorW.PrintWords Go.Proofs.YtfnhohpmhpbpmaaDoorW.PrintLast Go.Proofs.YtfnhohpmhpbpmaaDoorW.PrintMore

def nat_subF (l0 l1 : List Int) (i : Nat) : Int := atL l0 i - atL l1 i

set_option maxHeartbeats 800000 in
theorem nat_Sub_clo (A0 : Option Addr) (c0 : Nat) (l0 : List Int) (A1 : Option Addr) (c1 : Nat) (l1 : List Int) (g0 g1 i : Nat) (w : World)
    (h0 : w.cell? ⟨g0, 0, none⟩ = some (.slice A0 l0.length c0)) (h1 : w.cell? ⟨g1, 0, none⟩ = some (.slice A1 l1.length c1)) (hr0 : Rd w A0 c0 l0) (hr1 : Rd w A1 c1 l1) :
    Calls Tryd.prog 84 #[.int .i64 (i : Int), .pointer (some ⟨g0, 0, none⟩), .pointer (some ⟨g1, 0, none⟩)] w fun e w' => e = .returned (.int .i64 (nat_subF l0 l1 i)) ∧ Drawn0 w w' := by
  have R0 := atL_range hr0.wf i
  have R1 := atL_range hr1.wf i
  have HR0 := Aside0.mk hr0
  have HR1 := Aside0.mk hr1
  clear hr0 hr1
  go_enter Tryd.func84, Tryd.ntmps84
  go_wp2
  go_quiet ((go_at_call 83; exact Calls.quiet_of (nat_at_q _ _ _ _ _ _ (by first | exact HR0.out | exact HR1.out))))
  go_wp2
  go_ret
  exact ⟨rfl, ⟨⟨_, rfl⟩⟩⟩

theorem nat_subF_range (l0 l1 : List Int) (h0 : wfL l0) (h1 : wfL l1) (j : Nat) : -8589934592 ≤ nat_subF l0 l1 j ∧ nat_subF l0 l1 j ≤ 8589934592 := by
  have := atL_range h0 j
  have := atL_range h1 j
  unfold nat_subF
  omega

set_option maxHeartbeats 1600000 in
set_option maxRecDepth 100000 in
theorem nat_Sub_carry (A0 : Option Addr) (c0 : Nat) (l0 : List Int) (A1 : Option Addr) (c1 : Nat) (l1 : List Int) (g0 g1 n : Nat) (w : World) (hn : n ≤ 17592186044416)
    (h0 : w.cell? ⟨g0, 0, none⟩ = some (.slice A0 l0.length c0)) (h1 : w.cell? ⟨g1, 0, none⟩ = some (.slice A1 l1.length c1)) (hr0 : Rd w A0 c0 l0) (hr1 : Rd w A1 c1 l1) :
    Calls Tryd.prog 81 #[.int .i64 (n : Int), .func (.func 84) #[] #[.pointer (some ⟨g0, 0, none⟩), .pointer (some ⟨g1, 0, none⟩)]] w fun e w' =>
      ∃ v : Value, e = .returned v ∧ Kd.R (Kd.int .u32) 71 w' w.heap.size (fun _ => True) v (normL (cout (nat_subF l0 l1) n)) ∧ Below w.heap.size w w' := by
  have HF := Aside0.mk (nat_subF_range l0 l1 hr0.wf hr1.wf)
  have HR0 := Aside0.mk hr0
  have HR1 := Aside0.mk hr1
  have H0 := Aside0.mk h0
  have H1 := Aside0.mk h1
  clear hr0 hr1 h0 h1
  have key : ∀ (v1 : Value) (w1 : World), Kd.R (Kd.int .u32) 71 w1 w.heap.size (fun _ => True) v1 (List.replicate ((n : Int)).toNat 0) → (∃ A c, v1 = .slice A n c) ∧ Aside0 (Kd.R (Kd.int .u32) 71 w1 w.heap.size (fun _ => True) v1 (csofar (nat_subF l0 l1) n 0)) := by
    intro v1 w1 h
    obtain ⟨A, c, e⟩ := Kd.R_slice h
    refine ⟨⟨A, c, by rw [e]; simp⟩, ⟨?_⟩⟩
    rw [csofar_zero]
    simpa using h
  have KEY := Aside0.mk key
  clear key
  go_enter Tryd.func81, Tryd.ntmps81
  go_wp2_with (first | ((with_reducible refine gate_dst (N := 9) rfl ?_); refine Kd.R_make (Kd.int .u32) _ 71 rfl (N := 9) rfl 39 _ _ rfl (n : Int) rfl rfl Tryd.underlying39 (.int .u32 0) 4 info71 rfl (by decide) (by omega) 0 (ok := fun _ => True) (okp := fun _ => True) rfl (fun _ hk => hk) trivial (by omega) (by omega) (Below.refl _ _) (Nat.le_refl _) ?_; intro v1 w1 ho1 hb1 hg_ hnew_; clear hg_ hnew_; obtain ⟨⟨Ao1, co1, eo1⟩, HO1⟩ := KEY.out v1 w1 ho1; subst eo1; have HB1 := Aside0.mk hb1; clear ho1 hb1))
  go_loopw [6, 12] (fun s6 s12 wr => ∃ k : Nat, k ≤ n ∧ s6 = .int .i64 (cst (nat_subF l0 l1) k) ∧ s12 = .int .i64 (k : Int) ∧ Aside0 (Kd.R (Kd.int .u32) 71 wr w.heap.size (fun _ => True) (.slice Ao1 n co1) (csofar (nat_subF l0 l1) n k)) ∧ Aside0 (Below w.heap.size w wr)) (fun _ s12 _ => n - (intOf s12).toNat)
  case atStart => exact ⟨0, Nat.zero_le _, rfl, rfl, HO1, HB1⟩
  case round =>
    obtain ⟨k, hk, rfl, rfl, HO, HB⟩ := hrel
    by_cases hlt : k < n
    · have CLO := Aside0.mk (nat_Sub_clo A0 c0 l0 A1 c1 l1 g0 g1 k wr ((HB.out.cell (World.block_lt_of_cell? w _ H0.out)).trans H0.out) ((HB.out.cell (World.block_lt_of_cell? w _ H1.out)).trans H1.out) (HR0.out.below HB.out) (HR1.out.below HB.out))
      have RC := cst_range _ HF.out k
      have RF := HF.out k
      obtain ⟨go, co, eo, gb, gl, HG⟩ := Kd.R_form HO.out (by rw [csofar_length]; omega)
      injection eo with ea en ec
      clear en
      subst ea
      subst ec
      have GB := Aside0.mk gb
      clear gb gl HG
      obtain ⟨hx, hf⟩ := Kd.R_celln 0 HO.out (k : Int) (by omega) (by omega)
      rw [Int.toNat_natCast] at hx hf
      go_wp2_with fail
      refine CLO.out.mono ?_
      rintro e w2 ⟨rfl, HD⟩
      obtain ⟨nd, rfl⟩ := HD.out
      clear HD
      have HP := Aside0.mk (Kd.R_putg (Kd.R_drewN HO.out nd) (k : Int) ((bits .and .i64 (cst (nat_subF l0 l1) k + nat_subF l0 l1 k) 4294967295) % 4294967296)).1
      go_wp2_with fail
      refine ⟨⟨k + 1, by omega, rfl, by go_num, ⟨?_⟩, ⟨below_set (pw_below_drewN HB.out nd) GB.out⟩⟩, by simp [intOf]; omega⟩
      have hp := HP.out
      rw [Int.toNat_natCast, and_low, csofar_set _ _ _ hlt] at hp
      rw [and_low]
      exact hp
    · have hkn : k = n := by omega
      subst hkn
      have HL := Aside0.mk (show (cout (nat_subF l0 l1) k).length = k by simp [cout])
      obtain ⟨kk, hkk⟩ := nat_Norm_ev (cout (nat_subF l0 l1) k) (by rw [HL.out]; omega)
      have HK := Aside0.mk hkk
      have HX : Aside0 (Kd.C (Kd.int .u32) wr Ao1 (cout (nat_subF l0 l1) k).length (cout (nat_subF l0 l1) k) ∧ (cout (nat_subF l0 l1) k).length ≤ co1) := by
        have h := HO.out
        rw [csofar_all] at h
        obtain ⟨_, h2, h3⟩ := Kd.R_reads' h
        exact ⟨h3, by rw [HL.out]; exact h2⟩
      clear hkk
      go_wp2_with fail
      refine calls_of_args (by rw [HL.out]) ((nat_Norm.calls kk Ao1 co1 _ _ _ HX.out.1 HX.out.2 HK.out).mono ?_)
      rintro e w2 ⟨v, rfl, hv, hb⟩
      have HV := Aside0.mk (Kd.R_lower hv HB.out.size)
      have HBB := Aside0.mk (below_step HB.out hb)
      clear hv hb
      go_wp2_with fail
      go_ret
      exact ⟨_, rfl, HV.out, HBB.out⟩

def nat_Sub.f (l0 l1 : List Int) : Option (List Int × Bool) :=
  if wfL l0 ∧ wfL l1 ∧ l0.length ≤ 8796093022208 ∧ l1.length ≤ 8796093022208 then (if valN l0 < valN l1 then some ([], false) else some (normL (cout (nat_subF l0 l1) l0.length), true)) else none

attribute [local go_sem] max2_int min2_int max_two min_two
set_option maxHeartbeats 1600000 in
set_option maxRecDepth 100000 in
theorem nat_Sub.calls (A0 : Option Addr) (c0 : Nat) (l0 : List Int) (A1 : Option Addr) (c1 : Nat) (l1 : List Int) (r1 : List Int) (r2 : Bool) (w : World) (hr0 : Kd.C (Kd.int .u32) w A0 l0.length l0) (hc0 : l0.length ≤ c0) (hr1 : Kd.C (Kd.int .u32) w A1 l1.length l1) (hc1 : l1.length ≤ c1) (h : nat_Sub.f l0 l1 = some (r1, r2)) :
    Calls Tryd.prog 66 #[.slice A0 l0.length c0, .slice A1 l1.length c1] w fun e w' => ∃ v0_ : Value, e = .returned (.tuple #[v0_, .bool r2]) ∧ Kd.R (Kd.int .u32) 71 w' w.heap.size (fun _ => True) v0_ r1 ∧ Below w.heap.size w w' := by
  unfold nat_Sub.f at h
  by_cases hc : wfL l0 ∧ wfL l1 ∧ l0.length ≤ 8796093022208 ∧ l1.length ≤ 8796093022208
  case neg => rw [if_neg hc] at h; cases h
  rw [if_pos hc] at h
  obtain ⟨hw0, hw1, b0, b1⟩ := hc
  have HR0 := Aside0.mk (Rd.mk hw0 hc0 hr0)
  have HR1 := Aside0.mk (Rd.mk hw1 hc1 hr1)
  obtain ⟨kc, hkc⟩ := (nat_Cmp_is l0 l1 hw0 hw1 (by omega) (by omega)).rounds
  have HKC := Aside0.mk hkc
  clear hw0 hw1 hr0 hr1 hkc
  have hmf : ∀ (fn : Fn) (first cap : Array Value) (w : World), (Instr.makeFunc fn first cap).run Tryd.prog w = .ok (.func fn first cap) w := fun _ _ _ _ => rfl
  have HB := Aside0.mk (below_alloc (below_alloc (Below.refl w.heap.size w) (.cells #[.slice A0 l0.length c0] 39)) (.cells #[.slice A1 l1.length c1] 39))
  have H0 := Aside0.mk (show ((w.alloc (.cells #[.slice A0 l0.length c0] 39)).alloc (.cells #[.slice A1 l1.length c1] 39)).cell? ⟨w.heap.size, 0, none⟩ = some (.slice A0 l0.length c0) by rw [World.cell?_alloc_past _ _ _ (by simp), World.cell?_alloc_at _ _ _ _ rfl]; rfl)
  have H1 := Aside0.mk (show ((w.alloc (.cells #[.slice A0 l0.length c0] 39)).alloc (.cells #[.slice A1 l1.length c1] 39)).cell? ⟨w.heap.size + 1, 0, none⟩ = some (.slice A1 l1.length c1) by rw [World.cell?_alloc_at _ _ _ _ (by simp)]; rfl)
  have hcmp := nat_Cmp.calls kc A0 c0 l0 A1 c1 l1 _ ((w.alloc (.cells #[.slice A0 l0.length c0] 39)).alloc (.cells #[.slice A1 l1.length c1] 39)) (HR0.out.below HB.out).cells hc0 (HR1.out.below HB.out).cells hc1 HKC.out
  by_cases hlt : valN l0 < valN l1
  · rw [if_pos hlt] at h
    simp only [Option.some.injEq, Prod.mk.injEq] at h
    obtain ⟨rfl, rfl⟩ := h
    rw [show cmpN (valN l0) (valN l1) = -1 by unfold cmpN; rw [if_pos hlt]] at hcmp
    have HCMP := Aside0.mk hcmp
    clear hcmp hlt
    go_enter Tryd.func66, Tryd.ntmps66
    go_wp2_with fail
    refine HCMP.out.mono ?_
    rintro e w2 ⟨rfl, hb⟩
    have HBB := Aside0.mk (below_step HB.out hb)
    clear hb
    go_wp2_with fail
    go_ret2
    exact ⟨_, rfl, Kd.R_nil _ _ _ _ _, HBB.out⟩
  · rw [if_neg hlt] at h
    simp only [Option.some.injEq, Prod.mk.injEq] at h
    obtain ⟨rfl, rfl⟩ := h
    have hge : decide (cmpN (valN l0) (valN l1) < 0) = false := by
      unfold cmpN
      rw [if_neg hlt]
      by_cases h2 : valN l1 < valN l0 <;> simp [h2]
    generalize cmpN (valN l0) (valN l1) = cv at *
    have HCMP := Aside0.mk hcmp
    clear hcmp hlt
    go_enter Tryd.func66, Tryd.ntmps66
    go_wp2_with fail
    refine HCMP.out.mono ?_
    rintro e w2 ⟨rfl, hb⟩
    have HBB := Aside0.mk (below_step HB.out hb)
    have h0 := (hb.cell (World.block_lt_of_cell? _ _ H0.out)).trans H0.out
    have h1 := (hb.cell (World.block_lt_of_cell? _ _ H1.out)).trans H1.out
    have CAR := Aside0.mk (nat_Sub_carry A0 c0 l0 A1 c1 l1 w.heap.size (w.heap.size + 1) l0.length w2 (by omega) h0 h1 (HR0.out.below HBB.out) (HR1.out.below HBB.out))
    clear hb
    go_wp2_with fail
    refine CAR.out.mono ?_
    rintro e w3 ⟨v, rfl, hv, hb⟩
    have HV := Aside0.mk (Kd.R_lower hv HBB.out.size)
    have HB3 := Aside0.mk (below_step HBB.out hb)
    clear hv hb
    go_wp2_with fail
    go_ret2
    exact ⟨_, rfl, HV.out, HB3.out⟩

theorem nat_Sub_is (a b : List Int) (ha : wfL a) (hb : wfL b) (la : a.length ≤ 8796093022208) (lb : b.length ≤ 8796093022208) : nat_Sub.f a b = if valN a < valN b then some ([], false) else some (limbs (valN a - valN b), true) := by
  rw [nat_Sub.f, if_pos ⟨ha, hb, la, lb⟩, normL_limbs (cout_wf _ _)]
  by_cases h : valN a < valN b
  · rw [if_pos h, if_pos h]
  · rw [if_neg h, if_neg h]
    have h1 := valN_lt ha
    have h2 : valN (b.take a.length) = valN b := valN_take_all (by omega)
    have hs : fsum (nat_subF a b) a.length = ((valN a - valN b : Nat) : Int) := by
      have : nat_subF a b = fun i => atL a i - atL b i := rfl
      rw [this, fsum_sub, fsum_at a ha, fsum_at b hb, List.take_of_length_le (Nat.le_refl _), h2]
      omega
    have hc := carry_val (nat_subF a b) a.length (by rw [hs]; omega) (by rw [hs, ← pow_cast]; omega)
    rw [hs] at hc
    congr 3
    omega

end Go.Proofs.YtfnhohpmhpbpmaaDoor.G
