/- tribunallaw01.NatRing answers true. No condition. -/
import Derived.Test.YtfjcloflebghhaaGx0
import Derived.Test.YtfjcloflebghhaaGx1
import Derived.Test.YtfjcloflebghhaaGx5
import Derived.Test.YtfjcloflebghhaaGHead01
import Derived.Test.YtfjcloflebghhaaGNatAdd
import Derived.Test.YtfjcloflebghhaaGNatLaws
import Derived.Lib.Hide
namespace Go.Proofs.Ytfjcloflebghhaa.G
open Go.RowKit Go.Proofs.YtfjcloflebghhaaW.PrintWords Go.Proofs.YtfjcloflebghhaaW.PrintLast Go.Proofs.YtfjcloflebghhaaW.PrintMore
attribute [local go_sem] max2_int min2_int max_two min_two max_three min_three max_four min_four
set_option linter.unusedVariables false
set_option linter.unusedSimpArgs false

theorem Great_no (l0 l1 : List Int) (h : l0.length ≤ 20 ∧ l1.length ≤ 20) : tribunallaw01_Great.f l0 l1 = some false := by unfold tribunallaw01_Great.f; rw [if_neg (by omega)]; simp; omega
theorem Great_yes (l0 l1 : List Int) (h : ¬ (l0.length ≤ 20 ∧ l1.length ≤ 20)) : tribunallaw01_Great.f l0 l1 = some true := by unfold tribunallaw01_Great.f; split <;> simp; omega
set_option maxHeartbeats 8000000 in
set_option maxRecDepth 100000 in
theorem tribunallaw01_NatRing.calls (A0 : Option Addr) (c0 : Nat) (a : List Int) (A1 : Option Addr) (c1 : Nat) (b : List Int) (A2 : Option Addr) (c2 : Nat) (c : List Int) (w : World) (R0 : Rd w A0 c0 a) (R1 : Rd w A1 c1 b) (R2 : Rd w A2 c2 c) :
    Calls Try.prog 4 #[.slice A0 a.length c0, .slice A1 b.length c1, .slice A2 c.length c2] w fun e w' => e = .returned (.bool true) ∧ Below w.heap.size w w' := by
  have Ra := Aside0.mk R0
  have Rb := Aside0.mk R1
  have Rc := Aside0.mk R2
  clear R0 R1 R2
  have HB := Aside0.mk (Below.refl w.heap.size w)
  go_enter Try.func4, Try.ntmps4
  go_upto_region 2 with (first | ((with_reducible refine gate_callee (f := 10) rfl ?_); refine goesL_ (some 9) rfl rfl Try.func10 (by kernel_rfl) rfl #[] rfl (by (try simp only [List.map_toArray, List.map_cons, List.map_nil]); first | done | rfl) ?_; (with_reducible refine (tribunallaw01_head.calls true _ rfl).mono ?_); rintro e w6 ⟨rfl, hb⟩; refine ⟨_, rfl, ?_⟩; have n0_ := Aside0.mk (below_step HB.out hb); clear HB; have HB := n0_; clear n0_; clear hb))
  (try simp only [Act.put, List.setIfInBounds_toArray, List.set_cons_zero, List.set_cons_succ])
  go_cut [17] (fun v17 wc => ∃ (x17 : Bool), v17 = .bool x17 ∧ Aside0 (x17 = false → a.length ≤ 20 ∧ b.length ≤ 20 ∧ c.length ≤ 60) ∧ Aside0 (Below w.heap.size w wc))
  case first =>
    by_cases hg : a.length ≤ 20 ∧ b.length ≤ 20
    · have A7 := Aside0.mk (Great_no a b hg)
      go_wp2_with (first | ((with_reducible refine gate_callee (f := 11) rfl ?_); refine goesL_ (some 12) rfl rfl Try.func11 (by kernel_rfl) rfl #[.slice A0 a.length c0, .slice A1 b.length c1] rfl (by (try simp only [List.map_toArray, List.map_cons, List.map_nil]); first | done | rfl) ?_; (with_reducible refine (tribunallaw01_Great.calls _ _ a _ _ b false _ (Ra.out.below HB.out).cells Ra.out.le (Rb.out.below HB.out).cells Rb.out.le A7.out).mono ?_); rintro e w' ⟨rfl, ⟨nd, rfl⟩⟩; refine ⟨_, rfl, ?_⟩))
      go_meet
      case rel => exact ⟨decide ((c.length : Int) > 60), (by first | rfl | (simp; done) | (simp [*]; done)), ⟨fun h => ⟨hg.1, hg.2, by have := of_decide_eq_false h; omega⟩⟩, ⟨by repeat (first | (with_reducible first | exact HB.out | apply below_alloc | apply pw_below_drewN | apply below_drew1) | exact HB.out)⟩⟩
    · have A7 := Aside0.mk (Great_yes a b hg)
      go_wp2_with (first | ((with_reducible refine gate_callee (f := 11) rfl ?_); refine goesL_ (some 12) rfl rfl Try.func11 (by kernel_rfl) rfl #[.slice A0 a.length c0, .slice A1 b.length c1] rfl (by (try simp only [List.map_toArray, List.map_cons, List.map_nil]); first | done | rfl) ?_; (with_reducible refine (tribunallaw01_Great.calls _ _ a _ _ b true _ (Ra.out.below HB.out).cells Ra.out.le (Rb.out.below HB.out).cells Rb.out.le A7.out).mono ?_); rintro e w' ⟨rfl, ⟨nd, rfl⟩⟩; refine ⟨_, rfl, ?_⟩))
      go_meet
      case rel => exact ⟨true, (by first | rfl | (simp; done) | (simp [*]; done)), ⟨fun h => absurd h (by simp)⟩, ⟨by repeat (first | (with_reducible first | exact HB.out | apply below_alloc | apply pw_below_drewN | apply below_drew1) | exact HB.out)⟩⟩
  case rest =>
    obtain ⟨x17, rfl, hx, HB⟩ := hcut
    replace Ra := Aside0.mk (Ra.out.below HB.out)
    replace Rb := Aside0.mk (Rb.out.below HB.out)
    replace Rc := Aside0.mk (Rc.out.below HB.out)
    cases x17 with
    | true =>
      go_wp2
      go_ret
      exact ⟨rfl, HB.out⟩
    | false =>
      obtain ⟨la, lb, lc⟩ := hx.out rfl
      clear hx
      have wa := Ra.out.wf
      have wb := Rb.out.wf
      have wc_ := Rc.out.wf
      have sa := sh_val wa
      have sb := sh_val wb
      have sc := sh_val wc_
      obtain ⟨x, ex⟩ : ∃ x, x = valN a := ⟨_, rfl⟩
      obtain ⟨y, ey⟩ : ∃ y, y = valN b := ⟨_, rfl⟩
      obtain ⟨z, ez⟩ : ∃ z, z = valN c := ⟨_, rfl⟩
      rw [← ex] at sa
      rw [← ey] at sb
      rw [← ez] at sc
      have s0 : sh 0 ≤ 1 := sh_le (by decide)
      have s1 : sh 1 ≤ 1 := sh_le (by decide)
      have s2 := sh_add x y
      have s3 := sh_mul x y
      have s4 := sh_add y z
      have s5 := sh_mul y z
      have s6 := sh_mul x z
      have s7 := sh_add (x + y) z
      have s8 := sh_mul (x * y) z
      have s9 := sh_mul x (y + z)
      obtain ⟨one, hone⟩ : ∃ l, l = limbs (1) := ⟨_, rfl⟩
      have Wone : Aside0 (wfL one) := ⟨by rw [hone]; exact wfL_limbs _⟩
      have Vone : Aside0 (valN one = 1 ∧ one.length ≤ 300) := ⟨by rw [hone]; exact ⟨valN_limbs _, by rw [sh_len]; omega⟩⟩
      obtain ⟨p1, hp1⟩ : ∃ l, l = limbs (x + y) := ⟨_, rfl⟩
      have Wp1 : Aside0 (wfL p1) := ⟨by rw [hp1]; exact wfL_limbs _⟩
      have Vp1 : Aside0 (valN p1 = x + y ∧ p1.length ≤ 300) := ⟨by rw [hp1]; exact ⟨valN_limbs _, by rw [sh_len]; omega⟩⟩
      obtain ⟨p2, hp2⟩ : ∃ l, l = limbs (x + y) := ⟨_, rfl⟩
      have Wp2 : Aside0 (wfL p2) := ⟨by rw [hp2]; exact wfL_limbs _⟩
      have Vp2 : Aside0 (valN p2 = x + y ∧ p2.length ≤ 300) := ⟨by rw [hp2]; exact ⟨valN_limbs _, by rw [sh_len]; omega⟩⟩
      obtain ⟨m1, hm1⟩ : ∃ l, l = limbs (x * y) := ⟨_, rfl⟩
      have Wm1 : Aside0 (wfL m1) := ⟨by rw [hm1]; exact wfL_limbs _⟩
      have Vm1 : Aside0 (valN m1 = x * y ∧ m1.length ≤ 300) := ⟨by rw [hm1]; exact ⟨valN_limbs _, by rw [sh_len]; omega⟩⟩
      obtain ⟨m2, hm2⟩ : ∃ l, l = limbs (x * y) := ⟨_, rfl⟩
      have Wm2 : Aside0 (wfL m2) := ⟨by rw [hm2]; exact wfL_limbs _⟩
      have Vm2 : Aside0 (valN m2 = x * y ∧ m2.length ≤ 300) := ⟨by rw [hm2]; exact ⟨valN_limbs _, by rw [sh_len]; omega⟩⟩
      obtain ⟨q1, hq1⟩ : ∃ l, l = limbs (x + y) := ⟨_, rfl⟩
      have Wq1 : Aside0 (wfL q1) := ⟨by rw [hq1]; exact wfL_limbs _⟩
      have Vq1 : Aside0 (valN q1 = x + y ∧ q1.length ≤ 300) := ⟨by rw [hq1]; exact ⟨valN_limbs _, by rw [sh_len]; omega⟩⟩
      obtain ⟨q2, hq2⟩ : ∃ l, l = limbs (x + y + z) := ⟨_, rfl⟩
      have Wq2 : Aside0 (wfL q2) := ⟨by rw [hq2]; exact wfL_limbs _⟩
      have Vq2 : Aside0 (valN q2 = x + y + z ∧ q2.length ≤ 300) := ⟨by rw [hq2]; exact ⟨valN_limbs _, by rw [sh_len]; omega⟩⟩
      obtain ⟨q3, hq3⟩ : ∃ l, l = limbs (y + z) := ⟨_, rfl⟩
      have Wq3 : Aside0 (wfL q3) := ⟨by rw [hq3]; exact wfL_limbs _⟩
      have Vq3 : Aside0 (valN q3 = y + z ∧ q3.length ≤ 300) := ⟨by rw [hq3]; exact ⟨valN_limbs _, by rw [sh_len]; omega⟩⟩
      obtain ⟨q4, hq4⟩ : ∃ l, l = limbs (x + y + z) := ⟨_, rfl⟩
      have Wq4 : Aside0 (wfL q4) := ⟨by rw [hq4]; exact wfL_limbs _⟩
      have Vq4 : Aside0 (valN q4 = x + y + z ∧ q4.length ≤ 300) := ⟨by rw [hq4]; exact ⟨valN_limbs _, by rw [sh_len]; omega⟩⟩
      obtain ⟨r1, hr1⟩ : ∃ l, l = limbs (x * y) := ⟨_, rfl⟩
      have Wr1 : Aside0 (wfL r1) := ⟨by rw [hr1]; exact wfL_limbs _⟩
      have Vr1 : Aside0 (valN r1 = x * y ∧ r1.length ≤ 300) := ⟨by rw [hr1]; exact ⟨valN_limbs _, by rw [sh_len]; omega⟩⟩
      obtain ⟨r2, hr2⟩ : ∃ l, l = limbs (x * y * z) := ⟨_, rfl⟩
      have Wr2 : Aside0 (wfL r2) := ⟨by rw [hr2]; exact wfL_limbs _⟩
      have Vr2 : Aside0 (valN r2 = x * y * z ∧ r2.length ≤ 300) := ⟨by rw [hr2]; exact ⟨valN_limbs _, by rw [sh_len]; omega⟩⟩
      obtain ⟨r3, hr3⟩ : ∃ l, l = limbs (y * z) := ⟨_, rfl⟩
      have Wr3 : Aside0 (wfL r3) := ⟨by rw [hr3]; exact wfL_limbs _⟩
      have Vr3 : Aside0 (valN r3 = y * z ∧ r3.length ≤ 300) := ⟨by rw [hr3]; exact ⟨valN_limbs _, by rw [sh_len]; omega⟩⟩
      obtain ⟨r4, hr4⟩ : ∃ l, l = limbs (x * y * z) := ⟨_, rfl⟩
      have Wr4 : Aside0 (wfL r4) := ⟨by rw [hr4]; exact wfL_limbs _⟩
      have Vr4 : Aside0 (valN r4 = x * y * z ∧ r4.length ≤ 300) := ⟨by rw [hr4]; exact ⟨valN_limbs _, by rw [sh_len]; omega⟩⟩
      obtain ⟨t1, ht1⟩ : ∃ l, l = limbs (y + z) := ⟨_, rfl⟩
      have Wt1 : Aside0 (wfL t1) := ⟨by rw [ht1]; exact wfL_limbs _⟩
      have Vt1 : Aside0 (valN t1 = y + z ∧ t1.length ≤ 300) := ⟨by rw [ht1]; exact ⟨valN_limbs _, by rw [sh_len]; omega⟩⟩
      obtain ⟨t2, ht2⟩ : ∃ l, l = limbs (x * (y + z)) := ⟨_, rfl⟩
      have Wt2 : Aside0 (wfL t2) := ⟨by rw [ht2]; exact wfL_limbs _⟩
      have Vt2 : Aside0 (valN t2 = x * (y + z) ∧ t2.length ≤ 300) := ⟨by rw [ht2]; exact ⟨valN_limbs _, by rw [sh_len]; omega⟩⟩
      obtain ⟨t3, ht3⟩ : ∃ l, l = limbs (x * y) := ⟨_, rfl⟩
      have Wt3 : Aside0 (wfL t3) := ⟨by rw [ht3]; exact wfL_limbs _⟩
      have Vt3 : Aside0 (valN t3 = x * y ∧ t3.length ≤ 300) := ⟨by rw [ht3]; exact ⟨valN_limbs _, by rw [sh_len]; omega⟩⟩
      obtain ⟨t4, ht4⟩ : ∃ l, l = limbs (x * z) := ⟨_, rfl⟩
      have Wt4 : Aside0 (wfL t4) := ⟨by rw [ht4]; exact wfL_limbs _⟩
      have Vt4 : Aside0 (valN t4 = x * z ∧ t4.length ≤ 300) := ⟨by rw [ht4]; exact ⟨valN_limbs _, by rw [sh_len]; omega⟩⟩
      obtain ⟨t5, ht5⟩ : ∃ l, l = limbs (x * (y + z)) := ⟨_, rfl⟩
      have Wt5 : Aside0 (wfL t5) := ⟨by rw [ht5]; exact wfL_limbs _⟩
      have Vt5 : Aside0 (valN t5 = x * (y + z) ∧ t5.length ≤ 300) := ⟨by rw [ht5]; exact ⟨valN_limbs _, by rw [sh_len]; omega⟩⟩
      obtain ⟨u1, hu1⟩ : ∃ l, l = limbs (x) := ⟨_, rfl⟩
      have Wu1 : Aside0 (wfL u1) := ⟨by rw [hu1]; exact wfL_limbs _⟩
      have Vu1 : Aside0 (valN u1 = x ∧ u1.length ≤ 300) := ⟨by rw [hu1]; exact ⟨valN_limbs _, by rw [sh_len]; omega⟩⟩
      obtain ⟨u2, hu2⟩ : ∃ l, l = limbs (x) := ⟨_, rfl⟩
      have Wu2 : Aside0 (wfL u2) := ⟨by rw [hu2]; exact wfL_limbs _⟩
      have Vu2 : Aside0 (valN u2 = x ∧ u2.length ≤ 300) := ⟨by rw [hu2]; exact ⟨valN_limbs _, by rw [sh_len]; omega⟩⟩
      obtain ⟨v1, hv1⟩ : ∃ l, l = limbs (x) := ⟨_, rfl⟩
      have Wv1 : Aside0 (wfL v1) := ⟨by rw [hv1]; exact wfL_limbs _⟩
      have Vv1 : Aside0 (valN v1 = x ∧ v1.length ≤ 300) := ⟨by rw [hv1]; exact ⟨valN_limbs _, by rw [sh_len]; omega⟩⟩
      obtain ⟨v2, hv2⟩ : ∃ l, l = limbs (x) := ⟨_, rfl⟩
      have Wv2 : Aside0 (wfL v2) := ⟨by rw [hv2]; exact wfL_limbs _⟩
      have Vv2 : Aside0 (valN v2 = x ∧ v2.length ≤ 300) := ⟨by rw [hv2]; exact ⟨valN_limbs _, by rw [sh_len]; omega⟩⟩
      obtain ⟨n1, hn1⟩ : ∃ l, l = limbs (0) := ⟨_, rfl⟩
      have Wn1 : Aside0 (wfL n1) := ⟨by rw [hn1]; exact wfL_limbs _⟩
      have Vn1 : Aside0 (valN n1 = 0 ∧ n1.length ≤ 300) := ⟨by rw [hn1]; exact ⟨valN_limbs _, by rw [sh_len]; omega⟩⟩
      obtain ⟨k0, E0⟩ : ∃ k, nat_Of.f k 1 = some one := by rw [hone]; exact (nat_Of_is 1 (by omega) (by omega)).rounds
      replace E0 := Aside0.mk E0
      obtain ⟨k1, E1⟩ : ∃ k, nat_Add.f a b = some p1 := by
        have h := eAdd wa wb (by omega) (by omega)
        rw [← ex, ← ey] at h
        rw [hp1]
        exact h.rounds
      replace E1 := Aside0.mk E1
      obtain ⟨k2, E2⟩ : ∃ k, nat_Add.f b a = some p2 := by
        have h := eAdd wb wa (by omega) (by omega)
        rw [← ey, ← ex, Nat.add_comm] at h
        rw [hp2]
        exact h.rounds
      replace E2 := Aside0.mk E2
      obtain ⟨k3, E3⟩ : ∃ k, tribunalref01_Same.f k p1 p2 = some true := by
        have h := Same_self p1 (by have := Vp1.out.2; omega)
        rw [show p2 = p1 from by rw [hp2, hp1]]
        exact h.rounds
      replace E3 := Aside0.mk E3
      obtain ⟨k4, E4⟩ : ∃ k, nat_Mul.f k a b = some m1 := by
        have h := eMul wa wb (by omega) (by omega)
        rw [← ex, ← ey] at h
        rw [hm1]
        exact h.rounds
      replace E4 := Aside0.mk E4
      obtain ⟨k5, E5⟩ : ∃ k, nat_Mul.f k b a = some m2 := by
        have h := eMul wb wa (by omega) (by omega)
        rw [← ey, ← ex, Nat.mul_comm] at h
        rw [hm2]
        exact h.rounds
      replace E5 := Aside0.mk E5
      obtain ⟨k6, E6⟩ : ∃ k, tribunalref01_Same.f k m1 m2 = some true := by
        have h := Same_self m1 (by have := Vm1.out.2; omega)
        rw [show m2 = m1 from by rw [hm2, hm1]]
        exact h.rounds
      replace E6 := Aside0.mk E6
      obtain ⟨k7, E7⟩ : ∃ k, nat_Add.f a b = some q1 := by
        have h := eAdd wa wb (by omega) (by omega)
        rw [← ex, ← ey] at h
        rw [hq1]
        exact h.rounds
      replace E7 := Aside0.mk E7
      obtain ⟨k8, E8⟩ : ∃ k, nat_Add.f q1 c = some q2 := by
        have h := eAdd Wq1.out wc_ (by have := Vq1.out.2; omega) (by omega)
        rw [Vq1.out.1, ← ez] at h
        rw [hq2]
        exact h.rounds
      replace E8 := Aside0.mk E8
      obtain ⟨k9, E9⟩ : ∃ k, nat_Add.f b c = some q3 := by
        have h := eAdd wb wc_ (by omega) (by omega)
        rw [← ey, ← ez] at h
        rw [hq3]
        exact h.rounds
      replace E9 := Aside0.mk E9
      obtain ⟨k10, E10⟩ : ∃ k, nat_Add.f a q3 = some q4 := by
        have h := eAdd wa Wq3.out (by omega) (by have := Vq3.out.2; omega)
        rw [← ex, Vq3.out.1, ← Nat.add_assoc] at h
        rw [hq4]
        exact h.rounds
      replace E10 := Aside0.mk E10
      obtain ⟨k11, E11⟩ : ∃ k, tribunalref01_Same.f k q2 q4 = some true := by
        have h := Same_self q2 (by have := Vq2.out.2; omega)
        rw [show q4 = q2 from by rw [hq4, hq2]]
        exact h.rounds
      replace E11 := Aside0.mk E11
      obtain ⟨k12, E12⟩ : ∃ k, nat_Mul.f k a b = some r1 := by
        have h := eMul wa wb (by omega) (by omega)
        rw [← ex, ← ey] at h
        rw [hr1]
        exact h.rounds
      replace E12 := Aside0.mk E12
      obtain ⟨k13, E13⟩ : ∃ k, nat_Mul.f k r1 c = some r2 := by
        have h := eMul Wr1.out wc_ (by have := Vr1.out.2; omega) (by omega)
        rw [Vr1.out.1, ← ez] at h
        rw [hr2]
        exact h.rounds
      replace E13 := Aside0.mk E13
      obtain ⟨k14, E14⟩ : ∃ k, nat_Mul.f k b c = some r3 := by
        have h := eMul wb wc_ (by omega) (by omega)
        rw [← ey, ← ez] at h
        rw [hr3]
        exact h.rounds
      replace E14 := Aside0.mk E14
      obtain ⟨k15, E15⟩ : ∃ k, nat_Mul.f k a r3 = some r4 := by
        have h := eMul wa Wr3.out (by omega) (by have := Vr3.out.2; omega)
        rw [← ex, Vr3.out.1, ← Nat.mul_assoc] at h
        rw [hr4]
        exact h.rounds
      replace E15 := Aside0.mk E15
      obtain ⟨k16, E16⟩ : ∃ k, tribunalref01_Same.f k r2 r4 = some true := by
        have h := Same_self r2 (by have := Vr2.out.2; omega)
        rw [show r4 = r2 from by rw [hr4, hr2]]
        exact h.rounds
      replace E16 := Aside0.mk E16
      obtain ⟨k17, E17⟩ : ∃ k, nat_Add.f b c = some t1 := by
        have h := eAdd wb wc_ (by omega) (by omega)
        rw [← ey, ← ez] at h
        rw [ht1]
        exact h.rounds
      replace E17 := Aside0.mk E17
      obtain ⟨k18, E18⟩ : ∃ k, nat_Mul.f k a t1 = some t2 := by
        have h := eMul wa Wt1.out (by omega) (by have := Vt1.out.2; omega)
        rw [← ex, Vt1.out.1] at h
        rw [ht2]
        exact h.rounds
      replace E18 := Aside0.mk E18
      obtain ⟨k19, E19⟩ : ∃ k, nat_Mul.f k a b = some t3 := by
        have h := eMul wa wb (by omega) (by omega)
        rw [← ex, ← ey] at h
        rw [ht3]
        exact h.rounds
      replace E19 := Aside0.mk E19
      obtain ⟨k20, E20⟩ : ∃ k, nat_Mul.f k a c = some t4 := by
        have h := eMul wa wc_ (by omega) (by omega)
        rw [← ex, ← ez] at h
        rw [ht4]
        exact h.rounds
      replace E20 := Aside0.mk E20
      obtain ⟨k21, E21⟩ : ∃ k, nat_Add.f t3 t4 = some t5 := by
        have h := eAdd Wt3.out Wt4.out (by have := Vt3.out.2; omega) (by have := Vt4.out.2; omega)
        rw [Vt3.out.1, Vt4.out.1, ← Nat.mul_add] at h
        rw [ht5]
        exact h.rounds
      replace E21 := Aside0.mk E21
      obtain ⟨k22, E22⟩ : ∃ k, tribunalref01_Same.f k t2 t5 = some true := by
        have h := Same_self t2 (by have := Vt2.out.2; omega)
        rw [show t5 = t2 from by rw [ht5, ht2]]
        exact h.rounds
      replace E22 := Aside0.mk E22
      obtain ⟨k23, E23⟩ : ∃ k, nat_Add.f a [] = some u1 := by
        have h := eAdd wa wfL_nil (by omega) (by simp)
        rw [← ex, show valN [] = 0 from rfl, Nat.add_zero] at h
        rw [hu1]
        exact h.rounds
      replace E23 := Aside0.mk E23
      obtain ⟨k24, E24⟩ : ∃ k, nat_Norm.f k a = some u2 := by
        have h := eNorm wa (by omega)
        rw [← ex] at h
        rw [hu2]
        exact h.rounds
      replace E24 := Aside0.mk E24
      obtain ⟨k25, E25⟩ : ∃ k, tribunalref01_Same.f k u1 u2 = some true := by
        have h := Same_self u1 (by have := Vu1.out.2; omega)
        rw [show u2 = u1 from by rw [hu2, hu1]]
        exact h.rounds
      replace E25 := Aside0.mk E25
      obtain ⟨k26, E26⟩ : ∃ k, nat_Mul.f k a one = some v1 := by
        have h := eMul wa Wone.out (by omega) (by have := Vone.out.2; omega)
        rw [← ex, Vone.out.1, Nat.mul_one] at h
        rw [hv1]
        exact h.rounds
      replace E26 := Aside0.mk E26
      obtain ⟨k27, E27⟩ : ∃ k, nat_Norm.f k a = some v2 := by
        have h := eNorm wa (by omega)
        rw [← ex] at h
        rw [hv2]
        exact h.rounds
      replace E27 := Aside0.mk E27
      obtain ⟨k28, E28⟩ : ∃ k, tribunalref01_Same.f k v1 v2 = some true := by
        have h := Same_self v1 (by have := Vv1.out.2; omega)
        rw [show v2 = v1 from by rw [hv2, hv1]]
        exact h.rounds
      replace E28 := Aside0.mk E28
      obtain ⟨k29, E29⟩ : ∃ k, nat_Mul.f k a [] = some n1 := by
        have h := eMul wa wfL_nil (by omega) (by simp)
        rw [← ex, show valN [] = 0 from rfl, Nat.mul_zero] at h
        rw [hn1]
        exact h.rounds
      replace E29 := Aside0.mk E29
      have L0 : n1.length = 0 := by rw [hn1, limbs_zero]; rfl
      clear hone hp1 hp2 hm1 hm2 hq1 hq2 hq3 hq4 hr1 hr2 hr3 hr4 ht1 ht2 ht3 ht4 ht5 hu1 hu2 hv1 hv2 hn1 wa wb wc_ sa sb sc s0 s1 s2 s3 s4 s5 s6 s7 s8 s9
      go_wp2_with fail
      refine (nat_Of.calls k0 1 one _  E0.out).mono ?_
      rintro e w1 ⟨vone, rfl, oone, hb⟩
      replace Ra := Aside0.mk ((Ra.out).below hb)
      replace Rb := Aside0.mk ((Rb.out).below hb)
      replace Rc := Aside0.mk ((Rc.out).below hb)
      replace HB := Aside0.mk (below_step (HB.out) hb)
      obtain ⟨Aone, cone, eone, hone⟩ := Rd.of_R Wone.out oone
      clear oone
      subst eone
      have Rone := Aside0.mk hone
      clear hone
      clear hb
      go_wp2_with fail
      refine (nat_Add.calls _ _ a _ _ b p1 _ (by exact Ra.out.cells) (by exact Ra.out.le) (by exact Rb.out.cells) (by exact Rb.out.le) E1.out).mono ?_
      rintro e w1 ⟨vp1, rfl, op1, hb⟩
      replace Ra := Aside0.mk ((Ra.out).below hb)
      replace Rb := Aside0.mk ((Rb.out).below hb)
      replace Rc := Aside0.mk ((Rc.out).below hb)
      replace Rone := Aside0.mk ((Rone.out).below hb)
      replace HB := Aside0.mk (below_step (HB.out) hb)
      obtain ⟨Ap1, cp1, ep1, hp1⟩ := Rd.of_R Wp1.out op1
      clear op1
      subst ep1
      have Rp1 := Aside0.mk hp1
      clear hp1
      clear hb
      go_wp2_with fail
      refine (nat_Add.calls _ _ b _ _ a p2 _ (by exact Rb.out.cells) (by exact Rb.out.le) (by exact Ra.out.cells) (by exact Ra.out.le) E2.out).mono ?_
      rintro e w1 ⟨vp2, rfl, op2, hb⟩
      replace Ra := Aside0.mk ((Ra.out).below hb)
      replace Rb := Aside0.mk ((Rb.out).below hb)
      replace Rc := Aside0.mk ((Rc.out).below hb)
      replace Rone := Aside0.mk ((Rone.out).below hb)
      replace Rp1 := Aside0.mk ((Rp1.out).below hb)
      replace HB := Aside0.mk (below_step (HB.out) hb)
      obtain ⟨Ap2, cp2, ep2, hp2⟩ := Rd.of_R Wp2.out op2
      clear op2
      subst ep2
      have Rp2 := Aside0.mk hp2
      clear hp2
      clear hb
      go_wp2_with fail
      refine (tribunalref01_Same.calls k3 _ _ p1 _ _ p2 true _ (by exact Rp1.out.cells) (by exact Rp1.out.le) (by exact Rp2.out.cells) (by exact Rp2.out.le) E3.out).mono ?_
      rintro e w1 ⟨rfl, hd⟩
      have hb := hd.below
      clear hd
      clear Rp1
      clear Rp2
      replace Ra := Aside0.mk ((Ra.out).below hb)
      replace Rb := Aside0.mk ((Rb.out).below hb)
      replace Rc := Aside0.mk ((Rc.out).below hb)
      replace Rone := Aside0.mk ((Rone.out).below hb)
      replace HB := Aside0.mk (below_step (HB.out) hb)
      clear hb
      go_wp2_with fail
      refine (nat_Mul.calls k4 _ _ a _ _ b m1 _ (by exact Ra.out.cells) (by exact Ra.out.le) (by exact Rb.out.cells) (by exact Rb.out.le) E4.out).mono ?_
      rintro e w1 ⟨vm1, rfl, om1, hb⟩
      replace Ra := Aside0.mk ((Ra.out).below hb)
      replace Rb := Aside0.mk ((Rb.out).below hb)
      replace Rc := Aside0.mk ((Rc.out).below hb)
      replace Rone := Aside0.mk ((Rone.out).below hb)
      replace HB := Aside0.mk (below_step (HB.out) hb)
      obtain ⟨Am1, cm1, em1, hm1⟩ := Rd.of_R Wm1.out om1
      clear om1
      subst em1
      have Rm1 := Aside0.mk hm1
      clear hm1
      clear hb
      go_wp2_with fail
      refine (nat_Mul.calls k5 _ _ b _ _ a m2 _ (by exact Rb.out.cells) (by exact Rb.out.le) (by exact Ra.out.cells) (by exact Ra.out.le) E5.out).mono ?_
      rintro e w1 ⟨vm2, rfl, om2, hb⟩
      replace Ra := Aside0.mk ((Ra.out).below hb)
      replace Rb := Aside0.mk ((Rb.out).below hb)
      replace Rc := Aside0.mk ((Rc.out).below hb)
      replace Rone := Aside0.mk ((Rone.out).below hb)
      replace Rm1 := Aside0.mk ((Rm1.out).below hb)
      replace HB := Aside0.mk (below_step (HB.out) hb)
      obtain ⟨Am2, cm2, em2, hm2⟩ := Rd.of_R Wm2.out om2
      clear om2
      subst em2
      have Rm2 := Aside0.mk hm2
      clear hm2
      clear hb
      go_wp2_with fail
      refine (tribunalref01_Same.calls k6 _ _ m1 _ _ m2 true _ (by exact Rm1.out.cells) (by exact Rm1.out.le) (by exact Rm2.out.cells) (by exact Rm2.out.le) E6.out).mono ?_
      rintro e w1 ⟨rfl, hd⟩
      have hb := hd.below
      clear hd
      clear Rm1
      clear Rm2
      replace Ra := Aside0.mk ((Ra.out).below hb)
      replace Rb := Aside0.mk ((Rb.out).below hb)
      replace Rc := Aside0.mk ((Rc.out).below hb)
      replace Rone := Aside0.mk ((Rone.out).below hb)
      replace HB := Aside0.mk (below_step (HB.out) hb)
      clear hb
      go_wp2_with fail
      refine (nat_Add.calls _ _ a _ _ b q1 _ (by exact Ra.out.cells) (by exact Ra.out.le) (by exact Rb.out.cells) (by exact Rb.out.le) E7.out).mono ?_
      rintro e w1 ⟨vq1, rfl, oq1, hb⟩
      replace Ra := Aside0.mk ((Ra.out).below hb)
      replace Rb := Aside0.mk ((Rb.out).below hb)
      replace Rc := Aside0.mk ((Rc.out).below hb)
      replace Rone := Aside0.mk ((Rone.out).below hb)
      replace HB := Aside0.mk (below_step (HB.out) hb)
      obtain ⟨Aq1, cq1, eq1, hq1⟩ := Rd.of_R Wq1.out oq1
      clear oq1
      subst eq1
      have Rq1 := Aside0.mk hq1
      clear hq1
      clear hb
      go_wp2_with fail
      refine (nat_Add.calls _ _ q1 _ _ c q2 _ (by exact Rq1.out.cells) (by exact Rq1.out.le) (by exact Rc.out.cells) (by exact Rc.out.le) E8.out).mono ?_
      rintro e w1 ⟨vq2, rfl, oq2, hb⟩
      clear Rq1
      replace Ra := Aside0.mk ((Ra.out).below hb)
      replace Rb := Aside0.mk ((Rb.out).below hb)
      replace Rc := Aside0.mk ((Rc.out).below hb)
      replace Rone := Aside0.mk ((Rone.out).below hb)
      replace HB := Aside0.mk (below_step (HB.out) hb)
      obtain ⟨Aq2, cq2, eq2, hq2⟩ := Rd.of_R Wq2.out oq2
      clear oq2
      subst eq2
      have Rq2 := Aside0.mk hq2
      clear hq2
      clear hb
      go_wp2_with fail
      refine (nat_Add.calls _ _ b _ _ c q3 _ (by exact Rb.out.cells) (by exact Rb.out.le) (by exact Rc.out.cells) (by exact Rc.out.le) E9.out).mono ?_
      rintro e w1 ⟨vq3, rfl, oq3, hb⟩
      replace Ra := Aside0.mk ((Ra.out).below hb)
      replace Rb := Aside0.mk ((Rb.out).below hb)
      replace Rc := Aside0.mk ((Rc.out).below hb)
      replace Rone := Aside0.mk ((Rone.out).below hb)
      replace Rq2 := Aside0.mk ((Rq2.out).below hb)
      replace HB := Aside0.mk (below_step (HB.out) hb)
      obtain ⟨Aq3, cq3, eq3, hq3⟩ := Rd.of_R Wq3.out oq3
      clear oq3
      subst eq3
      have Rq3 := Aside0.mk hq3
      clear hq3
      clear hb
      go_wp2_with fail
      refine (nat_Add.calls _ _ a _ _ q3 q4 _ (by exact Ra.out.cells) (by exact Ra.out.le) (by exact Rq3.out.cells) (by exact Rq3.out.le) E10.out).mono ?_
      rintro e w1 ⟨vq4, rfl, oq4, hb⟩
      clear Rq3
      replace Ra := Aside0.mk ((Ra.out).below hb)
      replace Rb := Aside0.mk ((Rb.out).below hb)
      replace Rc := Aside0.mk ((Rc.out).below hb)
      replace Rone := Aside0.mk ((Rone.out).below hb)
      replace Rq2 := Aside0.mk ((Rq2.out).below hb)
      replace HB := Aside0.mk (below_step (HB.out) hb)
      obtain ⟨Aq4, cq4, eq4, hq4⟩ := Rd.of_R Wq4.out oq4
      clear oq4
      subst eq4
      have Rq4 := Aside0.mk hq4
      clear hq4
      clear hb
      go_wp2_with fail
      refine (tribunalref01_Same.calls k11 _ _ q2 _ _ q4 true _ (by exact Rq2.out.cells) (by exact Rq2.out.le) (by exact Rq4.out.cells) (by exact Rq4.out.le) E11.out).mono ?_
      rintro e w1 ⟨rfl, hd⟩
      have hb := hd.below
      clear hd
      clear Rq2
      clear Rq4
      replace Ra := Aside0.mk ((Ra.out).below hb)
      replace Rb := Aside0.mk ((Rb.out).below hb)
      replace Rc := Aside0.mk ((Rc.out).below hb)
      replace Rone := Aside0.mk ((Rone.out).below hb)
      replace HB := Aside0.mk (below_step (HB.out) hb)
      clear hb
      go_wp2_with fail
      refine (nat_Mul.calls k12 _ _ a _ _ b r1 _ (by exact Ra.out.cells) (by exact Ra.out.le) (by exact Rb.out.cells) (by exact Rb.out.le) E12.out).mono ?_
      rintro e w1 ⟨vr1, rfl, or1, hb⟩
      replace Ra := Aside0.mk ((Ra.out).below hb)
      replace Rb := Aside0.mk ((Rb.out).below hb)
      replace Rc := Aside0.mk ((Rc.out).below hb)
      replace Rone := Aside0.mk ((Rone.out).below hb)
      replace HB := Aside0.mk (below_step (HB.out) hb)
      obtain ⟨Ar1, cr1, er1, hr1⟩ := Rd.of_R Wr1.out or1
      clear or1
      subst er1
      have Rr1 := Aside0.mk hr1
      clear hr1
      clear hb
      go_wp2_with fail
      refine (nat_Mul.calls k13 _ _ r1 _ _ c r2 _ (by exact Rr1.out.cells) (by exact Rr1.out.le) (by exact Rc.out.cells) (by exact Rc.out.le) E13.out).mono ?_
      rintro e w1 ⟨vr2, rfl, or2, hb⟩
      clear Rr1
      replace Ra := Aside0.mk ((Ra.out).below hb)
      replace Rb := Aside0.mk ((Rb.out).below hb)
      replace Rc := Aside0.mk ((Rc.out).below hb)
      replace Rone := Aside0.mk ((Rone.out).below hb)
      replace HB := Aside0.mk (below_step (HB.out) hb)
      obtain ⟨Ar2, cr2, er2, hr2⟩ := Rd.of_R Wr2.out or2
      clear or2
      subst er2
      have Rr2 := Aside0.mk hr2
      clear hr2
      clear hb
      go_wp2_with fail
      refine (nat_Mul.calls k14 _ _ b _ _ c r3 _ (by exact Rb.out.cells) (by exact Rb.out.le) (by exact Rc.out.cells) (by exact Rc.out.le) E14.out).mono ?_
      rintro e w1 ⟨vr3, rfl, or3, hb⟩
      replace Ra := Aside0.mk ((Ra.out).below hb)
      replace Rb := Aside0.mk ((Rb.out).below hb)
      replace Rc := Aside0.mk ((Rc.out).below hb)
      replace Rone := Aside0.mk ((Rone.out).below hb)
      replace Rr2 := Aside0.mk ((Rr2.out).below hb)
      replace HB := Aside0.mk (below_step (HB.out) hb)
      obtain ⟨Ar3, cr3, er3, hr3⟩ := Rd.of_R Wr3.out or3
      clear or3
      subst er3
      have Rr3 := Aside0.mk hr3
      clear hr3
      clear hb
      go_wp2_with fail
      refine (nat_Mul.calls k15 _ _ a _ _ r3 r4 _ (by exact Ra.out.cells) (by exact Ra.out.le) (by exact Rr3.out.cells) (by exact Rr3.out.le) E15.out).mono ?_
      rintro e w1 ⟨vr4, rfl, or4, hb⟩
      clear Rr3
      replace Ra := Aside0.mk ((Ra.out).below hb)
      replace Rb := Aside0.mk ((Rb.out).below hb)
      replace Rc := Aside0.mk ((Rc.out).below hb)
      replace Rone := Aside0.mk ((Rone.out).below hb)
      replace Rr2 := Aside0.mk ((Rr2.out).below hb)
      replace HB := Aside0.mk (below_step (HB.out) hb)
      obtain ⟨Ar4, cr4, er4, hr4⟩ := Rd.of_R Wr4.out or4
      clear or4
      subst er4
      have Rr4 := Aside0.mk hr4
      clear hr4
      clear hb
      go_wp2_with fail
      refine (tribunalref01_Same.calls k16 _ _ r2 _ _ r4 true _ (by exact Rr2.out.cells) (by exact Rr2.out.le) (by exact Rr4.out.cells) (by exact Rr4.out.le) E16.out).mono ?_
      rintro e w1 ⟨rfl, hd⟩
      have hb := hd.below
      clear hd
      clear Rr2
      clear Rr4
      replace Ra := Aside0.mk ((Ra.out).below hb)
      replace Rb := Aside0.mk ((Rb.out).below hb)
      replace Rc := Aside0.mk ((Rc.out).below hb)
      replace Rone := Aside0.mk ((Rone.out).below hb)
      replace HB := Aside0.mk (below_step (HB.out) hb)
      clear hb
      go_wp2_with fail
      refine (nat_Add.calls _ _ b _ _ c t1 _ (by exact Rb.out.cells) (by exact Rb.out.le) (by exact Rc.out.cells) (by exact Rc.out.le) E17.out).mono ?_
      rintro e w1 ⟨vt1, rfl, ot1, hb⟩
      replace Ra := Aside0.mk ((Ra.out).below hb)
      replace Rb := Aside0.mk ((Rb.out).below hb)
      replace Rc := Aside0.mk ((Rc.out).below hb)
      replace Rone := Aside0.mk ((Rone.out).below hb)
      replace HB := Aside0.mk (below_step (HB.out) hb)
      obtain ⟨At1, ct1, et1, ht1⟩ := Rd.of_R Wt1.out ot1
      clear ot1
      subst et1
      have Rt1 := Aside0.mk ht1
      clear ht1
      clear hb
      go_wp2_with fail
      refine (nat_Mul.calls k18 _ _ a _ _ t1 t2 _ (by exact Ra.out.cells) (by exact Ra.out.le) (by exact Rt1.out.cells) (by exact Rt1.out.le) E18.out).mono ?_
      rintro e w1 ⟨vt2, rfl, ot2, hb⟩
      clear Rt1
      replace Ra := Aside0.mk ((Ra.out).below hb)
      replace Rb := Aside0.mk ((Rb.out).below hb)
      replace Rc := Aside0.mk ((Rc.out).below hb)
      replace Rone := Aside0.mk ((Rone.out).below hb)
      replace HB := Aside0.mk (below_step (HB.out) hb)
      obtain ⟨At2, ct2, et2, ht2⟩ := Rd.of_R Wt2.out ot2
      clear ot2
      subst et2
      have Rt2 := Aside0.mk ht2
      clear ht2
      clear hb
      go_wp2_with fail
      refine (nat_Mul.calls k19 _ _ a _ _ b t3 _ (by exact Ra.out.cells) (by exact Ra.out.le) (by exact Rb.out.cells) (by exact Rb.out.le) E19.out).mono ?_
      rintro e w1 ⟨vt3, rfl, ot3, hb⟩
      clear Rb
      replace Ra := Aside0.mk ((Ra.out).below hb)
      replace Rc := Aside0.mk ((Rc.out).below hb)
      replace Rone := Aside0.mk ((Rone.out).below hb)
      replace Rt2 := Aside0.mk ((Rt2.out).below hb)
      replace HB := Aside0.mk (below_step (HB.out) hb)
      obtain ⟨At3, ct3, et3, ht3⟩ := Rd.of_R Wt3.out ot3
      clear ot3
      subst et3
      have Rt3 := Aside0.mk ht3
      clear ht3
      clear hb
      go_wp2_with fail
      refine (nat_Mul.calls k20 _ _ a _ _ c t4 _ (by exact Ra.out.cells) (by exact Ra.out.le) (by exact Rc.out.cells) (by exact Rc.out.le) E20.out).mono ?_
      rintro e w1 ⟨vt4, rfl, ot4, hb⟩
      clear Rc
      replace Ra := Aside0.mk ((Ra.out).below hb)
      replace Rone := Aside0.mk ((Rone.out).below hb)
      replace Rt2 := Aside0.mk ((Rt2.out).below hb)
      replace Rt3 := Aside0.mk ((Rt3.out).below hb)
      replace HB := Aside0.mk (below_step (HB.out) hb)
      obtain ⟨At4, ct4, et4, ht4⟩ := Rd.of_R Wt4.out ot4
      clear ot4
      subst et4
      have Rt4 := Aside0.mk ht4
      clear ht4
      clear hb
      go_wp2_with fail
      refine (nat_Add.calls _ _ t3 _ _ t4 t5 _ (by exact Rt3.out.cells) (by exact Rt3.out.le) (by exact Rt4.out.cells) (by exact Rt4.out.le) E21.out).mono ?_
      rintro e w1 ⟨vt5, rfl, ot5, hb⟩
      clear Rt3
      clear Rt4
      replace Ra := Aside0.mk ((Ra.out).below hb)
      replace Rone := Aside0.mk ((Rone.out).below hb)
      replace Rt2 := Aside0.mk ((Rt2.out).below hb)
      replace HB := Aside0.mk (below_step (HB.out) hb)
      obtain ⟨At5, ct5, et5, ht5⟩ := Rd.of_R Wt5.out ot5
      clear ot5
      subst et5
      have Rt5 := Aside0.mk ht5
      clear ht5
      clear hb
      go_wp2_with fail
      refine (tribunalref01_Same.calls k22 _ _ t2 _ _ t5 true _ (by exact Rt2.out.cells) (by exact Rt2.out.le) (by exact Rt5.out.cells) (by exact Rt5.out.le) E22.out).mono ?_
      rintro e w1 ⟨rfl, hd⟩
      have hb := hd.below
      clear hd
      clear Rt2
      clear Rt5
      replace Ra := Aside0.mk ((Ra.out).below hb)
      replace Rone := Aside0.mk ((Rone.out).below hb)
      replace HB := Aside0.mk (below_step (HB.out) hb)
      clear hb
      go_wp2_with fail
      refine (nat_Add.calls _ _ a _ _ [] u1 _ (by exact Ra.out.cells) (by exact Ra.out.le) (by exact (Rd.nil _).cells) (by simp) E23.out).mono ?_
      rintro e w1 ⟨vu1, rfl, ou1, hb⟩
      replace Ra := Aside0.mk ((Ra.out).below hb)
      replace Rone := Aside0.mk ((Rone.out).below hb)
      replace HB := Aside0.mk (below_step (HB.out) hb)
      obtain ⟨Au1, cu1, eu1, hu1⟩ := Rd.of_R Wu1.out ou1
      clear ou1
      subst eu1
      have Ru1 := Aside0.mk hu1
      clear hu1
      clear hb
      go_wp2_with fail
      refine (nat_Norm.calls k24 _ _ a u2 _ (by exact Ra.out.cells) (by exact Ra.out.le) E24.out).mono ?_
      rintro e w1 ⟨vu2, rfl, ou2, hb⟩
      replace Ra := Aside0.mk ((Ra.out).below hb)
      replace Rone := Aside0.mk ((Rone.out).below hb)
      replace Ru1 := Aside0.mk ((Ru1.out).below hb)
      replace HB := Aside0.mk (below_step (HB.out) hb)
      obtain ⟨Au2, cu2, eu2, hu2⟩ := Rd.of_R Wu2.out ou2
      clear ou2
      subst eu2
      have Ru2 := Aside0.mk hu2
      clear hu2
      clear hb
      go_wp2_with fail
      refine (tribunalref01_Same.calls k25 _ _ u1 _ _ u2 true _ (by exact Ru1.out.cells) (by exact Ru1.out.le) (by exact Ru2.out.cells) (by exact Ru2.out.le) E25.out).mono ?_
      rintro e w1 ⟨rfl, hd⟩
      have hb := hd.below
      clear hd
      clear Ru1
      clear Ru2
      replace Ra := Aside0.mk ((Ra.out).below hb)
      replace Rone := Aside0.mk ((Rone.out).below hb)
      replace HB := Aside0.mk (below_step (HB.out) hb)
      clear hb
      go_wp2_with fail
      refine (nat_Mul.calls k26 _ _ a _ _ one v1 _ (by exact Ra.out.cells) (by exact Ra.out.le) (by exact Rone.out.cells) (by exact Rone.out.le) E26.out).mono ?_
      rintro e w1 ⟨vv1, rfl, ov1, hb⟩
      clear Rone
      replace Ra := Aside0.mk ((Ra.out).below hb)
      replace HB := Aside0.mk (below_step (HB.out) hb)
      obtain ⟨Av1, cv1, ev1, hv1⟩ := Rd.of_R Wv1.out ov1
      clear ov1
      subst ev1
      have Rv1 := Aside0.mk hv1
      clear hv1
      clear hb
      go_wp2_with fail
      refine (nat_Norm.calls k27 _ _ a v2 _ (by exact Ra.out.cells) (by exact Ra.out.le) E27.out).mono ?_
      rintro e w1 ⟨vv2, rfl, ov2, hb⟩
      replace Ra := Aside0.mk ((Ra.out).below hb)
      replace Rv1 := Aside0.mk ((Rv1.out).below hb)
      replace HB := Aside0.mk (below_step (HB.out) hb)
      obtain ⟨Av2, cv2, ev2, hv2⟩ := Rd.of_R Wv2.out ov2
      clear ov2
      subst ev2
      have Rv2 := Aside0.mk hv2
      clear hv2
      clear hb
      go_wp2_with fail
      refine (tribunalref01_Same.calls k28 _ _ v1 _ _ v2 true _ (by exact Rv1.out.cells) (by exact Rv1.out.le) (by exact Rv2.out.cells) (by exact Rv2.out.le) E28.out).mono ?_
      rintro e w1 ⟨rfl, hd⟩
      have hb := hd.below
      clear hd
      clear Rv1
      clear Rv2
      replace Ra := Aside0.mk ((Ra.out).below hb)
      replace HB := Aside0.mk (below_step (HB.out) hb)
      clear hb
      go_wp2_with fail
      refine (nat_Mul.calls k29 _ _ a _ _ [] n1 _ (by exact Ra.out.cells) (by exact Ra.out.le) (by exact (Rd.nil _).cells) (by simp) E29.out).mono ?_
      rintro e w1 ⟨vn1, rfl, on1, hb⟩
      clear Ra
      replace HB := Aside0.mk (below_step (HB.out) hb)
      obtain ⟨An1, cn1, en1, hn1⟩ := Rd.of_R Wn1.out on1
      clear on1
      subst en1
      have Rn1 := Aside0.mk hn1
      clear hn1
      clear hb
      rw [L0]
      go_wp2_with fail
      go_ret
      exact ⟨rfl, HB.out⟩

/-- the printed form's premise: nothing is left of it here -/
def tribunallaw01_NatRing.Pure : Prop := True
theorem tribunallaw01_NatRing.walk (P : tribunallaw01_NatRing.Pure) (a0 : Option Addr) (len0 cap0 : Nat) (z0 : List Int) (a1 : Option Addr) (len1 cap1 : Nat) (z1 : List Int) (a2 : Option Addr) (len2 cap2 : Nat) (z2 : List Int) (w : World) (w0 : (a0 = none ∧ len0 = 0 ∧ cap0 = 0 ∧ z0 = []) ∨ ∃ x, a0 = some x ∧ len0 ≤ cap0 ∧ cap0 ≤ maxLen ∧ z0.length = cap0 ∧ (∀ i, i < z0.length → w.cell? (x.add i) = some (.int .u32 (z0.getD i 0))) ∧ ∀ n ∈ z0, (Lit.int .u32 n).wf = true) (y0 : len0 * 4 ≤ 140737488351232) (w1 : (a1 = none ∧ len1 = 0 ∧ cap1 = 0 ∧ z1 = []) ∨ ∃ x, a1 = some x ∧ len1 ≤ cap1 ∧ cap1 ≤ maxLen ∧ z1.length = cap1 ∧ (∀ i, i < z1.length → w.cell? (x.add i) = some (.int .u32 (z1.getD i 0))) ∧ ∀ n ∈ z1, (Lit.int .u32 n).wf = true) (y1 : len1 * 4 ≤ 140737488351232) (w2 : (a2 = none ∧ len2 = 0 ∧ cap2 = 0 ∧ z2 = []) ∨ ∃ x, a2 = some x ∧ len2 ≤ cap2 ∧ cap2 ≤ maxLen ∧ z2.length = cap2 ∧ (∀ i, i < z2.length → w.cell? (x.add i) = some (.int .u32 (z2.getD i 0))) ∧ ∀ n ∈ z2, (Lit.int .u32 n).wf = true) (y2 : len2 * 4 ≤ 140737488351232) :
    Calls Try.prog 4 #[.slice a0 len0 cap0, .slice a1 len1 cap1, .slice a2 len2 cap2] w fun e w' => e = .returned (.bool true) ∧ Below w.heap.size w w' := by
  obtain ⟨l0, rfl, hr0, hm0, hw0, hc0⟩ := ReadsInt.ofRowC w0
  obtain ⟨l1, rfl, hr1, hm1, hw1, hc1⟩ := ReadsInt.ofRowC w1
  obtain ⟨l2, rfl, hr2, hm2, hw2, hc2⟩ := ReadsInt.ofRowC w2
  exact tribunallaw01_NatRing.calls _ _ l0 _ _ l1 _ _ l2 w ⟨wfL_of hw0, hc0, Kd.C_of_reads (d := (0 : Int)) (h1 := fun _ => rfl) hr0⟩ ⟨wfL_of hw1, hc1, Kd.C_of_reads (d := (0 : Int)) (h1 := fun _ => rfl) hr1⟩ ⟨wfL_of hw2, hc2, Kd.C_of_reads (d := (0 : Int)) (h1 := fun _ => rfl) hr2⟩
end Go.Proofs.Ytfjcloflebghhaa.G
