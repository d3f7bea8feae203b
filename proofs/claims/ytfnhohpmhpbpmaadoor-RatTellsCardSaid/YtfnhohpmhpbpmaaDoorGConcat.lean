/- slices.Concat at []uint32 hands back a slice in new memory with all elements, one behind the other; condition: fewer than 2^44 in all, and fewer than 2^40 slices. -/
import Derived.Test.YtfnhohpmhpbpmaaDoorGx0
import Derived.Lib.Hide
import Derived.WalkLawsBesides
namespace Go.Proofs.YtfnhohpmhpbpmaaDoor.G
open Go.RowKit Go.Proofs.YtfnhohpmhpbpmaaDoorW.PrintWords Go.Proofs.YtfnhohpmhpbpmaaDoorW.PrintLast Go.Proofs.YtfnhohpmhpbpmaaDoorW.PrintMore

set_option maxHeartbeats 1600000 in
set_option maxRecDepth 100000 in
theorem slices_Grow_nil (n : Nat) (w : World) (hn : n < 17592186044416) :
    Calls Tryd.prog 105 #[.slice none 0 0, .int .i64 (n : Int)] w fun e w' => ∃ v : Value, e = .returned v ∧ Kd.R (Kd.int .u32) 71 w' w.heap.size (fun _ => True) v [] ∧ Below w.heap.size w w' := by
  by_cases h0 : n = 0
  · subst h0
    go_enter Tryd.func105, Tryd.ntmps105
    go_wp2
    go_ret
    exact ⟨_, rfl, Kd.R_nil _ _ _ _ _, Below.refl _ _⟩
  · have hp : 0 < n := by omega
    clear h0
    go_enter Tryd.func105, Tryd.ntmps105
    have KEY := Aside0.mk (fun (v1 : Value) (w1 : World) (h : Kd.R (Kd.int .u32) 71 w1 w.heap.size (fun _ => True) v1 (([] : List Int) ++ List.replicate ((n : Int)).toNat 0)) =>
      show ∃ (g cap : Nat), v1 = .slice (some ⟨g, 0, none⟩) n cap ∧ Kd.R (Kd.int .u32) 71 w1 w.heap.size (fun _ => True) (.slice (some ⟨g, 0, none⟩) 0 cap) [] from by
        obtain ⟨g, cap, e, _⟩ := Kd.R_form h (by simp; omega)
        refine ⟨g, cap, by rw [e]; simp, ?_⟩
        subst e
        have := Kd.R_take (m := 0) h (by omega)
        simpa using this)
    go_wp2_with (first | ((with_reducible refine gate_builtin (b := .append) (xs := #[.tmp 20, .tmp 21]) rfl ?_); at_builtin; refine Kd.R_append_zeros (Kd.int .u32) (w0 := w) w.heap.size rfl (.tmp 20) (.tmp 21) 39 3 71 (.int .u32 0) 4 rfl Tryd.underlying39 (k := .i64) Tryd.underlying3 info71 rfl (by decide) (by omega) (.slice none 0 0) ([] : List Int) 0 (n : Int) (fun _ => True) rfl rfl rfl (fun _ _ => trivial) (Kd.R_nil _ _ _ _ _) (by omega) (Below.refl _ _) (Nat.le_refl _) (by simp; omega) ?_; intro v1 w1 h1 hb1 hg_ hat_; clear hg_ hat_; obtain ⟨g, cap, e1, hr1⟩ := KEY.out v1 w1 h1; subst e1; have HR1 := Aside0.mk hr1; have HB1 := Aside0.mk hb1; clear h1 hb1 hr1))
    go_ret
    exact ⟨_, rfl, HR1.out, HB1.out⟩

def slices_Concat_uint32_uint32.f (l0 : List (List Int)) : Option (List Int) :=
  if l0.flatten.length < 17592186044416 ∧ l0.length ≤ 1099511627776 then some l0.flatten else none
def lenTo (l0 : List (List Int)) (k : Nat) : Nat := (l0.take k).flatten.length
theorem lenTo_le (l0 : List (List Int)) (k : Nat) : lenTo l0 k ≤ l0.flatten.length := by
  unfold lenTo
  have h := congrArg (fun l => (List.flatten l).length) (List.take_append_drop k l0)
  simp only [List.flatten_append, List.length_append] at h
  omega
theorem take_succ_rd (l0 : List (List Int)) (k : Nat) (h : k < l0.length) : (l0.take (k + 1)).flatten = (l0.take k).flatten ++ rd_L1 l0 (k : Int) := by
  rw [List.take_succ_eq_append_getElem h, List.flatten_append]
  simp [rd_L1, List.getElem?_eq_getElem h]
theorem lenTo_succ (l0 : List (List Int)) (k : Nat) (h : k < l0.length) : lenTo l0 (k + 1) = lenTo l0 k + (rd_L1 l0 (k : Int)).length := by
  unfold lenTo; rw [take_succ_rd l0 k h, List.length_append]

set_option maxHeartbeats 1600000 in
set_option maxRecDepth 100000 in
theorem slices_Concat_uint32_uint32.calls (A0 : Option Addr) (c0 : Nat) (l0 : List (List Int)) (r : List Int) (w : World) (hr0 : Kd.C (Kd.slice 71 (Kd.int .u32)) w A0 l0.length l0) (hc0 : l0.length ≤ c0) (h : slices_Concat_uint32_uint32.f l0 = some r) :
    Calls Tryd.prog 96 #[.slice A0 l0.length c0] w fun e w' => ∃ v0_ : Value, e = .returned (v0_) ∧ Kd.R (Kd.int .u32) 71 w' w.heap.size (fun _ => True) v0_ r ∧ Below w.heap.size w w' := by
  unfold slices_Concat_uint32_uint32.f at h
  by_cases hc : l0.flatten.length < 17592186044416 ∧ l0.length ≤ 1099511627776
  case neg => rw [if_neg hc] at h; cases h
  rw [if_pos hc] at h
  obtain rfl := Option.some.inj h
  clear h
  obtain ⟨hb, hn⟩ := hc
  have LT := Aside0.mk (fun k => show lenTo l0 k < 17592186044416 from Nat.lt_of_le_of_lt (lenTo_le l0 k) hb)
  have HR := Aside0.mk hr0
  clear hr0 hb
  go_enter Tryd.func96, Tryd.ntmps96
  go_wp2_with fail
  go_loop [3, 11] (fun s3 s11 => ∃ k : Nat, k ≤ l0.length ∧ s3 = .int .i64 (lenTo l0 k : Nat) ∧ s11 = .int .i64 (k : Int)) (fun _ s11 => l0.length - (intOf s11).toNat)
  case atStart => exact ⟨0, Nat.zero_le _, by simp [lenTo], rfl⟩
  case round =>
    obtain ⟨k, hk, rfl, rfl⟩ := hrel
    by_cases hlt : k < l0.length
    · have b1 := LT.out k
      have b2 := LT.out (k + 1)
      rw [lenTo_succ l0 k hlt] at b2
      have HS := Aside0.mk (lenTo_succ l0 k hlt)
      obtain ⟨ad, Ak, ck, ea, hcell, hle, hC⟩ := at_L1 HR.out (k : Int) (by omega) (by omega)
      subst ea
      rw [Int.toNat_natCast] at hcell
      have HC := Aside0.mk hC
      clear hC
      go_wp2_with fail
      refine ⟨⟨k + 1, by omega, by rw [HS.out]; go_num, by go_num⟩, by simp [intOf]; omega⟩
    · have hkn : k = l0.length := by omega
      subst hkn
      have GR := Aside0.mk (slices_Grow_nil (lenTo l0 l0.length) w (LT.out _))
      go_wp2_with fail
      refine GR.out.mono ?_
      rintro e w1 ⟨v, rfl, hv, hb⟩
      have HV := Aside0.mk hv
      have HB := Aside0.mk hb
      clear hv hb
      go_wp2_with fail
      go_loopw [6, 27] (fun s6 s27 wr => ∃ k : Nat, k ≤ l0.length ∧ s27 = .int .i64 (k : Int) ∧ Aside0 (Kd.R (Kd.int .u32) 71 wr w.heap.size (fun _ => True) s6 (l0.take k).flatten) ∧ Aside0 (Below w.heap.size w wr)) (fun _ s27 _ => l0.length - (intOf s27).toNat)
      case atStart => exact ⟨0, Nat.zero_le _, rfl, ⟨by simpa using HV.out⟩, HB⟩
      case round =>
        obtain ⟨k, hk, rfl, HO, HB⟩ := hrel
        by_cases hlt : k < l0.length
        · obtain ⟨ad, Ak, ck, ea, hcell, hle, hC⟩ := at_L1 HR.out (k : Int) (by omega) (by omega)
          subst ea
          rw [Int.toNat_natCast] at hcell
          replace hcell := (HB.out.cell (World.block_lt_of_cell? w _ hcell)).trans hcell
          have HC := Aside0.mk (Kd.C_below hC HB.out)
          have LM := Aside0.mk (show (l0.take k).flatten.length + (rd_L1 l0 (k : Int)).length < 17592186044416 by have := LT.out (k + 1); rw [lenTo_succ l0 k hlt] at this; exact this)
          have TS := Aside0.mk (take_succ_rd l0 k hlt)
          clear hC
          go_wp2_with (first | ((with_reducible refine gate_builtin (b := .append) (xs := #[.tmp 31, .tmp 32]) rfl ?_); at_builtin; refine Kd.R_append_rows (Kd.int .u32) (w0 := w) w.heap.size rfl (.tmp 31) (.tmp 32) 39 71 (.int .u32 0) 4 rfl Tryd.underlying39 info71 rfl (by decide) (by omega) _ (l0.take k).flatten (rd_L1 l0 (k : Int)) _ _ _ (fun _ => True) (fun _ => False) rfl rfl ?aO ?aR (fun _ _ h => h) (fun _ h => h.elim) ?aF ?aB ?aS ?aL ?_; (case aR => exact HC.out); (case aB => exact HB.out); (case aF => exact (fun _ _ => trivial)); (case aO => exact HO.out); (case aS => exact HB.out.size); (case aL => have := LM.out; omega); intro v2 w2 ho hb hg hat; rw [← TS.out] at ho; have HB2 := Aside0.mk hb; have HO2 := Aside0.mk ho; clear ho hb hg hat))
          refine ⟨⟨k + 1, by omega, by go_num, HO2, HB2⟩, by simp [intOf]; omega⟩
        · have hkn : k = l0.length := by omega
          subst hkn
          go_wp2_with fail
          go_ret
          exact ⟨_, rfl, by have := HO.out; rwa [List.take_length] at this, HB.out⟩

end Go.Proofs.YtfnhohpmhpbpmaaDoor.G
