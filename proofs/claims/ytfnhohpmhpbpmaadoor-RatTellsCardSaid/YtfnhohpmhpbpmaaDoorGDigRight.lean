/- tribunal/digits.Right tells whether a text is a number's decimals. Condition: none. -/
import Derived.Test.YtfnhohpmhpbpmaaDoorGx0
import Derived.Test.YtfnhohpmhpbpmaaDoorGDigMath
import Derived.WalkKit
import Derived.WalkSpells
import Derived.Deep.LoopGhost
import Derived.Lib.OthersKept
import Derived.WalkSmall
namespace Go.Proofs.YtfnhohpmhpbpmaaDoor.G
open Go.RowKit Go.Proofs.YtfnhohpmhpbpmaaDoorW.PrintWords Go.Proofs.YtfnhohpmhpbpmaaDoorW.PrintLast Go.Proofs.YtfnhohpmhpbpmaaDoorW.PrintMore

theorem decode_one (s : ByteArray) (p : Nat) (h : p < s.size) : ((Utf8.decode s p).1 < 48 ∨ 57 < (Utf8.decode s p).1 → isDig ((bytesN s).getD p 0) = false) ∧ (¬ (Utf8.decode s p).1 < 48 → ¬ 57 < (Utf8.decode s p).1 → isDig ((bytesN s).getD p 0) = true ∧ (Utf8.decode s p).2 = 1) := by
  have e := bytesN_get s p h
  rw [e]
  unfold isDig
  by_cases ha : (s[p]'h).toNat < 128
  · rw [decode_ascii s p h ha]
    simp
    omega
  · have := decode_high s p h (by omega)
    simp
    omega
def digits_Right.f (a0 : ByteArray) : Option Bool := if a0.size ≤ 4611686018427387904 then some (rightS a0) else none
set_option maxHeartbeats 2000000 in
set_option maxRecDepth 100000 in
theorem digits_Right.calls (a0 : ByteArray) (r : Bool) (w : World) (h : digits_Right.f a0 = some r) : Calls Tryd.prog 55 #[.string a0] w fun e w' => e = .returned (.bool r) ∧ Below w.heap.size w w' := by
  have hsz : a0.size ≤ 4611686018427387904 := by
    unfold digits_Right.f at h
    split at h
    · assumption
    · exact absurd h (by simp)
  have hr : r = rightS a0 := by
    unfold digits_Right.f at h
    rw [if_pos hsz] at h
    exact (Option.some.inj h).symm
  clear h
  go_enter Tryd.func55, Tryd.ntmps55
  go_wp2
  go_loopw [4] (fun v wr => ∃ (pos : Nat), wr.heap[w.heap.size]? = some (.stringIter a0 pos) ∧ Below w.heap.size w wr ∧ pos ≤ a0.size ∧ (bytesN a0).all isDig = ((bytesN a0).drop pos).all isDig) (fun _ wr => a0.size - wr.iterPos w.heap.size)
  case atStart => exact ⟨0, World.iter_heap w a0 0, (Below.refl _ _).alloc (Nat.le_refl _) _, Nat.zero_le _, rfl⟩
  case round =>
    obtain ⟨pos, hit, hbw, hpl, hall⟩ := hrel
    have hpos0 := iterPos_of hit
    by_cases hp : pos < a0.size
    · have hnx : ∀ ty, (Instr.next (.pointer (some ⟨w.heap.size, 0, none⟩)) true ty).run Tryd.prog wr = _ := fun ty => Lib.run_next_any_at wr w.heap.size a0 pos ty hit hp
      have D1 := decode_one a0 pos hp
      have hit2 := Lib.iterAt_heap wr w.heap.size a0 pos (pos + (Utf8.decode a0 pos).2) hit
      have hbw2 := Lib.below_iterAt hbw (k := w.heap.size) (Nat.le_refl _) a0 (pos + (Utf8.decode a0 pos).2)
      obtain ⟨W1, hW1⟩ : ∃ W1, W1 = wr.iterAt w.heap.size a0 (pos + (Utf8.decode a0 pos).2) := ⟨_, rfl⟩
      rw [← hW1] at hnx hit2 hbw2
      obtain ⟨c, hc⟩ : ∃ c, c = (Utf8.decode a0 pos).1 := ⟨_, rfl⟩
      rw [← hc] at hnx D1
      clear hW1 hit hbw hc
      have hlen := bytesN_length a0
      by_cases hbad : c < 48 ∨ 57 < c
      · have hrf : r = false := by
          rw [hr, rightS, rightL, hall, all_drop (by omega), D1.1 hbad]
          rfl
        subst hrf
        rcases hbad with hlo | hhi
        · have hlo2 : (c : Int) < 48 := by omega
          go_wp2
          go_ret
          exact ⟨rfl, hbw2⟩
        · have hlo2 : ¬ (c : Int) < 48 := by omega
          have hhi2 : (57 : Int) < (c : Int) := by omega
          go_wp2
          go_ret
          exact ⟨rfl, hbw2⟩
      · have hlo2 : ¬ (c : Int) < 48 := by omega
        have hhi2 : ¬ (57 : Int) < (c : Int) := by omega
        obtain ⟨D2, D3⟩ := D1.2 (by omega) (by omega)
        rw [D3] at hit2
        go_wp2
        go_roundw
        case rel => exact ⟨pos + 1, hit2, hbw2, by omega, by rw [hall, all_drop (by omega), D2]; rfl⟩
        case measure => rw [iterPos_of hit2, hpos0]; omega
    · have hnx : ∀ ty, (Instr.next (.pointer (some ⟨w.heap.size, 0, none⟩)) true ty).run Tryd.prog wr = _ := fun ty => Lib.run_next_end_at wr w.heap.size a0 pos ty hit hp
      have hlen := bytesN_length a0
      rw [List.drop_eq_nil_of_le (by omega)] at hall
      by_cases hsz1 : 0 < a0.size
      · have hrv : r = (a0.toList == [48] || !a0.toList.isEmpty && (((a0[0]'hsz1).toNat : Int) != 48)) := by
          rw [hr, rightS, rightL, hall, hlen, decide_eq_true hsz1, bytesN_get a0 0 hsz1, Go.ByteArray.toList_eq]
          have e1 : (a0.data.toList == [48]) = decide (bytesN a0 = [48]) := by
            rw [Bool.eq_iff_iff, beq_iff_eq, decide_eq_true_iff]
            exact (List.map_inj_right (f := UInt8.toNat) (l' := ([48] : List UInt8)) (fun x y h => UInt8.toNat_inj.1 h)).symm
          have e2 : a0.data.toList.isEmpty = false := by
            cases h : a0.data.toList with
            | nil => exact absurd (show a0.size = 0 from congrArg List.length h) (by omega)
            | cons x l => rfl
          rw [e1, e2, show (((a0[0]'hsz1).toNat : Int) != 48) = decide ((a0[0]'hsz1).toNat ≠ 48) from by rw [Bool.eq_iff_iff, bne_iff_ne, decide_eq_true_iff]; omega]
          rfl
        clear hr
        go_wp2
        all_goals (go_ret; exact ⟨by subst hrv; first | rfl | (simp [‹a0.toList = [48]›]; done) | (simp [‹¬a0.toList = [48]›, ‹a0.toList = []›]; done), hbw⟩)
      · have he : a0 = ⟨#[]⟩ := by
          cases a0
          rename_i d
          have : d = #[] := Array.size_eq_zero_iff.1 (by simp only [ByteArray.size] at hsz1; omega)
          rw [this]
        have hrf : r = false := by
          rw [hr, he]
          rfl
        subst hrf
        clear hr
        subst he
        go_wp2
        all_goals (go_ret; exact ⟨rfl, hbw⟩)
end Go.Proofs.YtfnhohpmhpbpmaaDoor.G
