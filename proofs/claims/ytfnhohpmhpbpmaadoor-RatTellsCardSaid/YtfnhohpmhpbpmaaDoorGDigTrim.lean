/- strings.TrimLeft with the one character "0" to be cut hands back the text without the noughts at its head. Condition: that cutset alone; texts shorter than 2^62. -/
import Derived.Test.YtfnhohpmhpbpmaaDoorGx0
import Derived.Test.YtfnhohpmhpbpmaaDoorGx1
import Derived.Test.YtfnhohpmhpbpmaaDoorGDigMath
import Derived.WalkSpells
import Derived.Lib.IndexBytes
import Derived.Lib.Hide
namespace Go.Proofs.YtfnhohpmhpbpmaaDoor.G
open Go.RowKit Go.Proofs.YtfnhohpmhpbpmaaDoorW.PrintWords Go.Proofs.YtfnhohpmhpbpmaaDoorW.PrintLast Go.Proofs.YtfnhohpmhpbpmaaDoorW.PrintMore

/-- A text without the noughts at its head. -/
def trimZ (s : ByteArray) : ByteArray := ⟨(s.data.toList.dropWhile (fun c => c == 48)).toArray⟩
theorem bytesN_mk (l : List UInt8) : bytesN ⟨l.toArray⟩ = l.map UInt8.toNat := rfl
theorem bytesN_trimZ (s : ByteArray) : bytesN (trimZ s) = (bytesN s).dropWhile (fun c => c == 48) := by
  unfold trimZ
  rw [bytesN_mk, bytesN]
  induction s.data.toList with
  | nil => rfl
  | cons c l ih =>
    rw [List.map_cons, List.dropWhile_cons, List.dropWhile_cons]
    have e : (c.toNat == 48) = (c == 48) := by
      rw [Bool.eq_iff_iff, beq_iff_eq, beq_iff_eq]
      exact ⟨fun h => UInt8.toNat_inj.1 h, fun h => by rw [h]; rfl⟩
    rw [e]
    split
    · exact ih
    · rfl
theorem trim_ev (n : Nat) : ∀ s : ByteArray, s.size ≤ n → Ev (fun k => strings_trimLeftByte.l0 k s 48) (trimZ s) := by
  induction n with
  | zero =>
    intro s hs
    refine Ev.some_ fun k => ?_
    simp only [strings_trimLeftByte.l0]
    rw [if_neg (by omega)]
    refine congrArg some (bytesN_inj.1 ?_)
    rw [bytesN_trimZ, List.eq_nil_of_length_eq_zero (show (bytesN s).length = 0 by rw [bytesN_length]; omega)]
    rfl
  | succ n ih =>
    intro s hs
    by_cases h0 : 0 < s.size
    · have hl := bytesN_length s
      have hb := bt_nat s 0
      have hd : bytesN s = (bytesN s).getD 0 0 :: (bytesN s).drop 1 := by
        cases h : bytesN s with
        | nil => rw [h] at hl; simp at hl; omega
        | cons c l => rfl
      have hx : bytesN (s.extract 1 s.size) = (bytesN s).drop 1 := by
        unfold bytesN
        rw [Go.Lib.extract_to_end, List.map_drop]
      by_cases hc : (bytesN s).getD 0 0 = 48
      · have e : trimZ s = trimZ (s.extract 1 s.size) := bytesN_inj.1 (by
          rw [bytesN_trimZ, bytesN_trimZ, hx, hd, hc]
          rfl)
        rw [e]
        refine Ev.step (fun k => ?_) (ih (s.extract 1 s.size) (by rw [← bytesN_length, hx, List.length_drop]; omega))
        simp only [strings_trimLeftByte.l0]
        rw [if_pos (by omega), if_pos (by omega), if_pos (by rw [show bt s 0 = _ from hb, hc]; rfl), if_pos (by omega)]
      · refine Ev.some_ fun k => ?_
        simp only [strings_trimLeftByte.l0]
        rw [if_pos (by omega), if_pos (by omega), if_neg (by rw [show bt s 0 = _ from hb]; omega)]
        refine congrArg some (bytesN_inj.1 ?_)
        rw [bytesN_trimZ, hd, List.dropWhile_cons]
        simp only [beq_iff_eq]
        rw [if_neg hc]
    · refine Ev.some_ fun k => ?_
      simp only [strings_trimLeftByte.l0]
      rw [if_neg (by omega)]
      refine congrArg some (bytesN_inj.1 ?_)
      rw [bytesN_trimZ, List.eq_nil_of_length_eq_zero (show (bytesN s).length = 0 by rw [bytesN_length]; omega)]
      rfl
def strings_TrimLeft.f (a0 a1 : ByteArray) : Option ByteArray := if a1.toList = [48] then some (trimZ a0) else none
set_option maxHeartbeats 1000000 in
set_option maxRecDepth 100000 in
theorem strings_TrimLeft.calls (a0 a1 : ByteArray) (r : ByteArray) (w : World) (h : strings_TrimLeft.f a0 a1 = some r) : Calls Tryd.prog 76 #[.string a0, .string a1] w fun e w' => e = .returned (.string r) ∧ Drawn0 w w' := by
  unfold strings_TrimLeft.f at h
  by_cases hc : a1.toList = [48]
  case neg => rw [if_neg hc] at h; cases h
  rw [if_pos hc] at h
  obtain rfl := Option.some.inj h
  clear h
  have ha1 : a1 = ⟨#[48]⟩ := bytesN_inj.1 (by unfold bytesN; rw [← Go.ByteArray.toList_eq, hc])
  subst ha1
  clear hc
  by_cases h0 : 0 < a0.size
  · obtain ⟨k, hk⟩ := (trim_ev a0.size a0 (Nat.le_refl _)).rounds
    have h1 : ¬ a0.toList = [] := fun h => by
      rw [Go.ByteArray.toList_eq] at h
      exact absurd (show a0.size = 0 from congrArg List.length h) (by omega)
    have hE : a0.toList.isEmpty = false := by rw [List.isEmpty_eq_false_iff]; exact h1
    obtain ⟨z, hz⟩ : ∃ z, z = trimZ a0 := ⟨_, rfl⟩
    rw [← hz] at hk ⊢
    have HK := Aside0.mk (show strings_trimLeftByte.f k a0 48 = some z from hk)
    clear hk hz
    go_enter Tryd.func76, Tryd.ntmps76
    go_wp2_with fail
    refine (strings_trimLeftByte.calls k a0 48 z _ HK.out).mono ?_
    rintro e w1 ⟨rfl, hd⟩
    go_wp2_with fail
    go_ret
    exact ⟨rfl, hd⟩
  · have he : a0 = ⟨#[]⟩ := bytesN_inj.1 (by rw [List.eq_nil_of_length_eq_zero (show (bytesN a0).length = 0 by rw [bytesN_length]; omega)]; rfl)
    subst he
    have hz : trimZ (⟨#[]⟩ : ByteArray) = ⟨#[]⟩ := rfl
    rw [hz]
    go_enter Tryd.func76, Tryd.ntmps76
    go_wp2
    go_ret
    exact ⟨rfl, Drawn0.refl _⟩
end Go.Proofs.YtfnhohpmhpbpmaaDoor.G
