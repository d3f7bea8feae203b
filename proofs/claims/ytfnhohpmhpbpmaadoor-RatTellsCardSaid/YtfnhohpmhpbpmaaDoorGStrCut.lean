/- strings.Cut at the one byte "/": what stands ahead of the first one, what behind, and whether there is one. Condition: that separator alone, texts shorter than 2^62. -/
import Derived.Test.YtfnhohpmhpbpmaaDoorGx0
import Derived.Lib.Bytealg
namespace Go.Proofs.YtfnhohpmhpbpmaaDoor.G
open Go.RowKit Go.Proofs.YtfnhohpmhpbpmaaDoorW.PrintWords Go.Proofs.YtfnhohpmhpbpmaaDoorW.PrintLast Go.Proofs.YtfnhohpmhpbpmaaDoorW.PrintMore

/-- Where the first "/" stands; -1: nowhere. -/
def slashAt (s : ByteArray) : Int := Lib.indexByte s.data.toList 47
theorem indexByte_cases (l : List UInt8) (c : UInt8) : Lib.indexByte l c = -1 ∨ ∃ i : Nat, Lib.indexByte l c = (i : Int) ∧ i < l.length := by
  induction l with
  | nil => exact .inl rfl
  | cons b l ih =>
    unfold Lib.indexByte
    by_cases hb : (b == c) = true
    · rw [if_pos hb]
      exact .inr ⟨0, rfl, by simp⟩
    · rw [if_neg hb]
      rcases ih with h | ⟨i, h, hl⟩
      · rw [h]
        exact .inl rfl
      · have hne : ¬ ((Lib.indexByte l c == -1) = true) := by
          rw [beq_iff_eq]
          omega
        rw [if_neg hne]
        exact .inr ⟨i + 1, by rw [h]; rfl, by rw [List.length_cons]; omega⟩
theorem slashAt_cases (s : ByteArray) : slashAt s = -1 ∨ ∃ i : Nat, slashAt s = (i : Int) ∧ i < s.size := indexByte_cases s.data.toList 47
/-- What strings.Cut makes of a text at "/". -/
def cutS (s : ByteArray) : ByteArray × ByteArray × Bool := if slashAt s < 0 then (s, ⟨#[]⟩, false) else (s.extract 0 (slashAt s).toNat, s.extract ((slashAt s).toNat + 1) s.size, true)
def strings_Cut.f (a0 a1 : ByteArray) : Option (ByteArray × ByteArray × Bool) := if a1.toList = [47] ∧ a0.size ≤ 4611686018427387904 then some (cutS a0) else none
set_option maxHeartbeats 1000000 in
set_option maxRecDepth 100000 in
theorem indexByte_calls (s : ByteArray) (x : Int) (hx : slashAt s = x) (w : World) :
    Calls Tryd.prog 97 #[.string s, .int .u8 47] w fun e w' => e = .returned (.int .i64 x) ∧ w' = w := by
  subst hx
  go_enter Tryd.func97, Tryd.ntmps97
  go_wp2
  rw [run_callFunc_extern Tryd.func106 (by kernel_rfl) (by kernel_rfl) (by kernel_rfl) (e := Extern.BytealgIndexByte.indexByte) (by kernel_rfl), Lib.run_indexByteString]
  simp only [Result.andThen]
  rw [Oper.upon_value]
  go_wp2
  go_ret
  exact ⟨rfl, rfl⟩
set_option maxHeartbeats 1000000 in
set_option maxRecDepth 100000 in
theorem index_calls (s : ByteArray) (x : Int) (hx : slashAt s = x) (w : World) :
    Calls Tryd.prog 90 #[.string s, .string ⟨#[47]⟩] w fun e w' => e = .returned (.int .i64 x) ∧ w' = w := by
  by_cases hs : s.toList = [47]
  · have h0 : x = 0 := by
      rw [← hx, slashAt, ← Go.ByteArray.toList_eq, hs]
      rfl
    subst h0
    have he : ([47] == s.toList) = true := by rw [hs]; rfl
    clear hx hs
    go_enter Tryd.func90, Tryd.ntmps90
    go_wp2_with fail
    go_ret
    exact ⟨rfl, rfl⟩
  · have he : ([47] == s.toList) = false := by rw [beq_eq_false_iff_ne]; exact fun h => hs h.symm
    clear hs
    go_enter Tryd.func90, Tryd.ntmps90
    go_wp2_with fail
    refine (indexByte_calls s x hx _).mono ?_
    rintro e w' ⟨rfl, rfl⟩
    go_wp2_with fail
    go_ret
    exact ⟨rfl, rfl⟩
set_option maxHeartbeats 2000000 in
set_option maxRecDepth 100000 in
theorem stringslite_Cut_calls (s : ByteArray) (hs : s.size ≤ 4611686018427387904) (w : World) :
    Calls Tryd.prog 75 #[.string s, .string ⟨#[47]⟩] w fun e w' => e = .returned (.tuple #[.string (cutS s).1, .string (cutS s).2.1, .bool (cutS s).2.2]) ∧ Drawn0 w w' := by
  rcases slashAt_cases s with h | ⟨i, h, hi⟩
  · have hc : cutS s = (s, ⟨#[]⟩, false) := by unfold cutS; rw [h]; rfl
    rw [hc]
    clear hc
    go_enter Tryd.func75, Tryd.ntmps75
    go_wp2_with fail
    refine (index_calls s (-1) h _).mono ?_
    rintro e w' ⟨rfl, rfl⟩
    go_wp2_with fail
    go_ret3
    exact ⟨rfl, Drawn0.refl _⟩
  · have hc : cutS s = (s.extract 0 i, s.extract (i + 1) s.size, true) := by
      unfold cutS
      rw [h, if_neg (by omega)]
      rfl
    rw [hc]
    clear hc
    have c1 : (0 : Int) ≤ ↑i := by omega
    have c2 : (↑i : Int) ≤ ↑s.size := by omega
    have c3 : (0 : Int) ≤ ↑i + 1 := by omega
    have c4 : (↑i + 1 : Int) ≤ ↑s.size := by omega
    go_enter Tryd.func75, Tryd.ntmps75
    go_wp2_with fail
    refine (index_calls s i h _).mono ?_
    rintro e w' ⟨rfl, rfl⟩
    go_wp2_with fail
    go_region
    all_goals (go_wp2_with fail; go_ret3; exact ⟨rfl, ⟨1, rfl⟩⟩)
set_option maxHeartbeats 1000000 in
set_option maxRecDepth 100000 in
theorem strings_Cut.calls (a0 a1 r1 r2 : ByteArray) (r3 : Bool) (w : World) (h : strings_Cut.f a0 a1 = some (r1, r2, r3)) :
    Calls Tryd.prog 54 #[.string a0, .string a1] w fun e w' => e = .returned (.tuple #[.string r1, .string r2, .bool r3]) ∧ Drawn0 w w' := by
  unfold strings_Cut.f at h
  by_cases hc : a1.toList = [47] ∧ a0.size ≤ 4611686018427387904
  case neg => rw [if_neg hc] at h; cases h
  rw [if_pos hc] at h
  have h := Option.some.inj h
  obtain ⟨hc, hsz⟩ := hc
  have ha1 : a1 = ⟨#[47]⟩ := by
    rw [Go.ByteArray.toList_eq] at hc
    cases a1 with | mk d => cases d with | mk l => exact congrArg (fun x => (⟨⟨x⟩⟩ : ByteArray)) hc
  subst ha1
  clear hc
  have c := fun W => stringslite_Cut_calls a0 hsz W
  rw [h] at c
  clear h
  go_enter Tryd.func54, Tryd.ntmps54
  go_wp2_with fail
  refine (c _).mono ?_
  rintro e w' ⟨rfl, hd⟩
  go_wp2_with fail
  go_ret3
  exact ⟨rfl, hd⟩
end Go.Proofs.YtfnhohpmhpbpmaaDoor.G
