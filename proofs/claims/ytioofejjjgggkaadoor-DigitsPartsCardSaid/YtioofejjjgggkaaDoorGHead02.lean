/- tribunallaw02.head, whose answer is fixed, answers true. No condition. -/
import Derived.Test.YtioofejjjgggkaaDoorGx0
import Derived.Test.YtioofejjjgggkaaDoorGDigParse
import Derived.Test.YtioofejjjgggkaaDoorGDigText
import Derived.Test.YtioofejjjgggkaaDoorGDigRight
import Derived.Test.YtioofejjjgggkaaDoorGx1
import Derived.Test.YtioofejjjgggkaaDoorGDigLaws
import Derived.Lib.Hide
namespace Go.Proofs.YtioofejjjgggkaaDoor.G
open Go.RowKit Go.Proofs.YtioofejjjgggkaaDoorW.PrintWords Go.Proofs.YtioofejjjgggkaaDoorW.PrintLast Go.Proofs.YtioofejjjgggkaaDoorW.PrintMore

theorem parse_lit (s : ByteArray) (xs : List Int) (h : rightS s = true) (hl : s.size ≤ 1900) (hw : wfL xs) (hn : normL xs = xs) (hv : valN xs = decN s) : digits_Parse.f s = some (xs, 0) := by
  unfold digits_Parse.f
  rw [if_pos (by omega), parse_ok h hl, limbs_lit xs _ hw hn hv]
theorem parse_bad (s : ByteArray) (h : rightS s = false) (hl : s.size ≤ 1900) : digits_Parse.f s = some ([], 12) := by
  unfold digits_Parse.f parseR
  rw [if_pos (by omega), h, if_neg (by simp)]
theorem text_lit (xs : List Int) (s : ByteArray) (hw : wfL xs) (hx : xs.length ≤ 1000) (h : rightS s = true) (hv : valN xs = decN s) : digits_Text.f xs = some s := by
  unfold digits_Text.f
  rw [if_pos ⟨hw, hx⟩, hv, text_dec s h]
theorem right_lit (s : ByteArray) (b : Bool) (h : rightS s = b) (hl : s.size ≤ 1900) : digits_Right.f s = some b := by
  unfold digits_Right.f
  rw [if_pos (by omega), h]
def tribunallaw02_head.f : Option (Bool) := some true
set_option maxHeartbeats 8000000 in
set_option maxRecDepth 100000 in
theorem tribunallaw02_head.calls (r : Bool) (w : World) (h : tribunallaw02_head.f = some r) : Calls Tryd.prog 10 #[] w fun e w' => e = .returned (.bool r) ∧ Below w.heap.size w w' := by
  obtain rfl := Option.some.inj h
  clear h
  have E1 := Aside0.mk (parse_lit (⟨#[49, 56, 52, 52, 54, 55, 52, 52, 48, 55, 51, 55, 48, 57, 53, 53, 49, 54, 49, 54]⟩ : ByteArray) [0, 0, 1] (by decide) (by decide) (by decide) (by decide) (by decide))
  have E2 := Aside0.mk (parse_bad (⟨#[48, 48, 55]⟩ : ByteArray) (by decide) (by decide))
  have E3 := Aside0.mk (parse_bad (⟨#[]⟩ : ByteArray) (by decide) (by decide))
  obtain ⟨k4, e4⟩ := (Same_self [0, 0, 1] (by decide)).rounds
  have E4 := Aside0.mk e4
  clear e4
  have E5 := Aside0.mk (text_lit [0, 0, 1, 0] (⟨#[49, 56, 52, 52, 54, 55, 52, 52, 48, 55, 51, 55, 48, 57, 53, 53, 49, 54, 49, 54]⟩ : ByteArray) (by decide) (by decide) (by decide) (by decide))
  have E6 := Aside0.mk (text_lit [] (⟨#[48]⟩ : ByteArray) wfL_nil (by decide) (by decide) (by decide))
  have E7 := Aside0.mk (right_lit (⟨#[48]⟩ : ByteArray) true (by decide) (by decide))
  have E8 := Aside0.mk (right_lit (⟨#[45, 49]⟩ : ByteArray) false (by decide) (by decide))
  have E9 := Aside0.mk (text_lit [1000000007] (⟨#[49, 48, 48, 48, 48, 48, 48, 48, 48, 55]⟩ : ByteArray) (by decide) (by decide) (by decide) (by decide))
  have W1 : Aside0 (wfL [0, 0, 1]) := ⟨by decide⟩
  have HB := Aside0.mk (Below.refl w.heap.size w)
  go_enter Tryd.func10, Tryd.ntmps10
  go_wp2_with fail
  refine (digits_Parse.calls (⟨#[49, 56, 52, 52, 54, 55, 52, 52, 48, 55, 51, 55, 48, 57, 53, 53, 49, 54, 49, 54]⟩ : ByteArray) [0, 0, 1] 0 _ E1.out).mono ?_
  rintro e w1 ⟨va, rfl, oa, hb⟩
  replace HB := Aside0.mk (below_step (HB.out) hb)
  obtain ⟨Aa, ca, ea, ha⟩ := Rd.of_R W1.out oa
  clear oa hb
  subst ea
  have Ra := Aside0.mk ha
  clear ha
  go_wp2_with fail
  refine (digits_Parse.calls (⟨#[48, 48, 55]⟩ : ByteArray) [] 12 _ E2.out).mono ?_
  rintro e w1 ⟨vn, rfl, on, hb⟩
  replace HB := Aside0.mk (below_step (HB.out) hb)
  replace Ra := Aside0.mk (Ra.out.below hb)
  clear on hb
  go_wp2_with fail
  refine (digits_Parse.calls (⟨#[]⟩ : ByteArray) [] 12 _ E3.out).mono ?_
  rintro e w1 ⟨vn, rfl, on, hb⟩
  replace HB := Aside0.mk (below_step (HB.out) hb)
  replace Ra := Aside0.mk (Ra.out.below hb)
  clear on hb
  go_wp2_with fail
  refine (tribunalref01_Same.calls k4 _ _ [0, 0, 1] _ _ [0, 0, 1] true _ (by exact (Ra.out.alloc _).cells) (by exact Ra.out.le) (by exact (Rd.lit _ [0, 0, 1] (by decide) (by decide)).cells) (by simp) E4.out).mono ?_
  rintro e w1 ⟨rfl, hd⟩
  have hb := hd.below
  clear hd
  replace HB := Aside0.mk (below_step (below_alloc HB.out (.cells #[.int .u32 0, .int .u32 0, .int .u32 1] 35)) hb)
  clear hb Ra
  go_wp2_with fail
  refine (digits_Text.calls _ _ [0, 0, 1, 0] (⟨#[49, 56, 52, 52, 54, 55, 52, 52, 48, 55, 51, 55, 48, 57, 53, 53, 49, 54, 49, 54]⟩ : ByteArray) _ (by exact (Rd.lit _ [0, 0, 1, 0] (by decide) (by decide)).cells) (by simp) E5.out).mono ?_
  rintro e w1 ⟨rfl, hb⟩
  replace HB := Aside0.mk (below_step (below_alloc HB.out (.cells #[.int .u32 0, .int .u32 0, .int .u32 1, .int .u32 0] 35)) hb)
  clear hb
  go_wp2_with fail
  refine (digits_Text.calls _ _ [] (⟨#[48]⟩ : ByteArray) _ (by exact (Rd.nil _).cells) (by simp) E6.out).mono ?_
  rintro e w1 ⟨rfl, hb⟩
  replace HB := Aside0.mk (below_step (HB.out) hb)
  clear hb
  go_wp2_with fail
  refine (digits_Right.calls (⟨#[48]⟩ : ByteArray) true _ E7.out).mono ?_
  rintro e w1 ⟨rfl, hb⟩
  replace HB := Aside0.mk (below_step (HB.out) hb)
  clear hb
  go_wp2_with fail
  refine (digits_Right.calls (⟨#[45, 49]⟩ : ByteArray) false _ E8.out).mono ?_
  rintro e w1 ⟨rfl, hb⟩
  replace HB := Aside0.mk (below_step (HB.out) hb)
  clear hb
  go_wp2_with fail
  refine (digits_Text.calls _ _ [1000000007] (⟨#[49, 48, 48, 48, 48, 48, 48, 48, 48, 55]⟩ : ByteArray) _ (by exact (Rd.lit _ [1000000007] (by decide) (by decide)).cells) (by simp) E9.out).mono ?_
  rintro e w1 ⟨rfl, hb⟩
  replace HB := Aside0.mk (below_step (below_alloc HB.out (.cells #[.int .u32 1000000007] 35)) hb)
  clear hb
  go_wp2_with fail
  go_ret
  exact ⟨rfl, HB.out⟩
end Go.Proofs.YtioofejjjgggkaaDoor.G
