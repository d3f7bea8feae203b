/- DigitsBack: a number is that of its decimals, which are right; right decimals are those of their number; the plain law behind the printed walk. No condition beyond the statement's own guards. -/
import Derived.Test.YtioofejjjgggkaaDoorGx8
import Derived.Test.YtioofejjjgggkaaDoorGDigLaws
namespace Go.Proofs.YtioofejjjgggkaaDoor.Pure
open Go.RowKit Go.Proofs.YtioofejjjgggkaaDoor.G Go.Proofs.YtioofejjjgggkaaDoorW.PrintWords Go.Proofs.YtioofejjjgggkaaDoorW.PrintLast

theorem DigitsBack : tribunallaw02_DigitsBack.Pure := by
  intro a s la _ wa hs
  have ha := wfL_of wa
  clear la
  refine Ev.rounds (g := fun k => tribunallaw02_DigitsBack.f k a s) ?_
  unfold tribunallaw02_DigitsBack.f
  refine Ev.bind (Ev.const rfl) ?_
  have great : Ev (fun k => tribunallaw02_DigitsBack.j0 k a s true true) true := by
    apply Ev.step
    · intro k; rw [tribunallaw02_DigitsBack.j0]
    · exact Ev.yes (Ev.now _)
  by_cases l0 : a.length ≤ 190
  · refine Ev.neg (by omega) ?_
    by_cases l1 : s.size ≤ 2500
    · rw [show decide ((s.size : Int) > 2500) = false from decide_eq_false (by omega)]
      have sa := sh_val ha
      have hl : (textS (valN a)).size ≤ 1900 := textS_le (m := 190) (by omega) (by omega)
      have P : Ev (fun _ => digits_Parse.f (textS (valN a))) (limbs (valN a), 0) := by
        have h := eParse (s := textS (valN a)) (by omega)
        rwa [parse_text hl] at h
      have R : Ev (fun _ => digits_Right.f (textS (valN a))) true := by
        have h := eRight (s := textS (valN a)) (by omega)
        rwa [right_text] at h
      have last : Ev (fun k => tribunallaw02_DigitsBack.j1 k s true false) true := by
        apply Ev.step
        · intro k; rw [tribunallaw02_DigitsBack.j1]
        · refine Ev.no (Ev.bind (eParse (by omega)) ?_)
          cases hr : rightS s with
          | true =>
            by_cases h19 : s.size > 1900
            · have hp : parseR s = ([], 2) := by rw [parseR, if_pos hr, if_pos h19]
              rw [hp]
              refine Ev.neg (by simp) (Ev.yes (Ev.pos rfl (Ev.bind (eRight (by omega)) ?_)))
              rw [hr]
              exact Ev.pos rfl (Ev.neg (by simp) (Ev.const (congrArg some (decide_eq_true (by omega)))))
            · rw [parse_ok hr (by omega)]
              refine Ev.pos rfl (Ev.yes (Ev.bind (eText (wfL_limbs _) (by rw [sh_len]; have := sh_len10 hr; omega)) ?_))
              rw [valN_limbs, text_dec s hr]
              exact Ev.const (by simp)
          | false =>
            have hp : parseR s = ([], 12) := by rw [parseR, if_neg (by simp [hr])]
            rw [hp]
            refine Ev.neg (by simp) (Ev.yes (Ev.pos rfl (Ev.bind (eRight (by omega)) ?_)))
            rw [hr]
            exact Ev.pos rfl (Ev.pos rfl (Ev.now _))
      apply Ev.step
      · intro k; rw [tribunallaw02_DigitsBack.j0]
      · refine Ev.no (Ev.bind (eText ha (by omega)) (Ev.bind P (Ev.bind R (Ev.yes (Ev.pos rfl (Ev.bind (eRNorm ha (by omega)) (Ev.bind (Same_self _ (by rw [sh_len]; omega)) ?_)))))))
        exact last
    · rw [show decide ((s.size : Int) > 2500) = true from decide_eq_true (by omega)]
      exact great
  · exact Ev.pos (by omega) great
end Go.Proofs.YtioofejjjgggkaaDoor.Pure
