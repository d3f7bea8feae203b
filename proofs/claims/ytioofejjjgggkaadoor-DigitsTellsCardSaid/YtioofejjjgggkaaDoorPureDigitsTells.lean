/- DigitsTells: a number's decimals, whether a text is right, and the number that it is, are the document's; the plain law behind the printed walk. No condition beyond the statement's own guards. -/
import Derived.Test.YtioofejjjgggkaaDoorGx7
import Derived.Test.YtioofejjjgggkaaDoorGDigLaws
namespace Go.Proofs.YtioofejjjgggkaaDoor.Pure
open Go.RowKit Go.Proofs.YtioofejjjgggkaaDoor.G Go.Proofs.YtioofejjjgggkaaDoorW.PrintWords Go.Proofs.YtioofejjjgggkaaDoorW.PrintLast

theorem DigitsTells : tribunallaw02_DigitsTells.Pure := by
  intro a s la _ wa hs
  have ha := wfL_of wa
  clear la
  refine Ev.rounds (g := fun k => tribunallaw02_DigitsTells.f k a s) ?_
  unfold tribunallaw02_DigitsTells.f
  refine Ev.bind (Ev.const rfl) ?_
  have great : Ev (fun k => tribunallaw02_DigitsTells.j0 k a s true true) true := by
    apply Ev.step
    · intro k; rw [tribunallaw02_DigitsTells.j0]
    · exact Ev.yes (Ev.now _)
  by_cases l0 : a.length ≤ 60
  · refine Ev.neg (by omega) ?_
    by_cases l1 : s.size ≤ 2500
    · rw [show decide ((s.size : Int) > 2500) = false from decide_eq_false (by omega)]
      apply Ev.step
      · intro k; rw [tribunallaw02_DigitsTells.j0]
      · refine Ev.no (Ev.bind (eParse (by omega)) (Ev.bind (eRParse (by omega)) (Ev.yes (Ev.bind (eText ha (by omega)) (Ev.bind (RText_is a ha (by omega)) (Ev.pos rfl (Ev.bind (Same_self _ (by have := parseR_len s; omega)) ?_)))))))
        exact Ev.yes (Ev.pos rfl (Ev.bind (eRight (by omega)) (Ev.bind (eRRight (by omega)) (Ev.const (by simp)))))
    · rw [show decide ((s.size : Int) > 2500) = true from decide_eq_true (by omega)]
      exact great
  · exact Ev.pos (by omega) great
end Go.Proofs.YtioofejjjgggkaaDoor.Pure
