/- cause.Sort: what it answers, of whatever number. -/
import Derived.Test.YtichkddkmoljcaaDoorCauseS0
import Derived.Test.YtichkddkmoljcaaDoorCauseS1
import Derived.Test.YtichkddkmoljcaaDoorCauseS2
namespace Go.Proofs.YtichkddkmoljcaaDoor
open Go.RowKit
theorem sort_calls (n : Int) (w : World) (h : Ld w) : Calls Tryd.prog 12 #[.int .i64 n] w (Sorts w (sortOf n).1 (sortOf n).2) := by
  by_cases e0 : n = 0
  · subst e0; exact sort_0 w h
  by_cases e4 : n = 4
  · subst e4; exact sort_4 w h
  by_cases e6 : n = 6
  · subst e6; exact sort_6 w h
  by_cases e1 : n = 1
  · subst e1; exact sort_1 w h
  by_cases e5 : n = 5
  · subst e5; exact sort_5 w h
  by_cases e7 : n = 7
  · subst e7; exact sort_7 w h
  by_cases e12 : n = 12
  · subst e12; exact sort_12 w h
  by_cases e13 : n = 13
  · subst e13; exact sort_13 w h
  by_cases e15 : n = 15
  · subst e15; exact sort_15 w h
  have hs : sortOf n = (0, 0) := by simp [sortOf, e0, e4, e6, e1, e5, e7, e12, e13, e15]
  rw [hs]
  exact sort_none n w h (by simpa using Ne.symm e0) (by simpa using Ne.symm e4) (by simpa using Ne.symm e6) (by simpa using Ne.symm e1) (by simpa using Ne.symm e5) (by simpa using Ne.symm e7) (by simpa using Ne.symm e12) (by simpa using Ne.symm e13) (by simpa using Ne.symm e15)
end Go.Proofs.YtichkddkmoljcaaDoor
