/- The reference's Name, walked: it says what the program's says. -/
import Derived.Test.YtichkddkmoljcaaDoorCauseR
import Derived.BigRegion
set_option linter.unusedVariables false
set_option linter.unusedSimpArgs false
namespace Go.Proofs.YtichkddkmoljcaaDoor
open Go.RowKit Go.Proofs.YtichkddkmoljcaaDoorW.PrintWords
set_option maxRecDepth 100000 in
set_option maxHeartbeats 1000000 in
theorem rname_0 (w : World) : Calls Tryd.prog 15 #[.int .i64 0] w (Names w (sOdd ++ ⟨#[32]⟩ ++ sFetch)) := by
  go_enter Tryd.func15, Tryd.ntmps15
  go_wp2_with fail
  refine (rsort_0 _).mono ?_
  rintro e w1 ⟨rfl, hb⟩
  have hid := Lib.hid hb
  clear hb
  go_wp2
  go_region
  all_goals (go_wp2; go_ret; exact ⟨rfl, (below_alloc (below_alloc hid.out _) _).drew⟩)
set_option maxRecDepth 100000 in
set_option maxHeartbeats 1000000 in
theorem rname_4 (w : World) : Calls Tryd.prog 15 #[.int .i64 4] w (Names w (sOdd ++ ⟨#[32]⟩ ++ sLoad)) := by
  go_enter Tryd.func15, Tryd.ntmps15
  go_wp2_with fail
  refine (rsort_4 _).mono ?_
  rintro e w1 ⟨rfl, hb⟩
  have hid := Lib.hid hb
  clear hb
  go_wp2
  go_region
  all_goals (go_wp2; go_ret; exact ⟨rfl, (below_alloc (below_alloc hid.out _) _).drew⟩)
set_option maxRecDepth 100000 in
set_option maxHeartbeats 1000000 in
theorem rname_6 (w : World) : Calls Tryd.prog 15 #[.int .i64 6] w (Names w (sOdd ++ ⟨#[32]⟩ ++ sStore)) := by
  go_enter Tryd.func15, Tryd.ntmps15
  go_wp2_with fail
  refine (rsort_6 _).mono ?_
  rintro e w1 ⟨rfl, hb⟩
  have hid := Lib.hid hb
  clear hb
  go_wp2
  go_region
  all_goals (go_wp2; go_ret; exact ⟨rfl, (below_alloc (below_alloc hid.out _) _).drew⟩)
set_option maxRecDepth 100000 in
set_option maxHeartbeats 1000000 in
theorem rname_1 (w : World) : Calls Tryd.prog 15 #[.int .i64 1] w (Names w (sAccess ++ ⟨#[32]⟩ ++ sFetch)) := by
  go_enter Tryd.func15, Tryd.ntmps15
  go_wp2_with fail
  refine (rsort_1 _).mono ?_
  rintro e w1 ⟨rfl, hb⟩
  have hid := Lib.hid hb
  clear hb
  go_wp2
  go_region
  all_goals (go_wp2; go_ret; exact ⟨rfl, (below_alloc (below_alloc hid.out _) _).drew⟩)
set_option maxRecDepth 100000 in
set_option maxHeartbeats 1000000 in
theorem rname_5 (w : World) : Calls Tryd.prog 15 #[.int .i64 5] w (Names w (sAccess ++ ⟨#[32]⟩ ++ sLoad)) := by
  go_enter Tryd.func15, Tryd.ntmps15
  go_wp2_with fail
  refine (rsort_5 _).mono ?_
  rintro e w1 ⟨rfl, hb⟩
  have hid := Lib.hid hb
  clear hb
  go_wp2
  go_region
  all_goals (go_wp2; go_ret; exact ⟨rfl, (below_alloc (below_alloc hid.out _) _).drew⟩)
set_option maxRecDepth 100000 in
set_option maxHeartbeats 1000000 in
theorem rname_7 (w : World) : Calls Tryd.prog 15 #[.int .i64 7] w (Names w (sAccess ++ ⟨#[32]⟩ ++ sStore)) := by
  go_enter Tryd.func15, Tryd.ntmps15
  go_wp2_with fail
  refine (rsort_7 _).mono ?_
  rintro e w1 ⟨rfl, hb⟩
  have hid := Lib.hid hb
  clear hb
  go_wp2
  go_region
  all_goals (go_wp2; go_ret; exact ⟨rfl, (below_alloc (below_alloc hid.out _) _).drew⟩)
set_option maxRecDepth 100000 in
set_option maxHeartbeats 1000000 in
theorem rname_12 (w : World) : Calls Tryd.prog 15 #[.int .i64 12] w (Names w (sPage ++ ⟨#[32]⟩ ++ sFetch)) := by
  go_enter Tryd.func15, Tryd.ntmps15
  go_wp2_with fail
  refine (rsort_12 _).mono ?_
  rintro e w1 ⟨rfl, hb⟩
  have hid := Lib.hid hb
  clear hb
  go_wp2
  go_region
  all_goals (go_wp2; go_ret; exact ⟨rfl, (below_alloc (below_alloc hid.out _) _).drew⟩)
set_option maxRecDepth 100000 in
set_option maxHeartbeats 1000000 in
theorem rname_13 (w : World) : Calls Tryd.prog 15 #[.int .i64 13] w (Names w (sPage ++ ⟨#[32]⟩ ++ sLoad)) := by
  go_enter Tryd.func15, Tryd.ntmps15
  go_wp2_with fail
  refine (rsort_13 _).mono ?_
  rintro e w1 ⟨rfl, hb⟩
  have hid := Lib.hid hb
  clear hb
  go_wp2
  go_region
  all_goals (go_wp2; go_ret; exact ⟨rfl, (below_alloc (below_alloc hid.out _) _).drew⟩)
set_option maxRecDepth 100000 in
set_option maxHeartbeats 1000000 in
theorem rname_15 (w : World) : Calls Tryd.prog 15 #[.int .i64 15] w (Names w (sPage ++ ⟨#[32]⟩ ++ sStore)) := by
  go_enter Tryd.func15, Tryd.ntmps15
  go_wp2_with fail
  refine (rsort_15 _).mono ?_
  rintro e w1 ⟨rfl, hb⟩
  have hid := Lib.hid hb
  clear hb
  go_wp2
  go_region
  all_goals (go_wp2; go_ret; exact ⟨rfl, (below_alloc (below_alloc hid.out _) _).drew⟩)
set_option maxRecDepth 100000 in
theorem rname_none (n : Int) (w : World) (hn : sortOf n = (0, 0)) : Calls Tryd.prog 15 #[.int .i64 n] w (Names w ⟨#[]⟩) := by
  have hs := rsort_calls n w
  rw [hn] at hs
  have hS := Lib.hid hs
  clear hs hn
  go_enter Tryd.func15, Tryd.ntmps15
  go_wp2_with fail
  refine (hS.out).mono ?_
  rintro e w1 ⟨rfl, hb⟩
  have hid := Lib.hid hb
  clear hb
  go_wp2
  go_ret
  exact ⟨rfl, hid.out⟩
theorem rname_calls (n : Int) (w : World) : Calls Tryd.prog 15 #[.int .i64 n] w (Names w (nameOf n)) := by
  by_cases e0 : n = 0
  · subst e0; exact rname_0 w
  by_cases e4 : n = 4
  · subst e4; exact rname_4 w
  by_cases e6 : n = 6
  · subst e6; exact rname_6 w
  by_cases e1 : n = 1
  · subst e1; exact rname_1 w
  by_cases e5 : n = 5
  · subst e5; exact rname_5 w
  by_cases e7 : n = 7
  · subst e7; exact rname_7 w
  by_cases e12 : n = 12
  · subst e12; exact rname_12 w
  by_cases e13 : n = 13
  · subst e13; exact rname_13 w
  by_cases e15 : n = 15
  · subst e15; exact rname_15 w
  have hs : sortOf n = (0, 0) := by simp [sortOf, e0, e4, e6, e1, e5, e7, e12, e13, e15]
  have hn : nameOf n = ⟨#[]⟩ := by simp [nameOf, e0, e4, e6, e1, e5, e7, e12, e13, e15]
  rw [hn]
  exact rname_none n w hs
end Go.Proofs.YtichkddkmoljcaaDoor
