/- cause.Name, walked. -/
import Derived.Test.YtichkddkmoljcaaDoorCauseS
set_option linter.unusedVariables false
set_option linter.unusedSimpArgs false
namespace Go.Proofs.YtichkddkmoljcaaDoor
open Go.RowKit Go.Proofs.YtichkddkmoljcaaDoorW.PrintWords
def Names (w : World) (s : ByteArray) (e : Ending) (w' : World) : Prop := e = .returned (.string s) ∧ Below w.heap.size w w'
theorem Ld.c1 {w : World} (h : Ld w) (i : Nat) (v : ByteArray) (hv : cells1[i]? = some (.string v)) : w.cell? ⟨1, i, none⟩ = some (.string v) := by
  obtain ⟨t, fr, e⟩ := h.b1
  exact cell_of_block e i _ hv
theorem Ld.c2 {w : World} (h : Ld w) (i : Nat) (v : ByteArray) (hv : cells2[i]? = some (.string v)) : w.cell? ⟨2, i, none⟩ = some (.string v) := by
  obtain ⟨t, fr, e⟩ := h.b2
  exact cell_of_block e i _ hv
set_option maxRecDepth 100000 in
theorem name_0 (w : World) (h : Ld w) : Calls Tryd.prog 14 #[.int .i64 0] w (Names w (sOdd ++ ⟨#[32]⟩ ++ sFetch)) := by
  go_enter Tryd.func14, Tryd.ntmps14
  go_wp2_with fail
  refine (sort_0 _ h).mono ?_
  rintro e w1 ⟨rfl, hb⟩
  have h1 := h.below hb
  have hid := Lib.hid hb
  clear hb
  have a1 := h1.c1 0 _ rfl
  have a2 := h1.c2 0 _ rfl
  go_wp2
  have hw : IntKind.i64.wrap 0 = 0 := by decide
  go_quiet (fail)
  clear hw
  go_wp2
  go_ret
  exact ⟨rfl, pw_below_drewN hid.out _⟩
set_option maxRecDepth 100000 in
theorem name_4 (w : World) (h : Ld w) : Calls Tryd.prog 14 #[.int .i64 4] w (Names w (sOdd ++ ⟨#[32]⟩ ++ sLoad)) := by
  go_enter Tryd.func14, Tryd.ntmps14
  go_wp2_with fail
  refine (sort_4 _ h).mono ?_
  rintro e w1 ⟨rfl, hb⟩
  have h1 := h.below hb
  have hid := Lib.hid hb
  clear hb
  have a1 := h1.c1 0 _ rfl
  have a2 := h1.c2 1 _ rfl
  go_wp2
  have hw : IntKind.i64.wrap 0 = 0 := by decide
  go_quiet (fail)
  clear hw
  go_wp2
  go_ret
  exact ⟨rfl, pw_below_drewN hid.out _⟩
set_option maxRecDepth 100000 in
theorem name_6 (w : World) (h : Ld w) : Calls Tryd.prog 14 #[.int .i64 6] w (Names w (sOdd ++ ⟨#[32]⟩ ++ sStore)) := by
  go_enter Tryd.func14, Tryd.ntmps14
  go_wp2_with fail
  refine (sort_6 _ h).mono ?_
  rintro e w1 ⟨rfl, hb⟩
  have h1 := h.below hb
  have hid := Lib.hid hb
  clear hb
  have a1 := h1.c1 0 _ rfl
  have a2 := h1.c2 2 _ rfl
  go_wp2
  have hw : IntKind.i64.wrap 0 = 0 := by decide
  go_quiet (fail)
  clear hw
  go_wp2
  go_ret
  exact ⟨rfl, pw_below_drewN hid.out _⟩
set_option maxRecDepth 100000 in
theorem name_1 (w : World) (h : Ld w) : Calls Tryd.prog 14 #[.int .i64 1] w (Names w (sAccess ++ ⟨#[32]⟩ ++ sFetch)) := by
  go_enter Tryd.func14, Tryd.ntmps14
  go_wp2_with fail
  refine (sort_1 _ h).mono ?_
  rintro e w1 ⟨rfl, hb⟩
  have h1 := h.below hb
  have hid := Lib.hid hb
  clear hb
  have a1 := h1.c1 1 _ rfl
  have a2 := h1.c2 0 _ rfl
  go_wp2
  have hw : IntKind.i64.wrap 1 = 1 := by decide
  go_quiet (fail)
  clear hw
  go_wp2
  go_ret
  exact ⟨rfl, pw_below_drewN hid.out _⟩
set_option maxRecDepth 100000 in
theorem name_5 (w : World) (h : Ld w) : Calls Tryd.prog 14 #[.int .i64 5] w (Names w (sAccess ++ ⟨#[32]⟩ ++ sLoad)) := by
  go_enter Tryd.func14, Tryd.ntmps14
  go_wp2_with fail
  refine (sort_5 _ h).mono ?_
  rintro e w1 ⟨rfl, hb⟩
  have h1 := h.below hb
  have hid := Lib.hid hb
  clear hb
  have a1 := h1.c1 1 _ rfl
  have a2 := h1.c2 1 _ rfl
  go_wp2
  have hw : IntKind.i64.wrap 1 = 1 := by decide
  go_quiet (fail)
  clear hw
  go_wp2
  go_ret
  exact ⟨rfl, pw_below_drewN hid.out _⟩
set_option maxRecDepth 100000 in
theorem name_7 (w : World) (h : Ld w) : Calls Tryd.prog 14 #[.int .i64 7] w (Names w (sAccess ++ ⟨#[32]⟩ ++ sStore)) := by
  go_enter Tryd.func14, Tryd.ntmps14
  go_wp2_with fail
  refine (sort_7 _ h).mono ?_
  rintro e w1 ⟨rfl, hb⟩
  have h1 := h.below hb
  have hid := Lib.hid hb
  clear hb
  have a1 := h1.c1 1 _ rfl
  have a2 := h1.c2 2 _ rfl
  go_wp2
  have hw : IntKind.i64.wrap 1 = 1 := by decide
  go_quiet (fail)
  clear hw
  go_wp2
  go_ret
  exact ⟨rfl, pw_below_drewN hid.out _⟩
set_option maxRecDepth 100000 in
theorem name_12 (w : World) (h : Ld w) : Calls Tryd.prog 14 #[.int .i64 12] w (Names w (sPage ++ ⟨#[32]⟩ ++ sFetch)) := by
  go_enter Tryd.func14, Tryd.ntmps14
  go_wp2_with fail
  refine (sort_12 _ h).mono ?_
  rintro e w1 ⟨rfl, hb⟩
  have h1 := h.below hb
  have hid := Lib.hid hb
  clear hb
  have a1 := h1.c1 2 _ rfl
  have a2 := h1.c2 0 _ rfl
  go_wp2
  have hw : IntKind.i64.wrap 2 = 2 := by decide
  go_quiet (fail)
  clear hw
  go_wp2
  go_ret
  exact ⟨rfl, pw_below_drewN hid.out _⟩
set_option maxRecDepth 100000 in
theorem name_13 (w : World) (h : Ld w) : Calls Tryd.prog 14 #[.int .i64 13] w (Names w (sPage ++ ⟨#[32]⟩ ++ sLoad)) := by
  go_enter Tryd.func14, Tryd.ntmps14
  go_wp2_with fail
  refine (sort_13 _ h).mono ?_
  rintro e w1 ⟨rfl, hb⟩
  have h1 := h.below hb
  have hid := Lib.hid hb
  clear hb
  have a1 := h1.c1 2 _ rfl
  have a2 := h1.c2 1 _ rfl
  go_wp2
  have hw : IntKind.i64.wrap 2 = 2 := by decide
  go_quiet (fail)
  clear hw
  go_wp2
  go_ret
  exact ⟨rfl, pw_below_drewN hid.out _⟩
set_option maxRecDepth 100000 in
theorem name_15 (w : World) (h : Ld w) : Calls Tryd.prog 14 #[.int .i64 15] w (Names w (sPage ++ ⟨#[32]⟩ ++ sStore)) := by
  go_enter Tryd.func14, Tryd.ntmps14
  go_wp2_with fail
  refine (sort_15 _ h).mono ?_
  rintro e w1 ⟨rfl, hb⟩
  have h1 := h.below hb
  have hid := Lib.hid hb
  clear hb
  have a1 := h1.c1 2 _ rfl
  have a2 := h1.c2 2 _ rfl
  go_wp2
  have hw : IntKind.i64.wrap 2 = 2 := by decide
  go_quiet (fail)
  clear hw
  go_wp2
  go_ret
  exact ⟨rfl, pw_below_drewN hid.out _⟩
def nameOf (n : Int) : ByteArray :=
  if n = 0 then sOdd ++ ⟨#[32]⟩ ++ sFetch else if n = 4 then sOdd ++ ⟨#[32]⟩ ++ sLoad else if n = 6 then sOdd ++ ⟨#[32]⟩ ++ sStore else if n = 1 then sAccess ++ ⟨#[32]⟩ ++ sFetch else if n = 5 then sAccess ++ ⟨#[32]⟩ ++ sLoad else
  if n = 7 then sAccess ++ ⟨#[32]⟩ ++ sStore else if n = 12 then sPage ++ ⟨#[32]⟩ ++ sFetch else if n = 13 then sPage ++ ⟨#[32]⟩ ++ sLoad else if n = 15 then sPage ++ ⟨#[32]⟩ ++ sStore else ⟨#[]⟩
set_option maxRecDepth 100000 in
theorem name_none (n : Int) (w : World) (h : Ld w) (hn : sortOf n = (0, 0)) : Calls Tryd.prog 14 #[.int .i64 n] w (Names w ⟨#[]⟩) := by
  have hs := sort_calls n w h
  rw [hn] at hs
  have hS := Lib.hid hs
  clear hs hn
  go_enter Tryd.func14, Tryd.ntmps14
  go_wp2_with fail
  refine (hS.out).mono ?_
  rintro e w1 ⟨rfl, hb⟩
  have hid := Lib.hid hb
  clear hb
  go_wp2
  go_ret
  exact ⟨rfl, hid.out⟩
theorem name_calls (n : Int) (w : World) (h : Ld w) : Calls Tryd.prog 14 #[.int .i64 n] w (Names w (nameOf n)) := by
  by_cases e0 : n = 0
  · subst e0; exact name_0 w h
  by_cases e4 : n = 4
  · subst e4; exact name_4 w h
  by_cases e6 : n = 6
  · subst e6; exact name_6 w h
  by_cases e1 : n = 1
  · subst e1; exact name_1 w h
  by_cases e5 : n = 5
  · subst e5; exact name_5 w h
  by_cases e7 : n = 7
  · subst e7; exact name_7 w h
  by_cases e12 : n = 12
  · subst e12; exact name_12 w h
  by_cases e13 : n = 13
  · subst e13; exact name_13 w h
  by_cases e15 : n = 15
  · subst e15; exact name_15 w h
  have hs : sortOf n = (0, 0) := by simp [sortOf, e0, e4, e6, e1, e5, e7, e12, e13, e15]
  have hn : nameOf n = ⟨#[]⟩ := by simp [nameOf, e0, e4, e6, e1, e5, e7, e12, e13, e15]
  rw [hn]
  exact name_none n w h hs
end Go.Proofs.YtichkddkmoljcaaDoor
