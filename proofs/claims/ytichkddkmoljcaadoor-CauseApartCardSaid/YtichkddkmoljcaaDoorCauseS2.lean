/- cause.Sort, walked: the other causes. -/
import Derived.Test.YtichkddkmoljcaaDoorCause
set_option linter.unusedVariables false
set_option linter.unusedSimpArgs false
namespace Go.Proofs.YtichkddkmoljcaaDoor
open Go.RowKit Go.Proofs.YtichkddkmoljcaaDoorW.PrintWords
set_option maxRecDepth 100000 in
set_option maxHeartbeats 4000000 in
theorem sort_7 (w : World) (h : Ld w) : Calls Tryd.prog 12 #[.int .i64 7] w (Sorts w 2 2) := by
  obtain ⟨t0, fr0, hb0⟩ := h.b0
  have hid := Lib.hid (Below.refl w.heap.size w)
  have r0 := row0
  have r1 := row1
  have r2 := row2
  have a0 := at0
  have a1 := at1
  have a2 := at2
  go_enter Tryd.func12, Tryd.ntmps12
  go_wp2_with (refine wpList_load_row rfl 39 _ rfl 0 rfl _ _ fr0 _ hb0 Tryd.underlying39 rfl (by kernel_rfl) ?_)
  refine wp_loop_rounds 4 ?_
  rw [rounds_succ]
  go_wp2
  refine wp_loop_rounds 4 ?_
  rw [rounds_succ]
  go_wp2
  rw [rounds_succ]
  go_wp2
  rw [rounds_succ]
  go_wp2
  rw [rounds_succ]
  go_wp2
  rw [rounds_succ]
  go_wp2
  refine wp_loop_rounds 4 ?_
  rw [rounds_succ]
  go_wp2
  rw [rounds_succ]
  go_wp2
  rw [rounds_succ]
  go_wp2
  go_ret2
  exact ⟨rfl, below_alloc (below_alloc hid.out _) _⟩
set_option maxRecDepth 100000 in
set_option maxHeartbeats 4000000 in
theorem sort_12 (w : World) (h : Ld w) : Calls Tryd.prog 12 #[.int .i64 12] w (Sorts w 3 0) := by
  obtain ⟨t0, fr0, hb0⟩ := h.b0
  have hid := Lib.hid (Below.refl w.heap.size w)
  have r0 := row0
  have r1 := row1
  have r2 := row2
  have a0 := at0
  have a1 := at1
  have a2 := at2
  go_enter Tryd.func12, Tryd.ntmps12
  go_wp2_with (refine wpList_load_row rfl 39 _ rfl 0 rfl _ _ fr0 _ hb0 Tryd.underlying39 rfl (by kernel_rfl) ?_)
  refine wp_loop_rounds 4 ?_
  rw [rounds_succ]
  go_wp2
  refine wp_loop_rounds 4 ?_
  rw [rounds_succ]
  go_wp2
  rw [rounds_succ]
  go_wp2
  rw [rounds_succ]
  go_wp2
  rw [rounds_succ]
  go_wp2
  rw [rounds_succ]
  go_wp2
  refine wp_loop_rounds 4 ?_
  rw [rounds_succ]
  go_wp2
  rw [rounds_succ]
  go_wp2
  rw [rounds_succ]
  go_wp2
  rw [rounds_succ]
  go_wp2
  rw [rounds_succ]
  go_wp2
  refine wp_loop_rounds 4 ?_
  rw [rounds_succ]
  go_wp2
  go_ret2
  exact ⟨rfl, below_alloc (below_alloc (below_alloc hid.out _) _) _⟩
set_option maxRecDepth 100000 in
set_option maxHeartbeats 4000000 in
theorem sort_13 (w : World) (h : Ld w) : Calls Tryd.prog 12 #[.int .i64 13] w (Sorts w 3 1) := by
  obtain ⟨t0, fr0, hb0⟩ := h.b0
  have hid := Lib.hid (Below.refl w.heap.size w)
  have r0 := row0
  have r1 := row1
  have r2 := row2
  have a0 := at0
  have a1 := at1
  have a2 := at2
  go_enter Tryd.func12, Tryd.ntmps12
  go_wp2_with (refine wpList_load_row rfl 39 _ rfl 0 rfl _ _ fr0 _ hb0 Tryd.underlying39 rfl (by kernel_rfl) ?_)
  refine wp_loop_rounds 4 ?_
  rw [rounds_succ]
  go_wp2
  refine wp_loop_rounds 4 ?_
  rw [rounds_succ]
  go_wp2
  rw [rounds_succ]
  go_wp2
  rw [rounds_succ]
  go_wp2
  rw [rounds_succ]
  go_wp2
  rw [rounds_succ]
  go_wp2
  refine wp_loop_rounds 4 ?_
  rw [rounds_succ]
  go_wp2
  rw [rounds_succ]
  go_wp2
  rw [rounds_succ]
  go_wp2
  rw [rounds_succ]
  go_wp2
  rw [rounds_succ]
  go_wp2
  refine wp_loop_rounds 4 ?_
  rw [rounds_succ]
  go_wp2
  rw [rounds_succ]
  go_wp2
  go_ret2
  exact ⟨rfl, below_alloc (below_alloc (below_alloc hid.out _) _) _⟩
set_option maxRecDepth 100000 in
set_option maxHeartbeats 4000000 in
theorem sort_15 (w : World) (h : Ld w) : Calls Tryd.prog 12 #[.int .i64 15] w (Sorts w 3 2) := by
  obtain ⟨t0, fr0, hb0⟩ := h.b0
  have hid := Lib.hid (Below.refl w.heap.size w)
  have r0 := row0
  have r1 := row1
  have r2 := row2
  have a0 := at0
  have a1 := at1
  have a2 := at2
  go_enter Tryd.func12, Tryd.ntmps12
  go_wp2_with (refine wpList_load_row rfl 39 _ rfl 0 rfl _ _ fr0 _ hb0 Tryd.underlying39 rfl (by kernel_rfl) ?_)
  refine wp_loop_rounds 4 ?_
  rw [rounds_succ]
  go_wp2
  refine wp_loop_rounds 4 ?_
  rw [rounds_succ]
  go_wp2
  rw [rounds_succ]
  go_wp2
  rw [rounds_succ]
  go_wp2
  rw [rounds_succ]
  go_wp2
  rw [rounds_succ]
  go_wp2
  refine wp_loop_rounds 4 ?_
  rw [rounds_succ]
  go_wp2
  rw [rounds_succ]
  go_wp2
  rw [rounds_succ]
  go_wp2
  rw [rounds_succ]
  go_wp2
  rw [rounds_succ]
  go_wp2
  refine wp_loop_rounds 4 ?_
  rw [rounds_succ]
  go_wp2
  rw [rounds_succ]
  go_wp2
  rw [rounds_succ]
  go_wp2
  go_ret2
  exact ⟨rfl, below_alloc (below_alloc (below_alloc hid.out _) _) _⟩
end Go.Proofs.YtichkddkmoljcaaDoor
