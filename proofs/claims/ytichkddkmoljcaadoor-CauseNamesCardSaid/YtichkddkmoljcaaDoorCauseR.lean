/- The reference's Sort, walked: it says what the program's says. -/
import Derived.Test.YtichkddkmoljcaaDoorCauseA
import Derived.Test.YtichkddkmoljcaaDoorPCauseFaultsx1
set_option linter.unusedVariables false
set_option linter.unusedSimpArgs false
namespace Go.Proofs.YtichkddkmoljcaaDoor
open Go.RowKit Go.Proofs.YtichkddkmoljcaaDoorW.PrintWords
theorem num_calls (s k : Int) (c : Int) (w : World) (h : PCauseFaults.atlasref09_Number.f s k = some c) :
    Calls Tryd.prog 17 #[.int .i64 s, .int .i64 k] w fun e w' => e = .returned (.int .i64 c) ∧ Below w.heap.size w w' := PCauseFaults.atlasref09_Number.calls s k c w h
set_option maxRecDepth 100000 in
set_option maxHeartbeats 4000000 in
theorem rsort_none (n : Int) (w : World) (h0 : ((0 : Int) == n) = false) (h1 : ((4 : Int) == n) = false) (h2 : ((6 : Int) == n) = false) (h3 : ((1 : Int) == n) = false) (h4 : ((5 : Int) == n) = false) (h5 : ((7 : Int) == n) = false)
    (h6 : ((12 : Int) == n) = false) (h7 : ((13 : Int) == n) = false) (h8 : ((15 : Int) == n) = false) :
    Calls Tryd.prog 13 #[.int .i64 n] w (Sorts w 0 0) := by
  have hid0 := Lib.hid (Below.refl w.heap.size w)
  go_enter Tryd.func13, Tryd.ntmps13
  go_wp2_with fail
  refine wp_loop_rounds 4 ?_
  rw [rounds_succ]
  go_wp2_with fail
  refine wp_loop_rounds 4 ?_
  rw [rounds_succ]
  go_wp2_with fail
  refine (num_calls 1 0 0 _ (by decide +kernel)).mono ?_
  rintro e w1 ⟨rfl, hb⟩
  have hid1 := Lib.hid (below_then hid0.out hid0.out.size hb)
  clear hb hid0
  go_wp2_with fail
  rw [rounds_succ]
  go_wp2_with fail
  refine (num_calls 1 1 4 _ (by decide +kernel)).mono ?_
  rintro e w2 ⟨rfl, hb⟩
  have hid2 := Lib.hid (below_then hid1.out hid1.out.size hb)
  clear hb hid1
  go_wp2_with fail
  rw [rounds_succ]
  go_wp2_with fail
  refine (num_calls 1 2 6 _ (by decide +kernel)).mono ?_
  rintro e w3 ⟨rfl, hb⟩
  have hid3 := Lib.hid (below_then hid2.out hid2.out.size hb)
  clear hb hid2
  go_wp2_with fail
  rw [rounds_succ]
  go_wp2_with fail
  rw [rounds_succ]
  go_wp2_with fail
  refine wp_loop_rounds 4 ?_
  rw [rounds_succ]
  go_wp2_with fail
  refine (num_calls 2 0 1 _ (by decide +kernel)).mono ?_
  rintro e w4 ⟨rfl, hb⟩
  have hid4 := Lib.hid (below_then hid3.out hid3.out.size hb)
  clear hb hid3
  go_wp2_with fail
  rw [rounds_succ]
  go_wp2_with fail
  refine (num_calls 2 1 5 _ (by decide +kernel)).mono ?_
  rintro e w5 ⟨rfl, hb⟩
  have hid5 := Lib.hid (below_then hid4.out hid4.out.size hb)
  clear hb hid4
  go_wp2_with fail
  rw [rounds_succ]
  go_wp2_with fail
  refine (num_calls 2 2 7 _ (by decide +kernel)).mono ?_
  rintro e w6 ⟨rfl, hb⟩
  have hid6 := Lib.hid (below_then hid5.out hid5.out.size hb)
  clear hb hid5
  go_wp2_with fail
  rw [rounds_succ]
  go_wp2_with fail
  rw [rounds_succ]
  go_wp2_with fail
  refine wp_loop_rounds 4 ?_
  rw [rounds_succ]
  go_wp2_with fail
  refine (num_calls 3 0 12 _ (by decide +kernel)).mono ?_
  rintro e w7 ⟨rfl, hb⟩
  have hid7 := Lib.hid (below_then hid6.out hid6.out.size hb)
  clear hb hid6
  go_wp2_with fail
  rw [rounds_succ]
  go_wp2_with fail
  refine (num_calls 3 1 13 _ (by decide +kernel)).mono ?_
  rintro e w8 ⟨rfl, hb⟩
  have hid8 := Lib.hid (below_then hid7.out hid7.out.size hb)
  clear hb hid7
  go_wp2_with fail
  rw [rounds_succ]
  go_wp2_with fail
  refine (num_calls 3 2 15 _ (by decide +kernel)).mono ?_
  rintro e w9 ⟨rfl, hb⟩
  have hid9 := Lib.hid (below_then hid8.out hid8.out.size hb)
  clear hb hid8
  go_wp2_with fail
  rw [rounds_succ]
  go_wp2_with fail
  rw [rounds_succ]
  go_wp2_with fail
  go_ret2
  exact ⟨rfl, hid9.out⟩
set_option maxRecDepth 100000 in
set_option maxHeartbeats 4000000 in
theorem rsort_0 (w : World) : Calls Tryd.prog 13 #[.int .i64 0] w (Sorts w 1 0) := by
  have hid0 := Lib.hid (Below.refl w.heap.size w)
  go_enter Tryd.func13, Tryd.ntmps13
  go_wp2_with fail
  refine wp_loop_rounds 4 ?_
  rw [rounds_succ]
  go_wp2_with fail
  refine wp_loop_rounds 4 ?_
  rw [rounds_succ]
  go_wp2_with fail
  refine (num_calls 1 0 0 _ (by decide +kernel)).mono ?_
  rintro e w1 ⟨rfl, hb⟩
  have hid1 := Lib.hid (below_then hid0.out hid0.out.size hb)
  clear hb hid0
  go_wp2_with fail
  go_ret2
  exact ⟨rfl, hid1.out⟩
set_option maxRecDepth 100000 in
set_option maxHeartbeats 4000000 in
theorem rsort_4 (w : World) : Calls Tryd.prog 13 #[.int .i64 4] w (Sorts w 1 1) := by
  have hid0 := Lib.hid (Below.refl w.heap.size w)
  go_enter Tryd.func13, Tryd.ntmps13
  go_wp2_with fail
  refine wp_loop_rounds 4 ?_
  rw [rounds_succ]
  go_wp2_with fail
  refine wp_loop_rounds 4 ?_
  rw [rounds_succ]
  go_wp2_with fail
  refine (num_calls 1 0 0 _ (by decide +kernel)).mono ?_
  rintro e w1 ⟨rfl, hb⟩
  have hid1 := Lib.hid (below_then hid0.out hid0.out.size hb)
  clear hb hid0
  go_wp2_with fail
  rw [rounds_succ]
  go_wp2_with fail
  refine (num_calls 1 1 4 _ (by decide +kernel)).mono ?_
  rintro e w2 ⟨rfl, hb⟩
  have hid2 := Lib.hid (below_then hid1.out hid1.out.size hb)
  clear hb hid1
  go_wp2_with fail
  go_ret2
  exact ⟨rfl, hid2.out⟩
set_option maxRecDepth 100000 in
set_option maxHeartbeats 4000000 in
theorem rsort_6 (w : World) : Calls Tryd.prog 13 #[.int .i64 6] w (Sorts w 1 2) := by
  have hid0 := Lib.hid (Below.refl w.heap.size w)
  go_enter Tryd.func13, Tryd.ntmps13
  go_wp2_with fail
  refine wp_loop_rounds 4 ?_
  rw [rounds_succ]
  go_wp2_with fail
  refine wp_loop_rounds 4 ?_
  rw [rounds_succ]
  go_wp2_with fail
  refine (num_calls 1 0 0 _ (by decide +kernel)).mono ?_
  rintro e w1 ⟨rfl, hb⟩
  have hid1 := Lib.hid (below_then hid0.out hid0.out.size hb)
  clear hb hid0
  go_wp2_with fail
  rw [rounds_succ]
  go_wp2_with fail
  refine (num_calls 1 1 4 _ (by decide +kernel)).mono ?_
  rintro e w2 ⟨rfl, hb⟩
  have hid2 := Lib.hid (below_then hid1.out hid1.out.size hb)
  clear hb hid1
  go_wp2_with fail
  rw [rounds_succ]
  go_wp2_with fail
  refine (num_calls 1 2 6 _ (by decide +kernel)).mono ?_
  rintro e w3 ⟨rfl, hb⟩
  have hid3 := Lib.hid (below_then hid2.out hid2.out.size hb)
  clear hb hid2
  go_wp2_with fail
  go_ret2
  exact ⟨rfl, hid3.out⟩
set_option maxRecDepth 100000 in
set_option maxHeartbeats 4000000 in
theorem rsort_1 (w : World) : Calls Tryd.prog 13 #[.int .i64 1] w (Sorts w 2 0) := by
  have hid0 := Lib.hid (Below.refl w.heap.size w)
  go_enter Tryd.func13, Tryd.ntmps13
  go_wp2_with fail
  refine wp_loop_rounds 4 ?_
  rw [rounds_succ]
  go_wp2_with fail
  refine wp_loop_rounds 4 ?_
  rw [rounds_succ]
  go_wp2_with fail
  refine (num_calls 1 0 0 _ (by decide +kernel)).mono ?_
  rintro e w1 ⟨rfl, hb⟩
  have hid1 := Lib.hid (below_then hid0.out hid0.out.size hb)
  clear hb hid0
  go_wp2_with fail
  rw [rounds_succ]
  go_wp2_with fail
  refine (num_calls 1 1 4 _ (by decide +kernel)).mono ?_
  rintro e w2 ⟨rfl, hb⟩
  have hid2 := Lib.hid (below_then hid1.out hid1.out.size hb)
  clear hb hid1
  go_wp2_with fail
  rw [rounds_succ]
  go_wp2_with fail
  refine (num_calls 1 2 6 _ (by decide +kernel)).mono ?_
  rintro e w3 ⟨rfl, hb⟩
  have hid3 := Lib.hid (below_then hid2.out hid2.out.size hb)
  clear hb hid2
  go_wp2_with fail
  rw [rounds_succ]
  go_wp2_with fail
  rw [rounds_succ]
  go_wp2_with fail
  refine wp_loop_rounds 4 ?_
  rw [rounds_succ]
  go_wp2_with fail
  refine (num_calls 2 0 1 _ (by decide +kernel)).mono ?_
  rintro e w4 ⟨rfl, hb⟩
  have hid4 := Lib.hid (below_then hid3.out hid3.out.size hb)
  clear hb hid3
  go_wp2_with fail
  go_ret2
  exact ⟨rfl, hid4.out⟩
set_option maxRecDepth 100000 in
set_option maxHeartbeats 4000000 in
theorem rsort_5 (w : World) : Calls Tryd.prog 13 #[.int .i64 5] w (Sorts w 2 1) := by
  have hid0 := Lib.hid (Below.refl w.heap.size w)
  go_enter Tryd.func13, Tryd.ntmps13
  go_wp2_with fail
  refine wp_loop_rounds 4 ?_
  rw [rounds_succ]
  go_wp2_with fail
  refine wp_loop_rounds 4 ?_
  rw [rounds_succ]
  go_wp2_with fail
  refine (num_calls 1 0 0 _ (by decide +kernel)).mono ?_
  rintro e w1 ⟨rfl, hb⟩
  have hid1 := Lib.hid (below_then hid0.out hid0.out.size hb)
  clear hb hid0
  go_wp2_with fail
  rw [rounds_succ]
  go_wp2_with fail
  refine (num_calls 1 1 4 _ (by decide +kernel)).mono ?_
  rintro e w2 ⟨rfl, hb⟩
  have hid2 := Lib.hid (below_then hid1.out hid1.out.size hb)
  clear hb hid1
  go_wp2_with fail
  rw [rounds_succ]
  go_wp2_with fail
  refine (num_calls 1 2 6 _ (by decide +kernel)).mono ?_
  rintro e w3 ⟨rfl, hb⟩
  have hid3 := Lib.hid (below_then hid2.out hid2.out.size hb)
  clear hb hid2
  go_wp2_with fail
  rw [rounds_succ]
  go_wp2_with fail
  rw [rounds_succ]
  go_wp2_with fail
  refine wp_loop_rounds 4 ?_
  rw [rounds_succ]
  go_wp2_with fail
  refine (num_calls 2 0 1 _ (by decide +kernel)).mono ?_
  rintro e w4 ⟨rfl, hb⟩
  have hid4 := Lib.hid (below_then hid3.out hid3.out.size hb)
  clear hb hid3
  go_wp2_with fail
  rw [rounds_succ]
  go_wp2_with fail
  refine (num_calls 2 1 5 _ (by decide +kernel)).mono ?_
  rintro e w5 ⟨rfl, hb⟩
  have hid5 := Lib.hid (below_then hid4.out hid4.out.size hb)
  clear hb hid4
  go_wp2_with fail
  go_ret2
  exact ⟨rfl, hid5.out⟩
set_option maxRecDepth 100000 in
set_option maxHeartbeats 4000000 in
theorem rsort_7 (w : World) : Calls Tryd.prog 13 #[.int .i64 7] w (Sorts w 2 2) := by
  have hid0 := Lib.hid (Below.refl w.heap.size w)
  go_enter Tryd.func13, Tryd.ntmps13
  go_wp2_with fail
  refine wp_loop_rounds 4 ?_
  rw [rounds_succ]
  go_wp2_with fail
  refine wp_loop_rounds 4 ?_
  rw [rounds_succ]
  go_wp2_with fail
  refine (num_calls 1 0 0 _ (by decide +kernel)).mono ?_
  rintro e w1 ⟨rfl, hb⟩
  have hid1 := Lib.hid (below_then hid0.out hid0.out.size hb)
  clear hb hid0
  go_wp2_with fail
  rw [rounds_succ]
  go_wp2_with fail
  refine (num_calls 1 1 4 _ (by decide +kernel)).mono ?_
  rintro e w2 ⟨rfl, hb⟩
  have hid2 := Lib.hid (below_then hid1.out hid1.out.size hb)
  clear hb hid1
  go_wp2_with fail
  rw [rounds_succ]
  go_wp2_with fail
  refine (num_calls 1 2 6 _ (by decide +kernel)).mono ?_
  rintro e w3 ⟨rfl, hb⟩
  have hid3 := Lib.hid (below_then hid2.out hid2.out.size hb)
  clear hb hid2
  go_wp2_with fail
  rw [rounds_succ]
  go_wp2_with fail
  rw [rounds_succ]
  go_wp2_with fail
  refine wp_loop_rounds 4 ?_
  rw [rounds_succ]
  go_wp2_with fail
  refine (num_calls 2 0 1 _ (by decide +kernel)).mono ?_
  rintro e w4 ⟨rfl, hb⟩
  have hid4 := Lib.hid (below_then hid3.out hid3.out.size hb)
  clear hb hid3
  go_wp2_with fail
  rw [rounds_succ]
  go_wp2_with fail
  refine (num_calls 2 1 5 _ (by decide +kernel)).mono ?_
  rintro e w5 ⟨rfl, hb⟩
  have hid5 := Lib.hid (below_then hid4.out hid4.out.size hb)
  clear hb hid4
  go_wp2_with fail
  rw [rounds_succ]
  go_wp2_with fail
  refine (num_calls 2 2 7 _ (by decide +kernel)).mono ?_
  rintro e w6 ⟨rfl, hb⟩
  have hid6 := Lib.hid (below_then hid5.out hid5.out.size hb)
  clear hb hid5
  go_wp2_with fail
  go_ret2
  exact ⟨rfl, hid6.out⟩
set_option maxRecDepth 100000 in
set_option maxHeartbeats 4000000 in
theorem rsort_12 (w : World) : Calls Tryd.prog 13 #[.int .i64 12] w (Sorts w 3 0) := by
  have hid0 := Lib.hid (Below.refl w.heap.size w)
  go_enter Tryd.func13, Tryd.ntmps13
  go_wp2_with fail
  refine wp_loop_rounds 4 ?_
  rw [rounds_succ]
  go_wp2_with fail
  refine wp_loop_rounds 4 ?_
  rw [rounds_succ]
  go_wp2_with fail
  refine (num_calls 1 0 0 _ (by decide +kernel)).mono ?_
  rintro e w1 ⟨rfl, hb⟩
  have hid1 := Lib.hid (below_then hid0.out hid0.out.size hb)
  clear hb hid0
  go_wp2_with fail
  rw [rounds_succ]
  go_wp2_with fail
  refine (num_calls 1 1 4 _ (by decide +kernel)).mono ?_
  rintro e w2 ⟨rfl, hb⟩
  have hid2 := Lib.hid (below_then hid1.out hid1.out.size hb)
  clear hb hid1
  go_wp2_with fail
  rw [rounds_succ]
  go_wp2_with fail
  refine (num_calls 1 2 6 _ (by decide +kernel)).mono ?_
  rintro e w3 ⟨rfl, hb⟩
  have hid3 := Lib.hid (below_then hid2.out hid2.out.size hb)
  clear hb hid2
  go_wp2_with fail
  rw [rounds_succ]
  go_wp2_with fail
  rw [rounds_succ]
  go_wp2_with fail
  refine wp_loop_rounds 4 ?_
  rw [rounds_succ]
  go_wp2_with fail
  refine (num_calls 2 0 1 _ (by decide +kernel)).mono ?_
  rintro e w4 ⟨rfl, hb⟩
  have hid4 := Lib.hid (below_then hid3.out hid3.out.size hb)
  clear hb hid3
  go_wp2_with fail
  rw [rounds_succ]
  go_wp2_with fail
  refine (num_calls 2 1 5 _ (by decide +kernel)).mono ?_
  rintro e w5 ⟨rfl, hb⟩
  have hid5 := Lib.hid (below_then hid4.out hid4.out.size hb)
  clear hb hid4
  go_wp2_with fail
  rw [rounds_succ]
  go_wp2_with fail
  refine (num_calls 2 2 7 _ (by decide +kernel)).mono ?_
  rintro e w6 ⟨rfl, hb⟩
  have hid6 := Lib.hid (below_then hid5.out hid5.out.size hb)
  clear hb hid5
  go_wp2_with fail
  rw [rounds_succ]
  go_wp2_with fail
  rw [rounds_succ]
  go_wp2_with fail
  refine wp_loop_rounds 4 ?_
  rw [rounds_succ]
  go_wp2_with fail
  refine (num_calls 3 0 12 _ (by decide +kernel)).mono ?_
  rintro e w7 ⟨rfl, hb⟩
  have hid7 := Lib.hid (below_then hid6.out hid6.out.size hb)
  clear hb hid6
  go_wp2_with fail
  go_ret2
  exact ⟨rfl, hid7.out⟩
set_option maxRecDepth 100000 in
set_option maxHeartbeats 4000000 in
theorem rsort_13 (w : World) : Calls Tryd.prog 13 #[.int .i64 13] w (Sorts w 3 1) := by
  have hid0 := Lib.hid (Below.refl w.heap.size w)
  go_enter Tryd.func13, Tryd.ntmps13
  go_wp2_with fail
  refine wp_loop_rounds 4 ?_
  rw [rounds_succ]
  go_wp2_with fail
  refine wp_loop_rounds 4 ?_
  rw [rounds_succ]
  go_wp2_with fail
  refine (num_calls 1 0 0 _ (by decide +kernel)).mono ?_
  rintro e w1 ⟨rfl, hb⟩
  have hid1 := Lib.hid (below_then hid0.out hid0.out.size hb)
  clear hb hid0
  go_wp2_with fail
  rw [rounds_succ]
  go_wp2_with fail
  refine (num_calls 1 1 4 _ (by decide +kernel)).mono ?_
  rintro e w2 ⟨rfl, hb⟩
  have hid2 := Lib.hid (below_then hid1.out hid1.out.size hb)
  clear hb hid1
  go_wp2_with fail
  rw [rounds_succ]
  go_wp2_with fail
  refine (num_calls 1 2 6 _ (by decide +kernel)).mono ?_
  rintro e w3 ⟨rfl, hb⟩
  have hid3 := Lib.hid (below_then hid2.out hid2.out.size hb)
  clear hb hid2
  go_wp2_with fail
  rw [rounds_succ]
  go_wp2_with fail
  rw [rounds_succ]
  go_wp2_with fail
  refine wp_loop_rounds 4 ?_
  rw [rounds_succ]
  go_wp2_with fail
  refine (num_calls 2 0 1 _ (by decide +kernel)).mono ?_
  rintro e w4 ⟨rfl, hb⟩
  have hid4 := Lib.hid (below_then hid3.out hid3.out.size hb)
  clear hb hid3
  go_wp2_with fail
  rw [rounds_succ]
  go_wp2_with fail
  refine (num_calls 2 1 5 _ (by decide +kernel)).mono ?_
  rintro e w5 ⟨rfl, hb⟩
  have hid5 := Lib.hid (below_then hid4.out hid4.out.size hb)
  clear hb hid4
  go_wp2_with fail
  rw [rounds_succ]
  go_wp2_with fail
  refine (num_calls 2 2 7 _ (by decide +kernel)).mono ?_
  rintro e w6 ⟨rfl, hb⟩
  have hid6 := Lib.hid (below_then hid5.out hid5.out.size hb)
  clear hb hid5
  go_wp2_with fail
  rw [rounds_succ]
  go_wp2_with fail
  rw [rounds_succ]
  go_wp2_with fail
  refine wp_loop_rounds 4 ?_
  rw [rounds_succ]
  go_wp2_with fail
  refine (num_calls 3 0 12 _ (by decide +kernel)).mono ?_
  rintro e w7 ⟨rfl, hb⟩
  have hid7 := Lib.hid (below_then hid6.out hid6.out.size hb)
  clear hb hid6
  go_wp2_with fail
  rw [rounds_succ]
  go_wp2_with fail
  refine (num_calls 3 1 13 _ (by decide +kernel)).mono ?_
  rintro e w8 ⟨rfl, hb⟩
  have hid8 := Lib.hid (below_then hid7.out hid7.out.size hb)
  clear hb hid7
  go_wp2_with fail
  go_ret2
  exact ⟨rfl, hid8.out⟩
set_option maxRecDepth 100000 in
set_option maxHeartbeats 4000000 in
theorem rsort_15 (w : World) : Calls Tryd.prog 13 #[.int .i64 15] w (Sorts w 3 2) := by
  have hid0 := Lib.hid (Below.refl w.heap.size w)
  go_enter Tryd.func13, Tryd.ntmps13
  go_wp2_with fail
  refine wp_loop_rounds 4 ?_
  rw [rounds_succ]
  go_wp2_with fail
  refine wp_loop_rounds 4 ?_
  rw [rounds_succ]
  go_wp2_with fail
  refine (num_calls 1 0 0 _ (by decide +kernel)).mono ?_
  rintro e w1 ⟨rfl, hb⟩
  have hid1 := Lib.hid (below_then hid0.out hid0.out.size hb)
  clear hb hid0
  go_wp2_with fail
  rw [rounds_succ]
  go_wp2_with fail
  refine (num_calls 1 1 4 _ (by decide +kernel)).mono ?_
  rintro e w2 ⟨rfl, hb⟩
  have hid2 := Lib.hid (below_then hid1.out hid1.out.size hb)
  clear hb hid1
  go_wp2_with fail
  rw [rounds_succ]
  go_wp2_with fail
  refine (num_calls 1 2 6 _ (by decide +kernel)).mono ?_
  rintro e w3 ⟨rfl, hb⟩
  have hid3 := Lib.hid (below_then hid2.out hid2.out.size hb)
  clear hb hid2
  go_wp2_with fail
  rw [rounds_succ]
  go_wp2_with fail
  rw [rounds_succ]
  go_wp2_with fail
  refine wp_loop_rounds 4 ?_
  rw [rounds_succ]
  go_wp2_with fail
  refine (num_calls 2 0 1 _ (by decide +kernel)).mono ?_
  rintro e w4 ⟨rfl, hb⟩
  have hid4 := Lib.hid (below_then hid3.out hid3.out.size hb)
  clear hb hid3
  go_wp2_with fail
  rw [rounds_succ]
  go_wp2_with fail
  refine (num_calls 2 1 5 _ (by decide +kernel)).mono ?_
  rintro e w5 ⟨rfl, hb⟩
  have hid5 := Lib.hid (below_then hid4.out hid4.out.size hb)
  clear hb hid4
  go_wp2_with fail
  rw [rounds_succ]
  go_wp2_with fail
  refine (num_calls 2 2 7 _ (by decide +kernel)).mono ?_
  rintro e w6 ⟨rfl, hb⟩
  have hid6 := Lib.hid (below_then hid5.out hid5.out.size hb)
  clear hb hid5
  go_wp2_with fail
  rw [rounds_succ]
  go_wp2_with fail
  rw [rounds_succ]
  go_wp2_with fail
  refine wp_loop_rounds 4 ?_
  rw [rounds_succ]
  go_wp2_with fail
  refine (num_calls 3 0 12 _ (by decide +kernel)).mono ?_
  rintro e w7 ⟨rfl, hb⟩
  have hid7 := Lib.hid (below_then hid6.out hid6.out.size hb)
  clear hb hid6
  go_wp2_with fail
  rw [rounds_succ]
  go_wp2_with fail
  refine (num_calls 3 1 13 _ (by decide +kernel)).mono ?_
  rintro e w8 ⟨rfl, hb⟩
  have hid8 := Lib.hid (below_then hid7.out hid7.out.size hb)
  clear hb hid7
  go_wp2_with fail
  rw [rounds_succ]
  go_wp2_with fail
  refine (num_calls 3 2 15 _ (by decide +kernel)).mono ?_
  rintro e w9 ⟨rfl, hb⟩
  have hid9 := Lib.hid (below_then hid8.out hid8.out.size hb)
  clear hb hid8
  go_wp2_with fail
  go_ret2
  exact ⟨rfl, hid9.out⟩
theorem rsort_calls (n : Int) (w : World) : Calls Tryd.prog 13 #[.int .i64 n] w (Sorts w (sortOf n).1 (sortOf n).2) := by
  by_cases e0 : n = 0
  · subst e0; exact rsort_0 w
  by_cases e4 : n = 4
  · subst e4; exact rsort_4 w
  by_cases e6 : n = 6
  · subst e6; exact rsort_6 w
  by_cases e1 : n = 1
  · subst e1; exact rsort_1 w
  by_cases e5 : n = 5
  · subst e5; exact rsort_5 w
  by_cases e7 : n = 7
  · subst e7; exact rsort_7 w
  by_cases e12 : n = 12
  · subst e12; exact rsort_12 w
  by_cases e13 : n = 13
  · subst e13; exact rsort_13 w
  by_cases e15 : n = 15
  · subst e15; exact rsort_15 w
  have hs : sortOf n = (0, 0) := by simp [sortOf, e0, e4, e6, e1, e5, e7, e12, e13, e15]
  rw [hs]
  exact rsort_none n w (by simpa using Ne.symm e0) (by simpa using Ne.symm e4) (by simpa using Ne.symm e6) (by simpa using Ne.symm e1) (by simpa using Ne.symm e5) (by simpa using Ne.symm e7) (by simpa using Ne.symm e12) (by simpa using Ne.symm e13) (by simpa using Ne.symm e15)
end Go.Proofs.YtichkddkmoljcaaDoor
