/- CauseSteps' road, walked, of three of the nine causes. -/
import Derived.Test.YtichkddkmoljcaaDoorCauseT
set_option linter.unusedVariables false
set_option linter.unusedSimpArgs false
namespace Go.Proofs.YtichkddkmoljcaaDoor
open Go.RowKit Go.Proofs.YtichkddkmoljcaaDoorW.PrintWords
namespace Steps
attribute [local go_sem high] eqFault fld1
set_option maxRecDepth 100000 in
set_option maxHeartbeats 8000000 in
theorem steps_0 (kind addr : Int) (k : Int) (w : World) (h0 : Ld w) (hw : wrap64 (Int.tmod kind 3) = k) (hk : k = 0 ∨ k = 1 ∨ k = 2) :
    Calls Tryd.prog 6 #[.int .u8 kind, .int .u64 addr, .int .i64 0] w (Bools w true) := by
  have f1 : (causeOf 1 k == causeOf 0 k + 1) = true := by rcases hk with rfl | rfl | rfl <;> decide +kernel
  have f2 : (12 : Int) ≤ causeOf 2 k := by rcases hk with rfl | rfl | rfl <;> decide +kernel
  have g0 := (causeOf_bd 0 k).1
  have g1 := (causeOf_bd 0 k).2
  have hid0 := Lib.hid (Below.refl w.heap.size w)
  go_enter Tryd.func6, Tryd.ntmps6
  go_wp2_with fail
  refine (awake_calls _ h0).mono ?_
  rintro e w1 ⟨rfl, hb⟩
  have h1 := h0.below hb
  have hid1 := Lib.hid (below_then hid0.out hid0.out.size hb)
  clear hb h0 hid0
  go_wp2_with fail
  refine (odd_calls k addr _ h1 hk).mono ?_
  rintro e w2 ⟨rfl, hb⟩
  have h2 := h1.below hb
  have hid2 := Lib.hid (below_then hid1.out hid1.out.size hb)
  clear hb h1 hid1
  go_wp2_with fail
  refine (access_calls k addr _ (h2.alloc _) hk).mono ?_
  rintro e w3 ⟨rfl, hb⟩
  have h3 := (h2.alloc _).below hb
  have hid3 := Lib.hid (below_then (below_alloc hid2.out _) (below_alloc hid2.out _).size hb)
  have oa_3 := Lib.hid ((Own.new w2 (causeOf 0 k) addr 25).below hb)
  clear hb h2 hid2
  go_wp2_with fail
  refine (page_calls k addr _ (h3.alloc _) hk).mono ?_
  rintro e w4 ⟨rfl, hb⟩
  have h4 := (h3.alloc _).below hb
  have hid4 := Lib.hid (below_then (below_alloc hid3.out _) (below_alloc hid3.out _).size hb)
  have oa_4 := Lib.hid ((oa_3.out.alloc _).below hb)
  have ob_4 := Lib.hid ((Own.new w3 (causeOf 1 k) addr 25).below hb)
  clear hb h3 hid3 oa_3
  go_wp2_with fail
  refine (sort_0 _ (h4.alloc _)).mono ?_
  rintro e w5 ⟨rfl, hb⟩
  have h5 := (h4.alloc _).below hb
  have hid5 := Lib.hid (below_then (below_alloc hid4.out _) (below_alloc hid4.out _).size hb)
  have oa_5 := Lib.hid ((oa_4.out.alloc _).below hb)
  have ob_5 := Lib.hid ((ob_4.out.alloc _).below hb)
  have oc_5 := Lib.hid ((Own.new w4 (causeOf 2 k) addr 25).below hb)
  clear hb h4 hid4 oa_4 ob_4
  go_wp2_with fail
  refine wp_loop_rounds 4 ?_
  rw [rounds_succ]
  go_wp2_with fail
  refine (odd_calls 0 0 _ h5 (by omega)).mono ?_
  rintro e w6 ⟨rfl, hb⟩
  have h6 := h5.below hb
  have hid6 := Lib.hid (below_then hid5.out hid5.out.size hb)
  have oa_6 := Lib.hid (oa_5.out.below hb)
  have ob_6 := Lib.hid (ob_5.out.below hb)
  have oc_6 := Lib.hid (oc_5.out.below hb)
  clear hb h5 hid5 oa_5 ob_5 oc_5
  rw [show causeOf 0 0 = 0 from rfl]
  go_wp2_with fail
  rw [rounds_succ]
  go_wp2_with fail
  rw [rounds_succ]
  go_wp2_with fail
  rw [rounds_succ]
  have oa1 := oa_6.out.c1
  have oa2 := oa_6.out.c2
  have ob1 := ob_6.out.c1
  have ob2 := ob_6.out.c2
  have oc1 := oc_6.out.c1
  have oc2 := oc_6.out.c2
  go_wp2_with fail
  clear oa1 oa2 ob1 ob2 oc1 oc2
  refine (name_0 _ h6).mono ?_
  rintro e w7 ⟨rfl, hb⟩
  have h7 := h6.below hb
  have hid7 := Lib.hid (below_then hid6.out hid6.out.size hb)
  have oa_7 := Lib.hid (oa_6.out.below hb)
  have ob_7 := Lib.hid (ob_6.out.below hb)
  have oc_7 := Lib.hid (oc_6.out.below hb)
  clear hb h6 hid6 oa_6 ob_6 oc_6
  have hs : (sOdd ++ (⟨#[32]⟩ : ByteArray) ++ sFetch).toList = [111, 100, 100, 32, 102, 101, 116, 99, 104] := by decide +kernel
  go_wp2_with fail
  go_ret
  exact ⟨rfl, hid7.out⟩
set_option maxRecDepth 100000 in
set_option maxHeartbeats 8000000 in
theorem steps_4 (kind addr : Int) (k : Int) (w : World) (h0 : Ld w) (hw : wrap64 (Int.tmod kind 3) = k) (hk : k = 0 ∨ k = 1 ∨ k = 2) :
    Calls Tryd.prog 6 #[.int .u8 kind, .int .u64 addr, .int .i64 4] w (Bools w true) := by
  have f1 : (causeOf 1 k == causeOf 0 k + 1) = true := by rcases hk with rfl | rfl | rfl <;> decide +kernel
  have f2 : (12 : Int) ≤ causeOf 2 k := by rcases hk with rfl | rfl | rfl <;> decide +kernel
  have g0 := (causeOf_bd 0 k).1
  have g1 := (causeOf_bd 0 k).2
  have hid0 := Lib.hid (Below.refl w.heap.size w)
  go_enter Tryd.func6, Tryd.ntmps6
  go_wp2_with fail
  refine (awake_calls _ h0).mono ?_
  rintro e w1 ⟨rfl, hb⟩
  have h1 := h0.below hb
  have hid1 := Lib.hid (below_then hid0.out hid0.out.size hb)
  clear hb h0 hid0
  go_wp2_with fail
  refine (odd_calls k addr _ h1 hk).mono ?_
  rintro e w2 ⟨rfl, hb⟩
  have h2 := h1.below hb
  have hid2 := Lib.hid (below_then hid1.out hid1.out.size hb)
  clear hb h1 hid1
  go_wp2_with fail
  refine (access_calls k addr _ (h2.alloc _) hk).mono ?_
  rintro e w3 ⟨rfl, hb⟩
  have h3 := (h2.alloc _).below hb
  have hid3 := Lib.hid (below_then (below_alloc hid2.out _) (below_alloc hid2.out _).size hb)
  have oa_3 := Lib.hid ((Own.new w2 (causeOf 0 k) addr 25).below hb)
  clear hb h2 hid2
  go_wp2_with fail
  refine (page_calls k addr _ (h3.alloc _) hk).mono ?_
  rintro e w4 ⟨rfl, hb⟩
  have h4 := (h3.alloc _).below hb
  have hid4 := Lib.hid (below_then (below_alloc hid3.out _) (below_alloc hid3.out _).size hb)
  have oa_4 := Lib.hid ((oa_3.out.alloc _).below hb)
  have ob_4 := Lib.hid ((Own.new w3 (causeOf 1 k) addr 25).below hb)
  clear hb h3 hid3 oa_3
  go_wp2_with fail
  refine (sort_4 _ (h4.alloc _)).mono ?_
  rintro e w5 ⟨rfl, hb⟩
  have h5 := (h4.alloc _).below hb
  have hid5 := Lib.hid (below_then (below_alloc hid4.out _) (below_alloc hid4.out _).size hb)
  have oa_5 := Lib.hid ((oa_4.out.alloc _).below hb)
  have ob_5 := Lib.hid ((ob_4.out.alloc _).below hb)
  have oc_5 := Lib.hid ((Own.new w4 (causeOf 2 k) addr 25).below hb)
  clear hb h4 hid4 oa_4 ob_4
  go_wp2_with fail
  refine wp_loop_rounds 4 ?_
  rw [rounds_succ]
  go_wp2_with fail
  refine (odd_calls 0 0 _ h5 (by omega)).mono ?_
  rintro e w6 ⟨rfl, hb⟩
  have h6 := h5.below hb
  have hid6 := Lib.hid (below_then hid5.out hid5.out.size hb)
  have oa_6 := Lib.hid (oa_5.out.below hb)
  have ob_6 := Lib.hid (ob_5.out.below hb)
  have oc_6 := Lib.hid (oc_5.out.below hb)
  clear hb h5 hid5 oa_5 ob_5 oc_5
  rw [show causeOf 0 0 = 0 from rfl]
  go_wp2_with fail
  refine (access_calls 0 0 _ h6 (by omega)).mono ?_
  rintro e w7 ⟨rfl, hb⟩
  have h7 := h6.below hb
  have hid7 := Lib.hid (below_then hid6.out hid6.out.size hb)
  have oa_7 := Lib.hid (oa_6.out.below hb)
  have ob_7 := Lib.hid (ob_6.out.below hb)
  have oc_7 := Lib.hid (oc_6.out.below hb)
  clear hb h6 hid6 oa_6 ob_6 oc_6
  rw [show causeOf 1 0 = 1 from rfl]
  go_wp2_with fail
  refine (page_calls 0 0 _ h7 (by omega)).mono ?_
  rintro e w8 ⟨rfl, hb⟩
  have h8 := h7.below hb
  have hid8 := Lib.hid (below_then hid7.out hid7.out.size hb)
  have oa_8 := Lib.hid (oa_7.out.below hb)
  have ob_8 := Lib.hid (ob_7.out.below hb)
  have oc_8 := Lib.hid (oc_7.out.below hb)
  clear hb h7 hid7 oa_7 ob_7 oc_7
  rw [show causeOf 2 0 = 12 from rfl]
  go_wp2_with fail
  rw [rounds_succ]
  go_wp2_with fail
  refine (odd_calls 1 0 _ h8 (by omega)).mono ?_
  rintro e w9 ⟨rfl, hb⟩
  have h9 := h8.below hb
  have hid9 := Lib.hid (below_then hid8.out hid8.out.size hb)
  have oa_9 := Lib.hid (oa_8.out.below hb)
  have ob_9 := Lib.hid (ob_8.out.below hb)
  have oc_9 := Lib.hid (oc_8.out.below hb)
  clear hb h8 hid8 oa_8 ob_8 oc_8
  rw [show causeOf 0 1 = 4 from rfl]
  go_wp2_with fail
  rw [rounds_succ]
  go_wp2_with fail
  rw [rounds_succ]
  have oa1 := oa_9.out.c1
  have oa2 := oa_9.out.c2
  have ob1 := ob_9.out.c1
  have ob2 := ob_9.out.c2
  have oc1 := oc_9.out.c1
  have oc2 := oc_9.out.c2
  go_wp2_with fail
  clear oa1 oa2 ob1 ob2 oc1 oc2
  refine (name_4 _ h9).mono ?_
  rintro e w10 ⟨rfl, hb⟩
  have h10 := h9.below hb
  have hid10 := Lib.hid (below_then hid9.out hid9.out.size hb)
  have oa_10 := Lib.hid (oa_9.out.below hb)
  have ob_10 := Lib.hid (ob_9.out.below hb)
  have oc_10 := Lib.hid (oc_9.out.below hb)
  clear hb h9 hid9 oa_9 ob_9 oc_9
  have hs : (sOdd ++ (⟨#[32]⟩ : ByteArray) ++ sLoad).toList = [111, 100, 100, 32, 108, 111, 97, 100] := by decide +kernel
  go_wp2_with fail
  go_ret
  exact ⟨rfl, hid10.out⟩
set_option maxRecDepth 100000 in
set_option maxHeartbeats 8000000 in
theorem steps_6 (kind addr : Int) (k : Int) (w : World) (h0 : Ld w) (hw : wrap64 (Int.tmod kind 3) = k) (hk : k = 0 ∨ k = 1 ∨ k = 2) :
    Calls Tryd.prog 6 #[.int .u8 kind, .int .u64 addr, .int .i64 6] w (Bools w true) := by
  have f1 : (causeOf 1 k == causeOf 0 k + 1) = true := by rcases hk with rfl | rfl | rfl <;> decide +kernel
  have f2 : (12 : Int) ≤ causeOf 2 k := by rcases hk with rfl | rfl | rfl <;> decide +kernel
  have g0 := (causeOf_bd 0 k).1
  have g1 := (causeOf_bd 0 k).2
  have hid0 := Lib.hid (Below.refl w.heap.size w)
  go_enter Tryd.func6, Tryd.ntmps6
  go_wp2_with fail
  refine (awake_calls _ h0).mono ?_
  rintro e w1 ⟨rfl, hb⟩
  have h1 := h0.below hb
  have hid1 := Lib.hid (below_then hid0.out hid0.out.size hb)
  clear hb h0 hid0
  go_wp2_with fail
  refine (odd_calls k addr _ h1 hk).mono ?_
  rintro e w2 ⟨rfl, hb⟩
  have h2 := h1.below hb
  have hid2 := Lib.hid (below_then hid1.out hid1.out.size hb)
  clear hb h1 hid1
  go_wp2_with fail
  refine (access_calls k addr _ (h2.alloc _) hk).mono ?_
  rintro e w3 ⟨rfl, hb⟩
  have h3 := (h2.alloc _).below hb
  have hid3 := Lib.hid (below_then (below_alloc hid2.out _) (below_alloc hid2.out _).size hb)
  have oa_3 := Lib.hid ((Own.new w2 (causeOf 0 k) addr 25).below hb)
  clear hb h2 hid2
  go_wp2_with fail
  refine (page_calls k addr _ (h3.alloc _) hk).mono ?_
  rintro e w4 ⟨rfl, hb⟩
  have h4 := (h3.alloc _).below hb
  have hid4 := Lib.hid (below_then (below_alloc hid3.out _) (below_alloc hid3.out _).size hb)
  have oa_4 := Lib.hid ((oa_3.out.alloc _).below hb)
  have ob_4 := Lib.hid ((Own.new w3 (causeOf 1 k) addr 25).below hb)
  clear hb h3 hid3 oa_3
  go_wp2_with fail
  refine (sort_6 _ (h4.alloc _)).mono ?_
  rintro e w5 ⟨rfl, hb⟩
  have h5 := (h4.alloc _).below hb
  have hid5 := Lib.hid (below_then (below_alloc hid4.out _) (below_alloc hid4.out _).size hb)
  have oa_5 := Lib.hid ((oa_4.out.alloc _).below hb)
  have ob_5 := Lib.hid ((ob_4.out.alloc _).below hb)
  have oc_5 := Lib.hid ((Own.new w4 (causeOf 2 k) addr 25).below hb)
  clear hb h4 hid4 oa_4 ob_4
  go_wp2_with fail
  refine wp_loop_rounds 4 ?_
  rw [rounds_succ]
  go_wp2_with fail
  refine (odd_calls 0 0 _ h5 (by omega)).mono ?_
  rintro e w6 ⟨rfl, hb⟩
  have h6 := h5.below hb
  have hid6 := Lib.hid (below_then hid5.out hid5.out.size hb)
  have oa_6 := Lib.hid (oa_5.out.below hb)
  have ob_6 := Lib.hid (ob_5.out.below hb)
  have oc_6 := Lib.hid (oc_5.out.below hb)
  clear hb h5 hid5 oa_5 ob_5 oc_5
  rw [show causeOf 0 0 = 0 from rfl]
  go_wp2_with fail
  refine (access_calls 0 0 _ h6 (by omega)).mono ?_
  rintro e w7 ⟨rfl, hb⟩
  have h7 := h6.below hb
  have hid7 := Lib.hid (below_then hid6.out hid6.out.size hb)
  have oa_7 := Lib.hid (oa_6.out.below hb)
  have ob_7 := Lib.hid (ob_6.out.below hb)
  have oc_7 := Lib.hid (oc_6.out.below hb)
  clear hb h6 hid6 oa_6 ob_6 oc_6
  rw [show causeOf 1 0 = 1 from rfl]
  go_wp2_with fail
  refine (page_calls 0 0 _ h7 (by omega)).mono ?_
  rintro e w8 ⟨rfl, hb⟩
  have h8 := h7.below hb
  have hid8 := Lib.hid (below_then hid7.out hid7.out.size hb)
  have oa_8 := Lib.hid (oa_7.out.below hb)
  have ob_8 := Lib.hid (ob_7.out.below hb)
  have oc_8 := Lib.hid (oc_7.out.below hb)
  clear hb h7 hid7 oa_7 ob_7 oc_7
  rw [show causeOf 2 0 = 12 from rfl]
  go_wp2_with fail
  rw [rounds_succ]
  go_wp2_with fail
  refine (odd_calls 1 0 _ h8 (by omega)).mono ?_
  rintro e w9 ⟨rfl, hb⟩
  have h9 := h8.below hb
  have hid9 := Lib.hid (below_then hid8.out hid8.out.size hb)
  have oa_9 := Lib.hid (oa_8.out.below hb)
  have ob_9 := Lib.hid (ob_8.out.below hb)
  have oc_9 := Lib.hid (oc_8.out.below hb)
  clear hb h8 hid8 oa_8 ob_8 oc_8
  rw [show causeOf 0 1 = 4 from rfl]
  go_wp2_with fail
  refine (access_calls 1 0 _ h9 (by omega)).mono ?_
  rintro e w10 ⟨rfl, hb⟩
  have h10 := h9.below hb
  have hid10 := Lib.hid (below_then hid9.out hid9.out.size hb)
  have oa_10 := Lib.hid (oa_9.out.below hb)
  have ob_10 := Lib.hid (ob_9.out.below hb)
  have oc_10 := Lib.hid (oc_9.out.below hb)
  clear hb h9 hid9 oa_9 ob_9 oc_9
  rw [show causeOf 1 1 = 5 from rfl]
  go_wp2_with fail
  refine (page_calls 1 0 _ h10 (by omega)).mono ?_
  rintro e w11 ⟨rfl, hb⟩
  have h11 := h10.below hb
  have hid11 := Lib.hid (below_then hid10.out hid10.out.size hb)
  have oa_11 := Lib.hid (oa_10.out.below hb)
  have ob_11 := Lib.hid (ob_10.out.below hb)
  have oc_11 := Lib.hid (oc_10.out.below hb)
  clear hb h10 hid10 oa_10 ob_10 oc_10
  rw [show causeOf 2 1 = 13 from rfl]
  go_wp2_with fail
  rw [rounds_succ]
  go_wp2_with fail
  refine (odd_calls 2 0 _ h11 (by omega)).mono ?_
  rintro e w12 ⟨rfl, hb⟩
  have h12 := h11.below hb
  have hid12 := Lib.hid (below_then hid11.out hid11.out.size hb)
  have oa_12 := Lib.hid (oa_11.out.below hb)
  have ob_12 := Lib.hid (ob_11.out.below hb)
  have oc_12 := Lib.hid (oc_11.out.below hb)
  clear hb h11 hid11 oa_11 ob_11 oc_11
  rw [show causeOf 0 2 = 6 from rfl]
  go_wp2_with fail
  rw [rounds_succ]
  have oa1 := oa_12.out.c1
  have oa2 := oa_12.out.c2
  have ob1 := ob_12.out.c1
  have ob2 := ob_12.out.c2
  have oc1 := oc_12.out.c1
  have oc2 := oc_12.out.c2
  go_wp2_with fail
  clear oa1 oa2 ob1 ob2 oc1 oc2
  refine (name_6 _ h12).mono ?_
  rintro e w13 ⟨rfl, hb⟩
  have h13 := h12.below hb
  have hid13 := Lib.hid (below_then hid12.out hid12.out.size hb)
  have oa_13 := Lib.hid (oa_12.out.below hb)
  have ob_13 := Lib.hid (ob_12.out.below hb)
  have oc_13 := Lib.hid (oc_12.out.below hb)
  clear hb h12 hid12 oa_12 ob_12 oc_12
  have hs : (sOdd ++ (⟨#[32]⟩ : ByteArray) ++ sStore).toList = [111, 100, 100, 32, 115, 116, 111, 114, 101] := by decide +kernel
  go_wp2_with fail
  go_ret
  exact ⟨rfl, hid13.out⟩
end Steps
end Go.Proofs.YtichkddkmoljcaaDoor
