/- CauseApart's road, walked. -/
import Derived.Test.YtichkddkmoljcaaDoorCauseA
import Derived.Laws.AppendOwn
set_option linter.unusedVariables false
set_option linter.unusedSimpArgs false
namespace Go.Proofs.YtichkddkmoljcaaDoor
open Go.RowKit Go.Proofs.YtichkddkmoljcaaDoorW.PrintWords
namespace Apart
/-- A block that holds three faults of one address. -/
structure Row9 (L : Nat) (x y z a : Int) (w : World) : Prop where
  ty : ∃ cs, w.heap[L]? = some (.cells cs 25 (0, 0))
  c0 : w.cell? ⟨L, 0, none⟩ = some (.bool true)
  c1 : w.cell? ⟨L, 1, none⟩ = some (.int .i64 x)
  c2 : w.cell? ⟨L, 2, none⟩ = some (.int .u64 a)
  c3 : w.cell? ⟨L, 3, none⟩ = some (.bool true)
  c4 : w.cell? ⟨L, 4, none⟩ = some (.int .i64 y)
  c5 : w.cell? ⟨L, 5, none⟩ = some (.int .u64 a)
  c6 : w.cell? ⟨L, 6, none⟩ = some (.bool true)
  c7 : w.cell? ⟨L, 7, none⟩ = some (.int .i64 z)
  c8 : w.cell? ⟨L, 8, none⟩ = some (.int .u64 a)
theorem Row9.lt {L : Nat} {x y z a : Int} {w : World} (h : Row9 L x y z a w) : L < w.heap.size := by
  obtain ⟨cs, e⟩ := h.ty
  exact (Array.getElem?_eq_some_iff.1 e).1
theorem Row9.move {L : Nat} {x y z a : Int} {w w1 : World} (h : Row9 L x y z a w) (hm : w1.heap[L]? = w.heap[L]?) : Row9 L x y z a w1 := by
  have e : ∀ o, w1.cell? ⟨L, o, none⟩ = w.cell? ⟨L, o, none⟩ := fun o => by simp [World.cell?, hm]
  exact ⟨hm ▸ h.ty, (e _).trans h.c0, (e _).trans h.c1, (e _).trans h.c2, (e _).trans h.c3, (e _).trans h.c4, (e _).trans h.c5, (e _).trans h.c6, (e _).trans h.c7, (e _).trans h.c8⟩
theorem Row9.below {L : Nat} {x y z a : Int} {w w1 : World} (h : Row9 L x y z a w) (hb : Below w.heap.size w w1) : Row9 L x y z a w1 := h.move (hb.block L h.lt)
theorem Row9.new (w : World) (x y z a : Int) : Row9 w.heap.size x y z a (w.alloc (.cells #[.bool true, .int .i64 x, .int .u64 a, .bool true, .int .i64 y, .int .u64 a, .bool true, .int .i64 z, .int .u64 a] 25)) := by
  refine ⟨⟨_, heap_alloc_new w _⟩, ?_, ?_, ?_, ?_, ?_, ?_, ?_, ?_, ?_⟩ <;> simp [go_sem]
/-- Behind an append to the names, which are no faults. -/
theorem Row9.grown {L : Nat} {x y z a : Int} {w w1 : World} {base n : Nat} {v : Value} {xs : List Value} (h : Row9 L x y z a w) (ho : w.ownsRow base 9 1 v n xs) (hg : w.grownBy w1 v.ownBlock) : Row9 L x y z a w1 := by
  refine h.move (hg.block L h.lt fun hk => ?_)
  obtain ⟨cells, hc⟩ := own_typed ho L hk.symm
  obtain ⟨cs, hc'⟩ := h.ty
  rw [hc] at hc'
  injection hc' with e1
  injection e1 with _ e2
  exact absurd e2 (by decide)
theorem lit_00 : sOdd ++ (⟨#[32]⟩ : ByteArray) ++ sFetch = (⟨#[111, 100, 100, 32, 102, 101, 116, 99, 104]⟩ : ByteArray) := by decide +kernel
theorem lit_01 : sOdd ++ (⟨#[32]⟩ : ByteArray) ++ sLoad = (⟨#[111, 100, 100, 32, 108, 111, 97, 100]⟩ : ByteArray) := by decide +kernel
theorem lit_02 : sOdd ++ (⟨#[32]⟩ : ByteArray) ++ sStore = (⟨#[111, 100, 100, 32, 115, 116, 111, 114, 101]⟩ : ByteArray) := by decide +kernel
theorem lit_10 : sAccess ++ (⟨#[32]⟩ : ByteArray) ++ sFetch = (⟨#[97, 99, 99, 101, 115, 115, 32, 102, 101, 116, 99, 104]⟩ : ByteArray) := by decide +kernel
theorem lit_11 : sAccess ++ (⟨#[32]⟩ : ByteArray) ++ sLoad = (⟨#[97, 99, 99, 101, 115, 115, 32, 108, 111, 97, 100]⟩ : ByteArray) := by decide +kernel
theorem lit_12 : sAccess ++ (⟨#[32]⟩ : ByteArray) ++ sStore = (⟨#[97, 99, 99, 101, 115, 115, 32, 115, 116, 111, 114, 101]⟩ : ByteArray) := by decide +kernel
theorem lit_20 : sPage ++ (⟨#[32]⟩ : ByteArray) ++ sFetch = (⟨#[112, 97, 103, 101, 32, 102, 101, 116, 99, 104]⟩ : ByteArray) := by decide +kernel
theorem lit_21 : sPage ++ (⟨#[32]⟩ : ByteArray) ++ sLoad = (⟨#[112, 97, 103, 101, 32, 108, 111, 97, 100]⟩ : ByteArray) := by decide +kernel
theorem lit_22 : sPage ++ (⟨#[32]⟩ : ByteArray) ++ sStore = (⟨#[112, 97, 103, 101, 32, 115, 116, 111, 114, 101]⟩ : ByteArray) := by decide +kernel
set_option maxRecDepth 100000 in
set_option maxHeartbeats 40000000 in
theorem law_calls (addr : Int) (w : World) (h : Ld w) : Calls Tryd.prog 5 #[.int .u64 addr] w (Bools w true) := by
  have hid0 := Lib.hid (Below.refl w.heap.size w)
  have ho0 := Lib.hid (own_nil w w.heap.size 9 1)
  go_enter Tryd.func5, Tryd.ntmps5
  go_wp2_with fail
  refine (awake_calls _ h).mono ?_
  rintro e w1 ⟨rfl, hb⟩
  have hid1 := Lib.hid (below_then hid0.out hid0.out.size hb)
  have ho1 := Lib.hid (pw_own_below ho0.out hb)
  clear hb hid0 ho0
  go_wp2_with fail
  refine wp_loop_rounds 4 ?_
  rw [rounds_succ]
  go_wp2_with fail
  refine (odd_calls 0 addr _ (h.below hid1.out) (by omega)).mono ?_
  rintro e w2 ⟨rfl, hb⟩
  have hid2 := Lib.hid (below_then hid1.out hid1.out.size hb)
  have ho2 := Lib.hid (pw_own_below ho1.out hb)
  clear hb hid1 ho1
  rw [show causeOf 0 0 = 0 from rfl]
  go_wp2_with fail
  refine (access_calls 0 addr _ (h.below hid2.out) (by omega)).mono ?_
  rintro e w3 ⟨rfl, hb⟩
  have hid3 := Lib.hid (below_then hid2.out hid2.out.size hb)
  have ho3 := Lib.hid (pw_own_below ho2.out hb)
  clear hb hid2 ho2
  rw [show causeOf 1 0 = 1 from rfl]
  go_wp2_with fail
  refine (page_calls 0 addr _ (h.below hid3.out) (by omega)).mono ?_
  rintro e w4 ⟨rfl, hb⟩
  have hid4 := Lib.hid (below_then hid3.out hid3.out.size hb)
  have ho4 := Lib.hid (pw_own_below ho3.out hb)
  clear hb hid3 ho3
  rw [show causeOf 2 0 = 12 from rfl]
  go_wp2_with fail
  refine wp_loop_rounds 4 ?_
  rw [rounds_succ]
  go_wp2_with fail
  refine (sort_0 _ ((h.below hid4.out).alloc _)).mono ?_
  rintro e w5 ⟨rfl, hb⟩
  have hid5 := Lib.hid (below_then (below_alloc hid4.out _) (below_alloc hid4.out _).size hb)
  have ho5 := Lib.hid (pw_own_below (ho4.out.alloc _) hb)
  have hr5 := Lib.hid ((Row9.new w4 0 1 12 addr).below hb)
  clear hb hid4 ho4
  have q1 := hr5.out.c1
  go_wp2_with fail
  clear q1
  refine (name_0 _ (h.below hid5.out)).mono ?_
  rintro e w6 ⟨rfl, hb⟩
  have hid6 := Lib.hid (below_then hid5.out hid5.out.size hb)
  have ho6 := Lib.hid (pw_own_below ho5.out hb)
  have hr6 := Lib.hid (hr5.out.below hb)
  clear hb hid5 ho5 hr5
  rw [lit_00]
  have q0 := hr6.out.c0
  have q2 := hr6.out.c2
  go_wp2_with fail
  clear q0 q2
  refine wp_loop_rounds 9 ?_
  rw [rounds_succ]
  go_wp2_with (at_builtin; refine print_append (w0 := w) w.heap.size rfl (.tmp 88) (.tmp 90) 33 9 (.string ⟨#[]⟩) 16 rfl Tryd.underlying33 (by kernel_rfl) rfl (by decide) (.slice none 0 0) [] (.string (⟨#[111, 100, 100, 32, 102, 101, 116, 99, 104]⟩ : ByteArray)) rfl rfl rfl ?HO ?HB ?hb (by decide) ?_; (case HO => exact ho6.out); (case HB => exact hid6.out); (case hb => exact hid6.out.size); intro v1 w7 hown hB hg hat; obtain ⟨g7, k7, hv1, _, _⟩ := hown.form (by decide); rw [hv1] at hown ⊢; have hr7 := Lib.hid (hr6.out.grown ho6.out hg); have ho7 := Lib.hid hown; have hid7 := Lib.hid hB; clear hown hB hg hat hv1 hr6 ho6 hid6)
  rw [rounds_succ]
  have q1 := hr7.out.c4
  go_wp2_with fail
  clear q1
  refine (sort_1 _ (h.below hid7.out)).mono ?_
  rintro e w8 ⟨rfl, hb⟩
  have hid8 := Lib.hid (below_then hid7.out hid7.out.size hb)
  have ho8 := Lib.hid (pw_own_below ho7.out hb)
  have hr8 := Lib.hid (hr7.out.below hb)
  clear hb hid7 ho7 hr7
  have q1 := hr8.out.c4
  go_wp2_with fail
  clear q1
  refine (name_1 _ (h.below hid8.out)).mono ?_
  rintro e w9 ⟨rfl, hb⟩
  have hid9 := Lib.hid (below_then hid8.out hid8.out.size hb)
  have ho9 := Lib.hid (pw_own_below ho8.out hb)
  have hr9 := Lib.hid (hr8.out.below hb)
  clear hb hid8 ho8 hr8
  rw [lit_10]
  have q0 := hr9.out.c3
  have q2 := hr9.out.c5
  go_wp2_with fail
  clear q0 q2
  refine wp_loop_rounds 9 ?_
  have n0 := ho9.out.cells (g := g7) rfl 0 _ rfl
  rw [add_plain] at n0
  rw [rounds_succ]
  go_wp2_with fail
  rw [rounds_succ]
  clear n0
  go_wp2_with (at_builtin; refine print_append (w0 := w) w.heap.size rfl (.tmp 88) (.tmp 90) 33 9 (.string ⟨#[]⟩) 16 rfl Tryd.underlying33 (by kernel_rfl) rfl (by decide) (.slice (some ⟨g7, 0, none⟩) 1 k7) [.string (⟨#[111, 100, 100, 32, 102, 101, 116, 99, 104]⟩ : ByteArray)] (.string (⟨#[97, 99, 99, 101, 115, 115, 32, 102, 101, 116, 99, 104]⟩ : ByteArray)) rfl rfl rfl ?HO ?HB ?hb (by decide) ?_; (case HO => exact ho9.out); (case HB => exact hid9.out); (case hb => exact hid9.out.size); intro v1 w10 hown hB hg hat; obtain ⟨g10, k10, hv1, _, _⟩ := hown.form (by decide); rw [hv1] at hown ⊢; have hr10 := Lib.hid (hr9.out.grown ho9.out hg); have ho10 := Lib.hid hown; have hid10 := Lib.hid hB; clear hown hB hg hat hv1 hr9 ho9 hid9)
  rw [rounds_succ]
  have q1 := hr10.out.c7
  go_wp2_with fail
  clear q1
  refine (sort_12 _ (h.below hid10.out)).mono ?_
  rintro e w11 ⟨rfl, hb⟩
  have hid11 := Lib.hid (below_then hid10.out hid10.out.size hb)
  have ho11 := Lib.hid (pw_own_below ho10.out hb)
  have hr11 := Lib.hid (hr10.out.below hb)
  clear hb hid10 ho10 hr10
  have q1 := hr11.out.c7
  go_wp2_with fail
  clear q1
  refine (name_12 _ (h.below hid11.out)).mono ?_
  rintro e w12 ⟨rfl, hb⟩
  have hid12 := Lib.hid (below_then hid11.out hid11.out.size hb)
  have ho12 := Lib.hid (pw_own_below ho11.out hb)
  have hr12 := Lib.hid (hr11.out.below hb)
  clear hb hid11 ho11 hr11
  rw [lit_20]
  have q0 := hr12.out.c6
  have q2 := hr12.out.c8
  go_wp2_with fail
  clear q0 q2
  refine wp_loop_rounds 9 ?_
  have n0 := ho12.out.cells (g := g10) rfl 0 _ rfl
  rw [add_plain] at n0
  have n1 := ho12.out.cells (g := g10) rfl 1 _ rfl
  rw [add_plain] at n1
  rw [rounds_succ]
  go_wp2_with fail
  rw [rounds_succ]
  go_wp2_with fail
  rw [rounds_succ]
  clear n0 n1
  go_wp2_with (at_builtin; refine print_append (w0 := w) w.heap.size rfl (.tmp 88) (.tmp 90) 33 9 (.string ⟨#[]⟩) 16 rfl Tryd.underlying33 (by kernel_rfl) rfl (by decide) (.slice (some ⟨g10, 0, none⟩) 2 k10) [.string (⟨#[111, 100, 100, 32, 102, 101, 116, 99, 104]⟩ : ByteArray), .string (⟨#[97, 99, 99, 101, 115, 115, 32, 102, 101, 116, 99, 104]⟩ : ByteArray)] (.string (⟨#[112, 97, 103, 101, 32, 102, 101, 116, 99, 104]⟩ : ByteArray)) rfl rfl rfl ?HO ?HB ?hb (by decide) ?_; (case HO => exact ho12.out); (case HB => exact hid12.out); (case hb => exact hid12.out.size); intro v1 w13 hown hB hg hat; obtain ⟨g13, k13, hv1, _, _⟩ := hown.form (by decide); rw [hv1] at hown ⊢; have hr13 := Lib.hid (hr12.out.grown ho12.out hg); have ho13 := Lib.hid hown; have hid13 := Lib.hid hB; clear hown hB hg hat hv1 hr12 ho12 hid12)
  rw [rounds_succ]
  go_wp2_with fail
  rw [rounds_succ]
  go_wp2_with fail
  refine (odd_calls 1 addr _ (h.below hid13.out) (by omega)).mono ?_
  rintro e w14 ⟨rfl, hb⟩
  have hid14 := Lib.hid (below_then hid13.out hid13.out.size hb)
  have ho14 := Lib.hid (pw_own_below ho13.out hb)
  clear hb hid13 ho13
  rw [show causeOf 0 1 = 4 from rfl]
  go_wp2_with fail
  refine (access_calls 1 addr _ (h.below hid14.out) (by omega)).mono ?_
  rintro e w15 ⟨rfl, hb⟩
  have hid15 := Lib.hid (below_then hid14.out hid14.out.size hb)
  have ho15 := Lib.hid (pw_own_below ho14.out hb)
  clear hb hid14 ho14
  rw [show causeOf 1 1 = 5 from rfl]
  go_wp2_with fail
  refine (page_calls 1 addr _ (h.below hid15.out) (by omega)).mono ?_
  rintro e w16 ⟨rfl, hb⟩
  have hid16 := Lib.hid (below_then hid15.out hid15.out.size hb)
  have ho16 := Lib.hid (pw_own_below ho15.out hb)
  clear hb hid15 ho15
  rw [show causeOf 2 1 = 13 from rfl]
  go_wp2_with fail
  refine wp_loop_rounds 4 ?_
  rw [rounds_succ]
  go_wp2_with fail
  refine (sort_4 _ ((h.below hid16.out).alloc _)).mono ?_
  rintro e w17 ⟨rfl, hb⟩
  have hid17 := Lib.hid (below_then (below_alloc hid16.out _) (below_alloc hid16.out _).size hb)
  have ho17 := Lib.hid (pw_own_below (ho16.out.alloc _) hb)
  have hr17 := Lib.hid ((Row9.new w16 4 5 13 addr).below hb)
  clear hb hid16 ho16
  have q1 := hr17.out.c1
  go_wp2_with fail
  clear q1
  refine (name_4 _ (h.below hid17.out)).mono ?_
  rintro e w18 ⟨rfl, hb⟩
  have hid18 := Lib.hid (below_then hid17.out hid17.out.size hb)
  have ho18 := Lib.hid (pw_own_below ho17.out hb)
  have hr18 := Lib.hid (hr17.out.below hb)
  clear hb hid17 ho17 hr17
  rw [lit_01]
  have q0 := hr18.out.c0
  have q2 := hr18.out.c2
  go_wp2_with fail
  clear q0 q2
  refine wp_loop_rounds 9 ?_
  have n0 := ho18.out.cells (g := g13) rfl 0 _ rfl
  rw [add_plain] at n0
  have n1 := ho18.out.cells (g := g13) rfl 1 _ rfl
  rw [add_plain] at n1
  have n2 := ho18.out.cells (g := g13) rfl 2 _ rfl
  rw [add_plain] at n2
  rw [rounds_succ]
  go_wp2_with fail
  rw [rounds_succ]
  go_wp2_with fail
  rw [rounds_succ]
  go_wp2_with fail
  rw [rounds_succ]
  clear n0 n1 n2
  go_wp2_with (at_builtin; refine print_append (w0 := w) w.heap.size rfl (.tmp 88) (.tmp 90) 33 9 (.string ⟨#[]⟩) 16 rfl Tryd.underlying33 (by kernel_rfl) rfl (by decide) (.slice (some ⟨g13, 0, none⟩) 3 k13) [.string (⟨#[111, 100, 100, 32, 102, 101, 116, 99, 104]⟩ : ByteArray), .string (⟨#[97, 99, 99, 101, 115, 115, 32, 102, 101, 116, 99, 104]⟩ : ByteArray), .string (⟨#[112, 97, 103, 101, 32, 102, 101, 116, 99, 104]⟩ : ByteArray)] (.string (⟨#[111, 100, 100, 32, 108, 111, 97, 100]⟩ : ByteArray)) rfl rfl rfl ?HO ?HB ?hb (by decide) ?_; (case HO => exact ho18.out); (case HB => exact hid18.out); (case hb => exact hid18.out.size); intro v1 w19 hown hB hg hat; obtain ⟨g19, k19, hv1, _, _⟩ := hown.form (by decide); rw [hv1] at hown ⊢; have hr19 := Lib.hid (hr18.out.grown ho18.out hg); have ho19 := Lib.hid hown; have hid19 := Lib.hid hB; clear hown hB hg hat hv1 hr18 ho18 hid18)
  rw [rounds_succ]
  have q1 := hr19.out.c4
  go_wp2_with fail
  clear q1
  refine (sort_5 _ (h.below hid19.out)).mono ?_
  rintro e w20 ⟨rfl, hb⟩
  have hid20 := Lib.hid (below_then hid19.out hid19.out.size hb)
  have ho20 := Lib.hid (pw_own_below ho19.out hb)
  have hr20 := Lib.hid (hr19.out.below hb)
  clear hb hid19 ho19 hr19
  have q1 := hr20.out.c4
  go_wp2_with fail
  clear q1
  refine (name_5 _ (h.below hid20.out)).mono ?_
  rintro e w21 ⟨rfl, hb⟩
  have hid21 := Lib.hid (below_then hid20.out hid20.out.size hb)
  have ho21 := Lib.hid (pw_own_below ho20.out hb)
  have hr21 := Lib.hid (hr20.out.below hb)
  clear hb hid20 ho20 hr20
  rw [lit_11]
  have q0 := hr21.out.c3
  have q2 := hr21.out.c5
  go_wp2_with fail
  clear q0 q2
  refine wp_loop_rounds 9 ?_
  have n0 := ho21.out.cells (g := g19) rfl 0 _ rfl
  rw [add_plain] at n0
  have n1 := ho21.out.cells (g := g19) rfl 1 _ rfl
  rw [add_plain] at n1
  have n2 := ho21.out.cells (g := g19) rfl 2 _ rfl
  rw [add_plain] at n2
  have n3 := ho21.out.cells (g := g19) rfl 3 _ rfl
  rw [add_plain] at n3
  rw [rounds_succ]
  go_wp2_with fail
  rw [rounds_succ]
  go_wp2_with fail
  rw [rounds_succ]
  go_wp2_with fail
  rw [rounds_succ]
  go_wp2_with fail
  rw [rounds_succ]
  clear n0 n1 n2 n3
  go_wp2_with (at_builtin; refine print_append (w0 := w) w.heap.size rfl (.tmp 88) (.tmp 90) 33 9 (.string ⟨#[]⟩) 16 rfl Tryd.underlying33 (by kernel_rfl) rfl (by decide) (.slice (some ⟨g19, 0, none⟩) 4 k19) [.string (⟨#[111, 100, 100, 32, 102, 101, 116, 99, 104]⟩ : ByteArray), .string (⟨#[97, 99, 99, 101, 115, 115, 32, 102, 101, 116, 99, 104]⟩ : ByteArray), .string (⟨#[112, 97, 103, 101, 32, 102, 101, 116, 99, 104]⟩ : ByteArray), .string (⟨#[111, 100, 100, 32, 108, 111, 97, 100]⟩ : ByteArray)] (.string (⟨#[97, 99, 99, 101, 115, 115, 32, 108, 111, 97, 100]⟩ : ByteArray)) rfl rfl rfl ?HO ?HB ?hb (by decide) ?_; (case HO => exact ho21.out); (case HB => exact hid21.out); (case hb => exact hid21.out.size); intro v1 w22 hown hB hg hat; obtain ⟨g22, k22, hv1, _, _⟩ := hown.form (by decide); rw [hv1] at hown ⊢; have hr22 := Lib.hid (hr21.out.grown ho21.out hg); have ho22 := Lib.hid hown; have hid22 := Lib.hid hB; clear hown hB hg hat hv1 hr21 ho21 hid21)
  rw [rounds_succ]
  have q1 := hr22.out.c7
  go_wp2_with fail
  clear q1
  refine (sort_13 _ (h.below hid22.out)).mono ?_
  rintro e w23 ⟨rfl, hb⟩
  have hid23 := Lib.hid (below_then hid22.out hid22.out.size hb)
  have ho23 := Lib.hid (pw_own_below ho22.out hb)
  have hr23 := Lib.hid (hr22.out.below hb)
  clear hb hid22 ho22 hr22
  have q1 := hr23.out.c7
  go_wp2_with fail
  clear q1
  refine (name_13 _ (h.below hid23.out)).mono ?_
  rintro e w24 ⟨rfl, hb⟩
  have hid24 := Lib.hid (below_then hid23.out hid23.out.size hb)
  have ho24 := Lib.hid (pw_own_below ho23.out hb)
  have hr24 := Lib.hid (hr23.out.below hb)
  clear hb hid23 ho23 hr23
  rw [lit_21]
  have q0 := hr24.out.c6
  have q2 := hr24.out.c8
  go_wp2_with fail
  clear q0 q2
  refine wp_loop_rounds 9 ?_
  have n0 := ho24.out.cells (g := g22) rfl 0 _ rfl
  rw [add_plain] at n0
  have n1 := ho24.out.cells (g := g22) rfl 1 _ rfl
  rw [add_plain] at n1
  have n2 := ho24.out.cells (g := g22) rfl 2 _ rfl
  rw [add_plain] at n2
  have n3 := ho24.out.cells (g := g22) rfl 3 _ rfl
  rw [add_plain] at n3
  have n4 := ho24.out.cells (g := g22) rfl 4 _ rfl
  rw [add_plain] at n4
  rw [rounds_succ]
  go_wp2_with fail
  rw [rounds_succ]
  go_wp2_with fail
  rw [rounds_succ]
  go_wp2_with fail
  rw [rounds_succ]
  go_wp2_with fail
  rw [rounds_succ]
  go_wp2_with fail
  rw [rounds_succ]
  clear n0 n1 n2 n3 n4
  go_wp2_with (at_builtin; refine print_append (w0 := w) w.heap.size rfl (.tmp 88) (.tmp 90) 33 9 (.string ⟨#[]⟩) 16 rfl Tryd.underlying33 (by kernel_rfl) rfl (by decide) (.slice (some ⟨g22, 0, none⟩) 5 k22) [.string (⟨#[111, 100, 100, 32, 102, 101, 116, 99, 104]⟩ : ByteArray), .string (⟨#[97, 99, 99, 101, 115, 115, 32, 102, 101, 116, 99, 104]⟩ : ByteArray), .string (⟨#[112, 97, 103, 101, 32, 102, 101, 116, 99, 104]⟩ : ByteArray), .string (⟨#[111, 100, 100, 32, 108, 111, 97, 100]⟩ : ByteArray), .string (⟨#[97, 99, 99, 101, 115, 115, 32, 108, 111, 97, 100]⟩ : ByteArray)] (.string (⟨#[112, 97, 103, 101, 32, 108, 111, 97, 100]⟩ : ByteArray)) rfl rfl rfl ?HO ?HB ?hb (by decide) ?_; (case HO => exact ho24.out); (case HB => exact hid24.out); (case hb => exact hid24.out.size); intro v1 w25 hown hB hg hat; obtain ⟨g25, k25, hv1, _, _⟩ := hown.form (by decide); rw [hv1] at hown ⊢; have hr25 := Lib.hid (hr24.out.grown ho24.out hg); have ho25 := Lib.hid hown; have hid25 := Lib.hid hB; clear hown hB hg hat hv1 hr24 ho24 hid24)
  rw [rounds_succ]
  go_wp2_with fail
  rw [rounds_succ]
  go_wp2_with fail
  refine (odd_calls 2 addr _ (h.below hid25.out) (by omega)).mono ?_
  rintro e w26 ⟨rfl, hb⟩
  have hid26 := Lib.hid (below_then hid25.out hid25.out.size hb)
  have ho26 := Lib.hid (pw_own_below ho25.out hb)
  clear hb hid25 ho25
  rw [show causeOf 0 2 = 6 from rfl]
  go_wp2_with fail
  refine (access_calls 2 addr _ (h.below hid26.out) (by omega)).mono ?_
  rintro e w27 ⟨rfl, hb⟩
  have hid27 := Lib.hid (below_then hid26.out hid26.out.size hb)
  have ho27 := Lib.hid (pw_own_below ho26.out hb)
  clear hb hid26 ho26
  rw [show causeOf 1 2 = 7 from rfl]
  go_wp2_with fail
  refine (page_calls 2 addr _ (h.below hid27.out) (by omega)).mono ?_
  rintro e w28 ⟨rfl, hb⟩
  have hid28 := Lib.hid (below_then hid27.out hid27.out.size hb)
  have ho28 := Lib.hid (pw_own_below ho27.out hb)
  clear hb hid27 ho27
  rw [show causeOf 2 2 = 15 from rfl]
  go_wp2_with fail
  refine wp_loop_rounds 4 ?_
  rw [rounds_succ]
  go_wp2_with fail
  refine (sort_6 _ ((h.below hid28.out).alloc _)).mono ?_
  rintro e w29 ⟨rfl, hb⟩
  have hid29 := Lib.hid (below_then (below_alloc hid28.out _) (below_alloc hid28.out _).size hb)
  have ho29 := Lib.hid (pw_own_below (ho28.out.alloc _) hb)
  have hr29 := Lib.hid ((Row9.new w28 6 7 15 addr).below hb)
  clear hb hid28 ho28
  have q1 := hr29.out.c1
  go_wp2_with fail
  clear q1
  refine (name_6 _ (h.below hid29.out)).mono ?_
  rintro e w30 ⟨rfl, hb⟩
  have hid30 := Lib.hid (below_then hid29.out hid29.out.size hb)
  have ho30 := Lib.hid (pw_own_below ho29.out hb)
  have hr30 := Lib.hid (hr29.out.below hb)
  clear hb hid29 ho29 hr29
  rw [lit_02]
  have q0 := hr30.out.c0
  have q2 := hr30.out.c2
  go_wp2_with fail
  clear q0 q2
  refine wp_loop_rounds 9 ?_
  have n0 := ho30.out.cells (g := g25) rfl 0 _ rfl
  rw [add_plain] at n0
  have n1 := ho30.out.cells (g := g25) rfl 1 _ rfl
  rw [add_plain] at n1
  have n2 := ho30.out.cells (g := g25) rfl 2 _ rfl
  rw [add_plain] at n2
  have n3 := ho30.out.cells (g := g25) rfl 3 _ rfl
  rw [add_plain] at n3
  have n4 := ho30.out.cells (g := g25) rfl 4 _ rfl
  rw [add_plain] at n4
  have n5 := ho30.out.cells (g := g25) rfl 5 _ rfl
  rw [add_plain] at n5
  rw [rounds_succ]
  go_wp2_with fail
  rw [rounds_succ]
  go_wp2_with fail
  rw [rounds_succ]
  go_wp2_with fail
  rw [rounds_succ]
  go_wp2_with fail
  rw [rounds_succ]
  go_wp2_with fail
  rw [rounds_succ]
  go_wp2_with fail
  rw [rounds_succ]
  clear n0 n1 n2 n3 n4 n5
  go_wp2_with (at_builtin; refine print_append (w0 := w) w.heap.size rfl (.tmp 88) (.tmp 90) 33 9 (.string ⟨#[]⟩) 16 rfl Tryd.underlying33 (by kernel_rfl) rfl (by decide) (.slice (some ⟨g25, 0, none⟩) 6 k25) [.string (⟨#[111, 100, 100, 32, 102, 101, 116, 99, 104]⟩ : ByteArray), .string (⟨#[97, 99, 99, 101, 115, 115, 32, 102, 101, 116, 99, 104]⟩ : ByteArray), .string (⟨#[112, 97, 103, 101, 32, 102, 101, 116, 99, 104]⟩ : ByteArray), .string (⟨#[111, 100, 100, 32, 108, 111, 97, 100]⟩ : ByteArray), .string (⟨#[97, 99, 99, 101, 115, 115, 32, 108, 111, 97, 100]⟩ : ByteArray), .string (⟨#[112, 97, 103, 101, 32, 108, 111, 97, 100]⟩ : ByteArray)] (.string (⟨#[111, 100, 100, 32, 115, 116, 111, 114, 101]⟩ : ByteArray)) rfl rfl rfl ?HO ?HB ?hb (by decide) ?_; (case HO => exact ho30.out); (case HB => exact hid30.out); (case hb => exact hid30.out.size); intro v1 w31 hown hB hg hat; obtain ⟨g31, k31, hv1, _, _⟩ := hown.form (by decide); rw [hv1] at hown ⊢; have hr31 := Lib.hid (hr30.out.grown ho30.out hg); have ho31 := Lib.hid hown; have hid31 := Lib.hid hB; clear hown hB hg hat hv1 hr30 ho30 hid30)
  rw [rounds_succ]
  have q1 := hr31.out.c4
  go_wp2_with fail
  clear q1
  refine (sort_7 _ (h.below hid31.out)).mono ?_
  rintro e w32 ⟨rfl, hb⟩
  have hid32 := Lib.hid (below_then hid31.out hid31.out.size hb)
  have ho32 := Lib.hid (pw_own_below ho31.out hb)
  have hr32 := Lib.hid (hr31.out.below hb)
  clear hb hid31 ho31 hr31
  have q1 := hr32.out.c4
  go_wp2_with fail
  clear q1
  refine (name_7 _ (h.below hid32.out)).mono ?_
  rintro e w33 ⟨rfl, hb⟩
  have hid33 := Lib.hid (below_then hid32.out hid32.out.size hb)
  have ho33 := Lib.hid (pw_own_below ho32.out hb)
  have hr33 := Lib.hid (hr32.out.below hb)
  clear hb hid32 ho32 hr32
  rw [lit_12]
  have q0 := hr33.out.c3
  have q2 := hr33.out.c5
  go_wp2_with fail
  clear q0 q2
  refine wp_loop_rounds 9 ?_
  have n0 := ho33.out.cells (g := g31) rfl 0 _ rfl
  rw [add_plain] at n0
  have n1 := ho33.out.cells (g := g31) rfl 1 _ rfl
  rw [add_plain] at n1
  have n2 := ho33.out.cells (g := g31) rfl 2 _ rfl
  rw [add_plain] at n2
  have n3 := ho33.out.cells (g := g31) rfl 3 _ rfl
  rw [add_plain] at n3
  have n4 := ho33.out.cells (g := g31) rfl 4 _ rfl
  rw [add_plain] at n4
  have n5 := ho33.out.cells (g := g31) rfl 5 _ rfl
  rw [add_plain] at n5
  have n6 := ho33.out.cells (g := g31) rfl 6 _ rfl
  rw [add_plain] at n6
  rw [rounds_succ]
  go_wp2_with fail
  rw [rounds_succ]
  go_wp2_with fail
  rw [rounds_succ]
  go_wp2_with fail
  rw [rounds_succ]
  go_wp2_with fail
  rw [rounds_succ]
  go_wp2_with fail
  rw [rounds_succ]
  go_wp2_with fail
  rw [rounds_succ]
  go_wp2_with fail
  rw [rounds_succ]
  clear n0 n1 n2 n3 n4 n5 n6
  go_wp2_with (at_builtin; refine print_append (w0 := w) w.heap.size rfl (.tmp 88) (.tmp 90) 33 9 (.string ⟨#[]⟩) 16 rfl Tryd.underlying33 (by kernel_rfl) rfl (by decide) (.slice (some ⟨g31, 0, none⟩) 7 k31) [.string (⟨#[111, 100, 100, 32, 102, 101, 116, 99, 104]⟩ : ByteArray), .string (⟨#[97, 99, 99, 101, 115, 115, 32, 102, 101, 116, 99, 104]⟩ : ByteArray), .string (⟨#[112, 97, 103, 101, 32, 102, 101, 116, 99, 104]⟩ : ByteArray), .string (⟨#[111, 100, 100, 32, 108, 111, 97, 100]⟩ : ByteArray), .string (⟨#[97, 99, 99, 101, 115, 115, 32, 108, 111, 97, 100]⟩ : ByteArray), .string (⟨#[112, 97, 103, 101, 32, 108, 111, 97, 100]⟩ : ByteArray), .string (⟨#[111, 100, 100, 32, 115, 116, 111, 114, 101]⟩ : ByteArray)] (.string (⟨#[97, 99, 99, 101, 115, 115, 32, 115, 116, 111, 114, 101]⟩ : ByteArray)) rfl rfl rfl ?HO ?HB ?hb (by decide) ?_; (case HO => exact ho33.out); (case HB => exact hid33.out); (case hb => exact hid33.out.size); intro v1 w34 hown hB hg hat; obtain ⟨g34, k34, hv1, _, _⟩ := hown.form (by decide); rw [hv1] at hown ⊢; have hr34 := Lib.hid (hr33.out.grown ho33.out hg); have ho34 := Lib.hid hown; have hid34 := Lib.hid hB; clear hown hB hg hat hv1 hr33 ho33 hid33)
  rw [rounds_succ]
  have q1 := hr34.out.c7
  go_wp2_with fail
  clear q1
  refine (sort_15 _ (h.below hid34.out)).mono ?_
  rintro e w35 ⟨rfl, hb⟩
  have hid35 := Lib.hid (below_then hid34.out hid34.out.size hb)
  have ho35 := Lib.hid (pw_own_below ho34.out hb)
  have hr35 := Lib.hid (hr34.out.below hb)
  clear hb hid34 ho34 hr34
  have q1 := hr35.out.c7
  go_wp2_with fail
  clear q1
  refine (name_15 _ (h.below hid35.out)).mono ?_
  rintro e w36 ⟨rfl, hb⟩
  have hid36 := Lib.hid (below_then hid35.out hid35.out.size hb)
  have ho36 := Lib.hid (pw_own_below ho35.out hb)
  have hr36 := Lib.hid (hr35.out.below hb)
  clear hb hid35 ho35 hr35
  rw [lit_22]
  have q0 := hr36.out.c6
  have q2 := hr36.out.c8
  go_wp2_with fail
  clear q0 q2
  refine wp_loop_rounds 9 ?_
  have n0 := ho36.out.cells (g := g34) rfl 0 _ rfl
  rw [add_plain] at n0
  have n1 := ho36.out.cells (g := g34) rfl 1 _ rfl
  rw [add_plain] at n1
  have n2 := ho36.out.cells (g := g34) rfl 2 _ rfl
  rw [add_plain] at n2
  have n3 := ho36.out.cells (g := g34) rfl 3 _ rfl
  rw [add_plain] at n3
  have n4 := ho36.out.cells (g := g34) rfl 4 _ rfl
  rw [add_plain] at n4
  have n5 := ho36.out.cells (g := g34) rfl 5 _ rfl
  rw [add_plain] at n5
  have n6 := ho36.out.cells (g := g34) rfl 6 _ rfl
  rw [add_plain] at n6
  have n7 := ho36.out.cells (g := g34) rfl 7 _ rfl
  rw [add_plain] at n7
  rw [rounds_succ]
  go_wp2_with fail
  rw [rounds_succ]
  go_wp2_with fail
  rw [rounds_succ]
  go_wp2_with fail
  rw [rounds_succ]
  go_wp2_with fail
  rw [rounds_succ]
  go_wp2_with fail
  rw [rounds_succ]
  go_wp2_with fail
  rw [rounds_succ]
  go_wp2_with fail
  rw [rounds_succ]
  go_wp2_with fail
  rw [rounds_succ]
  clear n0 n1 n2 n3 n4 n5 n6 n7
  go_wp2_with (at_builtin; refine print_append (w0 := w) w.heap.size rfl (.tmp 88) (.tmp 90) 33 9 (.string ⟨#[]⟩) 16 rfl Tryd.underlying33 (by kernel_rfl) rfl (by decide) (.slice (some ⟨g34, 0, none⟩) 8 k34) [.string (⟨#[111, 100, 100, 32, 102, 101, 116, 99, 104]⟩ : ByteArray), .string (⟨#[97, 99, 99, 101, 115, 115, 32, 102, 101, 116, 99, 104]⟩ : ByteArray), .string (⟨#[112, 97, 103, 101, 32, 102, 101, 116, 99, 104]⟩ : ByteArray), .string (⟨#[111, 100, 100, 32, 108, 111, 97, 100]⟩ : ByteArray), .string (⟨#[97, 99, 99, 101, 115, 115, 32, 108, 111, 97, 100]⟩ : ByteArray), .string (⟨#[112, 97, 103, 101, 32, 108, 111, 97, 100]⟩ : ByteArray), .string (⟨#[111, 100, 100, 32, 115, 116, 111, 114, 101]⟩ : ByteArray), .string (⟨#[97, 99, 99, 101, 115, 115, 32, 115, 116, 111, 114, 101]⟩ : ByteArray)] (.string (⟨#[112, 97, 103, 101, 32, 115, 116, 111, 114, 101]⟩ : ByteArray)) rfl rfl rfl ?HO ?HB ?hb (by decide) ?_; (case HO => exact ho36.out); (case HB => exact hid36.out); (case hb => exact hid36.out.size); intro v1 w37 hown hB hg hat; obtain ⟨g37, k37, hv1, _, _⟩ := hown.form (by decide); rw [hv1] at hown ⊢; have hr37 := Lib.hid (hr36.out.grown ho36.out hg); have ho37 := Lib.hid hown; have hid37 := Lib.hid hB; clear hown hB hg hat hv1 hr36 ho36 hid36)
  rw [rounds_succ]
  go_wp2_with fail
  rw [rounds_succ]
  go_wp2_with fail
  go_ret
  exact ⟨rfl, hid37.out⟩
end Apart
end Go.Proofs.YtichkddkmoljcaaDoor
