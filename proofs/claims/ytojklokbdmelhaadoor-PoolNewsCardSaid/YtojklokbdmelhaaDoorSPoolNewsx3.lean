-- Written by the session's own program wip/stubprint.py; Lean checks it.
import Derived.Test.YtojklokbdmelhaaDoorSPoolNewsx0
import Derived.Test.YtojklokbdmelhaaDoorSPoolNewsx2
namespace Go.Proofs.YtojklokbdmelhaaDoor.SPoolNews
open Go.RowKit Go.Proofs.YtojklokbdmelhaaDoorW.PrintWords Go.Proofs.YtojklokbdmelhaaDoorW.PrintLast Go.Proofs.YtojklokbdmelhaaDoorW.PrintMore
attribute [local go_sem] max2_int min2_int max_two min_two max_three min_three max_four min_four   -- for this text's walks alone
set_option linter.unusedVariables false
set_option linter.unusedSimpArgs false

/-! ### atlasref04_Right: function 10 -/
mutual
def atlasref04_Right.j0 : Nat → Bool → Int → Int → Int → Option (Bool)
  | 0, _, _, _, _ => none
  | k + 1, x16, x116000, x116001, x116002 => if x16 = true then (some false) else (atlasref04_Right.l0 k x116001 x116000 x116001 x116002)
def atlasref04_Right.l0 : Nat → Int → Int → Int → Int → Option (Bool)
  | 0, _, _, _, _ => none
  | k + 1, x3, x116000, x116001, x116002 => if x3 < 64 then ((atlasref01_Bit.f k x116002 x3).bind fun t116 => (if t116 = true then (some false) else (atlasref04_Right.l0 k (wrap64 (x3 + 1)) x116000 x116001 x116002))) else (some true)
end
def atlasref04_Right.f (k : Nat) (a0_0 : Int) (a0_1 : Int) (a0_2 : Int) : Option (Bool) := if a0_1 < 0 then (atlasref04_Right.j0 k true a0_0 a0_1 a0_2) else (if a0_1 > 64 then (atlasref04_Right.j0 k true a0_0 a0_1 a0_2) else (atlasref04_Right.j0 k (decide (a0_0 > 268435456)) a0_0 a0_1 a0_2))
theorem atlasref04_Right.mono_l : ∀ k, (∀ y0 y1 y2 y3, LeO (atlasref04_Right.j0 k y0 y1 y2 y3) (atlasref04_Right.j0 (k + 1) y0 y1 y2 y3)) ∧ (∀ y0 y1 y2 y3, LeO (atlasref04_Right.l0 k y0 y1 y2 y3) (atlasref04_Right.l0 (k + 1) y0 y1 y2 y3))
  | 0 => ⟨fun _ _ _ _ r h => by simp [atlasref04_Right.j0] at h, fun _ _ _ _ r h => by simp [atlasref04_Right.l0] at h⟩
  | k + 1 => by
    obtain ⟨ih0, ih1⟩ := atlasref04_Right.mono_l k
    refine ⟨?_, ?_⟩
    · intro y0 y1 y2 y3
      unfold atlasref04_Right.j0
      repeat' first
      | (with_reducible exact ih0 _ _ _ _)
      | (with_reducible exact ih1 _ _ _ _)
      | (with_reducible exact atlasref01_Bit.mono _ _ _)
      | (with_reducible exact LeO.refl _)
      | (with_reducible exact LeO.none _)
      | (with_reducible refine LeO.ite ?_ ?_)
      | (with_reducible refine LeO.bind ?_ (fun _ => ?_))
      | exact ih0 _ _ _ _
      | exact ih1 _ _ _ _
      | exact atlasref01_Bit.mono _ _ _
      | exact LeO.none _
      | refine LeO.ite ?_ ?_
      | refine LeO.bind ?_ (fun _ => ?_)
    · intro y0 y1 y2 y3
      unfold atlasref04_Right.l0
      repeat' first
      | (with_reducible exact ih0 _ _ _ _)
      | (with_reducible exact ih1 _ _ _ _)
      | (with_reducible exact atlasref01_Bit.mono _ _ _)
      | (with_reducible exact LeO.refl _)
      | (with_reducible exact LeO.none _)
      | (with_reducible refine LeO.ite ?_ ?_)
      | (with_reducible refine LeO.bind ?_ (fun _ => ?_))
      | exact ih0 _ _ _ _
      | exact ih1 _ _ _ _
      | exact atlasref01_Bit.mono _ _ _
      | exact LeO.none _
      | refine LeO.ite ?_ ?_
      | refine LeO.bind ?_ (fun _ => ?_)
theorem atlasref04_Right.mono : ∀ a0 a1 a2 k, LeO (atlasref04_Right.f k a0 a1 a2) (atlasref04_Right.f (k + 1) a0 a1 a2) := by
  intro a0 a1 a2 k
  obtain ⟨ih0, ih1⟩ := atlasref04_Right.mono_l k
  unfold atlasref04_Right.f
  repeat' first
      | (with_reducible exact ih0 _ _ _ _)
      | (with_reducible exact ih1 _ _ _ _)
      | (with_reducible exact atlasref01_Bit.mono _ _ _)
      | (with_reducible exact LeO.refl _)
      | (with_reducible exact LeO.none _)
      | (with_reducible refine LeO.ite ?_ ?_)
      | (with_reducible refine LeO.bind ?_ (fun _ => ?_))
      | exact ih0 _ _ _ _
      | exact ih1 _ _ _ _
      | exact atlasref01_Bit.mono _ _ _
      | exact LeO.none _
      | refine LeO.ite ?_ ?_
      | refine LeO.bind ?_ (fun _ => ?_)
set_option maxHeartbeats 8000000 in
set_option maxRecDepth 100000 in
theorem atlasref04_Right.calls (k : Nat) (a0_0 : Int) (a0_1 : Int) (a0_2 : Int) (r : Bool) (w : World) (h : atlasref04_Right.f k a0_0 a0_1 a0_2 = some r) :
    Calls Tryd.prog 10 #[.agg #[.int .u64 a0_0, .int .i64 a0_1, .int .u64 a0_2]] w fun e w' => e = .returned (.bool r) ∧ Below w.heap.size w w' := by
  have hu24 := Tryd.underlying24
  have HB := Aside0.mk (Below.refl w.heap.size w)
  have H : (if a0_1 < 0 then (atlasref04_Right.j0 k true a0_0 a0_1 a0_2) else (if a0_1 > 64 then (atlasref04_Right.j0 k true a0_0 a0_1 a0_2) else (atlasref04_Right.j0 k (decide (a0_0 > 268435456)) a0_0 a0_1 a0_2))) = some r := h
  clear h
  have HC2 := Aside0.mk H
  clear H
  go_enter Tryd.func10, Tryd.ntmps10
  go_upto_region 1 with (first | ((with_reducible refine gate_dst (N := 1) rfl ?_); refine box_event ?hg (N := 1) ?hd (cs := #[.int .u64 a0_0, .int .i64 a0_1, .int .u64 a0_2]) (t := 24) ?hr ?_; (case hd => rfl); (case hg => rfl); (case hr => first | (go_simp; done) | (go_simp; rfl)); intro gb115 hg w3 hbox hb; have n0_ := Aside0.mk (below_step (by repeat (first | (with_reducible first | exact HB.out | apply below_alloc | apply pw_below_drewN | apply below_drew1) | exact HB.out)) hb); have n1_ := Aside0.mk (hbox); have n2_ := Aside0.mk ((by rw [hg]; exact (below_size (by repeat (first | (with_reducible first | exact HB.out | apply below_alloc | apply pw_below_drewN | apply below_drew1) | exact HB.out))) : w.heap.size ≤ gb115)); have n3_ := Aside0.mk ((by rw [hg]; exact (below_size (by repeat (first | (with_reducible first | exact HB.out | apply below_alloc | apply pw_below_drewN | apply below_drew1) | exact HB.out))) : w.heap.size ≤ gb115)); clear HB; have HB := n0_; have BK115 := n1_; have GW115 := n2_; have GE115 := n3_; clear n0_ n1_ n2_ n3_; clear hb hbox hg))
  (try simp only [Act.put, List.setIfInBounds_toArray, List.set_cons_zero, List.set_cons_succ])
  go_cut [16] (fun v16 wc => ∃ (kq : Nat) (x16_1 : Bool), v16 = .bool x16_1 ∧ Aside0 (atlasref04_Right.j0 kq x16_1 a0_0 a0_1 a0_2 = some r) ∧ Aside0 (kq ≤ k) ∧ Aside0 (wc.heap[gb115]? = some (.cells #[.int .u64 a0_0, .int .i64 a0_1, .int .u64 a0_2] 24 (0, 0))) ∧ Aside0 (Below w.heap.size w wc))
  case first =>
    have H := HC2.out
    clear HC2
    by_cases c4 : a0_1 < 0
    · rw [if_pos c4] at H
      have c4b0 : decide (a0_1 < 0) = true := decide_eq_true c4
      clear c4
      (first | rw [c4b0] | (simp only [i64_w, i32_w]; rw [c4b0]) | skip)
      have H' := Aside0.mk H
      clear H
      have hcz5_0 : w3.cell? ⟨gb115, 0, none⟩ = some (.int .u64 a0_0) := (blk_cell BK115.out 0).trans rfl
      have hcz5_1 : w3.cell? ⟨gb115, 1, none⟩ = some (.int .i64 a0_1) := (blk_cell BK115.out 1).trans rfl
      have hcz5_2 : w3.cell? ⟨gb115, 2, none⟩ = some (.int .u64 a0_2) := (blk_cell BK115.out 2).trans rfl
      have hfz5_0 := blk_frozen BK115.out 0
      have hfz5_1 := blk_frozen BK115.out 1
      have hfz5_2 := blk_frozen BK115.out 2
      go_wp2
      go_meet
      case rel => exact ⟨_, (true), (by first | rfl | (simp; done) | (simp [*]; done)), H', ⟨by first | omega | exact Nat.le_refl _⟩, ⟨by (with_reducible repeat (first | refine blk_drewN ?_ _ | refine blk_drew ?_ | refine blk_alloc ?_ _)); exact BK115.out⟩, ⟨by repeat (first | (with_reducible first | exact HB.out | apply below_alloc | apply pw_below_drewN | apply below_drew1 | refine below_set ?_ GE115.out) | exact HB.out)⟩⟩
    · rw [if_neg c4] at H
      have c4b0 : decide (a0_1 < 0) = false := decide_eq_false c4
      clear c4
      (first | rw [c4b0] | (simp only [i64_w, i32_w]; rw [c4b0]) | skip)
      by_cases c6 : a0_1 > 64
      · rw [if_pos c6] at H
        have c6b0 : decide (64 < a0_1) = true := decide_eq_true c6
        clear c6
        have H' := Aside0.mk H
        clear H
        have hcz7_0 : w3.cell? ⟨gb115, 0, none⟩ = some (.int .u64 a0_0) := (blk_cell BK115.out 0).trans rfl
        have hcz7_1 : w3.cell? ⟨gb115, 1, none⟩ = some (.int .i64 a0_1) := (blk_cell BK115.out 1).trans rfl
        have hcz7_2 : w3.cell? ⟨gb115, 2, none⟩ = some (.int .u64 a0_2) := (blk_cell BK115.out 2).trans rfl
        have hfz7_0 := blk_frozen BK115.out 0
        have hfz7_1 := blk_frozen BK115.out 1
        have hfz7_2 := blk_frozen BK115.out 2
        go_wp2
        go_meet
        case rel => exact ⟨_, (true), (by first | rfl | (simp; done) | (simp [*]; done)), H', ⟨by first | omega | exact Nat.le_refl _⟩, ⟨by (with_reducible repeat (first | refine blk_drewN ?_ _ | refine blk_drew ?_ | refine blk_alloc ?_ _)); exact BK115.out⟩, ⟨by repeat (first | (with_reducible first | exact HB.out | apply below_alloc | apply pw_below_drewN | apply below_drew1 | refine below_set ?_ GE115.out) | exact HB.out)⟩⟩
      · rw [if_neg c6] at H
        have c6b0 : decide (64 < a0_1) = false := decide_eq_false c6
        clear c6
        have H' := Aside0.mk H
        clear H
        have hcz8_0 : w3.cell? ⟨gb115, 0, none⟩ = some (.int .u64 a0_0) := (blk_cell BK115.out 0).trans rfl
        have hcz8_1 : w3.cell? ⟨gb115, 1, none⟩ = some (.int .i64 a0_1) := (blk_cell BK115.out 1).trans rfl
        have hcz8_2 : w3.cell? ⟨gb115, 2, none⟩ = some (.int .u64 a0_2) := (blk_cell BK115.out 2).trans rfl
        have hfz8_0 := blk_frozen BK115.out 0
        have hfz8_1 := blk_frozen BK115.out 1
        have hfz8_2 := blk_frozen BK115.out 2
        go_wp2
        go_meet
        case rel => exact ⟨_, (decide (a0_0 > 268435456)), (by first | rfl | (simp; done) | (simp [*]; done)), H', ⟨by first | omega | exact Nat.le_refl _⟩, ⟨by (with_reducible repeat (first | refine blk_drewN ?_ _ | refine blk_drew ?_ | refine blk_alloc ?_ _)); exact BK115.out⟩, ⟨by repeat (first | (with_reducible first | exact HB.out | apply below_alloc | apply pw_below_drewN | apply below_drew1 | refine below_set ?_ GE115.out) | exact HB.out)⟩⟩
  case rest =>
    clear HC2
    try clear c1
    try clear p2
    try clear c4
    try clear c4b0
    try clear c6
    try clear c6b0
    try clear hcz5_0
    try clear hcz5_1
    try clear hcz5_2
    try clear hcz7_0
    try clear hcz7_1
    try clear hcz7_2
    try clear hcz8_0
    try clear hcz8_1
    try clear hcz8_2
    try clear hfz5_0
    try clear hfz5_1
    try clear hfz5_2
    try clear hfz7_0
    try clear hfz7_1
    try clear hfz7_2
    try clear hfz8_0
    try clear hfz8_1
    try clear hfz8_2
    obtain ⟨kq, x16_1, rfl, HA, HJ1, BK115, HB⟩ := hcut
    cases kq with
    | zero => exact absurd HA.out (by simp [atlasref04_Right.j0])
    | succ kj1 =>
      have H := HA.out
      clear HA
      simp only [atlasref04_Right.j0] at H
      by_cases c9 : x16_1 = true
      · subst c9
        have H1 : (some false) = some r := by rw [if_pos rfl] at H; exact H
        clear H
        have H := H1
        clear H1
        obtain rfl := Option.some.inj H
        go_wp2
        go_ret
        exact ⟨by first | rfl | (simp [errW_none, errW_some] <;> rfl) | (simp [*, errW_none, errW_some] <;> rfl), by repeat (first | (with_reducible first | exact HB.out | apply below_alloc | apply pw_below_drewN | apply below_drew1 | refine below_set ?_ GE115.out) | exact HB.out)⟩
      · replace c9 := Bool.eq_false_iff.mpr c9
        subst c9
        have H1 : (atlasref04_Right.l0 kj1 a0_1 a0_0 a0_1 a0_2) = some r := by rw [if_neg (show ¬ (false = true) by decide)] at H; exact H
        clear H
        have H := H1
        clear H1
        have H' := Aside0.mk H
        clear H
        have hcz10_0 : wc.cell? ⟨gb115, 0, none⟩ = some (.int .u64 a0_0) := (blk_cell BK115.out 0).trans rfl
        have hcz10_1 : wc.cell? ⟨gb115, 1, none⟩ = some (.int .i64 a0_1) := (blk_cell BK115.out 1).trans rfl
        have hcz10_2 : wc.cell? ⟨gb115, 2, none⟩ = some (.int .u64 a0_2) := (blk_cell BK115.out 2).trans rfl
        have hfz10_0 := blk_frozen BK115.out 0
        have hfz10_1 := blk_frozen BK115.out 1
        have hfz10_2 := blk_frozen BK115.out 2
        go_wp2
        go_loopg [3] kj1 (fun kq v3 w' => ∃ (x3_2 : Int), v3 = .int .i64 x3_2 ∧ Aside0 (atlasref04_Right.l0 kq x3_2 a0_0 a0_1 a0_2 = some r) ∧ Aside0 (kq ≤ kj1) ∧ Aside0 (w'.heap[gb115]? = some (.cells #[.int .u64 a0_0, .int .i64 a0_1, .int .u64 a0_2] 24 (0, 0))) ∧ Aside0 (Below w.heap.size w w'))
        case atStart => exact ⟨(a0_1), (by first | rfl | (simp; done) | (simp [*]; done)), H', ⟨Nat.le_refl _⟩, ⟨by (with_reducible repeat (first | refine blk_drewN ?_ _ | refine blk_drew ?_ | refine blk_alloc ?_ _)); exact BK115.out⟩, ⟨by repeat (first | (with_reducible first | exact HB.out | apply below_alloc | apply pw_below_drewN | apply below_drew1 | refine below_set ?_ GE115.out) | exact HB.out)⟩⟩
        case round =>
          clear H'
          try clear c1
          try clear p2
          try clear c4
          try clear c4b0
          try clear c6
          try clear c6b0
          try clear c9
          try clear c10
          try clear hcz10_0
          try clear hcz10_1
          try clear hcz10_2
          try clear hcz5_0
          try clear hcz5_1
          try clear hcz5_2
          try clear hcz7_0
          try clear hcz7_1
          try clear hcz7_2
          try clear hcz8_0
          try clear hcz8_1
          try clear hcz8_2
          try clear hfz10_0
          try clear hfz10_1
          try clear hfz10_2
          try clear hfz5_0
          try clear hfz5_1
          try clear hfz5_2
          try clear hfz7_0
          try clear hfz7_1
          try clear hfz7_2
          try clear hfz8_0
          try clear hfz8_1
          try clear hfz8_2
          try clear p2
          obtain ⟨x3_2, rfl, HA, HK2, BK115, HB⟩ := hrel
          cases gk with
          | zero => exact absurd HA.out (by simp [atlasref04_Right.l0])
          | succ k2 =>
            have H := HA.out
            clear HA
            simp only [atlasref04_Right.l0] at H
            by_cases c11 : x3_2 < 64
            · rw [if_pos c11] at H
              have c11b0 : decide (x3_2 < 64) = true := decide_eq_true c11
              clear c11
              replace H := Option.bind_eq_some_iff.mp H
              obtain ⟨t116, A120, H⟩ := H
              replace H : (if t116 = true then (some false) else (atlasref04_Right.l0 k2 (wrap64 (x3_2 + 1)) a0_0 a0_1 a0_2)) = some r := H
              have A12 := Aside0.mk A120
              clear A120
              by_cases c13 : t116 = true
              · subst c13
                have H1 : (some false) = some r := by rw [if_pos rfl] at H; exact H
                clear H
                have H := H1
                clear H1
                obtain rfl := Option.some.inj H
                have hcz14_0 : wr.cell? ⟨gb115, 0, none⟩ = some (.int .u64 a0_0) := (blk_cell BK115.out 0).trans rfl
                have hcz14_1 : wr.cell? ⟨gb115, 1, none⟩ = some (.int .i64 a0_1) := (blk_cell BK115.out 1).trans rfl
                have hcz14_2 : wr.cell? ⟨gb115, 2, none⟩ = some (.int .u64 a0_2) := (blk_cell BK115.out 2).trans rfl
                have hfz14_0 := blk_frozen BK115.out 0
                have hfz14_1 := blk_frozen BK115.out 1
                have hfz14_2 := blk_frozen BK115.out 2
                go_wp2_with (first | ((with_reducible refine gate_callee (f := 22) rfl ?_); refine goesL_ (some 26) rfl rfl Tryd.func22 (by kernel_rfl) rfl #[.int .u64 a0_2, .int .i64 x3_2] rfl (by (try simp only [List.map_toArray, List.map_cons, List.map_nil]); first | done | rfl | (simp only [List.length_drop, List.length_take]; rfl)) ?_; (with_reducible refine (atlasref01_Bit.calls k2 a0_2 x3_2 true _ A12.out).mono ?_); rintro e w' ⟨rfl, ⟨nd, rfl⟩⟩; refine ⟨_, rfl, ?_⟩))
                go_ret
                exact ⟨by first | rfl | (simp [errW_none, errW_some] <;> rfl) | (simp [*, errW_none, errW_some] <;> rfl), by repeat (first | (with_reducible first | exact HB.out | apply below_alloc | apply pw_below_drewN | apply below_drew1 | refine below_set ?_ GE115.out) | exact HB.out)⟩
              · replace c13 := Bool.eq_false_iff.mpr c13
                subst c13
                have H1 : (atlasref04_Right.l0 k2 (wrap64 (x3_2 + 1)) a0_0 a0_1 a0_2) = some r := by rw [if_neg (show ¬ (false = true) by decide)] at H; exact H
                clear H
                have H := H1
                clear H1
                have H' := Aside0.mk H
                clear H
                have hcz15_0 : wr.cell? ⟨gb115, 0, none⟩ = some (.int .u64 a0_0) := (blk_cell BK115.out 0).trans rfl
                have hcz15_1 : wr.cell? ⟨gb115, 1, none⟩ = some (.int .i64 a0_1) := (blk_cell BK115.out 1).trans rfl
                have hcz15_2 : wr.cell? ⟨gb115, 2, none⟩ = some (.int .u64 a0_2) := (blk_cell BK115.out 2).trans rfl
                have hfz15_0 := blk_frozen BK115.out 0
                have hfz15_1 := blk_frozen BK115.out 1
                have hfz15_2 := blk_frozen BK115.out 2
                go_wp2_with (first | ((with_reducible refine gate_callee (f := 22) rfl ?_); refine goesL_ (some 26) rfl rfl Tryd.func22 (by kernel_rfl) rfl #[.int .u64 a0_2, .int .i64 x3_2] rfl (by (try simp only [List.map_toArray, List.map_cons, List.map_nil]); first | done | rfl | (simp only [List.length_drop, List.length_take]; rfl)) ?_; (with_reducible refine (atlasref01_Bit.calls k2 a0_2 x3_2 false _ A12.out).mono ?_); rintro e w' ⟨rfl, ⟨nd, rfl⟩⟩; refine ⟨_, rfl, ?_⟩))
                go_roundg k2
                case measure => have := HJ1.out; have := HK2.out; omega
                case rel => exact ⟨(wrap64 (x3_2 + 1)), (by first | rfl | (simp; done) | (simp [*]; done)), H', ⟨by have := HJ1.out; have := HK2.out; omega⟩, ⟨by (with_reducible repeat (first | refine blk_drewN ?_ _ | refine blk_drew ?_ | refine blk_alloc ?_ _)); exact BK115.out⟩, ⟨by repeat (first | (with_reducible first | exact HB.out | apply below_alloc | apply pw_below_drewN | apply below_drew1 | refine below_set ?_ GE115.out) | exact HB.out)⟩⟩
            · rw [if_neg c11] at H
              have c11b0 : decide (x3_2 < 64) = false := decide_eq_false c11
              clear c11
              obtain rfl := Option.some.inj H
              go_wp2
              go_ret
              exact ⟨by first | rfl | (simp [errW_none, errW_some] <;> rfl) | (simp [*, errW_none, errW_some] <;> rfl), by repeat (first | (with_reducible first | exact HB.out | apply below_alloc | apply pw_below_drewN | apply below_drew1 | refine below_set ?_ GE115.out) | exact HB.out)⟩

-- NOT PRINTED: function 29 (atlasref01_of)

/-! ### atlasref01_of, atlasref01_Set: functions 29 and 25, walked by hand -/
/-- The word of some bits, the lowest first. -/
def wordOf : List Bool → Nat
  | [] => 0
  | b :: bs => b.toNat + 2 * wordOf bs
theorem wordOf_lt (bs : List Bool) : wordOf bs < 2 ^ bs.length := by
  induction bs with
  | nil => simp [wordOf]
  | cons b bs ih =>
    rw [wordOf, List.length_cons, Nat.pow_succ]
    cases b <;> simp <;> omega
def bv (bs : List Bool) : Array Value := (bs.map fun b => Value.bool b).toArray
theorem bv_at (bs : List Bool) (j : Nat) (h : j < bs.length) : (bv bs)[j]? = some (.bool (bs.getD j false)) := by
  simp [bv, List.getElem?_eq_getElem h, List.getD_eq_getElem?_getD]
theorem wordOf_drop (bs : List Bool) (j : Nat) (h : j < bs.length) : wordOf (bs.drop j) = (bs.getD j false).toNat + 2 * wordOf (bs.drop (j + 1)) := by
  rw [List.drop_eq_getElem_cons h, wordOf]
  simp [List.getD_eq_getElem?_getD, List.getElem?_eq_getElem h]
theorem wordOf_small (bs : List Bool) (hl : bs.length = 64) (j : Nat) : wordOf (bs.drop (j + 1)) < 9223372036854775808 := by
  have h := wordOf_lt (bs.drop (j + 1))
  have h2 : 2 ^ (bs.drop (j + 1)).length ≤ 2 ^ 63 := Nat.pow_le_pow_right (by decide) (by rw [List.length_drop]; omega)
  have h3 : (2 : Nat) ^ 63 = 9223372036854775808 := by decide
  omega
set_option maxRecDepth 100000 in
theorem of_calls (bs : List Bool) (hl : bs.length = 64) (w : World) :
    Calls Tryd.prog 29 #[.agg (bv bs)] w fun e w' => e = .returned (.int .u64 ((wordOf bs : Nat) : Int)) ∧ Below w.heap.size w w' := by
  have hz : (bv bs).size = 64 := by simp [bv, hl]
  have hid := Lib.hid (fun o => below_alloc (Below.refl w.heap.size w) o)
  have HL := Lib.hid hl
  clear hl
  go_enter Tryd.func29, Tryd.ntmps29
  go_wp2_with fail
  go_loop [3, 4] (fun v i => ∃ k : Nat, k ≤ 64 ∧ i = .int .i64 ((k : Int) - 1) ∧ v = .int .u64 ((wordOf (bs.drop k) : Nat) : Int)) (fun _ i => (intOf i + 1).toNat)
  case atStart => exact ⟨64, by omega, rfl, by rw [List.drop_of_length_le (by rw [HL.out]; omega)]; rfl⟩
  case round =>
    obtain ⟨k, hk, rfl, rfl⟩ := hrel
    cases k with
    | zero =>
      rw [show (((0 : Nat) : Int) - 1) = -1 from rfl, List.drop_zero]
      go_wp2_with fail
      go_ret
      exact ⟨rfl, hid.out _⟩
    | succ j =>
      have hs := wordOf_small bs HL.out j
      have hd := wordOf_drop bs j (by rw [HL.out]; omega)
      have hc := bv_at bs j (by rw [HL.out]; omega)
      generalize hx : wordOf (bs.drop (j + 1)) = x at hs hd
      have h2 : IntKind.u64.wrap ((x : Int) * 2) = ((2 * x : Nat) : Int) := by rw [show ((x : Int) * 2) = ((2 * x : Nat) : Int) by omega, Bits.wrap_u _ (by omega)]
      have h3 : IntKind.u64.wrap (((2 * x : Nat) : Int) + 1) = ((2 * x + 1 : Nat) : Int) := by rw [show (((2 * x : Nat) : Int) + 1) = ((2 * x + 1 : Nat) : Int) by omega, Bits.wrap_u _ (by omega)]
      rw [show (((j + 1 : Nat) : Int) - 1) = (j : Int) by omega]
      have hj : (j : Int) < 64 := by omega
      cases hb : bs.getD j false with
      | false =>
        rw [hb] at hc hd
        have hd' : wordOf (bs.drop j) = 2 * x := by rw [hd]; simp
        have HD := Lib.hid hd'
        have H3 := Lib.hid h3
        clear hd hd' hs hb h3 hx
        generalize hy : ((2 * x : Nat) : Int) = y at h2
        have HY := Lib.hid hy
        clear hy
        go_wp2_with fail
        go_round
        case rel => exact ⟨j, by omega, rfl, by rw [HD.out, HY.out]⟩
        case measure => simp [intOf]
      | true =>
        rw [hb] at hc hd
        have hd' : wordOf (bs.drop j) = 2 * x + 1 := by rw [hd]; simp; omega
        have HD := Lib.hid hd'
        clear hd hd' hs hb hx
        generalize hy : ((2 * x : Nat) : Int) = y at h2 h3
        generalize hy1 : ((2 * x + 1 : Nat) : Int) = y1 at h3
        have HY := Lib.hid hy1
        clear hy hy1
        go_wp2_with fail
        go_round
        case rel => exact ⟨j, by omega, rfl, by rw [HD.out, HY.out]⟩
        case measure => simp [intOf]
theorem bit_l0 (w i : Nat) (hw : w < 18446744073709551616) (hi : i < 64) (d : Nat) : ∀ k j : Nat, j ≤ i → i - j = d → d < k → atlasref01_Bit.l0 k ((w / 2 ^ j : Nat) : Int) (i : Int) (j : Int) = some (w.testBit i) := by
  induction d with
  | zero =>
    intro k j h1 h2 hk
    obtain ⟨k, rfl⟩ : ∃ m, k = m + 1 := ⟨k - 1, by omega⟩
    obtain rfl : j = i := by omega
    rw [atlasref01_Bit.l0, if_neg (by omega), Int.tmod_eq_emod_of_nonneg (Int.natCast_nonneg _), Nat.testBit_eq_decide_div_mod_eq]
    refine congrArg some ?_
    rw [Bool.eq_iff_iff, beq_iff_eq, decide_eq_true_eq]
    omega
  | succ d ih =>
    intro k j h1 h2 hk
    obtain ⟨k, rfl⟩ : ∃ m, k = m + 1 := ⟨k - 1, by omega⟩
    have hle : w / 2 ^ j < 18446744073709551616 := Nat.lt_of_le_of_lt (Nat.div_le_self _ _) hw
    rw [atlasref01_Bit.l0, if_pos (by omega), Bits.w64_small _ (by omega) (by omega), Int.tdiv_eq_ediv_of_nonneg (Int.natCast_nonneg _),
      show (((w / 2 ^ j : Nat) : Int) / 2) = ((w / 2 ^ (j + 1) : Nat) : Int) by rw [Nat.pow_succ, ← Nat.div_div_eq_div_mul]; omega, Bits.wrap_u _ (Nat.lt_of_le_of_lt (Nat.div_le_self _ _) hw)]
    exact ih k (j + 1) (by omega) (by omega) (by omega)
/-- The reference's Bit tells a word's bit. -/
theorem bit_f (w i k : Nat) (hw : w < 18446744073709551616) (hi : i < 64) (hk : 66 < k) : atlasref01_Bit.f k (w : Int) (i : Int) = some (w.testBit i) := by
  obtain ⟨k, rfl⟩ : ∃ m, k = m + 1 := ⟨k - 1, by omega⟩
  unfold atlasref01_Bit.f
  rw [if_neg (by omega), decide_eq_false (by omega), atlasref01_Bit.j0, if_neg (by decide)]
  have := bit_l0 w i hw hi i k 0 (by omega) (by omega) (by omega)
  simpa using this
theorem bit_far (w k : Nat) (i : Int) (hi : i < 0 ∨ 63 < i) (hk : 0 < k) : atlasref01_Bit.f k (w : Int) i = some false := by
  obtain ⟨k, rfl⟩ : ∃ m, k = m + 1 := ⟨k - 1, by omega⟩
  unfold atlasref01_Bit.f
  by_cases h : i < 0
  · rw [if_pos h, atlasref01_Bit.j0, if_pos rfl]
  · rw [if_neg h, decide_eq_true (by omega), atlasref01_Bit.j0, if_pos rfl]
/-- The bits of a word whose field, from 'lo' on, is another one: the first 'i' of them, the others not yet laid. -/
def fbit (w lo n v j : Nat) : Bool := if lo ≤ j ∧ j < lo + n then v.testBit (j - lo) else w.testBit j
def fbits (w lo n v i : Nat) : List Bool := (List.range 64).map fun j => if j < i then fbit w lo n v j else false
theorem fbits_len (w lo n v i : Nat) : (fbits w lo n v i).length = 64 := by simp [fbits]
theorem fbits_at (w lo n v i j : Nat) (h : j < 64) : (fbits w lo n v i).getD j false = if j < i then fbit w lo n v j else false := by
  simp [fbits, List.getD_eq_getElem?_getD, List.getElem?_map, List.getElem?_range h]
theorem testBit_wordOf (bs : List Bool) (j : Nat) : (wordOf bs).testBit j = bs.getD j false := by
  induction bs generalizing j with
  | nil => simp [wordOf]
  | cons b bs ih =>
    rw [wordOf]
    cases j with
    | zero => cases b <;> simp [Nat.testBit_zero]
    | succ j =>
      have : (b.toNat + 2 * wordOf bs) / 2 = wordOf bs := by cases b <;> simp <;> omega
      rw [Nat.testBit_succ, this, ih]
      simp
theorem wordOf_fbits (w lo n v : Nat) (hw : w < 18446744073709551616) : wordOf (fbits w lo n v 64) = Bits.setN w lo n v := by
  refine Bits.eq_of_bits fun j => ?_
  rw [testBit_wordOf, Bits.testBit_setN _ _ _ _ _ hw]
  by_cases h : j < 64
  · rw [fbits_at _ _ _ _ _ _ h, if_pos h, fbit]
    by_cases h2 : lo ≤ j ∧ j < lo + n
    · rw [if_pos h2, if_pos ⟨h2.1, h2.2, h⟩]
    · rw [if_neg h2, if_neg (fun x => h2 ⟨x.1, x.2.1⟩)]
  · rw [if_neg (fun x => h x.2.2), Bits.bit_high w j hw (by omega)]
    rw [List.getD_eq_getElem?_getD, List.getElem?_eq_none (by rw [fbits_len]; omega)]
    rfl
theorem bv_set (bs : List Bool) (i : Nat) (b : Bool) : (bv bs).setIfInBounds i (.bool b) = bv (bs.set i b) := by
  simp [bv, List.map_set]
theorem fbits_set (w lo n v i : Nat) (h : i < 64) : (fbits w lo n v i).set i (fbit w lo n v i) = fbits w lo n v (i + 1) := by
  refine List.ext_getElem (by simp [fbits]) fun j h1 h2 => ?_
  have hj : j < 64 := by rw [fbits_len] at h2; exact h2
  rw [List.getElem_set]
  by_cases e : i = j
  · subst e; simp [fbits]
  · simp only [e, if_false, fbits, List.getElem_map, List.getElem_range]
    by_cases h3 : j < i
    · simp [h3, show j < i + 1 by omega]
    · simp [h3, show ¬ j < i + 1 by omega]
theorem block_cell {w : World} {B : Nat} {cs : Array Value} {t : TypeId} (h : w.heap[B]? = some (.cells cs t (0, 0))) (i : Nat) (v : Value) (hv : cs[i]? = some v) : w.cell? ⟨B, i, none⟩ = some v ∧ w.frozen? ⟨B, i, none⟩ = false := by
  constructor
  · simp [World.cell?, h, hv]
  · simp [World.frozen?, h]
theorem info_bv (bs : List Bool) (h : bs.length = 64) : (Tryd.prog.info? 53).map (·.size) = some (bv bs).size := by
  rw [show (bv bs).size = 64 by simp [bv, h]]
  kernel_rfl
theorem set_last {x lo n v i : Nat} {b : Bool} {t : TypeId} {fr : Nat × Nat} (hi : i < 64) (h : fbit x lo n v i = b) : some (Obj.cells (bv ((fbits x lo n v i).set i b)) t fr) = some (.cells (bv (fbits x lo n v (i + 1))) t fr) := by
  rw [← h, fbits_set x lo n v i hi]
theorem set_once {W : World} {B i : Nat} {bs : List Bool} {t : TypeId} (hW : W.heap[B]? = some (.cells (bv bs) t (0, 0))) (b : Bool) : (W.setCell ⟨B, i, none⟩ (.bool b)).heap[B]? = some (.cells (bv (bs.set i b)) t (0, 0)) := by
  rw [heap_setCell_same W B i _ _ _ hW, bv_set]
set_option maxRecDepth 100000 in
set_option maxHeartbeats 8000000 in
theorem rset_calls (x lo n v : Nat) (w : World) (hx : x < 18446744073709551616) (hv : v < 18446744073709551616) (hlo : lo < 1000000) (hn : n < 1000000) :
    Calls Tryd.prog 25 #[.int .u64 (x : Int), .int .i64 (lo : Int), .int .i64 (n : Int), .int .u64 (v : Int)] w fun e w' => e = .returned (.int .u64 ((Bits.setN x lo n v : Nat) : Int)) ∧ Below w.heap.size w w' := by
  have HX := Lib.hid hx
  have HV := Lib.hid hv
  have hid := Lib.hid (fun o => below_alloc (Below.refl w.heap.size w) o)
  clear hx hv
  go_enter Tryd.func25, Tryd.ntmps25
  go_wp2_with fail
  go_loopw [10] (fun t wr => ∃ i : Nat, i ≤ 64 ∧ t = .int .i64 (i : Int) ∧ wr.heap[w.heap.size]? = some (.cells (bv (fbits x lo n v i)) 53 (0, 0)) ∧ Below w.heap.size w wr) (fun t _ => 64 - (intOf t).toNat)
  case atStart => exact ⟨0, by omega, rfl, (heap_alloc_new _ _).trans (by rfl), hid.out _⟩
  case round =>
    obtain ⟨i, hi, rfl, hg, hb⟩ := hrel
    have hidb := Lib.hid hb
    have HG := Lib.hid hg
    by_cases hlt : i < 64
    · obtain ⟨hc, hfz⟩ := block_cell hg i (.bool false) ((bv_at _ i (by rw [fbits_len]; exact hlt)).trans (by rw [fbits_at _ _ _ _ _ _ hlt, if_neg (by omega)]))
      clear hb hg
      have e0 := Lib.hid (bit_f x i 67 HX.out hlt (by omega))
      by_cases c1 : lo ≤ i
      · by_cases c2 : i < lo + n
        · have q1 : (lo : Int) ≤ (i : Int) := by omega
          have q2 : (i : Int) < (lo : Int) + (n : Int) := by omega
          have e1 := Lib.hid (bit_f v (i - lo) 67 HV.out (by omega) (by omega))
          have e2 := Lib.hid (show (i : Int) - (lo : Int) = ((i - lo : Nat) : Int) by omega)
          go_wp2_with fail
          refine (atlasref01_Bit.calls 67 (x : Int) (i : Int) _ _ e0.out).mono ?_
          rintro e w1 ⟨rfl, ⟨nd, rfl⟩⟩
          go_wp2_with fail
          rw [e2.out]
          refine (atlasref01_Bit.calls 67 (v : Int) ((i - lo : Nat) : Int) _ _ e1.out).mono ?_
          rintro e w2 ⟨rfl, ⟨nd2, rfl⟩⟩
          go_wp2_with fail
          go_roundw
          case rel =>
            have HF : fbit x lo n v i = v.testBit (i - lo) := if_pos ⟨c1, c2⟩
            refine ⟨i + 1, by omega, by go_num, ?_, ?_⟩
            · have g1 := set_once (W := wr.drewN nd) (i := i) HG.out (x.testBit i)
              have g2 := set_once (W := ((wr.drewN nd).setCell ⟨w.heap.size, i, none⟩ (.bool (x.testBit i))).drewN nd2) (i := i) g1 (v.testBit (i - lo))
              rw [List.set_set] at g2
              exact g2.trans (set_last hlt HF)
            · exact (pw_below_drewN ((pw_below_drewN hidb.out nd).setCell (Nat.le_refl _) _) nd2).setCell (Nat.le_refl _) _
          case measure => simp [intOf]; omega
        · have q1 : (lo : Int) ≤ (i : Int) := by omega
          have q2 : decide ((i : Int) < (lo : Int) + (n : Int)) = false := decide_eq_false (by omega)
          go_wp2_with fail
          refine (atlasref01_Bit.calls 67 (x : Int) (i : Int) _ _ e0.out).mono ?_
          rintro e w1 ⟨rfl, ⟨nd, rfl⟩⟩
          go_wp2_with fail
          go_roundw
          case rel =>
            have HF : fbit x lo n v i = x.testBit i := if_neg (fun h => c2 h.2)
            refine ⟨i + 1, by omega, by go_num, ?_, ?_⟩
            · exact (set_once (W := wr.drewN nd) HG.out _).trans (set_last hlt HF)
            · exact (pw_below_drewN hidb.out nd).setCell (Nat.le_refl _) _
          case measure => simp [intOf]; omega
      · have q1 : decide ((lo : Int) ≤ (i : Int)) = false := decide_eq_false (by omega)
        go_wp2_with fail
        refine (atlasref01_Bit.calls 67 (x : Int) (i : Int) _ _ e0.out).mono ?_
        rintro e w1 ⟨rfl, ⟨nd, rfl⟩⟩
        go_wp2_with fail
        go_roundw
        case rel =>
          have HF : fbit x lo n v i = x.testBit i := if_neg (fun h => c1 h.1)
          refine ⟨i + 1, by omega, by go_num, ?_, ?_⟩
          · exact (set_once (W := wr.drewN nd) HG.out _).trans (set_last hlt HF)
          · exact (pw_below_drewN hidb.out nd).setCell (Nat.le_refl _) _
        case measure => simp [intOf]; omega
    · obtain rfl : i = 64 := by omega
      clear hb hg
      go_wp2_with (refine wpList_load_row rfl 53 _ rfl w.heap.size rfl _ _ (0, 0) _ HG.out Tryd.underlying53 rfl (info_bv _ (fbits_len _ _ _ _ _)) ?_)
      refine (of_calls _ (fbits_len _ _ _ _ _) _).mono ?_
      rintro e w1 ⟨rfl, hb1⟩
      go_wp2_with fail
      go_ret
      exact ⟨by rw [← wordOf_fbits x lo n v HX.out]; rfl, below_then hidb.out hidb.out.size hb1⟩
/-- As the printed functions have it: a word whose field is another one. -/
def atlasref01_Set.f (w lo n v : Int) : Option Int := if 0 ≤ w ∧ w < 18446744073709551616 ∧ 0 ≤ lo ∧ lo < 1000000 ∧ 0 ≤ n ∧ n < 1000000 ∧ 0 ≤ v ∧ v < 18446744073709551616 then some ((Bits.setN w.toNat lo.toNat n.toNat v.toNat : Nat) : Int) else none
theorem atlasref01_Set.calls (a0 a1 a2 a3 : Int) (r : Int) (w : World) (h : atlasref01_Set.f a0 a1 a2 a3 = some r) :
    Calls Tryd.prog 25 #[.int .u64 a0, .int .i64 a1, .int .i64 a2, .int .u64 a3] w fun e w' => e = .returned (.int .u64 r) ∧ Below w.heap.size w w' := by
  unfold atlasref01_Set.f at h
  split at h
  · rename_i hh
    obtain ⟨b0, b1, b2, b3, b4, b5, b6, b7⟩ := hh
    obtain ⟨x, rfl⟩ := Int.eq_ofNat_of_zero_le b0
    obtain ⟨lo, rfl⟩ := Int.eq_ofNat_of_zero_le b2
    obtain ⟨n, rfl⟩ := Int.eq_ofNat_of_zero_le b4
    obtain ⟨v, rfl⟩ := Int.eq_ofNat_of_zero_le b6
    simp only [Int.toNat_natCast, Option.some.injEq] at h
    subst h
    exact rset_calls x lo n v w (by omega) (by omega) (by omega) (by omega)
  · cases h

/-! ### atlasref04_New: function 20 -/
def atlasref04_New.l0 : Nat → Int → Int → Int → Int → Int → Option (Int × Int × Int)
  | 0, _, _, _, _, _ => none
  | k + 1, x1, x6, x119000, x119001, x119002 => if x6 < x1 then ((atlasref01_Set.f x119002 x6 1 1).bind fun t119 => (atlasref04_New.l0 k x1 (wrap64 (x6 + 1)) x119000 x119001 t119)) else (some (x119000, x119001, x119002))
def atlasref04_New.f (k : Nat) (a0 : Int) (a1 : Int) : Option (Int × Int × Int) := atlasref04_New.l0 k a1 0 a0 a1 0
theorem atlasref04_New.mono_l : ∀ k, (∀ y0 y1 y2 y3 y4, LeO (atlasref04_New.l0 k y0 y1 y2 y3 y4) (atlasref04_New.l0 (k + 1) y0 y1 y2 y3 y4))
  | 0 => fun _ _ _ _ _ r h => by simp [atlasref04_New.l0] at h
  | k + 1 => by
    have ih0 := atlasref04_New.mono_l k
    · intro y0 y1 y2 y3 y4
      unfold atlasref04_New.l0
      repeat' first
      | (with_reducible exact ih0 _ _ _ _ _)
      | (with_reducible exact LeO.refl _)
      | (with_reducible exact LeO.none _)
      | (with_reducible refine LeO.ite ?_ ?_)
      | (with_reducible refine LeO.bind ?_ (fun _ => ?_))
      | exact ih0 _ _ _ _ _
      | exact LeO.none _
      | refine LeO.ite ?_ ?_
      | refine LeO.bind ?_ (fun _ => ?_)
theorem atlasref04_New.mono : ∀ a0 a1 k, LeO (atlasref04_New.f k a0 a1) (atlasref04_New.f (k + 1) a0 a1) := by
  intro a0 a1 k
  have ih0 := atlasref04_New.mono_l k
  unfold atlasref04_New.f
  repeat' first
      | (with_reducible exact ih0 _ _ _ _ _)
      | (with_reducible exact LeO.refl _)
      | (with_reducible exact LeO.none _)
      | (with_reducible refine LeO.ite ?_ ?_)
      | (with_reducible refine LeO.bind ?_ (fun _ => ?_))
      | exact ih0 _ _ _ _ _
      | exact LeO.none _
      | refine LeO.ite ?_ ?_
      | refine LeO.bind ?_ (fun _ => ?_)
set_option maxHeartbeats 8000000 in
set_option maxRecDepth 100000 in
theorem atlasref04_New.calls (k : Nat) (a0 : Int) (a1 : Int) (r1 : Int) (r2 : Int) (r3 : Int) (w : World) (h : atlasref04_New.f k a0 a1 = some (r1, r2, r3)) :
    Calls Tryd.prog 20 #[.int .u64 a0, .int .i64 a1] w fun e w' => e = .returned (.agg #[.int .u64 r1, .int .i64 r2, .int .u64 r3]) ∧ Below w.heap.size w w' := by
  have hu24 := Tryd.underlying24
  have HB := Aside0.mk (Below.refl w.heap.size w)
  have H : (atlasref04_New.l0 k a1 0 a0 a1 0) = some (r1, r2, r3) := h
  clear h
  have H' := Aside0.mk H
  clear H
  go_enter Tryd.func20, Tryd.ntmps20
  go_wp2_with (first | ((with_reducible refine gate_dst (N := 4) rfl ?_); refine box_event ?hg (N := 4) ?hd (cs := #[.int .u64 0, .int .i64 0, .int .u64 0]) (t := 24) ?hr ?_; (case hd => rfl); (case hg => rfl); (case hr => first | (go_simp; done) | (go_simp; rfl)); intro gb117 hg w3 hbox hb; have n0_ := Aside0.mk (below_step (by repeat (first | (with_reducible first | exact HB.out | apply below_alloc | apply pw_below_drewN | apply below_drew1) | exact HB.out)) hb); have n1_ := Aside0.mk (hbox); have n2_ := Aside0.mk ((by rw [hg]; exact (below_size (by repeat (first | (with_reducible first | exact HB.out | apply below_alloc | apply pw_below_drewN | apply below_drew1) | exact HB.out))) : w.heap.size ≤ gb117)); have n3_ := Aside0.mk ((by rw [hg]; exact (below_size (by repeat (first | (with_reducible first | exact HB.out | apply below_alloc | apply pw_below_drewN | apply below_drew1) | exact HB.out))) : w.heap.size ≤ gb117)); clear HB; have HB := n0_; have BK117 := n1_; have GW117 := n2_; have GE117 := n3_; clear n0_ n1_ n2_ n3_; clear hb hbox hg) | ((with_reducible refine gate_dst (N := 5) rfl ?_); refine box_event ?hg (N := 5) ?hd (cs := #[.int .u64 0, .int .i64 0, .int .u64 0]) (t := 24) ?hr ?_; (case hd => rfl); (case hg => rfl); (case hr => first | (go_simp; done) | (go_simp; rfl)); intro gb118 hg w4 hbox hb; have n0_ := Aside0.mk (blk_below (g := gb117) (o := .cells #[.int .u64 0, .int .i64 0, .int .u64 0] 24 (0, 0)) (by (with_reducible repeat (first | refine blk_drewN ?_ _ | refine blk_drew ?_ | refine blk_alloc ?_ _)); exact BK117.out) hb); have n1_ := Aside0.mk (below_step (by repeat (first | (with_reducible first | exact HB.out | apply below_alloc | apply pw_below_drewN | apply below_drew1 | refine below_set ?_ GE117.out) | exact HB.out)) hb); have n2_ := Aside0.mk (hbox); have n3_ := Aside0.mk ((by rw [hg]; exact (below_size (by repeat (first | (with_reducible first | exact HB.out | apply below_alloc | apply pw_below_drewN | apply below_drew1 | refine below_set ?_ GE117.out) | exact HB.out))) : w.heap.size ≤ gb118)); have n4_ := Aside0.mk ((by rw [hg]; exact (below_size (by repeat (first | (with_reducible first | exact HB.out | apply below_alloc | apply pw_below_drewN | apply below_drew1 | refine below_set ?_ GE117.out) | exact HB.out))) : w.heap.size ≤ gb118)); have n5_ := Aside0.mk ((by rw [hg]; exact Nat.ne_of_lt (blk_lt (g := gb117) (o := .cells #[.int .u64 0, .int .i64 0, .int .u64 0] 24 (0, 0)) (by (with_reducible repeat (first | refine blk_drewN ?_ _ | refine blk_drew ?_ | refine blk_alloc ?_ _)); exact BK117.out)) : gb117 ≠ gb118)); have n6_ := Aside0.mk ((by rw [hg]; exact Nat.ne_of_gt (blk_lt (g := gb117) (o := .cells #[.int .u64 0, .int .i64 0, .int .u64 0] 24 (0, 0)) (by (with_reducible repeat (first | refine blk_drewN ?_ _ | refine blk_drew ?_ | refine blk_alloc ?_ _)); exact BK117.out)) : gb118 ≠ gb117)); clear BK117; clear HB; have BK117 := n0_; have HB := n1_; have BK118 := n2_; have GW118 := n3_; have GE118 := n4_; have NB117_118 := n5_; have NB118_117 := n6_; clear n0_ n1_ n2_ n3_ n4_ n5_ n6_; clear hb hbox hg; have hnb5 := NB118_117.out; have hnc5 := NB117_118.out; have hcz6_0 : w4.cell? ⟨gb118, 0, none⟩ = some (.int .u64 0) := (blk_cell BK118.out 0).trans rfl; have hcz6_1 : w4.cell? ⟨gb118, 1, none⟩ = some (.int .i64 0) := (blk_cell BK118.out 1).trans rfl; have hcz6_2 : w4.cell? ⟨gb118, 2, none⟩ = some (.int .u64 0) := (blk_cell BK118.out 2).trans rfl; have hfz6_0 := blk_frozen BK118.out 0; have hfz6_1 := blk_frozen BK118.out 1; have hfz6_2 := blk_frozen BK118.out 2))
  go_loopg [6] k (fun kq v6 w' => ∃ (x6_1 : Int) (x119002_1 : Int), v6 = .int .i64 x6_1 ∧ Aside0 (atlasref04_New.l0 kq a1 x6_1 a0 a1 x119002_1 = some (r1, r2, r3)) ∧ Aside0 (kq ≤ k) ∧ Aside0 (w'.heap[gb117]? = some (.cells #[.int .u64 0, .int .i64 0, .int .u64 0] 24 (0, 0))) ∧ Aside0 (w'.heap[gb118]? = some (.cells #[.int .u64 a0, .int .i64 a1, .int .u64 x119002_1] 24 (0, 0))) ∧ Aside0 (Below w.heap.size w w'))
  case atStart => exact ⟨(0), (0), (by first | rfl | (simp; done) | (simp [*]; done)), H', ⟨Nat.le_refl _⟩, ⟨by (with_reducible repeat (first | refine blk_drewN ?_ _ | refine blk_drew ?_ | refine blk_alloc ?_ _)); refine blk_far ?_ NB117_118.out _; (with_reducible repeat (first | refine blk_drewN ?_ _ | refine blk_drew ?_ | refine blk_alloc ?_ _)); refine blk_far ?_ NB117_118.out _; (with_reducible repeat (first | refine blk_drewN ?_ _ | refine blk_drew ?_ | refine blk_alloc ?_ _)); refine blk_far ?_ NB117_118.out _; (with_reducible repeat (first | refine blk_drewN ?_ _ | refine blk_drew ?_ | refine blk_alloc ?_ _)); exact BK117.out⟩, ⟨by (with_reducible repeat (first | refine blk_drewN ?_ _ | refine blk_drew ?_ | refine blk_alloc ?_ _)); refine blk_put (cs := #[.int .u64 a0, .int .i64 a1, .int .u64 0]) ?_ 2 _ rfl; (with_reducible repeat (first | refine blk_drewN ?_ _ | refine blk_drew ?_ | refine blk_alloc ?_ _)); refine blk_put (cs := #[.int .u64 a0, .int .i64 0, .int .u64 0]) ?_ 1 _ rfl; (with_reducible repeat (first | refine blk_drewN ?_ _ | refine blk_drew ?_ | refine blk_alloc ?_ _)); refine blk_put (cs := #[.int .u64 0, .int .i64 0, .int .u64 0]) ?_ 0 _ rfl; (with_reducible repeat (first | refine blk_drewN ?_ _ | refine blk_drew ?_ | refine blk_alloc ?_ _)); exact BK118.out⟩, ⟨by repeat (first | (with_reducible first | exact HB.out | apply below_alloc | apply pw_below_drewN | apply below_drew1 | refine below_set ?_ GE117.out | refine below_set ?_ GE118.out) | exact HB.out)⟩⟩
  case round =>
    clear H'
    try clear c2
    try clear p2
    try clear c5
    try clear hcz6_0
    try clear hcz6_1
    try clear hcz6_2
    try clear hfz6_0
    try clear hfz6_1
    try clear hfz6_2
    obtain ⟨x6_1, x119002_1, rfl, HA, HK1, BK117, BK118, HB⟩ := hrel
    cases gk with
    | zero => exact absurd HA.out (by simp [atlasref04_New.l0])
    | succ k1 =>
      have H := HA.out
      clear HA
      simp only [atlasref04_New.l0] at H
      by_cases c7 : x6_1 < a1
      · rw [if_pos c7] at H
        have c7b0 : decide (x6_1 < a1) = true := decide_eq_true c7
        clear c7
        replace H := Option.bind_eq_some_iff.mp H
        obtain ⟨t119, A80, H⟩ := H
        replace H : (atlasref04_New.l0 k1 a1 (wrap64 (x6_1 + 1)) a0 a1 t119) = some (r1, r2, r3) := H
        have A8 := Aside0.mk A80
        clear A80
        have H' := Aside0.mk H
        clear H
        have hnb9 := NB118_117.out
        have hnc9 := NB117_118.out
        have hcz10_0 : wr.cell? ⟨gb118, 0, none⟩ = some (.int .u64 a0) := (blk_cell BK118.out 0).trans rfl
        have hcz10_1 : wr.cell? ⟨gb118, 1, none⟩ = some (.int .i64 a1) := (blk_cell BK118.out 1).trans rfl
        have hcz10_2 : wr.cell? ⟨gb118, 2, none⟩ = some (.int .u64 x119002_1) := (blk_cell BK118.out 2).trans rfl
        have hfz10_0 := blk_frozen BK118.out 0
        have hfz10_1 := blk_frozen BK118.out 1
        have hfz10_2 := blk_frozen BK118.out 2
        go_wp2_with (first | ((with_reducible refine gate_callee (f := 25) rfl ?_); refine goesL_ (some 18) rfl rfl Tryd.func25 (by kernel_rfl) rfl #[.int .u64 x119002_1, .int .i64 x6_1, .int .i64 1, .int .u64 1] rfl (by (try simp only [List.map_toArray, List.map_cons, List.map_nil]); first | done | rfl | (simp only [List.length_drop, List.length_take]; rfl)) ?_; (with_reducible refine (atlasref01_Set.calls x119002_1 x6_1 1 1 t119 _ A8.out).mono ?_); rintro e w11 ⟨rfl, hb⟩; refine ⟨_, rfl, ?_⟩; have n0_ := Aside0.mk (blk_below (g := gb117) (o := .cells #[.int .u64 0, .int .i64 0, .int .u64 0] 24 (0, 0)) (by (with_reducible repeat (first | refine blk_drewN ?_ _ | refine blk_drew ?_ | refine blk_alloc ?_ _)); exact BK117.out) hb); have n1_ := Aside0.mk (blk_below (g := gb118) (o := .cells #[.int .u64 a0, .int .i64 a1, .int .u64 x119002_1] 24 (0, 0)) (by (with_reducible repeat (first | refine blk_drewN ?_ _ | refine blk_drew ?_ | refine blk_alloc ?_ _)); exact BK118.out) hb); have n2_ := Aside0.mk (below_step (by repeat (first | (with_reducible first | exact HB.out | apply below_alloc | apply pw_below_drewN | apply below_drew1 | refine below_set ?_ GE117.out | refine below_set ?_ GE118.out) | exact HB.out)) hb); clear BK117; clear BK118; clear HB; have BK117 := n0_; have BK118 := n1_; have HB := n2_; clear n0_ n1_ n2_; (try clear hb); (try clear hb2); (try clear hk); (try clear hi); have hcz12_0 : w11.cell? ⟨gb118, 0, none⟩ = some (.int .u64 a0) := (blk_cell BK118.out 0).trans rfl; have hcz12_1 : w11.cell? ⟨gb118, 1, none⟩ = some (.int .i64 a1) := (blk_cell BK118.out 1).trans rfl; have hcz12_2 : w11.cell? ⟨gb118, 2, none⟩ = some (.int .u64 x119002_1) := (blk_cell BK118.out 2).trans rfl; have hfz12_0 := blk_frozen BK118.out 0; have hfz12_1 := blk_frozen BK118.out 1; have hfz12_2 := blk_frozen BK118.out 2))
        go_roundg k1
        case measure => have := HK1.out; omega
        case rel => exact ⟨(wrap64 (x6_1 + 1)), (t119), (by first | rfl | (simp; done) | (simp [*]; done)), H', ⟨by have := HK1.out; omega⟩, ⟨by (with_reducible repeat (first | refine blk_drewN ?_ _ | refine blk_drew ?_ | refine blk_alloc ?_ _)); refine blk_far ?_ NB117_118.out _; (with_reducible repeat (first | refine blk_drewN ?_ _ | refine blk_drew ?_ | refine blk_alloc ?_ _)); exact BK117.out⟩, ⟨by (with_reducible repeat (first | refine blk_drewN ?_ _ | refine blk_drew ?_ | refine blk_alloc ?_ _)); refine blk_put (cs := #[.int .u64 a0, .int .i64 a1, .int .u64 x119002_1]) ?_ 2 _ rfl; (with_reducible repeat (first | refine blk_drewN ?_ _ | refine blk_drew ?_ | refine blk_alloc ?_ _)); exact BK118.out⟩, ⟨by repeat (first | (with_reducible first | exact HB.out | apply below_alloc | apply pw_below_drewN | apply below_drew1 | refine below_set ?_ GE117.out | refine below_set ?_ GE118.out) | exact HB.out)⟩⟩
      · rw [if_neg c7] at H
        have c7b0 : decide (x6_1 < a1) = false := decide_eq_false c7
        clear c7
        simp only [Option.some.injEq, Prod.mk.injEq] at H
        obtain ⟨rfl, rfl, rfl⟩ := H
        have hnb13 := NB118_117.out
        have hnc13 := NB117_118.out
        have hcz14_0 : wr.cell? ⟨gb118, 0, none⟩ = some (.int .u64 a0) := (blk_cell BK118.out 0).trans rfl
        have hcz14_1 : wr.cell? ⟨gb118, 1, none⟩ = some (.int .i64 a1) := (blk_cell BK118.out 1).trans rfl
        have hcz14_2 : wr.cell? ⟨gb118, 2, none⟩ = some (.int .u64 x119002_1) := (blk_cell BK118.out 2).trans rfl
        have hfz14_0 := blk_frozen BK118.out 0
        have hfz14_1 := blk_frozen BK118.out 1
        have hfz14_2 := blk_frozen BK118.out 2
        have hcz15_0 : wr.cell? ⟨gb117, 0, none⟩ = some (.int .u64 0) := (blk_cell BK117.out 0).trans rfl
        have hcz15_1 : wr.cell? ⟨gb117, 1, none⟩ = some (.int .i64 0) := (blk_cell BK117.out 1).trans rfl
        have hcz15_2 : wr.cell? ⟨gb117, 2, none⟩ = some (.int .u64 0) := (blk_cell BK117.out 2).trans rfl
        have hfz15_0 := blk_frozen BK117.out 0
        have hfz15_1 := blk_frozen BK117.out 1
        have hfz15_2 := blk_frozen BK117.out 2
        go_wp2
        refine bodyPost_ret (results_cell_row rfl _ _ gb117 24 #[.int .u64 a0, .int .i64 a1, .int .u64 x119002_1] (0, 0) _ rfl (by (with_reducible repeat (first | refine blk_drewN ?_ _ | refine blk_drew ?_ | refine blk_alloc ?_ _)); refine blk_put (cs := #[.int .u64 a0, .int .i64 a1, .int .u64 0]) ?_ 2 _ rfl; (with_reducible repeat (first | refine blk_drewN ?_ _ | refine blk_drew ?_ | refine blk_alloc ?_ _)); refine blk_put (cs := #[.int .u64 a0, .int .i64 0, .int .u64 0]) ?_ 1 _ rfl; (with_reducible repeat (first | refine blk_drewN ?_ _ | refine blk_drew ?_ | refine blk_alloc ?_ _)); refine blk_put (cs := #[.int .u64 0, .int .i64 0, .int .u64 0]) ?_ 0 _ rfl; (with_reducible repeat (first | refine blk_drewN ?_ _ | refine blk_drew ?_ | refine blk_alloc ?_ _)); exact BK117.out) Tryd.underlying24 rfl (by kernel_rfl)) rfl ?_
        exact ⟨by first | rfl | (simp [errW_none, errW_some] <;> rfl) | (simp [*, errW_none, errW_some] <;> rfl), by repeat (first | (with_reducible first | exact HB.out | apply below_alloc | apply pw_below_drewN | apply below_drew1 | refine below_set ?_ GE117.out | refine below_set ?_ GE118.out) | exact HB.out)⟩

end Go.Proofs.YtojklokbdmelhaaDoor.SPoolNews
