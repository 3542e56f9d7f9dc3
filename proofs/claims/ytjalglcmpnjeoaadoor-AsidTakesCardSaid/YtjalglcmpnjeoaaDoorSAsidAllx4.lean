-- Written by the session's own program wip/stubprint.py; Lean checks it.
import Derived.Test.YtjalglcmpnjeoaaDoorSAsidAllx0
import Derived.Test.YtjalglcmpnjeoaaDoorSAsidAllx2
import Derived.Test.YtjalglcmpnjeoaaDoorSAsidAllx3
namespace Go.Proofs.YtjalglcmpnjeoaaDoor.SAsidAll
open Go.RowKit Go.Proofs.YtjalglcmpnjeoaaDoorW.PrintWords Go.Proofs.YtjalglcmpnjeoaaDoorW.PrintLast Go.Proofs.YtjalglcmpnjeoaaDoorW.PrintMore
attribute [local go_sem] max2_int min2_int max_two min_two max_three min_three max_four min_four   -- for this text's walks alone
set_option linter.unusedVariables false
set_option linter.unusedSimpArgs false

/-! ### atlaslaw18_AsidAll: function 5 -/
mutual
def atlaslaw18_AsidAll.j0 : Nat → Bool → Int → Int → Int → Option (Bool)
  | 0, _, _, _, _ => none
  | k + 1, x19, x123000, x123001, x123002 => if x19 = true then ((atlaslaw18_awake.f).bind fun t125 => (some t125)) else (atlaslaw18_AsidAll.l0 k ([] : List Int) 0 x123000 x123001 x123002 x123000 x123001 x123002)
def atlaslaw18_AsidAll.l0 : Nat → List Int → Int → Int → Int → Int → Int → Int → Int → Option (Bool)
  | 0, _, _, _, _, _, _, _, _ => none
  | k + 1, x4, x5, x123000, x123001, x123002, x127000, x127001, x127002 => if x5 < 16 then ((asid_Free.f x127000 x127001 x127002).bind fun t127 => (atlaslaw18_AsidAll.j2 k x4 x5 (decide (t127 > 0)) x123000 x123001 x123002 x127000 x127001 x127002)) else (atlaslaw18_AsidAll.j2 k x4 x5 false x123000 x123001 x123002 x127000 x127001 x127002)
def atlaslaw18_AsidAll.j2 : Nat → List Int → Int → Bool → Int → Int → Int → Int → Int → Int → Option (Bool)
  | 0, _, _, _, _, _, _, _, _, _ => none
  | k + 1, x4, x5, x28, x123000, x123001, x123002, x127000, x127001, x127002 => if x28 = true then ((asid_Take.f x127000 x127001 x127002).bind fun bt128 => (if bt128.2.2.2.2.2 = 0 then (if bt128.2.2.2.1 < 1 then (some false) else (if bt128.2.2.2.1 > 16 then (some false) else (if (x4.length : Int) > 0 then (if 0 ≤ (wrap64 ((x4.length : Int) - 1)) then (if (wrap64 ((x4.length : Int) - 1)) < (x4.length : Int) then (if (rd x4 (wrap64 ((x4.length : Int) - 1))) ≥ bt128.2.2.2.1 then (some false) else (if 0 ≤ (IntKind.u64.wrap (bt128.2.2.2.1 - 1)) then (if (bt128.2.2.2.2.1 != ((Int.tmod (shr .u64 x123002 (IntKind.u64.wrap (bt128.2.2.2.1 - 1))) 2) == 1)) = true then (some false) else (if x4.length < 17592186044416 then (atlaslaw18_AsidAll.l0 k (x4 ++ [bt128.2.2.2.1]) (wrap64 (x5 + 1)) x123000 x123001 x123002 bt128.1 bt128.2.1 bt128.2.2.1) else (none))) else (none))) else (none)) else (none)) else (if 0 ≤ (IntKind.u64.wrap (bt128.2.2.2.1 - 1)) then (if (bt128.2.2.2.2.1 != ((Int.tmod (shr .u64 x123002 (IntKind.u64.wrap (bt128.2.2.2.1 - 1))) 2) == 1)) = true then (some false) else (if x4.length < 17592186044416 then (atlaslaw18_AsidAll.l0 k (x4 ++ [bt128.2.2.2.1]) (wrap64 (x5 + 1)) x123000 x123001 x123002 bt128.1 bt128.2.1 bt128.2.2.1) else (none))) else (none))))) else (some false))) else ((asid_Free.f x123000 x123001 x123002).bind fun t142 => (if (x4.length : Int) = t142 then (atlaslaw18_AsidAll.l1 k x4 0 x123000 x123001 x123002 x127000 x127001 x127002) else (some false)))
def atlaslaw18_AsidAll.l1 : Nat → List Int → Int → Int → Int → Int → Int → Int → Int → Option (Bool)
  | 0, _, _, _, _, _, _, _, _ => none
  | k + 1, x4, x10, x123000, x123001, x123002, x127000, x127001, x127002 => if x10 < (x4.length : Int) then (if 0 ≤ x10 then ((asid_Give.f x127000 x127001 x127002 (rd x4 x10)).bind fun bt144 => (if bt144.2.2.2 = 0 then (atlaslaw18_AsidAll.l1 k x4 (wrap64 (x10 + 1)) x123000 x123001 x123002 bt144.1 bt144.2.1 bt144.2.2.1) else (some false))) else (none)) else (if x127001 = x123001 then (if x127002 = (Go.bits .or .u64 x123002 x123001) then (some (x127000 == x123000)) else (some false)) else (some false))
end
def atlaslaw18_AsidAll.f (k : Nat) (a0_0 : Int) (a0_1 : Int) (a0_2 : Int) : Option (Bool) := (atlaslaw18_awake.f).bind fun t123 => (if t123 = true then ((atlasref18_Right.f k a0_0 a0_1 a0_2).bind fun t124 => (atlaslaw18_AsidAll.j0 k (!t124) a0_0 a0_1 a0_2)) else (atlaslaw18_AsidAll.j0 k true a0_0 a0_1 a0_2))
theorem atlaslaw18_AsidAll.mono_l : ∀ k, (∀ y0 y1 y2 y3, LeO (atlaslaw18_AsidAll.j0 k y0 y1 y2 y3) (atlaslaw18_AsidAll.j0 (k + 1) y0 y1 y2 y3)) ∧ (∀ y0 y1 y2 y3 y4 y5 y6 y7, LeO (atlaslaw18_AsidAll.l0 k y0 y1 y2 y3 y4 y5 y6 y7) (atlaslaw18_AsidAll.l0 (k + 1) y0 y1 y2 y3 y4 y5 y6 y7)) ∧ (∀ y0 y1 y2 y3 y4 y5 y6 y7 y8, LeO (atlaslaw18_AsidAll.j2 k y0 y1 y2 y3 y4 y5 y6 y7 y8) (atlaslaw18_AsidAll.j2 (k + 1) y0 y1 y2 y3 y4 y5 y6 y7 y8)) ∧ (∀ y0 y1 y2 y3 y4 y5 y6 y7, LeO (atlaslaw18_AsidAll.l1 k y0 y1 y2 y3 y4 y5 y6 y7) (atlaslaw18_AsidAll.l1 (k + 1) y0 y1 y2 y3 y4 y5 y6 y7))
  | 0 => ⟨fun _ _ _ _ r h => by simp [atlaslaw18_AsidAll.j0] at h, fun _ _ _ _ _ _ _ _ r h => by simp [atlaslaw18_AsidAll.l0] at h, fun _ _ _ _ _ _ _ _ _ r h => by simp [atlaslaw18_AsidAll.j2] at h, fun _ _ _ _ _ _ _ _ r h => by simp [atlaslaw18_AsidAll.l1] at h⟩
  | k + 1 => by
    obtain ⟨ih0, ih1, ih2, ih3⟩ := atlaslaw18_AsidAll.mono_l k
    refine ⟨?_, ?_, ?_, ?_⟩
    · intro y0 y1 y2 y3
      unfold atlaslaw18_AsidAll.j0
      repeat' first
      | (with_reducible exact ih0 _ _ _ _)
      | (with_reducible exact ih1 _ _ _ _ _ _ _ _)
      | (with_reducible exact ih2 _ _ _ _ _ _ _ _ _)
      | (with_reducible exact ih3 _ _ _ _ _ _ _ _)
      | (with_reducible exact atlasref18_Right.mono _ _ _ _)
      | (with_reducible exact LeO.refl _)
      | (with_reducible exact LeO.none _)
      | (with_reducible refine LeO.ite ?_ ?_)
      | (with_reducible refine LeO.bind ?_ (fun _ => ?_))
      | exact ih0 _ _ _ _
      | exact ih1 _ _ _ _ _ _ _ _
      | exact ih2 _ _ _ _ _ _ _ _ _
      | exact ih3 _ _ _ _ _ _ _ _
      | exact atlasref18_Right.mono _ _ _ _
      | exact LeO.none _
      | refine LeO.ite ?_ ?_
      | refine LeO.bind ?_ (fun _ => ?_)
    · intro y0 y1 y2 y3 y4 y5 y6 y7
      unfold atlaslaw18_AsidAll.l0
      repeat' first
      | (with_reducible exact ih0 _ _ _ _)
      | (with_reducible exact ih1 _ _ _ _ _ _ _ _)
      | (with_reducible exact ih2 _ _ _ _ _ _ _ _ _)
      | (with_reducible exact ih3 _ _ _ _ _ _ _ _)
      | (with_reducible exact atlasref18_Right.mono _ _ _ _)
      | (with_reducible exact LeO.refl _)
      | (with_reducible exact LeO.none _)
      | (with_reducible refine LeO.ite ?_ ?_)
      | (with_reducible refine LeO.bind ?_ (fun _ => ?_))
      | exact ih0 _ _ _ _
      | exact ih1 _ _ _ _ _ _ _ _
      | exact ih2 _ _ _ _ _ _ _ _ _
      | exact ih3 _ _ _ _ _ _ _ _
      | exact atlasref18_Right.mono _ _ _ _
      | exact LeO.none _
      | refine LeO.ite ?_ ?_
      | refine LeO.bind ?_ (fun _ => ?_)
    · intro y0 y1 y2 y3 y4 y5 y6 y7 y8
      unfold atlaslaw18_AsidAll.j2
      repeat' first
      | (with_reducible exact ih0 _ _ _ _)
      | (with_reducible exact ih1 _ _ _ _ _ _ _ _)
      | (with_reducible exact ih2 _ _ _ _ _ _ _ _ _)
      | (with_reducible exact ih3 _ _ _ _ _ _ _ _)
      | (with_reducible exact atlasref18_Right.mono _ _ _ _)
      | (with_reducible exact LeO.refl _)
      | (with_reducible exact LeO.none _)
      | (with_reducible refine LeO.ite ?_ ?_)
      | (with_reducible refine LeO.bind ?_ (fun _ => ?_))
      | exact ih0 _ _ _ _
      | exact ih1 _ _ _ _ _ _ _ _
      | exact ih2 _ _ _ _ _ _ _ _ _
      | exact ih3 _ _ _ _ _ _ _ _
      | exact atlasref18_Right.mono _ _ _ _
      | exact LeO.none _
      | refine LeO.ite ?_ ?_
      | refine LeO.bind ?_ (fun _ => ?_)
    · intro y0 y1 y2 y3 y4 y5 y6 y7
      unfold atlaslaw18_AsidAll.l1
      repeat' first
      | (with_reducible exact ih0 _ _ _ _)
      | (with_reducible exact ih1 _ _ _ _ _ _ _ _)
      | (with_reducible exact ih2 _ _ _ _ _ _ _ _ _)
      | (with_reducible exact ih3 _ _ _ _ _ _ _ _)
      | (with_reducible exact atlasref18_Right.mono _ _ _ _)
      | (with_reducible exact LeO.refl _)
      | (with_reducible exact LeO.none _)
      | (with_reducible refine LeO.ite ?_ ?_)
      | (with_reducible refine LeO.bind ?_ (fun _ => ?_))
      | exact ih0 _ _ _ _
      | exact ih1 _ _ _ _ _ _ _ _
      | exact ih2 _ _ _ _ _ _ _ _ _
      | exact ih3 _ _ _ _ _ _ _ _
      | exact atlasref18_Right.mono _ _ _ _
      | exact LeO.none _
      | refine LeO.ite ?_ ?_
      | refine LeO.bind ?_ (fun _ => ?_)
theorem atlaslaw18_AsidAll.mono : ∀ a0 a1 a2 k, LeO (atlaslaw18_AsidAll.f k a0 a1 a2) (atlaslaw18_AsidAll.f (k + 1) a0 a1 a2) := by
  intro a0 a1 a2 k
  obtain ⟨ih0, ih1, ih2, ih3⟩ := atlaslaw18_AsidAll.mono_l k
  unfold atlaslaw18_AsidAll.f
  repeat' first
      | (with_reducible exact ih0 _ _ _ _)
      | (with_reducible exact ih1 _ _ _ _ _ _ _ _)
      | (with_reducible exact ih2 _ _ _ _ _ _ _ _ _)
      | (with_reducible exact ih3 _ _ _ _ _ _ _ _)
      | (with_reducible exact atlasref18_Right.mono _ _ _ _)
      | (with_reducible exact LeO.refl _)
      | (with_reducible exact LeO.none _)
      | (with_reducible refine LeO.ite ?_ ?_)
      | (with_reducible refine LeO.bind ?_ (fun _ => ?_))
      | exact ih0 _ _ _ _
      | exact ih1 _ _ _ _ _ _ _ _
      | exact ih2 _ _ _ _ _ _ _ _ _
      | exact ih3 _ _ _ _ _ _ _ _
      | exact atlasref18_Right.mono _ _ _ _
      | exact LeO.none _
      | refine LeO.ite ?_ ?_
      | refine LeO.bind ?_ (fun _ => ?_)
def atlaslaw18_AsidAll.T18 : Bool × List (List Nat × List Nat) := (true, [([], []), ([], []), ([], []), ([1, 2], [1, 2]), ([3], [3]), ([0, 4], [0, 4]), ([5], [5]), ([6], [6]), ([6], [6]), ([], []), ([9, 7, 5, 0, 1, 2, 3, 4, 5, 6, 7, 9], [7, 9]), ([8, 10, 0, 1, 2, 3, 4, 5, 6, 7, 8, 9, 10], [8])])
def atlaslaw18_AsidAll.B18 : List Nat := [0, 0, 0, 6, 14, 31, 63, 127, 127, 0, 767, 2047]
theorem atlaslaw18_AsidAll.tab18 : rtab .any (opsOf Tryd.f5 18) = atlaslaw18_AsidAll.T18 := by kernel_rfl
theorem atlaslaw18_AsidAll.bits18 : waitsOk atlaslaw18_AsidAll.T18.2 atlaslaw18_AsidAll.B18 = true := by kernel_rfl
set_option maxHeartbeats 8000000 in
set_option maxRecDepth 100000 in
theorem atlaslaw18_AsidAll.calls (k : Nat) (a0_0 : Int) (a0_1 : Int) (a0_2 : Int) (r : Bool) (w : World) (HLD0 : Ld w) (h : atlaslaw18_AsidAll.f k a0_0 a0_1 a0_2 = some r) :
    Calls Tryd.prog 5 #[.agg #[.int .i64 a0_0, .int .u64 a0_1, .int .u64 a0_2]] w fun e w' => e = .returned (.bool r) ∧ Below w.heap.size w w' := by
  have hu24 := Tryd.underlying24
  have HB := Aside0.mk (Below.refl w.heap.size w)
  have HLD := Aside0.mk HLD0
  clear HLD0
  have H : ((atlaslaw18_awake.f).bind fun t123 => (if t123 = true then ((atlasref18_Right.f k a0_0 a0_1 a0_2).bind fun t124 => (atlaslaw18_AsidAll.j0 k (!t124) a0_0 a0_1 a0_2)) else (atlaslaw18_AsidAll.j0 k true a0_0 a0_1 a0_2))) = some r := h
  clear h
  have HC2 := Aside0.mk H
  clear H
  go_enter Tryd.func5, Tryd.ntmps5
  go_upto_region 1 with (first | ((with_reducible refine gate_dst (N := 1) rfl ?_); (try (refine gate_guard (by rfl) ?_; dsimp only)); refine box_event ?hg (N := 1) ?hd (cs := #[.int .i64 a0_0, .int .u64 a0_1, .int .u64 a0_2]) (t := 24) ?hr ?_; (case hd => rfl); (case hg => rfl); (case hr => first | (go_simp; done) | (go_simp; rfl)); intro gb122 hg w3 hbox hb; have n0_ := Aside0.mk (below_step (by repeat (first | (with_reducible first | exact HB.out | apply below_alloc | apply pw_below_drewN | apply below_drew1) | exact HB.out)) hb); have n1_ := Aside0.mk (hbox); have n2_ := Aside0.mk ((by rw [hg]; exact (below_size (by repeat (first | (with_reducible first | exact HB.out | apply below_alloc | apply pw_below_drewN | apply below_drew1) | exact HB.out))) : w.heap.size ≤ gb122)); have n3_ := Aside0.mk ((by rw [hg]; exact (below_size (by repeat (first | (with_reducible first | exact HB.out | apply below_alloc | apply pw_below_drewN | apply below_drew1) | exact HB.out))) : w.heap.size ≤ gb122)); clear HB; have HB := n0_; have BK122 := n1_; have GW122 := n2_; have GE122 := n3_; clear n0_ n1_ n2_ n3_; clear hb hbox hg))
  (try simp only [Act.put, List.setIfInBounds_toArray, List.set_cons_zero, List.set_cons_succ])
  go_cut [19] (fun v19 wc => ∃ (kq : Nat) (x19_1 : Bool), v19 = .bool x19_1 ∧ Aside0 (atlaslaw18_AsidAll.j0 kq x19_1 a0_0 a0_1 a0_2 = some r) ∧ Aside0 (kq ≤ k) ∧ Aside0 (wc.heap[gb122]? = some (.cells #[.int .i64 a0_0, .int .u64 a0_1, .int .u64 a0_2] 24 (0, 0))) ∧ Aside0 (Below w.heap.size w wc))
  case first =>
    have H := HC2.out
    clear HC2
    replace H := Option.bind_eq_some_iff.mp H
    obtain ⟨t123, A40, H⟩ := H
    replace H : (if t123 = true then ((atlasref18_Right.f k a0_0 a0_1 a0_2).bind fun t124 => (atlaslaw18_AsidAll.j0 k (!t124) a0_0 a0_1 a0_2)) else (atlaslaw18_AsidAll.j0 k true a0_0 a0_1 a0_2)) = some r := H
    have A4 := Aside0.mk A40
    clear A40
    by_cases c5 : t123 = true
    · subst c5
      have H1 : ((atlasref18_Right.f k a0_0 a0_1 a0_2).bind fun t124 => (atlaslaw18_AsidAll.j0 k (!t124) a0_0 a0_1 a0_2)) = some r := by rw [if_pos rfl] at H; exact H
      clear H
      have H := H1
      clear H1
      replace H := Option.bind_eq_some_iff.mp H
      obtain ⟨t124, A60, H⟩ := H
      replace H : (atlaslaw18_AsidAll.j0 k (!t124) a0_0 a0_1 a0_2) = some r := H
      have A6 := Aside0.mk A60
      clear A60
      have H' := Aside0.mk H
      clear H
      go_wp2_with (first | ((with_reducible refine gate_callee (f := 6) rfl ?_); refine goesL_ (some 13) rfl rfl Tryd.func6 (by kernel_rfl) rfl #[] rfl (by (try simp only [List.map_toArray, List.map_cons, List.map_nil]); first | done | rfl | (simp only [List.length_drop, List.length_take]; rfl)) ?_; (with_reducible refine (atlaslaw18_awake.calls  true _ ?side1 A4.out).mono ?_); (case side1 => exact HLD.out.below (by repeat (first | (with_reducible first | exact HB.out | apply below_alloc | apply pw_below_drewN | apply below_drew1 | refine below_set ?_ GE122.out) | exact HB.out))); rintro e w7 ⟨rfl, hb⟩; refine ⟨_, rfl, ?_⟩; have n0_ := Aside0.mk (blk_below (g := gb122) (o := .cells #[.int .i64 a0_0, .int .u64 a0_1, .int .u64 a0_2] 24 (0, 0)) (by (with_reducible repeat (first | refine blk_drewN ?_ _ | refine blk_drew ?_ | refine blk_alloc ?_ _)); exact BK122.out) hb); have n1_ := Aside0.mk (below_step (by repeat (first | (with_reducible first | exact HB.out | apply below_alloc | apply pw_below_drewN | apply below_drew1 | refine below_set ?_ GE122.out) | exact HB.out)) hb); clear BK122; clear HB; have BK122 := n0_; have HB := n1_; clear n0_ n1_; (try clear hb); (try clear hb2); (try clear hk); (try clear hi); have hcz8_0 : w7.cell? ⟨gb122, 0, none⟩ = some (.int .i64 a0_0) := (blk_cell BK122.out 0).trans rfl; have hcz8_1 : w7.cell? ⟨gb122, 1, none⟩ = some (.int .u64 a0_1) := (blk_cell BK122.out 1).trans rfl; have hcz8_2 : w7.cell? ⟨gb122, 2, none⟩ = some (.int .u64 a0_2) := (blk_cell BK122.out 2).trans rfl; have hfz8_0 := blk_frozen BK122.out 0; have hfz8_1 := blk_frozen BK122.out 1; have hfz8_2 := blk_frozen BK122.out 2) | (go_at_call 10; (with_reducible refine (atlasref18_Right.calls k a0_0 a0_1 a0_2 t124 _ A6.out).mono ?_); rintro e w9 ⟨rfl, hb⟩; have n0_ := Aside0.mk (blk_below (g := gb122) (o := .cells #[.int .i64 a0_0, .int .u64 a0_1, .int .u64 a0_2] 24 (0, 0)) (by (with_reducible repeat (first | refine blk_drewN ?_ _ | refine blk_drew ?_ | refine blk_alloc ?_ _)); exact BK122.out) hb); have n1_ := Aside0.mk (below_step (by repeat (first | (with_reducible first | exact HB.out | apply below_alloc | apply pw_below_drewN | apply below_drew1 | refine below_set ?_ GE122.out) | exact HB.out)) hb); clear BK122; clear HB; have BK122 := n0_; have HB := n1_; clear n0_ n1_; (try clear hb); (try clear hb2); (try clear hk); (try clear hi)))
      go_meet
      case rel => exact ⟨_, (!t124), (by first | rfl | (simp; done) | (simp [*]; done)), H', ⟨by first | omega | exact Nat.le_refl _⟩, ⟨by (with_reducible repeat (first | refine blk_drewN ?_ _ | refine blk_drew ?_ | refine blk_alloc ?_ _)); exact BK122.out⟩, ⟨by repeat (first | (with_reducible first | exact HB.out | apply below_alloc | apply pw_below_drewN | apply below_drew1 | refine below_set ?_ GE122.out) | exact HB.out)⟩⟩
    · replace c5 := Bool.eq_false_iff.mpr c5
      subst c5
      have H1 : (atlaslaw18_AsidAll.j0 k true a0_0 a0_1 a0_2) = some r := by rw [if_neg (show ¬ (false = true) by decide)] at H; exact H
      clear H
      have H := H1
      clear H1
      have H' := Aside0.mk H
      clear H
      go_wp2_with (first | ((with_reducible refine gate_callee (f := 6) rfl ?_); refine goesL_ (some 13) rfl rfl Tryd.func6 (by kernel_rfl) rfl #[] rfl (by (try simp only [List.map_toArray, List.map_cons, List.map_nil]); first | done | rfl | (simp only [List.length_drop, List.length_take]; rfl)) ?_; (with_reducible refine (atlaslaw18_awake.calls  false _ ?side1 A4.out).mono ?_); (case side1 => exact HLD.out.below (by repeat (first | (with_reducible first | exact HB.out | apply below_alloc | apply pw_below_drewN | apply below_drew1 | refine below_set ?_ GE122.out) | exact HB.out))); rintro e w10 ⟨rfl, hb⟩; refine ⟨_, rfl, ?_⟩; have n0_ := Aside0.mk (blk_below (g := gb122) (o := .cells #[.int .i64 a0_0, .int .u64 a0_1, .int .u64 a0_2] 24 (0, 0)) (by (with_reducible repeat (first | refine blk_drewN ?_ _ | refine blk_drew ?_ | refine blk_alloc ?_ _)); exact BK122.out) hb); have n1_ := Aside0.mk (below_step (by repeat (first | (with_reducible first | exact HB.out | apply below_alloc | apply pw_below_drewN | apply below_drew1 | refine below_set ?_ GE122.out) | exact HB.out)) hb); clear BK122; clear HB; have BK122 := n0_; have HB := n1_; clear n0_ n1_; (try clear hb); (try clear hb2); (try clear hk); (try clear hi)))
      go_meet
      case rel => exact ⟨_, (true), (by first | rfl | (simp; done) | (simp [*]; done)), H', ⟨by first | omega | exact Nat.le_refl _⟩, ⟨by (with_reducible repeat (first | refine blk_drewN ?_ _ | refine blk_drew ?_ | refine blk_alloc ?_ _)); exact BK122.out⟩, ⟨by repeat (first | (with_reducible first | exact HB.out | apply below_alloc | apply pw_below_drewN | apply below_drew1 | refine below_set ?_ GE122.out) | exact HB.out)⟩⟩
  case rest =>
    clear HC2
    try clear p2
    try clear c5
    try clear c6
    try clear hcz8_0
    try clear hcz8_1
    try clear hcz8_2
    try clear hfz8_0
    try clear hfz8_1
    try clear hfz8_2
    obtain ⟨kq, x19_1, rfl, HA, HJ1, BK122, HB⟩ := hcut
    cases kq with
    | zero => exact absurd HA.out (by simp [atlaslaw18_AsidAll.j0])
    | succ kj1 =>
      have H := HA.out
      clear HA
      simp only [atlaslaw18_AsidAll.j0] at H
      by_cases c11 : x19_1 = true
      · subst c11
        have H1 : ((atlaslaw18_awake.f).bind fun t125 => (some t125)) = some r := by rw [if_pos rfl] at H; exact H
        clear H
        have H := H1
        clear H1
        replace H := Option.bind_eq_some_iff.mp H
        obtain ⟨t125, A120, H⟩ := H
        replace H : (some t125) = some r := H
        have A12 := Aside0.mk A120
        clear A120
        obtain rfl := Option.some.inj H
        go_wp2_with (first | ((with_reducible refine gate_callee (f := 6) rfl ?_); refine goesL_ (some 20) rfl rfl Tryd.func6 (by kernel_rfl) rfl #[] rfl (by (try simp only [List.map_toArray, List.map_cons, List.map_nil]); first | done | rfl | (simp only [List.length_drop, List.length_take]; rfl)) ?_; (with_reducible refine (atlaslaw18_awake.calls  t125 _ ?side1 A12.out).mono ?_); (case side1 => exact HLD.out.below (by repeat (first | (with_reducible first | exact HB.out | apply below_alloc | apply pw_below_drewN | apply below_drew1 | refine below_set ?_ GE122.out) | exact HB.out))); rintro e w13 ⟨rfl, hb⟩; refine ⟨_, rfl, ?_⟩; have n0_ := Aside0.mk (blk_below (g := gb122) (o := .cells #[.int .i64 a0_0, .int .u64 a0_1, .int .u64 a0_2] 24 (0, 0)) (by (with_reducible repeat (first | refine blk_drewN ?_ _ | refine blk_drew ?_ | refine blk_alloc ?_ _)); exact BK122.out) hb); have n1_ := Aside0.mk (below_step (by repeat (first | (with_reducible first | exact HB.out | apply below_alloc | apply pw_below_drewN | apply below_drew1 | refine below_set ?_ GE122.out) | exact HB.out)) hb); clear BK122; clear HB; have BK122 := n0_; have HB := n1_; clear n0_ n1_; (try clear hb); (try clear hb2); (try clear hk); (try clear hi)))
        go_ret
        exact ⟨by first | rfl | (simp [errW_none, errW_some] <;> rfl) | (simp [*, errW_none, errW_some] <;> rfl), by repeat (first | (with_reducible first | exact HB.out | apply below_alloc | apply pw_below_drewN | apply below_drew1 | refine below_set ?_ GE122.out) | exact HB.out)⟩
      · replace c11 := Bool.eq_false_iff.mpr c11
        subst c11
        have H1 : (atlaslaw18_AsidAll.l0 kj1 ([] : List Int) 0 a0_0 a0_1 a0_2 a0_0 a0_1 a0_2) = some r := by rw [if_neg (show ¬ (false = true) by decide)] at H; exact H
        clear H
        have H := H1
        clear H1
        have H' := Aside0.mk H
        clear H
        have hcz14_0 : wc.cell? ⟨gb122, 0, none⟩ = some (.int .i64 a0_0) := (blk_cell BK122.out 0).trans rfl
        have hcz14_1 : wc.cell? ⟨gb122, 1, none⟩ = some (.int .u64 a0_1) := (blk_cell BK122.out 1).trans rfl
        have hcz14_2 : wc.cell? ⟨gb122, 2, none⟩ = some (.int .u64 a0_2) := (blk_cell BK122.out 2).trans rfl
        have hfz14_0 := blk_frozen BK122.out 0
        have hfz14_1 := blk_frozen BK122.out 1
        have hfz14_2 := blk_frozen BK122.out 2
        go_wp2_with (first | ((with_reducible refine gate_dst (N := 3) rfl ?_); (try (refine gate_guard (by rfl) ?_; dsimp only)); refine box_event ?hg (N := 3) ?hd (cs := #[.int .i64 0, .int .u64 0, .int .u64 0]) (t := 24) ?hr ?_; (case hd => rfl); (case hg => rfl); (case hr => first | (go_simp; done) | (go_simp; rfl)); intro gb126 hg w15 hbox hb; have n0_ := Aside0.mk (blk_below (g := gb122) (o := .cells #[.int .i64 a0_0, .int .u64 a0_1, .int .u64 a0_2] 24 (0, 0)) (by (with_reducible repeat (first | refine blk_drewN ?_ _ | refine blk_drew ?_ | refine blk_alloc ?_ _)); exact BK122.out) hb); have n1_ := Aside0.mk (below_step (by repeat (first | (with_reducible first | exact HB.out | apply below_alloc | apply pw_below_drewN | apply below_drew1 | refine below_set ?_ GE122.out) | exact HB.out)) hb); have n2_ := Aside0.mk (hbox); have n3_ := Aside0.mk ((by rw [hg]; exact (below_size (by repeat (first | (with_reducible first | exact HB.out | apply below_alloc | apply pw_below_drewN | apply below_drew1 | refine below_set ?_ GE122.out) | exact HB.out))) : w.heap.size ≤ gb126)); have n4_ := Aside0.mk ((by rw [hg]; exact (below_size (by repeat (first | (with_reducible first | exact HB.out | apply below_alloc | apply pw_below_drewN | apply below_drew1 | refine below_set ?_ GE122.out) | exact HB.out))) : w.heap.size ≤ gb126)); have n5_ := Aside0.mk ((by rw [hg]; exact Nat.ne_of_lt (blk_lt (g := gb122) (o := .cells #[.int .i64 a0_0, .int .u64 a0_1, .int .u64 a0_2] 24 (0, 0)) (by (with_reducible repeat (first | refine blk_drewN ?_ _ | refine blk_drew ?_ | refine blk_alloc ?_ _)); exact BK122.out)) : gb122 ≠ gb126)); have n6_ := Aside0.mk ((by rw [hg]; exact Nat.ne_of_gt (blk_lt (g := gb122) (o := .cells #[.int .i64 a0_0, .int .u64 a0_1, .int .u64 a0_2] 24 (0, 0)) (by (with_reducible repeat (first | refine blk_drewN ?_ _ | refine blk_drew ?_ | refine blk_alloc ?_ _)); exact BK122.out)) : gb126 ≠ gb122)); clear BK122; clear HB; have BK122 := n0_; have HB := n1_; have BK126 := n2_; have GW126 := n3_; have GE126 := n4_; have NB122_126 := n5_; have NB126_122 := n6_; clear n0_ n1_ n2_ n3_ n4_ n5_ n6_; clear hb hbox hg; have hnb16 := NB126_122.out; have hnc16 := NB122_126.out; have hcz17_0 : w15.cell? ⟨gb126, 0, none⟩ = some (.int .i64 0) := (blk_cell BK126.out 0).trans rfl; have hcz17_1 : w15.cell? ⟨gb126, 1, none⟩ = some (.int .u64 0) := (blk_cell BK126.out 1).trans rfl; have hcz17_2 : w15.cell? ⟨gb126, 2, none⟩ = some (.int .u64 0) := (blk_cell BK126.out 2).trans rfl; have hfz17_0 := blk_frozen BK126.out 0; have hfz17_1 := blk_frozen BK126.out 1; have hfz17_2 := blk_frozen BK126.out 2))
        go_loopg [4, 5] kj1 (fun kq v4 v5 w' => ∃ (x4_2 : List Int) (x5_2 : Int) (x127000_2 : Int) (x127001_2 : Int) (x127002_2 : Int), v5 = .int .i64 x5_2 ∧ Aside0 (atlaslaw18_AsidAll.l0 kq x4_2 x5_2 a0_0 a0_1 a0_2 x127000_2 x127001_2 x127002_2 = some r) ∧ Aside0 (kq ≤ kj1) ∧ Aside0 (Kd.R (Kd.int .u64) 22 w' w.heap.size (fun _ => True) v4 x4_2) ∧ Aside0 (w'.heap[gb122]? = some (.cells #[.int .i64 a0_0, .int .u64 a0_1, .int .u64 a0_2] 24 (0, 0))) ∧ Aside0 (w'.heap[gb126]? = some (.cells #[.int .i64 x127000_2, .int .u64 x127001_2, .int .u64 x127002_2] 24 (0, 0))) ∧ Aside0 (Below w.heap.size w w'))
        case atStart => exact ⟨(([] : List Int)), (0), (a0_0), (a0_1), (a0_2), (by first | rfl | (simp; done) | (simp [*]; done)), H', ⟨Nat.le_refl _⟩, ⟨by first | exact Kd.R_nil _ _ _ _ _ | exact Kd.N_nil _ _ _ _ _ | exact Kd.V_nil _ _ _ _ _ | exact Kd.Q_nil _ _ _ _ _ | exact Kd.S_nil _ _ _ _ _⟩, ⟨by (with_reducible repeat (first | refine blk_drewN ?_ _ | refine blk_drew ?_ | refine blk_alloc ?_ _)); refine blk_far ?_ NB122_126.out _; (with_reducible repeat (first | refine blk_drewN ?_ _ | refine blk_drew ?_ | refine blk_alloc ?_ _)); refine blk_far ?_ NB122_126.out _; (with_reducible repeat (first | refine blk_drewN ?_ _ | refine blk_drew ?_ | refine blk_alloc ?_ _)); refine blk_far ?_ NB122_126.out _; (with_reducible repeat (first | refine blk_drewN ?_ _ | refine blk_drew ?_ | refine blk_alloc ?_ _)); exact BK122.out⟩, ⟨by (with_reducible repeat (first | refine blk_drewN ?_ _ | refine blk_drew ?_ | refine blk_alloc ?_ _)); refine blk_put (cs := #[.int .i64 a0_0, .int .u64 a0_1, .int .u64 0]) ?_ 2 _ rfl; (with_reducible repeat (first | refine blk_drewN ?_ _ | refine blk_drew ?_ | refine blk_alloc ?_ _)); refine blk_put (cs := #[.int .i64 a0_0, .int .u64 0, .int .u64 0]) ?_ 1 _ rfl; (with_reducible repeat (first | refine blk_drewN ?_ _ | refine blk_drew ?_ | refine blk_alloc ?_ _)); refine blk_put (cs := #[.int .i64 0, .int .u64 0, .int .u64 0]) ?_ 0 _ rfl; (with_reducible repeat (first | refine blk_drewN ?_ _ | refine blk_drew ?_ | refine blk_alloc ?_ _)); exact BK126.out⟩, ⟨by repeat (first | (with_reducible first | exact HB.out | apply below_alloc | apply pw_below_drewN | apply below_drew1 | refine below_set ?_ GE122.out | refine below_set ?_ GE126.out) | exact HB.out)⟩⟩
        case round =>
          clear H'
          try clear c1
          try clear p2
          try clear c5
          try clear c6
          try clear c11
          try clear c16
          try clear hcz14_0
          try clear hcz14_1
          try clear hcz14_2
          try clear hcz17_0
          try clear hcz17_1
          try clear hcz17_2
          try clear hcz8_0
          try clear hcz8_1
          try clear hcz8_2
          try clear hfz14_0
          try clear hfz14_1
          try clear hfz14_2
          try clear hfz17_0
          try clear hfz17_1
          try clear hfz17_2
          try clear hfz8_0
          try clear hfz8_1
          try clear hfz8_2
          try clear p2
          obtain ⟨x4_2, x5_2, x127000_2, x127001_2, x127002_2, rfl, HA, HK2, HO_4, BK122, BK126, HB⟩ := hrel
          cases gk with
          | zero => exact absurd HA.out (by simp [atlaslaw18_AsidAll.l0])
          | succ k2 =>
            have H := HA.out
            clear HA
            simp only [atlaslaw18_AsidAll.l0] at H
            have HC18 := Aside0.mk H
            clear H
            go_upto_region 6 with (fail)
            go_cut [28] (fun v28 wc => ∃ (kq : Nat) (x28_17 : Bool), v28 = .bool x28_17 ∧ Aside0 (atlaslaw18_AsidAll.j2 kq x4_2 x5_2 x28_17 a0_0 a0_1 a0_2 x127000_2 x127001_2 x127002_2 = some r) ∧ Aside0 (kq ≤ k2) ∧ Aside0 (Kd.R (Kd.int .u64) 22 wc w.heap.size (fun _ => True) u4 x4_2) ∧ Aside0 (wc.heap[gb122]? = some (.cells #[.int .i64 a0_0, .int .u64 a0_1, .int .u64 a0_2] 24 (0, 0))) ∧ Aside0 (wc.heap[gb126]? = some (.cells #[.int .i64 x127000_2, .int .u64 x127001_2, .int .u64 x127002_2] 24 (0, 0))) ∧ Aside0 (Below w.heap.size w wc))
            case first =>
              have H := HC18.out
              clear HC18
              by_cases c19 : x5_2 < 16
              · rw [if_pos c19] at H
                have c19b0 : decide (x5_2 < 16) = true := decide_eq_true c19
                clear c19
                (first | rw [c19b0] | (simp only [i64_w, i32_w]; rw [c19b0]) | skip)
                replace H := Option.bind_eq_some_iff.mp H
                obtain ⟨t127, A200, H⟩ := H
                replace H : (atlaslaw18_AsidAll.j2 k2 x4_2 x5_2 (decide (t127 > 0)) a0_0 a0_1 a0_2 x127000_2 x127001_2 x127002_2) = some r := H
                have A20 := Aside0.mk A200
                clear A200
                have H' := Aside0.mk H
                clear H
                have hnb21 := NB126_122.out
                have hnc21 := NB122_126.out
                have hcz22_0 : wr.cell? ⟨gb126, 0, none⟩ = some (.int .i64 x127000_2) := (blk_cell BK126.out 0).trans rfl
                have hcz22_1 : wr.cell? ⟨gb126, 1, none⟩ = some (.int .u64 x127001_2) := (blk_cell BK126.out 1).trans rfl
                have hcz22_2 : wr.cell? ⟨gb126, 2, none⟩ = some (.int .u64 x127002_2) := (blk_cell BK126.out 2).trans rfl
                have hfz22_0 := blk_frozen BK126.out 0
                have hfz22_1 := blk_frozen BK126.out 1
                have hfz22_2 := blk_frozen BK126.out 2
                go_wp2_with (first | (go_at_call 15; (with_reducible refine (asid_Free.calls x127000_2 x127001_2 x127002_2 t127 _ A20.out).mono ?_); rintro e w23 ⟨rfl, hb⟩; have n0_ := Aside0.mk (Kd.R_below (by (with_reducible repeat (first | apply Kd.R_alloc | apply Kd.R_drewN | apply Kd.R_drew)); exact HO_4.out) hb); have n1_ := Aside0.mk (blk_below (g := gb122) (o := .cells #[.int .i64 a0_0, .int .u64 a0_1, .int .u64 a0_2] 24 (0, 0)) (by (with_reducible repeat (first | refine blk_drewN ?_ _ | refine blk_drew ?_ | refine blk_alloc ?_ _)); exact BK122.out) hb); have n2_ := Aside0.mk (blk_below (g := gb126) (o := .cells #[.int .i64 x127000_2, .int .u64 x127001_2, .int .u64 x127002_2] 24 (0, 0)) (by (with_reducible repeat (first | refine blk_drewN ?_ _ | refine blk_drew ?_ | refine blk_alloc ?_ _)); exact BK126.out) hb); have n3_ := Aside0.mk (below_step (by repeat (first | (with_reducible first | exact HB.out | apply below_alloc | apply pw_below_drewN | apply below_drew1 | refine below_set ?_ GE122.out | refine below_set ?_ GE126.out) | exact HB.out)) hb); clear HO_4; clear BK122; clear BK126; clear HB; have HO_4 := n0_; have BK122 := n1_; have BK126 := n2_; have HB := n3_; clear n0_ n1_ n2_ n3_; (try clear hb); (try clear hb2); (try clear hk); (try clear hi)))
                go_meet
                case rel => exact ⟨_, (decide (t127 > 0)), (by first | rfl | (simp; done) | (simp [*]; done)), H', ⟨by have := HJ1.out; have := HK2.out; first | omega | exact Nat.le_refl _⟩, ⟨by (with_reducible repeat (first | apply Kd.R_alloc | apply Kd.R_drewN | apply Kd.R_drew)); exact HO_4.out⟩, ⟨by (with_reducible repeat (first | refine blk_drewN ?_ _ | refine blk_drew ?_ | refine blk_alloc ?_ _)); exact BK122.out⟩, ⟨by (with_reducible repeat (first | refine blk_drewN ?_ _ | refine blk_drew ?_ | refine blk_alloc ?_ _)); exact BK126.out⟩, ⟨by repeat (first | (with_reducible first | exact HB.out | apply below_alloc | apply pw_below_drewN | apply below_drew1 | refine below_set ?_ GE122.out | refine below_set ?_ GE126.out) | exact HB.out)⟩⟩
              · rw [if_neg c19] at H
                have c19b0 : decide (x5_2 < 16) = false := decide_eq_false c19
                clear c19
                (first | rw [c19b0] | (simp only [i64_w, i32_w]; rw [c19b0]) | skip)
                have H' := Aside0.mk H
                clear H
                go_wp2
                go_meet
                case rel => exact ⟨_, (false), (by first | rfl | (simp; done) | (simp [*]; done)), H', ⟨by have := HJ1.out; have := HK2.out; first | omega | exact Nat.le_refl _⟩, ⟨by (with_reducible repeat (first | apply Kd.R_alloc | apply Kd.R_drewN | apply Kd.R_drew)); exact HO_4.out⟩, ⟨by (with_reducible repeat (first | refine blk_drewN ?_ _ | refine blk_drew ?_ | refine blk_alloc ?_ _)); exact BK122.out⟩, ⟨by (with_reducible repeat (first | refine blk_drewN ?_ _ | refine blk_drew ?_ | refine blk_alloc ?_ _)); exact BK126.out⟩, ⟨by repeat (first | (with_reducible first | exact HB.out | apply below_alloc | apply pw_below_drewN | apply below_drew1 | refine below_set ?_ GE122.out | refine below_set ?_ GE126.out) | exact HB.out)⟩⟩
            case rest =>
              clear HC18
              try clear c1
              try clear c2
              try clear p2
              try clear c5
              try clear c6
              try clear c11
              try clear c16
              try clear c19
              try clear c19b0
              try clear c21
              try clear hcz14_0
              try clear hcz14_1
              try clear hcz14_2
              try clear hcz17_0
              try clear hcz17_1
              try clear hcz17_2
              try clear hcz22_0
              try clear hcz22_1
              try clear hcz22_2
              try clear hcz8_0
              try clear hcz8_1
              try clear hcz8_2
              try clear hfz14_0
              try clear hfz14_1
              try clear hfz14_2
              try clear hfz17_0
              try clear hfz17_1
              try clear hfz17_2
              try clear hfz22_0
              try clear hfz22_1
              try clear hfz22_2
              try clear hfz8_0
              try clear hfz8_1
              try clear hfz8_2
              try clear p2
              obtain ⟨kq, x28_17, rfl, HA, HJ17, HO_4, BK122, BK126, HB⟩ := hcut
              cases kq with
              | zero => exact absurd HA.out (by simp [atlaslaw18_AsidAll.j2])
              | succ kj17 =>
                have H := HA.out
                clear HA
                simp only [atlaslaw18_AsidAll.j2] at H
                by_cases c24 : x28_17 = true
                · subst c24
                  have H1 : ((asid_Take.f x127000_2 x127001_2 x127002_2).bind fun bt128 => (if bt128.2.2.2.2.2 = 0 then (if bt128.2.2.2.1 < 1 then (some false) else (if bt128.2.2.2.1 > 16 then (some false) else (if (x4_2.length : Int) > 0 then (if 0 ≤ (wrap64 ((x4_2.length : Int) - 1)) then (if (wrap64 ((x4_2.length : Int) - 1)) < (x4_2.length : Int) then (if (rd x4_2 (wrap64 ((x4_2.length : Int) - 1))) ≥ bt128.2.2.2.1 then (some false) else (if 0 ≤ (IntKind.u64.wrap (bt128.2.2.2.1 - 1)) then (if (bt128.2.2.2.2.1 != ((Int.tmod (shr .u64 a0_2 (IntKind.u64.wrap (bt128.2.2.2.1 - 1))) 2) == 1)) = true then (some false) else (if x4_2.length < 17592186044416 then (atlaslaw18_AsidAll.l0 kj17 (x4_2 ++ [bt128.2.2.2.1]) (wrap64 (x5_2 + 1)) a0_0 a0_1 a0_2 bt128.1 bt128.2.1 bt128.2.2.1) else (none))) else (none))) else (none)) else (none)) else (if 0 ≤ (IntKind.u64.wrap (bt128.2.2.2.1 - 1)) then (if (bt128.2.2.2.2.1 != ((Int.tmod (shr .u64 a0_2 (IntKind.u64.wrap (bt128.2.2.2.1 - 1))) 2) == 1)) = true then (some false) else (if x4_2.length < 17592186044416 then (atlaslaw18_AsidAll.l0 kj17 (x4_2 ++ [bt128.2.2.2.1]) (wrap64 (x5_2 + 1)) a0_0 a0_1 a0_2 bt128.1 bt128.2.1 bt128.2.2.1) else (none))) else (none))))) else (some false))) = some r := by rw [if_pos rfl] at H; exact H
                  clear H
                  have H := H1
                  clear H1
                  replace H := Option.bind_eq_some_iff.mp H
                  obtain ⟨⟨t128, t129, t130, t131, t132, t133⟩, A250, H⟩ := H
                  replace H : (if t133 = 0 then (if t131 < 1 then (some false) else (if t131 > 16 then (some false) else (if (x4_2.length : Int) > 0 then (if 0 ≤ (wrap64 ((x4_2.length : Int) - 1)) then (if (wrap64 ((x4_2.length : Int) - 1)) < (x4_2.length : Int) then (if (rd x4_2 (wrap64 ((x4_2.length : Int) - 1))) ≥ t131 then (some false) else (if 0 ≤ (IntKind.u64.wrap (t131 - 1)) then (if (t132 != ((Int.tmod (shr .u64 a0_2 (IntKind.u64.wrap (t131 - 1))) 2) == 1)) = true then (some false) else (if x4_2.length < 17592186044416 then (atlaslaw18_AsidAll.l0 kj17 (x4_2 ++ [t131]) (wrap64 (x5_2 + 1)) a0_0 a0_1 a0_2 t128 t129 t130) else (none))) else (none))) else (none)) else (none)) else (if 0 ≤ (IntKind.u64.wrap (t131 - 1)) then (if (t132 != ((Int.tmod (shr .u64 a0_2 (IntKind.u64.wrap (t131 - 1))) 2) == 1)) = true then (some false) else (if x4_2.length < 17592186044416 then (atlaslaw18_AsidAll.l0 kj17 (x4_2 ++ [t131]) (wrap64 (x5_2 + 1)) a0_0 a0_1 a0_2 t128 t129 t130) else (none))) else (none))))) else (some false)) = some r := H
                  have A25 := Aside0.mk A250
                  clear A250
                  by_cases c26 : t133 = 0
                  · rw [if_pos c26] at H
                    have c26b0 : (t133 == 0) = true := beq_iff_eq.mpr c26
                    have c26b1 : (t133 != 0) = false := bne_eq_false_iff_eq.mpr c26
                    clear c26
                    by_cases c27 : t131 < 1
                    · rw [if_pos c27] at H
                      have c27b0 : decide (t131 < 1) = true := decide_eq_true c27
                      clear c27
                      obtain rfl := Option.some.inj H
                      have hnb28 := NB126_122.out
                      have hnc28 := NB122_126.out
                      have hcz29_0 : wc.cell? ⟨gb126, 0, none⟩ = some (.int .i64 x127000_2) := (blk_cell BK126.out 0).trans rfl
                      have hcz29_1 : wc.cell? ⟨gb126, 1, none⟩ = some (.int .u64 x127001_2) := (blk_cell BK126.out 1).trans rfl
                      have hcz29_2 : wc.cell? ⟨gb126, 2, none⟩ = some (.int .u64 x127002_2) := (blk_cell BK126.out 2).trans rfl
                      have hfz29_0 := blk_frozen BK126.out 0
                      have hfz29_1 := blk_frozen BK126.out 1
                      have hfz29_2 := blk_frozen BK126.out 2
                      go_wp2_with (first | ((with_reducible refine gate_callee (f := 11) rfl ?_); refine goesL_ (some 33) rfl rfl Tryd.func11 (by kernel_rfl) rfl #[.agg #[.int .i64 x127000_2, .int .u64 x127001_2, .int .u64 x127002_2]] rfl (by (try simp only [List.map_toArray, List.map_cons, List.map_nil]); first | done | rfl | (simp only [List.length_drop, List.length_take]; rfl)) ?_; (with_reducible refine (asid_Take.calls x127000_2 x127001_2 x127002_2 t128 t129 t130 t131 t132 t133 _ ?side1 A25.out).mono ?_); (case side1 => exact HLD.out.below (by repeat (first | (with_reducible first | exact HB.out | apply below_alloc | apply pw_below_drewN | apply below_drew1 | refine below_set ?_ GE122.out | refine below_set ?_ GE126.out) | exact HB.out))); rintro e w30 ⟨rfl, hb⟩; refine ⟨_, rfl, ?_⟩; have n0_ := Aside0.mk (Kd.R_below (by (with_reducible repeat (first | apply Kd.R_alloc | apply Kd.R_drewN | apply Kd.R_drew)); exact HO_4.out) hb); have n1_ := Aside0.mk (blk_below (g := gb122) (o := .cells #[.int .i64 a0_0, .int .u64 a0_1, .int .u64 a0_2] 24 (0, 0)) (by (with_reducible repeat (first | refine blk_drewN ?_ _ | refine blk_drew ?_ | refine blk_alloc ?_ _)); exact BK122.out) hb); have n2_ := Aside0.mk (blk_below (g := gb126) (o := .cells #[.int .i64 x127000_2, .int .u64 x127001_2, .int .u64 x127002_2] 24 (0, 0)) (by (with_reducible repeat (first | refine blk_drewN ?_ _ | refine blk_drew ?_ | refine blk_alloc ?_ _)); exact BK126.out) hb); have n3_ := Aside0.mk (below_step (by repeat (first | (with_reducible first | exact HB.out | apply below_alloc | apply pw_below_drewN | apply below_drew1 | refine below_set ?_ GE122.out | refine below_set ?_ GE126.out) | exact HB.out)) hb); clear HO_4; clear BK122; clear BK126; clear HB; have HO_4 := n0_; have BK122 := n1_; have BK126 := n2_; have HB := n3_; clear n0_ n1_ n2_ n3_; (try clear hb); (try clear hb2); (try clear hk); (try clear hi)) | ((with_reducible refine gate_dst (N := 6) rfl ?_); (try (refine gate_guard (by rfl) ?_; dsimp only)); refine box_event ?hg (N := 6) ?hd (cs := #[.int .i64 0, .int .u64 0, .int .u64 0]) (t := 24) ?hr ?_; (case hd => rfl); (case hg => rfl); (case hr => first | (go_simp; done) | (go_simp; rfl)); intro gb134 hg w31 hbox hb; have n0_ := Aside0.mk (Kd.R_below (by (with_reducible repeat (first | apply Kd.R_alloc | apply Kd.R_drewN | apply Kd.R_drew)); exact HO_4.out) hb); have n1_ := Aside0.mk (blk_below (g := gb122) (o := .cells #[.int .i64 a0_0, .int .u64 a0_1, .int .u64 a0_2] 24 (0, 0)) (by (with_reducible repeat (first | refine blk_drewN ?_ _ | refine blk_drew ?_ | refine blk_alloc ?_ _)); exact BK122.out) hb); have n2_ := Aside0.mk (blk_below (g := gb126) (o := .cells #[.int .i64 x127000_2, .int .u64 x127001_2, .int .u64 x127002_2] 24 (0, 0)) (by (with_reducible repeat (first | refine blk_drewN ?_ _ | refine blk_drew ?_ | refine blk_alloc ?_ _)); exact BK126.out) hb); have n3_ := Aside0.mk (below_step (by repeat (first | (with_reducible first | exact HB.out | apply below_alloc | apply pw_below_drewN | apply below_drew1 | refine below_set ?_ GE122.out | refine below_set ?_ GE126.out) | exact HB.out)) hb); have n4_ := Aside0.mk (hbox); have n5_ := Aside0.mk ((by rw [hg]; exact (below_size (by repeat (first | (with_reducible first | exact HB.out | apply below_alloc | apply pw_below_drewN | apply below_drew1 | refine below_set ?_ GE122.out | refine below_set ?_ GE126.out) | exact HB.out))) : w.heap.size ≤ gb134)); have n6_ := Aside0.mk ((by rw [hg]; exact (below_size (by repeat (first | (with_reducible first | exact HB.out | apply below_alloc | apply pw_below_drewN | apply below_drew1 | refine below_set ?_ GE122.out | refine below_set ?_ GE126.out) | exact HB.out))) : w.heap.size ≤ gb134)); have n7_ := Aside0.mk ((by rw [hg]; exact Nat.ne_of_lt (blk_lt (g := gb122) (o := .cells #[.int .i64 a0_0, .int .u64 a0_1, .int .u64 a0_2] 24 (0, 0)) (by (with_reducible repeat (first | refine blk_drewN ?_ _ | refine blk_drew ?_ | refine blk_alloc ?_ _)); exact BK122.out)) : gb122 ≠ gb134)); have n8_ := Aside0.mk ((by rw [hg]; exact Nat.ne_of_gt (blk_lt (g := gb122) (o := .cells #[.int .i64 a0_0, .int .u64 a0_1, .int .u64 a0_2] 24 (0, 0)) (by (with_reducible repeat (first | refine blk_drewN ?_ _ | refine blk_drew ?_ | refine blk_alloc ?_ _)); exact BK122.out)) : gb134 ≠ gb122)); have n9_ := Aside0.mk ((by rw [hg]; exact Nat.ne_of_lt (blk_lt (g := gb126) (o := .cells #[.int .i64 x127000_2, .int .u64 x127001_2, .int .u64 x127002_2] 24 (0, 0)) (by (with_reducible repeat (first | refine blk_drewN ?_ _ | refine blk_drew ?_ | refine blk_alloc ?_ _)); exact BK126.out)) : gb126 ≠ gb134)); have n10_ := Aside0.mk ((by rw [hg]; exact Nat.ne_of_gt (blk_lt (g := gb126) (o := .cells #[.int .i64 x127000_2, .int .u64 x127001_2, .int .u64 x127002_2] 24 (0, 0)) (by (with_reducible repeat (first | refine blk_drewN ?_ _ | refine blk_drew ?_ | refine blk_alloc ?_ _)); exact BK126.out)) : gb134 ≠ gb126)); clear HO_4; clear BK122; clear BK126; clear HB; have HO_4 := n0_; have BK122 := n1_; have BK126 := n2_; have HB := n3_; have BK134 := n4_; have GW134 := n5_; have GE134 := n6_; have NB122_134 := n7_; have NB134_122 := n8_; have NB126_134 := n9_; have NB134_126 := n10_; clear n0_ n1_ n2_ n3_ n4_ n5_ n6_ n7_ n8_ n9_ n10_; clear hb hbox hg; have hnb32 := NB134_122.out; have hnc32 := NB122_134.out; have hnb33 := NB134_126.out; have hnc33 := NB126_134.out; have hcz34_0 : w31.cell? ⟨gb134, 0, none⟩ = some (.int .i64 0) := (blk_cell BK134.out 0).trans rfl; have hcz34_1 : w31.cell? ⟨gb134, 1, none⟩ = some (.int .u64 0) := (blk_cell BK134.out 1).trans rfl; have hcz34_2 : w31.cell? ⟨gb134, 2, none⟩ = some (.int .u64 0) := (blk_cell BK134.out 2).trans rfl; have hfz34_0 := blk_frozen BK134.out 0; have hfz34_1 := blk_frozen BK134.out 1; have hfz34_2 := blk_frozen BK134.out 2))
                      go_ret
                      exact ⟨by first | rfl | (simp [errW_none, errW_some] <;> rfl) | (simp [*, errW_none, errW_some] <;> rfl), by repeat (first | (with_reducible first | exact HB.out | apply below_alloc | apply pw_below_drewN | apply below_drew1 | refine below_set ?_ GE122.out | refine below_set ?_ GE126.out | refine below_set ?_ GE134.out) | exact HB.out)⟩
                    · rw [if_neg c27] at H
                      have c27b0 : decide (t131 < 1) = false := decide_eq_false c27
                      clear c27
                      by_cases c35 : t131 > 16
                      · rw [if_pos c35] at H
                        have c35b0 : decide (16 < t131) = true := decide_eq_true c35
                        clear c35
                        obtain rfl := Option.some.inj H
                        have hnb36 := NB126_122.out
                        have hnc36 := NB122_126.out
                        have hcz37_0 : wc.cell? ⟨gb126, 0, none⟩ = some (.int .i64 x127000_2) := (blk_cell BK126.out 0).trans rfl
                        have hcz37_1 : wc.cell? ⟨gb126, 1, none⟩ = some (.int .u64 x127001_2) := (blk_cell BK126.out 1).trans rfl
                        have hcz37_2 : wc.cell? ⟨gb126, 2, none⟩ = some (.int .u64 x127002_2) := (blk_cell BK126.out 2).trans rfl
                        have hfz37_0 := blk_frozen BK126.out 0
                        have hfz37_1 := blk_frozen BK126.out 1
                        have hfz37_2 := blk_frozen BK126.out 2
                        go_wp2_with (first | ((with_reducible refine gate_callee (f := 11) rfl ?_); refine goesL_ (some 33) rfl rfl Tryd.func11 (by kernel_rfl) rfl #[.agg #[.int .i64 x127000_2, .int .u64 x127001_2, .int .u64 x127002_2]] rfl (by (try simp only [List.map_toArray, List.map_cons, List.map_nil]); first | done | rfl | (simp only [List.length_drop, List.length_take]; rfl)) ?_; (with_reducible refine (asid_Take.calls x127000_2 x127001_2 x127002_2 t128 t129 t130 t131 t132 t133 _ ?side1 A25.out).mono ?_); (case side1 => exact HLD.out.below (by repeat (first | (with_reducible first | exact HB.out | apply below_alloc | apply pw_below_drewN | apply below_drew1 | refine below_set ?_ GE122.out | refine below_set ?_ GE126.out) | exact HB.out))); rintro e w38 ⟨rfl, hb⟩; refine ⟨_, rfl, ?_⟩; have n0_ := Aside0.mk (Kd.R_below (by (with_reducible repeat (first | apply Kd.R_alloc | apply Kd.R_drewN | apply Kd.R_drew)); exact HO_4.out) hb); have n1_ := Aside0.mk (blk_below (g := gb122) (o := .cells #[.int .i64 a0_0, .int .u64 a0_1, .int .u64 a0_2] 24 (0, 0)) (by (with_reducible repeat (first | refine blk_drewN ?_ _ | refine blk_drew ?_ | refine blk_alloc ?_ _)); exact BK122.out) hb); have n2_ := Aside0.mk (blk_below (g := gb126) (o := .cells #[.int .i64 x127000_2, .int .u64 x127001_2, .int .u64 x127002_2] 24 (0, 0)) (by (with_reducible repeat (first | refine blk_drewN ?_ _ | refine blk_drew ?_ | refine blk_alloc ?_ _)); exact BK126.out) hb); have n3_ := Aside0.mk (below_step (by repeat (first | (with_reducible first | exact HB.out | apply below_alloc | apply pw_below_drewN | apply below_drew1 | refine below_set ?_ GE122.out | refine below_set ?_ GE126.out) | exact HB.out)) hb); clear HO_4; clear BK122; clear BK126; clear HB; have HO_4 := n0_; have BK122 := n1_; have BK126 := n2_; have HB := n3_; clear n0_ n1_ n2_ n3_; (try clear hb); (try clear hb2); (try clear hk); (try clear hi)) | ((with_reducible refine gate_dst (N := 6) rfl ?_); (try (refine gate_guard (by rfl) ?_; dsimp only)); refine box_event ?hg (N := 6) ?hd (cs := #[.int .i64 0, .int .u64 0, .int .u64 0]) (t := 24) ?hr ?_; (case hd => rfl); (case hg => rfl); (case hr => first | (go_simp; done) | (go_simp; rfl)); intro gb134 hg w39 hbox hb; have n0_ := Aside0.mk (Kd.R_below (by (with_reducible repeat (first | apply Kd.R_alloc | apply Kd.R_drewN | apply Kd.R_drew)); exact HO_4.out) hb); have n1_ := Aside0.mk (blk_below (g := gb122) (o := .cells #[.int .i64 a0_0, .int .u64 a0_1, .int .u64 a0_2] 24 (0, 0)) (by (with_reducible repeat (first | refine blk_drewN ?_ _ | refine blk_drew ?_ | refine blk_alloc ?_ _)); exact BK122.out) hb); have n2_ := Aside0.mk (blk_below (g := gb126) (o := .cells #[.int .i64 x127000_2, .int .u64 x127001_2, .int .u64 x127002_2] 24 (0, 0)) (by (with_reducible repeat (first | refine blk_drewN ?_ _ | refine blk_drew ?_ | refine blk_alloc ?_ _)); exact BK126.out) hb); have n3_ := Aside0.mk (below_step (by repeat (first | (with_reducible first | exact HB.out | apply below_alloc | apply pw_below_drewN | apply below_drew1 | refine below_set ?_ GE122.out | refine below_set ?_ GE126.out) | exact HB.out)) hb); have n4_ := Aside0.mk (hbox); have n5_ := Aside0.mk ((by rw [hg]; exact (below_size (by repeat (first | (with_reducible first | exact HB.out | apply below_alloc | apply pw_below_drewN | apply below_drew1 | refine below_set ?_ GE122.out | refine below_set ?_ GE126.out) | exact HB.out))) : w.heap.size ≤ gb134)); have n6_ := Aside0.mk ((by rw [hg]; exact (below_size (by repeat (first | (with_reducible first | exact HB.out | apply below_alloc | apply pw_below_drewN | apply below_drew1 | refine below_set ?_ GE122.out | refine below_set ?_ GE126.out) | exact HB.out))) : w.heap.size ≤ gb134)); have n7_ := Aside0.mk ((by rw [hg]; exact Nat.ne_of_lt (blk_lt (g := gb122) (o := .cells #[.int .i64 a0_0, .int .u64 a0_1, .int .u64 a0_2] 24 (0, 0)) (by (with_reducible repeat (first | refine blk_drewN ?_ _ | refine blk_drew ?_ | refine blk_alloc ?_ _)); exact BK122.out)) : gb122 ≠ gb134)); have n8_ := Aside0.mk ((by rw [hg]; exact Nat.ne_of_gt (blk_lt (g := gb122) (o := .cells #[.int .i64 a0_0, .int .u64 a0_1, .int .u64 a0_2] 24 (0, 0)) (by (with_reducible repeat (first | refine blk_drewN ?_ _ | refine blk_drew ?_ | refine blk_alloc ?_ _)); exact BK122.out)) : gb134 ≠ gb122)); have n9_ := Aside0.mk ((by rw [hg]; exact Nat.ne_of_lt (blk_lt (g := gb126) (o := .cells #[.int .i64 x127000_2, .int .u64 x127001_2, .int .u64 x127002_2] 24 (0, 0)) (by (with_reducible repeat (first | refine blk_drewN ?_ _ | refine blk_drew ?_ | refine blk_alloc ?_ _)); exact BK126.out)) : gb126 ≠ gb134)); have n10_ := Aside0.mk ((by rw [hg]; exact Nat.ne_of_gt (blk_lt (g := gb126) (o := .cells #[.int .i64 x127000_2, .int .u64 x127001_2, .int .u64 x127002_2] 24 (0, 0)) (by (with_reducible repeat (first | refine blk_drewN ?_ _ | refine blk_drew ?_ | refine blk_alloc ?_ _)); exact BK126.out)) : gb134 ≠ gb126)); clear HO_4; clear BK122; clear BK126; clear HB; have HO_4 := n0_; have BK122 := n1_; have BK126 := n2_; have HB := n3_; have BK134 := n4_; have GW134 := n5_; have GE134 := n6_; have NB122_134 := n7_; have NB134_122 := n8_; have NB126_134 := n9_; have NB134_126 := n10_; clear n0_ n1_ n2_ n3_ n4_ n5_ n6_ n7_ n8_ n9_ n10_; clear hb hbox hg; have hnb40 := NB134_122.out; have hnc40 := NB122_134.out; have hnb41 := NB134_126.out; have hnc41 := NB126_134.out; have hcz42_0 : w39.cell? ⟨gb134, 0, none⟩ = some (.int .i64 0) := (blk_cell BK134.out 0).trans rfl; have hcz42_1 : w39.cell? ⟨gb134, 1, none⟩ = some (.int .u64 0) := (blk_cell BK134.out 1).trans rfl; have hcz42_2 : w39.cell? ⟨gb134, 2, none⟩ = some (.int .u64 0) := (blk_cell BK134.out 2).trans rfl; have hfz42_0 := blk_frozen BK134.out 0; have hfz42_1 := blk_frozen BK134.out 1; have hfz42_2 := blk_frozen BK134.out 2))
                        go_ret
                        exact ⟨by first | rfl | (simp [errW_none, errW_some] <;> rfl) | (simp [*, errW_none, errW_some] <;> rfl), by repeat (first | (with_reducible first | exact HB.out | apply below_alloc | apply pw_below_drewN | apply below_drew1 | refine below_set ?_ GE122.out | refine below_set ?_ GE126.out | refine below_set ?_ GE134.out) | exact HB.out)⟩
                      · rw [if_neg c35] at H
                        have c35b0 : decide (16 < t131) = false := decide_eq_false c35
                        clear c35
                        by_cases c43 : (x4_2.length : Int) > 0
                        · rw [if_pos c43] at H
                          have c43b0 : decide (0 < (x4_2.length : Int)) = true := decide_eq_true c43
                          have c43b1 : decide (0 < x4_2.length) = true := decide_eq_true (by omega)
                          clear c43
                          obtain ⟨ji44, hji44⟩ : ∃ j_ : Int, (wrap64 ((x4_2.length : Int) - 1)) = j_ := ⟨_, rfl⟩
                          replace H : (if 0 ≤ (ji44) then (if (ji44) < (x4_2.length : Int) then (if (rd x4_2 (ji44)) ≥ t131 then (some false) else (if 0 ≤ (IntKind.u64.wrap (t131 - 1)) then (if (t132 != ((Int.tmod (shr .u64 a0_2 (IntKind.u64.wrap (t131 - 1))) 2) == 1)) = true then (some false) else (if x4_2.length < 17592186044416 then (atlaslaw18_AsidAll.l0 kj17 (x4_2 ++ [t131]) (wrap64 (x5_2 + 1)) a0_0 a0_1 a0_2 t128 t129 t130) else (none))) else (none))) else (none)) else (none)) = some r := by first | (rw [hji44] at H; exact H) | (simp only [hji44] at H ⊢; exact H)
                          (try rw [hji44] at A25)
                          have hji44w : (IntKind.i64.wrap ((x4_2.length : Int) - 1)) = ji44 := (i64_w _).trans hji44
                          by_cases c45 : 0 ≤ (ji44)
                          · rw [if_pos c45] at H
                            have c45b0 : decide (0 ≤ (ji44)) = true := decide_eq_true c45
                            clear c45
                            by_cases c46 : (ji44) < (x4_2.length : Int)
                            · rw [if_pos c46] at H
                              have c46b0 : decide ((ji44) < (x4_2.length : Int)) = true := decide_eq_true c46
                              clear c46
                              by_cases c47 : (rd x4_2 (ji44)) ≥ t131
                              · rw [if_pos c47] at H
                                have c47b0 : decide (t131 ≤ (rd x4_2 (ji44))) = true := decide_eq_true c47
                                clear c47
                                obtain rfl := Option.some.inj H
                                have hnb48 := NB126_122.out
                                have hnc48 := NB122_126.out
                                have hcz49_0 : wc.cell? ⟨gb126, 0, none⟩ = some (.int .i64 x127000_2) := (blk_cell BK126.out 0).trans rfl
                                have hcz49_1 : wc.cell? ⟨gb126, 1, none⟩ = some (.int .u64 x127001_2) := (blk_cell BK126.out 1).trans rfl
                                have hcz49_2 : wc.cell? ⟨gb126, 2, none⟩ = some (.int .u64 x127002_2) := (blk_cell BK126.out 2).trans rfl
                                have hfz49_0 := blk_frozen BK126.out 0
                                have hfz49_1 := blk_frozen BK126.out 1
                                have hfz49_2 := blk_frozen BK126.out 2
                                go_wp2_with (first | ((with_reducible refine gate_callee (f := 11) rfl ?_); refine goesL_ (some 33) rfl rfl Tryd.func11 (by kernel_rfl) rfl #[.agg #[.int .i64 x127000_2, .int .u64 x127001_2, .int .u64 x127002_2]] rfl (by (try simp only [List.map_toArray, List.map_cons, List.map_nil]); first | done | rfl | (simp only [List.length_drop, List.length_take]; rfl)) ?_; (with_reducible refine (asid_Take.calls x127000_2 x127001_2 x127002_2 t128 t129 t130 t131 t132 t133 _ ?side1 A25.out).mono ?_); (case side1 => exact HLD.out.below (by repeat (first | (with_reducible first | exact HB.out | apply below_alloc | apply pw_below_drewN | apply below_drew1 | refine below_set ?_ GE122.out | refine below_set ?_ GE126.out) | exact HB.out))); rintro e w50 ⟨rfl, hb⟩; refine ⟨_, rfl, ?_⟩; have n0_ := Aside0.mk (Kd.R_below (by (with_reducible repeat (first | apply Kd.R_alloc | apply Kd.R_drewN | apply Kd.R_drew)); exact HO_4.out) hb); have n1_ := Aside0.mk (blk_below (g := gb122) (o := .cells #[.int .i64 a0_0, .int .u64 a0_1, .int .u64 a0_2] 24 (0, 0)) (by (with_reducible repeat (first | refine blk_drewN ?_ _ | refine blk_drew ?_ | refine blk_alloc ?_ _)); exact BK122.out) hb); have n2_ := Aside0.mk (blk_below (g := gb126) (o := .cells #[.int .i64 x127000_2, .int .u64 x127001_2, .int .u64 x127002_2] 24 (0, 0)) (by (with_reducible repeat (first | refine blk_drewN ?_ _ | refine blk_drew ?_ | refine blk_alloc ?_ _)); exact BK126.out) hb); have n3_ := Aside0.mk (below_step (by repeat (first | (with_reducible first | exact HB.out | apply below_alloc | apply pw_below_drewN | apply below_drew1 | refine below_set ?_ GE122.out | refine below_set ?_ GE126.out) | exact HB.out)) hb); clear HO_4; clear BK122; clear BK126; clear HB; have HO_4 := n0_; have BK122 := n1_; have BK126 := n2_; have HB := n3_; clear n0_ n1_ n2_ n3_; (try clear hb); (try clear hb2); (try clear hk); (try clear hi)) | ((with_reducible refine gate_dst (N := 6) rfl ?_); (try (refine gate_guard (by rfl) ?_; dsimp only)); refine box_event ?hg (N := 6) ?hd (cs := #[.int .i64 0, .int .u64 0, .int .u64 0]) (t := 24) ?hr ?_; (case hd => rfl); (case hg => rfl); (case hr => first | (go_simp; done) | (go_simp; rfl)); intro gb134 hg w51 hbox hb; have n0_ := Aside0.mk (Kd.R_below (by (with_reducible repeat (first | apply Kd.R_alloc | apply Kd.R_drewN | apply Kd.R_drew)); exact HO_4.out) hb); have n1_ := Aside0.mk (blk_below (g := gb122) (o := .cells #[.int .i64 a0_0, .int .u64 a0_1, .int .u64 a0_2] 24 (0, 0)) (by (with_reducible repeat (first | refine blk_drewN ?_ _ | refine blk_drew ?_ | refine blk_alloc ?_ _)); exact BK122.out) hb); have n2_ := Aside0.mk (blk_below (g := gb126) (o := .cells #[.int .i64 x127000_2, .int .u64 x127001_2, .int .u64 x127002_2] 24 (0, 0)) (by (with_reducible repeat (first | refine blk_drewN ?_ _ | refine blk_drew ?_ | refine blk_alloc ?_ _)); exact BK126.out) hb); have n3_ := Aside0.mk (below_step (by repeat (first | (with_reducible first | exact HB.out | apply below_alloc | apply pw_below_drewN | apply below_drew1 | refine below_set ?_ GE122.out | refine below_set ?_ GE126.out) | exact HB.out)) hb); have n4_ := Aside0.mk (hbox); have n5_ := Aside0.mk ((by rw [hg]; exact (below_size (by repeat (first | (with_reducible first | exact HB.out | apply below_alloc | apply pw_below_drewN | apply below_drew1 | refine below_set ?_ GE122.out | refine below_set ?_ GE126.out) | exact HB.out))) : w.heap.size ≤ gb134)); have n6_ := Aside0.mk ((by rw [hg]; exact (below_size (by repeat (first | (with_reducible first | exact HB.out | apply below_alloc | apply pw_below_drewN | apply below_drew1 | refine below_set ?_ GE122.out | refine below_set ?_ GE126.out) | exact HB.out))) : w.heap.size ≤ gb134)); have n7_ := Aside0.mk ((by rw [hg]; exact Nat.ne_of_lt (blk_lt (g := gb122) (o := .cells #[.int .i64 a0_0, .int .u64 a0_1, .int .u64 a0_2] 24 (0, 0)) (by (with_reducible repeat (first | refine blk_drewN ?_ _ | refine blk_drew ?_ | refine blk_alloc ?_ _)); exact BK122.out)) : gb122 ≠ gb134)); have n8_ := Aside0.mk ((by rw [hg]; exact Nat.ne_of_gt (blk_lt (g := gb122) (o := .cells #[.int .i64 a0_0, .int .u64 a0_1, .int .u64 a0_2] 24 (0, 0)) (by (with_reducible repeat (first | refine blk_drewN ?_ _ | refine blk_drew ?_ | refine blk_alloc ?_ _)); exact BK122.out)) : gb134 ≠ gb122)); have n9_ := Aside0.mk ((by rw [hg]; exact Nat.ne_of_lt (blk_lt (g := gb126) (o := .cells #[.int .i64 x127000_2, .int .u64 x127001_2, .int .u64 x127002_2] 24 (0, 0)) (by (with_reducible repeat (first | refine blk_drewN ?_ _ | refine blk_drew ?_ | refine blk_alloc ?_ _)); exact BK126.out)) : gb126 ≠ gb134)); have n10_ := Aside0.mk ((by rw [hg]; exact Nat.ne_of_gt (blk_lt (g := gb126) (o := .cells #[.int .i64 x127000_2, .int .u64 x127001_2, .int .u64 x127002_2] 24 (0, 0)) (by (with_reducible repeat (first | refine blk_drewN ?_ _ | refine blk_drew ?_ | refine blk_alloc ?_ _)); exact BK126.out)) : gb134 ≠ gb126)); clear HO_4; clear BK122; clear BK126; clear HB; have HO_4 := n0_; have BK122 := n1_; have BK126 := n2_; have HB := n3_; have BK134 := n4_; have GW134 := n5_; have GE134 := n6_; have NB122_134 := n7_; have NB134_122 := n8_; have NB126_134 := n9_; have NB134_126 := n10_; clear n0_ n1_ n2_ n3_ n4_ n5_ n6_ n7_ n8_ n9_ n10_; clear hb hbox hg; have hnb52 := NB134_122.out; have hnc52 := NB122_134.out; have hnb53 := NB134_126.out; have hnc53 := NB126_134.out; have hcz54_0 : w51.cell? ⟨gb134, 0, none⟩ = some (.int .i64 0) := (blk_cell BK134.out 0).trans rfl; have hcz54_1 : w51.cell? ⟨gb134, 1, none⟩ = some (.int .u64 0) := (blk_cell BK134.out 1).trans rfl; have hcz54_2 : w51.cell? ⟨gb134, 2, none⟩ = some (.int .u64 0) := (blk_cell BK134.out 2).trans rfl; have hfz54_0 := blk_frozen BK134.out 0; have hfz54_1 := blk_frozen BK134.out 1; have hfz54_2 := blk_frozen BK134.out 2; obtain ⟨Ao55, co55, eo55⟩ := Kd.R_slice HO_4.out; subst eo55; have p135 : 0 ≤ ((ji44) : Int) := of_decide_eq_true (by first | (with_reducible assumption) | assumption); have q135 : (ji44) < (x4_2.length : Int) := of_decide_eq_true (by first | (with_reducible assumption) | assumption); obtain ⟨ad135, e135, hx135_0⟩ := Kd.at_int (Kd.R_reads' HO_4.out).2.2 (ji44) p135 q135; cases e135; have hn135_0 : ad135.block ≠ gb134 := Kd.own_blk (Kd.R_ne HO_4.out BK134.out (by decide)); have hn135_1 : ad135.block ≠ gb134 := Kd.own_blk (Kd.R_ne HO_4.out BK134.out (by decide)); have hn135_2 : ad135.block ≠ gb134 := Kd.own_blk (Kd.R_ne HO_4.out BK134.out (by decide)); replace hx135_0 := (cell_far (p := ⟨gb134, 0, none⟩) (by first | (rw [add_block]; exact hn135_0) | (show (Addr.add _ _).block ≠ _; rw [add_block]; exact hn135_0) | exact hn135_0) (.int .i64 t128)).trans hx135_0; replace hx135_0 := (cell_far (p := ⟨gb134, 1, none⟩) (by first | (rw [add_block]; exact hn135_1) | (show (Addr.add _ _).block ≠ _; rw [add_block]; exact hn135_1) | exact hn135_1) (.int .u64 t129)).trans hx135_0; replace hx135_0 := (cell_far (p := ⟨gb134, 2, none⟩) (by first | (rw [add_block]; exact hn135_2) | (show (Addr.add _ _).block ≠ _; rw [add_block]; exact hn135_2) | exact hn135_2) (.int .u64 t130)).trans hx135_0; clear hn135_0; clear hn135_1; clear hn135_2; replace p135 := eq_true p135; replace q135 := eq_true q135))
                                go_ret
                                exact ⟨by first | rfl | (simp [errW_none, errW_some] <;> rfl) | (simp only [← hji44]; first | rfl | (simp [errW_none, errW_some] <;> rfl)) | (simp [*, errW_none, errW_some] <;> rfl), by repeat (first | (with_reducible first | exact HB.out | apply below_alloc | apply pw_below_drewN | apply below_drew1 | refine below_set ?_ GE122.out | refine below_set ?_ GE126.out | refine below_set ?_ GE134.out) | exact HB.out)⟩
                              · rw [if_neg c47] at H
                                have c47b0 : decide (t131 ≤ (rd x4_2 (ji44))) = false := decide_eq_false c47
                                clear c47
                                obtain ⟨ji56, hji56⟩ : ∃ j_ : Int, (IntKind.u64.wrap (t131 - 1)) = j_ := ⟨_, rfl⟩
                                replace H : (if 0 ≤ (ji56) then (if (t132 != ((Int.tmod (shr .u64 a0_2 (ji56)) 2) == 1)) = true then (some false) else (if x4_2.length < 17592186044416 then (atlaslaw18_AsidAll.l0 kj17 (x4_2 ++ [t131]) (wrap64 (x5_2 + 1)) a0_0 a0_1 a0_2 t128 t129 t130) else (none))) else (none)) = some r := by first | (rw [hji56] at H; exact H) | (simp only [hji56] at H ⊢; exact H)
                                (try rw [hji56] at A25)
                                by_cases c57 : 0 ≤ (ji56)
                                · rw [if_pos c57] at H
                                  have c57b0 := eq_true c57
                                  have c57b1 : decide (0 ≤ (ji56)) = true := decide_eq_true c57
                                  clear c57
                                  obtain ⟨ji58, hji58⟩ : ∃ j_ : Int, (shr .u64 a0_2 (ji56)) = j_ := ⟨_, rfl⟩
                                  replace H : (if (t132 != ((Int.tmod (ji58) 2) == 1)) = true then (some false) else (if x4_2.length < 17592186044416 then (atlaslaw18_AsidAll.l0 kj17 (x4_2 ++ [t131]) (wrap64 (x5_2 + 1)) a0_0 a0_1 a0_2 t128 t129 t130) else (none))) = some r := by first | (rw [hji58] at H; exact H) | (simp only [hji58] at H ⊢; exact H)
                                  (try rw [hji58] at A25)
                                  have hji58_ : (a0_2 / 2 ^ min (ji56).toNat 64) = ji58 := hji58
                                  have hji58z : (ji56) ≤ 64 → (a0_2 / 2 ^ (ji56).toNat) = ji58 := shr_small hji58
                                  by_cases c59 : (t132 != ((Int.tmod (ji58) 2) == 1)) = true
                                  · rw [if_pos c59] at H
                                    have c59b0 : (t132 != ((Int.tmod (ji58) 2) == 1)) = true := c59
                                    (try (have c59b1 : decide (t132 = ((Int.tmod (ji58) 2) == 1)) = false := by simpa using c59))
                                    (try (have c59b2 : (t132 == ((Int.tmod (ji58) 2) == 1)) = false := by simpa using c59))
                                    (try (have c59b3 : ¬ (t132 = ((Int.tmod (ji58) 2) == 1)) := by simpa using c59))
                                    clear c59
                                    obtain rfl := Option.some.inj H
                                    have hnb60 := NB126_122.out
                                    have hnc60 := NB122_126.out
                                    have hcz61_0 : wc.cell? ⟨gb126, 0, none⟩ = some (.int .i64 x127000_2) := (blk_cell BK126.out 0).trans rfl
                                    have hcz61_1 : wc.cell? ⟨gb126, 1, none⟩ = some (.int .u64 x127001_2) := (blk_cell BK126.out 1).trans rfl
                                    have hcz61_2 : wc.cell? ⟨gb126, 2, none⟩ = some (.int .u64 x127002_2) := (blk_cell BK126.out 2).trans rfl
                                    have hfz61_0 := blk_frozen BK126.out 0
                                    have hfz61_1 := blk_frozen BK126.out 1
                                    have hfz61_2 := blk_frozen BK126.out 2
                                    go_wp2_with (first | ((with_reducible refine gate_callee (f := 11) rfl ?_); refine goesL_ (some 33) rfl rfl Tryd.func11 (by kernel_rfl) rfl #[.agg #[.int .i64 x127000_2, .int .u64 x127001_2, .int .u64 x127002_2]] rfl (by (try simp only [List.map_toArray, List.map_cons, List.map_nil]); first | done | rfl | (simp only [List.length_drop, List.length_take]; rfl)) ?_; (with_reducible refine (asid_Take.calls x127000_2 x127001_2 x127002_2 t128 t129 t130 t131 t132 t133 _ ?side1 A25.out).mono ?_); (case side1 => exact HLD.out.below (by repeat (first | (with_reducible first | exact HB.out | apply below_alloc | apply pw_below_drewN | apply below_drew1 | refine below_set ?_ GE122.out | refine below_set ?_ GE126.out) | exact HB.out))); rintro e w62 ⟨rfl, hb⟩; refine ⟨_, rfl, ?_⟩; have n0_ := Aside0.mk (Kd.R_below (by (with_reducible repeat (first | apply Kd.R_alloc | apply Kd.R_drewN | apply Kd.R_drew)); exact HO_4.out) hb); have n1_ := Aside0.mk (blk_below (g := gb122) (o := .cells #[.int .i64 a0_0, .int .u64 a0_1, .int .u64 a0_2] 24 (0, 0)) (by (with_reducible repeat (first | refine blk_drewN ?_ _ | refine blk_drew ?_ | refine blk_alloc ?_ _)); exact BK122.out) hb); have n2_ := Aside0.mk (blk_below (g := gb126) (o := .cells #[.int .i64 x127000_2, .int .u64 x127001_2, .int .u64 x127002_2] 24 (0, 0)) (by (with_reducible repeat (first | refine blk_drewN ?_ _ | refine blk_drew ?_ | refine blk_alloc ?_ _)); exact BK126.out) hb); have n3_ := Aside0.mk (below_step (by repeat (first | (with_reducible first | exact HB.out | apply below_alloc | apply pw_below_drewN | apply below_drew1 | refine below_set ?_ GE122.out | refine below_set ?_ GE126.out) | exact HB.out)) hb); clear HO_4; clear BK122; clear BK126; clear HB; have HO_4 := n0_; have BK122 := n1_; have BK126 := n2_; have HB := n3_; clear n0_ n1_ n2_ n3_; (try clear hb); (try clear hb2); (try clear hk); (try clear hi)) | ((with_reducible refine gate_dst (N := 6) rfl ?_); (try (refine gate_guard (by rfl) ?_; dsimp only)); refine box_event ?hg (N := 6) ?hd (cs := #[.int .i64 0, .int .u64 0, .int .u64 0]) (t := 24) ?hr ?_; (case hd => rfl); (case hg => rfl); (case hr => first | (go_simp; done) | (go_simp; rfl)); intro gb134 hg w63 hbox hb; have n0_ := Aside0.mk (Kd.R_below (by (with_reducible repeat (first | apply Kd.R_alloc | apply Kd.R_drewN | apply Kd.R_drew)); exact HO_4.out) hb); have n1_ := Aside0.mk (blk_below (g := gb122) (o := .cells #[.int .i64 a0_0, .int .u64 a0_1, .int .u64 a0_2] 24 (0, 0)) (by (with_reducible repeat (first | refine blk_drewN ?_ _ | refine blk_drew ?_ | refine blk_alloc ?_ _)); exact BK122.out) hb); have n2_ := Aside0.mk (blk_below (g := gb126) (o := .cells #[.int .i64 x127000_2, .int .u64 x127001_2, .int .u64 x127002_2] 24 (0, 0)) (by (with_reducible repeat (first | refine blk_drewN ?_ _ | refine blk_drew ?_ | refine blk_alloc ?_ _)); exact BK126.out) hb); have n3_ := Aside0.mk (below_step (by repeat (first | (with_reducible first | exact HB.out | apply below_alloc | apply pw_below_drewN | apply below_drew1 | refine below_set ?_ GE122.out | refine below_set ?_ GE126.out) | exact HB.out)) hb); have n4_ := Aside0.mk (hbox); have n5_ := Aside0.mk ((by rw [hg]; exact (below_size (by repeat (first | (with_reducible first | exact HB.out | apply below_alloc | apply pw_below_drewN | apply below_drew1 | refine below_set ?_ GE122.out | refine below_set ?_ GE126.out) | exact HB.out))) : w.heap.size ≤ gb134)); have n6_ := Aside0.mk ((by rw [hg]; exact (below_size (by repeat (first | (with_reducible first | exact HB.out | apply below_alloc | apply pw_below_drewN | apply below_drew1 | refine below_set ?_ GE122.out | refine below_set ?_ GE126.out) | exact HB.out))) : w.heap.size ≤ gb134)); have n7_ := Aside0.mk ((by rw [hg]; exact Nat.ne_of_lt (blk_lt (g := gb122) (o := .cells #[.int .i64 a0_0, .int .u64 a0_1, .int .u64 a0_2] 24 (0, 0)) (by (with_reducible repeat (first | refine blk_drewN ?_ _ | refine blk_drew ?_ | refine blk_alloc ?_ _)); exact BK122.out)) : gb122 ≠ gb134)); have n8_ := Aside0.mk ((by rw [hg]; exact Nat.ne_of_gt (blk_lt (g := gb122) (o := .cells #[.int .i64 a0_0, .int .u64 a0_1, .int .u64 a0_2] 24 (0, 0)) (by (with_reducible repeat (first | refine blk_drewN ?_ _ | refine blk_drew ?_ | refine blk_alloc ?_ _)); exact BK122.out)) : gb134 ≠ gb122)); have n9_ := Aside0.mk ((by rw [hg]; exact Nat.ne_of_lt (blk_lt (g := gb126) (o := .cells #[.int .i64 x127000_2, .int .u64 x127001_2, .int .u64 x127002_2] 24 (0, 0)) (by (with_reducible repeat (first | refine blk_drewN ?_ _ | refine blk_drew ?_ | refine blk_alloc ?_ _)); exact BK126.out)) : gb126 ≠ gb134)); have n10_ := Aside0.mk ((by rw [hg]; exact Nat.ne_of_gt (blk_lt (g := gb126) (o := .cells #[.int .i64 x127000_2, .int .u64 x127001_2, .int .u64 x127002_2] 24 (0, 0)) (by (with_reducible repeat (first | refine blk_drewN ?_ _ | refine blk_drew ?_ | refine blk_alloc ?_ _)); exact BK126.out)) : gb134 ≠ gb126)); clear HO_4; clear BK122; clear BK126; clear HB; have HO_4 := n0_; have BK122 := n1_; have BK126 := n2_; have HB := n3_; have BK134 := n4_; have GW134 := n5_; have GE134 := n6_; have NB122_134 := n7_; have NB134_122 := n8_; have NB126_134 := n9_; have NB134_126 := n10_; clear n0_ n1_ n2_ n3_ n4_ n5_ n6_ n7_ n8_ n9_ n10_; clear hb hbox hg; have hnb64 := NB134_122.out; have hnc64 := NB122_134.out; have hnb65 := NB134_126.out; have hnc65 := NB126_134.out; have hcz66_0 : w63.cell? ⟨gb134, 0, none⟩ = some (.int .i64 0) := (blk_cell BK134.out 0).trans rfl; have hcz66_1 : w63.cell? ⟨gb134, 1, none⟩ = some (.int .u64 0) := (blk_cell BK134.out 1).trans rfl; have hcz66_2 : w63.cell? ⟨gb134, 2, none⟩ = some (.int .u64 0) := (blk_cell BK134.out 2).trans rfl; have hfz66_0 := blk_frozen BK134.out 0; have hfz66_1 := blk_frozen BK134.out 1; have hfz66_2 := blk_frozen BK134.out 2; obtain ⟨Ao67, co67, eo67⟩ := Kd.R_slice HO_4.out; subst eo67; have p135 : 0 ≤ ((ji44) : Int) := of_decide_eq_true (by first | (with_reducible assumption) | assumption); have q135 : (ji44) < (x4_2.length : Int) := of_decide_eq_true (by first | (with_reducible assumption) | assumption); obtain ⟨ad135, e135, hx135_0⟩ := Kd.at_int (Kd.R_reads' HO_4.out).2.2 (ji44) p135 q135; cases e135; have hn135_0 : ad135.block ≠ gb134 := Kd.own_blk (Kd.R_ne HO_4.out BK134.out (by decide)); have hn135_1 : ad135.block ≠ gb134 := Kd.own_blk (Kd.R_ne HO_4.out BK134.out (by decide)); have hn135_2 : ad135.block ≠ gb134 := Kd.own_blk (Kd.R_ne HO_4.out BK134.out (by decide)); replace hx135_0 := (cell_far (p := ⟨gb134, 0, none⟩) (by first | (rw [add_block]; exact hn135_0) | (show (Addr.add _ _).block ≠ _; rw [add_block]; exact hn135_0) | exact hn135_0) (.int .i64 t128)).trans hx135_0; replace hx135_0 := (cell_far (p := ⟨gb134, 1, none⟩) (by first | (rw [add_block]; exact hn135_1) | (show (Addr.add _ _).block ≠ _; rw [add_block]; exact hn135_1) | exact hn135_1) (.int .u64 t129)).trans hx135_0; replace hx135_0 := (cell_far (p := ⟨gb134, 2, none⟩) (by first | (rw [add_block]; exact hn135_2) | (show (Addr.add _ _).block ≠ _; rw [add_block]; exact hn135_2) | exact hn135_2) (.int .u64 t130)).trans hx135_0; clear hn135_0; clear hn135_1; clear hn135_2; replace p135 := eq_true p135; replace q135 := eq_true q135; have hcz68_0 : w63.cell? ⟨gb122, 0, none⟩ = some (.int .i64 a0_0) := (blk_cell BK122.out 0).trans rfl; have hcz68_1 : w63.cell? ⟨gb122, 1, none⟩ = some (.int .u64 a0_1) := (blk_cell BK122.out 1).trans rfl; have hcz68_2 : w63.cell? ⟨gb122, 2, none⟩ = some (.int .u64 a0_2) := (blk_cell BK122.out 2).trans rfl; have hfz68_0 := blk_frozen BK122.out 0; have hfz68_1 := blk_frozen BK122.out 1; have hfz68_2 := blk_frozen BK122.out 2))
                                    go_ret
                                    exact ⟨by first | rfl | (simp [errW_none, errW_some] <;> rfl) | (simp only [← hji44, ← hji56, ← hji58]; first | rfl | (simp [errW_none, errW_some] <;> rfl)) | (simp [*, errW_none, errW_some] <;> rfl), by repeat (first | (with_reducible first | exact HB.out | apply below_alloc | apply pw_below_drewN | apply below_drew1 | refine below_set ?_ GE122.out | refine below_set ?_ GE126.out | refine below_set ?_ GE134.out) | exact HB.out)⟩
                                  · rw [if_neg c59] at H
                                    have c59b0 : (t132 != ((Int.tmod (ji58) 2) == 1)) = false := by simpa using c59
                                    (try (have c59b1 : decide (t132 = ((Int.tmod (ji58) 2) == 1)) = true := by simpa using c59))
                                    (try (have c59b2 : (t132 == ((Int.tmod (ji58) 2) == 1)) = true := by simpa using c59))
                                    clear c59
                                    by_cases c69 : x4_2.length < 17592186044416
                                    · rw [if_pos c69] at H
                                      have LMc69 := Aside0.mk c69
                                      clear c69
                                      obtain ⟨y136, hy136⟩ : ∃ y_ : List Int, y_ = (x4_2 ++ [t131]) := ⟨_, rfl⟩
                                      replace H : (atlaslaw18_AsidAll.l0 kj17 y136 (wrap64 (x5_2 + 1)) a0_0 a0_1 a0_2 t128 t129 t130) = some r := by first | (rw [hy136]; with_reducible exact H) | (have H2_ := (Option.bind_some _ _).symm.trans H; rw [hy136]; with_reducible exact H2_) | (have H2_ := (Option.bind_some _ _).symm.trans H; with_reducible exact H2_) | with_reducible exact H | (rw [hy136]; exact H) | exact H
                                      have Ny136 := Aside0.mk hy136
                                      clear hy136
                                      have H' := Aside0.mk H
                                      clear H
                                      have hnb70 := NB126_122.out
                                      have hnc70 := NB122_126.out
                                      have hcz71_0 : wc.cell? ⟨gb126, 0, none⟩ = some (.int .i64 x127000_2) := (blk_cell BK126.out 0).trans rfl
                                      have hcz71_1 : wc.cell? ⟨gb126, 1, none⟩ = some (.int .u64 x127001_2) := (blk_cell BK126.out 1).trans rfl
                                      have hcz71_2 : wc.cell? ⟨gb126, 2, none⟩ = some (.int .u64 x127002_2) := (blk_cell BK126.out 2).trans rfl
                                      have hfz71_0 := blk_frozen BK126.out 0
                                      have hfz71_1 := blk_frozen BK126.out 1
                                      have hfz71_2 := blk_frozen BK126.out 2
                                      go_wp2_with (first | ((with_reducible refine gate_callee (f := 11) rfl ?_); refine goesL_ (some 33) rfl rfl Tryd.func11 (by kernel_rfl) rfl #[.agg #[.int .i64 x127000_2, .int .u64 x127001_2, .int .u64 x127002_2]] rfl (by (try simp only [List.map_toArray, List.map_cons, List.map_nil]); first | done | rfl | (simp only [List.length_drop, List.length_take]; rfl)) ?_; (with_reducible refine (asid_Take.calls x127000_2 x127001_2 x127002_2 t128 t129 t130 t131 t132 t133 _ ?side1 A25.out).mono ?_); (case side1 => exact HLD.out.below (by repeat (first | (with_reducible first | exact HB.out | apply below_alloc | apply pw_below_drewN | apply below_drew1 | refine below_set ?_ GE122.out | refine below_set ?_ GE126.out) | exact HB.out))); rintro e w72 ⟨rfl, hb⟩; refine ⟨_, rfl, ?_⟩; have n0_ := Aside0.mk (Kd.R_below (by (with_reducible repeat (first | apply Kd.R_alloc | apply Kd.R_drewN | apply Kd.R_drew)); exact HO_4.out) hb); have n1_ := Aside0.mk (blk_below (g := gb122) (o := .cells #[.int .i64 a0_0, .int .u64 a0_1, .int .u64 a0_2] 24 (0, 0)) (by (with_reducible repeat (first | refine blk_drewN ?_ _ | refine blk_drew ?_ | refine blk_alloc ?_ _)); exact BK122.out) hb); have n2_ := Aside0.mk (blk_below (g := gb126) (o := .cells #[.int .i64 x127000_2, .int .u64 x127001_2, .int .u64 x127002_2] 24 (0, 0)) (by (with_reducible repeat (first | refine blk_drewN ?_ _ | refine blk_drew ?_ | refine blk_alloc ?_ _)); exact BK126.out) hb); have n3_ := Aside0.mk (below_step (by repeat (first | (with_reducible first | exact HB.out | apply below_alloc | apply pw_below_drewN | apply below_drew1 | refine below_set ?_ GE122.out | refine below_set ?_ GE126.out) | exact HB.out)) hb); clear HO_4; clear BK122; clear BK126; clear HB; have HO_4 := n0_; have BK122 := n1_; have BK126 := n2_; have HB := n3_; clear n0_ n1_ n2_ n3_; (try clear hb); (try clear hb2); (try clear hk); (try clear hi)) | ((with_reducible refine gate_dst (N := 6) rfl ?_); (try (refine gate_guard (by rfl) ?_; dsimp only)); refine box_event ?hg (N := 6) ?hd (cs := #[.int .i64 0, .int .u64 0, .int .u64 0]) (t := 24) ?hr ?_; (case hd => rfl); (case hg => rfl); (case hr => first | (go_simp; done) | (go_simp; rfl)); intro gb134 hg w73 hbox hb; have n0_ := Aside0.mk (Kd.R_below (by (with_reducible repeat (first | apply Kd.R_alloc | apply Kd.R_drewN | apply Kd.R_drew)); exact HO_4.out) hb); have n1_ := Aside0.mk (blk_below (g := gb122) (o := .cells #[.int .i64 a0_0, .int .u64 a0_1, .int .u64 a0_2] 24 (0, 0)) (by (with_reducible repeat (first | refine blk_drewN ?_ _ | refine blk_drew ?_ | refine blk_alloc ?_ _)); exact BK122.out) hb); have n2_ := Aside0.mk (blk_below (g := gb126) (o := .cells #[.int .i64 x127000_2, .int .u64 x127001_2, .int .u64 x127002_2] 24 (0, 0)) (by (with_reducible repeat (first | refine blk_drewN ?_ _ | refine blk_drew ?_ | refine blk_alloc ?_ _)); exact BK126.out) hb); have n3_ := Aside0.mk (below_step (by repeat (first | (with_reducible first | exact HB.out | apply below_alloc | apply pw_below_drewN | apply below_drew1 | refine below_set ?_ GE122.out | refine below_set ?_ GE126.out) | exact HB.out)) hb); have n4_ := Aside0.mk (hbox); have n5_ := Aside0.mk ((by rw [hg]; exact (below_size (by repeat (first | (with_reducible first | exact HB.out | apply below_alloc | apply pw_below_drewN | apply below_drew1 | refine below_set ?_ GE122.out | refine below_set ?_ GE126.out) | exact HB.out))) : w.heap.size ≤ gb134)); have n6_ := Aside0.mk ((by rw [hg]; exact (below_size (by repeat (first | (with_reducible first | exact HB.out | apply below_alloc | apply pw_below_drewN | apply below_drew1 | refine below_set ?_ GE122.out | refine below_set ?_ GE126.out) | exact HB.out))) : w.heap.size ≤ gb134)); have n7_ := Aside0.mk ((by rw [hg]; exact Nat.ne_of_lt (blk_lt (g := gb122) (o := .cells #[.int .i64 a0_0, .int .u64 a0_1, .int .u64 a0_2] 24 (0, 0)) (by (with_reducible repeat (first | refine blk_drewN ?_ _ | refine blk_drew ?_ | refine blk_alloc ?_ _)); exact BK122.out)) : gb122 ≠ gb134)); have n8_ := Aside0.mk ((by rw [hg]; exact Nat.ne_of_gt (blk_lt (g := gb122) (o := .cells #[.int .i64 a0_0, .int .u64 a0_1, .int .u64 a0_2] 24 (0, 0)) (by (with_reducible repeat (first | refine blk_drewN ?_ _ | refine blk_drew ?_ | refine blk_alloc ?_ _)); exact BK122.out)) : gb134 ≠ gb122)); have n9_ := Aside0.mk ((by rw [hg]; exact Nat.ne_of_lt (blk_lt (g := gb126) (o := .cells #[.int .i64 x127000_2, .int .u64 x127001_2, .int .u64 x127002_2] 24 (0, 0)) (by (with_reducible repeat (first | refine blk_drewN ?_ _ | refine blk_drew ?_ | refine blk_alloc ?_ _)); exact BK126.out)) : gb126 ≠ gb134)); have n10_ := Aside0.mk ((by rw [hg]; exact Nat.ne_of_gt (blk_lt (g := gb126) (o := .cells #[.int .i64 x127000_2, .int .u64 x127001_2, .int .u64 x127002_2] 24 (0, 0)) (by (with_reducible repeat (first | refine blk_drewN ?_ _ | refine blk_drew ?_ | refine blk_alloc ?_ _)); exact BK126.out)) : gb134 ≠ gb126)); clear HO_4; clear BK122; clear BK126; clear HB; have HO_4 := n0_; have BK122 := n1_; have BK126 := n2_; have HB := n3_; have BK134 := n4_; have GW134 := n5_; have GE134 := n6_; have NB122_134 := n7_; have NB134_122 := n8_; have NB126_134 := n9_; have NB134_126 := n10_; clear n0_ n1_ n2_ n3_ n4_ n5_ n6_ n7_ n8_ n9_ n10_; clear hb hbox hg; have hnb74 := NB134_122.out; have hnc74 := NB122_134.out; have hnb75 := NB134_126.out; have hnc75 := NB126_134.out; have hcz76_0 : w73.cell? ⟨gb134, 0, none⟩ = some (.int .i64 0) := (blk_cell BK134.out 0).trans rfl; have hcz76_1 : w73.cell? ⟨gb134, 1, none⟩ = some (.int .u64 0) := (blk_cell BK134.out 1).trans rfl; have hcz76_2 : w73.cell? ⟨gb134, 2, none⟩ = some (.int .u64 0) := (blk_cell BK134.out 2).trans rfl; have hfz76_0 := blk_frozen BK134.out 0; have hfz76_1 := blk_frozen BK134.out 1; have hfz76_2 := blk_frozen BK134.out 2; obtain ⟨Ao77, co77, eo77⟩ := Kd.R_slice HO_4.out; subst eo77; have p135 : 0 ≤ ((ji44) : Int) := of_decide_eq_true (by first | (with_reducible assumption) | assumption); have q135 : (ji44) < (x4_2.length : Int) := of_decide_eq_true (by first | (with_reducible assumption) | assumption); obtain ⟨ad135, e135, hx135_0⟩ := Kd.at_int (Kd.R_reads' HO_4.out).2.2 (ji44) p135 q135; cases e135; have hn135_0 : ad135.block ≠ gb134 := Kd.own_blk (Kd.R_ne HO_4.out BK134.out (by decide)); have hn135_1 : ad135.block ≠ gb134 := Kd.own_blk (Kd.R_ne HO_4.out BK134.out (by decide)); have hn135_2 : ad135.block ≠ gb134 := Kd.own_blk (Kd.R_ne HO_4.out BK134.out (by decide)); replace hx135_0 := (cell_far (p := ⟨gb134, 0, none⟩) (by first | (rw [add_block]; exact hn135_0) | (show (Addr.add _ _).block ≠ _; rw [add_block]; exact hn135_0) | exact hn135_0) (.int .i64 t128)).trans hx135_0; replace hx135_0 := (cell_far (p := ⟨gb134, 1, none⟩) (by first | (rw [add_block]; exact hn135_1) | (show (Addr.add _ _).block ≠ _; rw [add_block]; exact hn135_1) | exact hn135_1) (.int .u64 t129)).trans hx135_0; replace hx135_0 := (cell_far (p := ⟨gb134, 2, none⟩) (by first | (rw [add_block]; exact hn135_2) | (show (Addr.add _ _).block ≠ _; rw [add_block]; exact hn135_2) | exact hn135_2) (.int .u64 t130)).trans hx135_0; clear hn135_0; clear hn135_1; clear hn135_2; replace p135 := eq_true p135; replace q135 := eq_true q135; have hcz78_0 : w73.cell? ⟨gb122, 0, none⟩ = some (.int .i64 a0_0) := (blk_cell BK122.out 0).trans rfl; have hcz78_1 : w73.cell? ⟨gb122, 1, none⟩ = some (.int .u64 a0_1) := (blk_cell BK122.out 1).trans rfl; have hcz78_2 : w73.cell? ⟨gb122, 2, none⟩ = some (.int .u64 a0_2) := (blk_cell BK122.out 2).trans rfl; have hfz78_0 := blk_frozen BK122.out 0; have hfz78_1 := blk_frozen BK122.out 1; have hfz78_2 := blk_frozen BK122.out 2) | ((with_reducible refine gate_builtin (b := .append) (xs := #[.tmp 74, .tmp 76]) rfl ?_); (try (refine gate_guard (by rfl) ?_; dsimp only)); at_builtin; refine Kd.R_append (Kd.int .u64) (w0 := w) w.heap.size rfl (.tmp 74) (.tmp 76) 43 22 (.int .u64 0) 8 rfl Tryd.underlying43 info22 rfl (by decide) (by omega) (.slice (some ad135) x4_2.length co77) x4_2 t131 [.int .u64 t131] (fun _ => True) (fun _ => False) rfl (by first | (go_simp; done) | (go_simp; rfl)) ?aP (fun _ hk => hk.elim) ?aF ?aO ?aB ?aS ?aL ?_; (case aP => exact rfl); (case aB => exact (by repeat (first | (with_reducible first | exact HB.out | apply below_alloc | apply pw_below_drewN | apply below_drew1 | refine below_set ?_ GE122.out | refine below_set ?_ GE126.out | refine below_set ?_ GE134.out) | exact HB.out))); (case aF => exact (fun _ _ => trivial)); (case aO => exact (by (with_reducible repeat (first | apply Kd.R_alloc | apply Kd.R_drewN | apply Kd.R_drew)); exact Kd.R_mono (Kd.R_far (p := ⟨gb134, 2, none⟩) (Kd.R_far (p := ⟨gb134, 1, none⟩) (Kd.R_far (p := ⟨gb134, 0, none⟩) (Kd.R_types HO_4.out BK134.out (by decide)) (fun _ hk => hk.2) (.int .i64 t128)) (fun _ hk => hk.2) (.int .u64 t129)) (fun _ hk => hk.2) (.int .u64 t130)) (fun _ hk => trivial))); (case aS => exact (below_size (by repeat (first | (with_reducible first | exact HB.out | apply below_alloc | apply pw_below_drewN | apply below_drew1 | refine below_set ?_ GE122.out | refine below_set ?_ GE126.out | refine below_set ?_ GE134.out) | exact HB.out)))); (case aL => have := LMc69.out; omega); intro v137 w79 ho hb hg hat; rw [← Ny136.out] at ho; have n0_ := Aside0.mk (blk_grown (g := gb122) (o := .cells #[.int .i64 a0_0, .int .u64 a0_1, .int .u64 a0_2] 24 (0, 0)) (by (with_reducible repeat (first | refine blk_drewN ?_ _ | refine blk_drew ?_ | refine blk_alloc ?_ _)); refine blk_far ?_ NB122_134.out _; (with_reducible repeat (first | refine blk_drewN ?_ _ | refine blk_drew ?_ | refine blk_alloc ?_ _)); refine blk_far ?_ NB122_134.out _; (with_reducible repeat (first | refine blk_drewN ?_ _ | refine blk_drew ?_ | refine blk_alloc ?_ _)); refine blk_far ?_ NB122_134.out _; (with_reducible repeat (first | refine blk_drewN ?_ _ | refine blk_drew ?_ | refine blk_alloc ?_ _)); exact BK122.out) hg (Kd.R_ne HO_4.out BK122.out (by decide))); have n1_ := Aside0.mk (blk_grown (g := gb126) (o := .cells #[.int .i64 x127000_2, .int .u64 x127001_2, .int .u64 x127002_2] 24 (0, 0)) (by (with_reducible repeat (first | refine blk_drewN ?_ _ | refine blk_drew ?_ | refine blk_alloc ?_ _)); refine blk_far ?_ NB126_134.out _; (with_reducible repeat (first | refine blk_drewN ?_ _ | refine blk_drew ?_ | refine blk_alloc ?_ _)); refine blk_far ?_ NB126_134.out _; (with_reducible repeat (first | refine blk_drewN ?_ _ | refine blk_drew ?_ | refine blk_alloc ?_ _)); refine blk_far ?_ NB126_134.out _; (with_reducible repeat (first | refine blk_drewN ?_ _ | refine blk_drew ?_ | refine blk_alloc ?_ _)); exact BK126.out) hg (Kd.R_ne HO_4.out BK126.out (by decide))); have n2_ := Aside0.mk (blk_grown (g := gb134) (o := .cells #[.int .i64 t128, .int .u64 t129, .int .u64 t130] 24 (0, 0)) (by (with_reducible repeat (first | refine blk_drewN ?_ _ | refine blk_drew ?_ | refine blk_alloc ?_ _)); refine blk_put (cs := #[.int .i64 t128, .int .u64 t129, .int .u64 0]) ?_ 2 _ rfl; (with_reducible repeat (first | refine blk_drewN ?_ _ | refine blk_drew ?_ | refine blk_alloc ?_ _)); refine blk_put (cs := #[.int .i64 t128, .int .u64 0, .int .u64 0]) ?_ 1 _ rfl; (with_reducible repeat (first | refine blk_drewN ?_ _ | refine blk_drew ?_ | refine blk_alloc ?_ _)); refine blk_put (cs := #[.int .i64 0, .int .u64 0, .int .u64 0]) ?_ 0 _ rfl; (with_reducible repeat (first | refine blk_drewN ?_ _ | refine blk_drew ?_ | refine blk_alloc ?_ _)); exact BK134.out) hg (Kd.R_ne HO_4.out BK134.out (by decide))); have n3_ := Aside0.mk (hb); have n4_ := Aside0.mk (ho); clear BK122; clear BK126; clear BK134; clear HB; clear HO_4; have BK122 := n0_; have BK126 := n1_; have BK134 := n2_; have HB := n3_; have HO138 := n4_; clear n0_ n1_ n2_ n3_ n4_; clear ho hb hg hat; have hcz80_0 : w79.cell? ⟨gb134, 0, none⟩ = some (.int .i64 t128) := (blk_cell BK134.out 0).trans rfl; have hcz80_1 : w79.cell? ⟨gb134, 1, none⟩ = some (.int .u64 t129) := (blk_cell BK134.out 1).trans rfl; have hcz80_2 : w79.cell? ⟨gb134, 2, none⟩ = some (.int .u64 t130) := (blk_cell BK134.out 2).trans rfl; have hfz80_0 := blk_frozen BK134.out 0; have hfz80_1 := blk_frozen BK134.out 1; have hfz80_2 := blk_frozen BK134.out 2; have hcz81_0 : w79.cell? ⟨gb126, 0, none⟩ = some (.int .i64 x127000_2) := (blk_cell BK126.out 0).trans rfl; have hcz81_1 : w79.cell? ⟨gb126, 1, none⟩ = some (.int .u64 x127001_2) := (blk_cell BK126.out 1).trans rfl; have hcz81_2 : w79.cell? ⟨gb126, 2, none⟩ = some (.int .u64 x127002_2) := (blk_cell BK126.out 2).trans rfl; have hfz81_0 := blk_frozen BK126.out 0; have hfz81_1 := blk_frozen BK126.out 1; have hfz81_2 := blk_frozen BK126.out 2))
                                      go_roundg kj17
                                      case measure => have := HJ1.out; have := HK2.out; have := HJ17.out; omega
                                      case rel => exact ⟨(y136), (wrap64 (x5_2 + 1)), (t128), (t129), (t130), (by first | rfl | (simp; done) | (simp [*]; done)), H', ⟨by have := HJ1.out; have := HK2.out; have := HJ17.out; omega⟩, ⟨by (with_reducible repeat (first | apply Kd.R_alloc | apply Kd.R_drewN | apply Kd.R_drew)); exact Kd.R_mono (Kd.R_far (p := ⟨gb126, 2, none⟩) (Kd.R_far (p := ⟨gb126, 1, none⟩) (Kd.R_far (p := ⟨gb126, 0, none⟩) (Kd.R_types HO138.out BK126.out (by decide)) (fun _ hk => hk.2) (.int .i64 t128)) (fun _ hk => hk.2) (.int .u64 t129)) (fun _ hk => hk.2) (.int .u64 t130)) (fun _ hk => trivial)⟩, ⟨by (with_reducible repeat (first | refine blk_drewN ?_ _ | refine blk_drew ?_ | refine blk_alloc ?_ _)); refine blk_far ?_ NB122_126.out _; (with_reducible repeat (first | refine blk_drewN ?_ _ | refine blk_drew ?_ | refine blk_alloc ?_ _)); refine blk_far ?_ NB122_126.out _; (with_reducible repeat (first | refine blk_drewN ?_ _ | refine blk_drew ?_ | refine blk_alloc ?_ _)); refine blk_far ?_ NB122_126.out _; (with_reducible repeat (first | refine blk_drewN ?_ _ | refine blk_drew ?_ | refine blk_alloc ?_ _)); exact BK122.out⟩, ⟨by (with_reducible repeat (first | refine blk_drewN ?_ _ | refine blk_drew ?_ | refine blk_alloc ?_ _)); refine blk_put (cs := #[.int .i64 t128, .int .u64 t129, .int .u64 x127002_2]) ?_ 2 _ rfl; (with_reducible repeat (first | refine blk_drewN ?_ _ | refine blk_drew ?_ | refine blk_alloc ?_ _)); refine blk_put (cs := #[.int .i64 t128, .int .u64 x127001_2, .int .u64 x127002_2]) ?_ 1 _ rfl; (with_reducible repeat (first | refine blk_drewN ?_ _ | refine blk_drew ?_ | refine blk_alloc ?_ _)); refine blk_put (cs := #[.int .i64 x127000_2, .int .u64 x127001_2, .int .u64 x127002_2]) ?_ 0 _ rfl; (with_reducible repeat (first | refine blk_drewN ?_ _ | refine blk_drew ?_ | refine blk_alloc ?_ _)); exact BK126.out⟩, ⟨by repeat (first | (with_reducible first | exact HB.out | apply below_alloc | apply pw_below_drewN | apply below_drew1 | refine below_set ?_ GE122.out | refine below_set ?_ GE126.out | refine below_set ?_ GE134.out) | exact HB.out)⟩⟩
                                    · rw [if_neg c69] at H
                                      exact absurd H (by simp)
                                · rw [if_neg c57] at H
                                  exact absurd H (by simp)
                            · rw [if_neg c46] at H
                              exact absurd H (by simp)
                          · rw [if_neg c45] at H
                            exact absurd H (by simp)
                        · rw [if_neg c43] at H
                          have c43b0 : decide (0 < (x4_2.length : Int)) = false := decide_eq_false c43
                          have c43b1 : decide (0 < x4_2.length) = false := decide_eq_false (by omega)
                          clear c43
                          obtain ⟨ji82, hji82⟩ : ∃ j_ : Int, (IntKind.u64.wrap (t131 - 1)) = j_ := ⟨_, rfl⟩
                          replace H : (if 0 ≤ (ji82) then (if (t132 != ((Int.tmod (shr .u64 a0_2 (ji82)) 2) == 1)) = true then (some false) else (if x4_2.length < 17592186044416 then (atlaslaw18_AsidAll.l0 kj17 (x4_2 ++ [t131]) (wrap64 (x5_2 + 1)) a0_0 a0_1 a0_2 t128 t129 t130) else (none))) else (none)) = some r := by first | (rw [hji82] at H; exact H) | (simp only [hji82] at H ⊢; exact H)
                          (try rw [hji82] at A25)
                          by_cases c83 : 0 ≤ (ji82)
                          · rw [if_pos c83] at H
                            have c83b0 := eq_true c83
                            have c83b1 : decide (0 ≤ (ji82)) = true := decide_eq_true c83
                            clear c83
                            obtain ⟨ji84, hji84⟩ : ∃ j_ : Int, (shr .u64 a0_2 (ji82)) = j_ := ⟨_, rfl⟩
                            replace H : (if (t132 != ((Int.tmod (ji84) 2) == 1)) = true then (some false) else (if x4_2.length < 17592186044416 then (atlaslaw18_AsidAll.l0 kj17 (x4_2 ++ [t131]) (wrap64 (x5_2 + 1)) a0_0 a0_1 a0_2 t128 t129 t130) else (none))) = some r := by first | (rw [hji84] at H; exact H) | (simp only [hji84] at H ⊢; exact H)
                            (try rw [hji84] at A25)
                            have hji84_ : (a0_2 / 2 ^ min (ji82).toNat 64) = ji84 := hji84
                            have hji84z : (ji82) ≤ 64 → (a0_2 / 2 ^ (ji82).toNat) = ji84 := shr_small hji84
                            by_cases c85 : (t132 != ((Int.tmod (ji84) 2) == 1)) = true
                            · rw [if_pos c85] at H
                              have c85b0 : (t132 != ((Int.tmod (ji84) 2) == 1)) = true := c85
                              (try (have c85b1 : decide (t132 = ((Int.tmod (ji84) 2) == 1)) = false := by simpa using c85))
                              (try (have c85b2 : (t132 == ((Int.tmod (ji84) 2) == 1)) = false := by simpa using c85))
                              (try (have c85b3 : ¬ (t132 = ((Int.tmod (ji84) 2) == 1)) := by simpa using c85))
                              clear c85
                              obtain rfl := Option.some.inj H
                              have hnb86 := NB126_122.out
                              have hnc86 := NB122_126.out
                              have hcz87_0 : wc.cell? ⟨gb126, 0, none⟩ = some (.int .i64 x127000_2) := (blk_cell BK126.out 0).trans rfl
                              have hcz87_1 : wc.cell? ⟨gb126, 1, none⟩ = some (.int .u64 x127001_2) := (blk_cell BK126.out 1).trans rfl
                              have hcz87_2 : wc.cell? ⟨gb126, 2, none⟩ = some (.int .u64 x127002_2) := (blk_cell BK126.out 2).trans rfl
                              have hfz87_0 := blk_frozen BK126.out 0
                              have hfz87_1 := blk_frozen BK126.out 1
                              have hfz87_2 := blk_frozen BK126.out 2
                              go_wp2_with (first | ((with_reducible refine gate_callee (f := 11) rfl ?_); refine goesL_ (some 33) rfl rfl Tryd.func11 (by kernel_rfl) rfl #[.agg #[.int .i64 x127000_2, .int .u64 x127001_2, .int .u64 x127002_2]] rfl (by (try simp only [List.map_toArray, List.map_cons, List.map_nil]); first | done | rfl | (simp only [List.length_drop, List.length_take]; rfl)) ?_; (with_reducible refine (asid_Take.calls x127000_2 x127001_2 x127002_2 t128 t129 t130 t131 t132 t133 _ ?side1 A25.out).mono ?_); (case side1 => exact HLD.out.below (by repeat (first | (with_reducible first | exact HB.out | apply below_alloc | apply pw_below_drewN | apply below_drew1 | refine below_set ?_ GE122.out | refine below_set ?_ GE126.out) | exact HB.out))); rintro e w88 ⟨rfl, hb⟩; refine ⟨_, rfl, ?_⟩; have n0_ := Aside0.mk (Kd.R_below (by (with_reducible repeat (first | apply Kd.R_alloc | apply Kd.R_drewN | apply Kd.R_drew)); exact HO_4.out) hb); have n1_ := Aside0.mk (blk_below (g := gb122) (o := .cells #[.int .i64 a0_0, .int .u64 a0_1, .int .u64 a0_2] 24 (0, 0)) (by (with_reducible repeat (first | refine blk_drewN ?_ _ | refine blk_drew ?_ | refine blk_alloc ?_ _)); exact BK122.out) hb); have n2_ := Aside0.mk (blk_below (g := gb126) (o := .cells #[.int .i64 x127000_2, .int .u64 x127001_2, .int .u64 x127002_2] 24 (0, 0)) (by (with_reducible repeat (first | refine blk_drewN ?_ _ | refine blk_drew ?_ | refine blk_alloc ?_ _)); exact BK126.out) hb); have n3_ := Aside0.mk (below_step (by repeat (first | (with_reducible first | exact HB.out | apply below_alloc | apply pw_below_drewN | apply below_drew1 | refine below_set ?_ GE122.out | refine below_set ?_ GE126.out) | exact HB.out)) hb); clear HO_4; clear BK122; clear BK126; clear HB; have HO_4 := n0_; have BK122 := n1_; have BK126 := n2_; have HB := n3_; clear n0_ n1_ n2_ n3_; (try clear hb); (try clear hb2); (try clear hk); (try clear hi)) | ((with_reducible refine gate_dst (N := 6) rfl ?_); (try (refine gate_guard (by rfl) ?_; dsimp only)); refine box_event ?hg (N := 6) ?hd (cs := #[.int .i64 0, .int .u64 0, .int .u64 0]) (t := 24) ?hr ?_; (case hd => rfl); (case hg => rfl); (case hr => first | (go_simp; done) | (go_simp; rfl)); intro gb134 hg w89 hbox hb; have n0_ := Aside0.mk (Kd.R_below (by (with_reducible repeat (first | apply Kd.R_alloc | apply Kd.R_drewN | apply Kd.R_drew)); exact HO_4.out) hb); have n1_ := Aside0.mk (blk_below (g := gb122) (o := .cells #[.int .i64 a0_0, .int .u64 a0_1, .int .u64 a0_2] 24 (0, 0)) (by (with_reducible repeat (first | refine blk_drewN ?_ _ | refine blk_drew ?_ | refine blk_alloc ?_ _)); exact BK122.out) hb); have n2_ := Aside0.mk (blk_below (g := gb126) (o := .cells #[.int .i64 x127000_2, .int .u64 x127001_2, .int .u64 x127002_2] 24 (0, 0)) (by (with_reducible repeat (first | refine blk_drewN ?_ _ | refine blk_drew ?_ | refine blk_alloc ?_ _)); exact BK126.out) hb); have n3_ := Aside0.mk (below_step (by repeat (first | (with_reducible first | exact HB.out | apply below_alloc | apply pw_below_drewN | apply below_drew1 | refine below_set ?_ GE122.out | refine below_set ?_ GE126.out) | exact HB.out)) hb); have n4_ := Aside0.mk (hbox); have n5_ := Aside0.mk ((by rw [hg]; exact (below_size (by repeat (first | (with_reducible first | exact HB.out | apply below_alloc | apply pw_below_drewN | apply below_drew1 | refine below_set ?_ GE122.out | refine below_set ?_ GE126.out) | exact HB.out))) : w.heap.size ≤ gb134)); have n6_ := Aside0.mk ((by rw [hg]; exact (below_size (by repeat (first | (with_reducible first | exact HB.out | apply below_alloc | apply pw_below_drewN | apply below_drew1 | refine below_set ?_ GE122.out | refine below_set ?_ GE126.out) | exact HB.out))) : w.heap.size ≤ gb134)); have n7_ := Aside0.mk ((by rw [hg]; exact Nat.ne_of_lt (blk_lt (g := gb122) (o := .cells #[.int .i64 a0_0, .int .u64 a0_1, .int .u64 a0_2] 24 (0, 0)) (by (with_reducible repeat (first | refine blk_drewN ?_ _ | refine blk_drew ?_ | refine blk_alloc ?_ _)); exact BK122.out)) : gb122 ≠ gb134)); have n8_ := Aside0.mk ((by rw [hg]; exact Nat.ne_of_gt (blk_lt (g := gb122) (o := .cells #[.int .i64 a0_0, .int .u64 a0_1, .int .u64 a0_2] 24 (0, 0)) (by (with_reducible repeat (first | refine blk_drewN ?_ _ | refine blk_drew ?_ | refine blk_alloc ?_ _)); exact BK122.out)) : gb134 ≠ gb122)); have n9_ := Aside0.mk ((by rw [hg]; exact Nat.ne_of_lt (blk_lt (g := gb126) (o := .cells #[.int .i64 x127000_2, .int .u64 x127001_2, .int .u64 x127002_2] 24 (0, 0)) (by (with_reducible repeat (first | refine blk_drewN ?_ _ | refine blk_drew ?_ | refine blk_alloc ?_ _)); exact BK126.out)) : gb126 ≠ gb134)); have n10_ := Aside0.mk ((by rw [hg]; exact Nat.ne_of_gt (blk_lt (g := gb126) (o := .cells #[.int .i64 x127000_2, .int .u64 x127001_2, .int .u64 x127002_2] 24 (0, 0)) (by (with_reducible repeat (first | refine blk_drewN ?_ _ | refine blk_drew ?_ | refine blk_alloc ?_ _)); exact BK126.out)) : gb134 ≠ gb126)); clear HO_4; clear BK122; clear BK126; clear HB; have HO_4 := n0_; have BK122 := n1_; have BK126 := n2_; have HB := n3_; have BK134 := n4_; have GW134 := n5_; have GE134 := n6_; have NB122_134 := n7_; have NB134_122 := n8_; have NB126_134 := n9_; have NB134_126 := n10_; clear n0_ n1_ n2_ n3_ n4_ n5_ n6_ n7_ n8_ n9_ n10_; clear hb hbox hg; have hnb90 := NB134_122.out; have hnc90 := NB122_134.out; have hnb91 := NB134_126.out; have hnc91 := NB126_134.out; have hcz92_0 : w89.cell? ⟨gb134, 0, none⟩ = some (.int .i64 0) := (blk_cell BK134.out 0).trans rfl; have hcz92_1 : w89.cell? ⟨gb134, 1, none⟩ = some (.int .u64 0) := (blk_cell BK134.out 1).trans rfl; have hcz92_2 : w89.cell? ⟨gb134, 2, none⟩ = some (.int .u64 0) := (blk_cell BK134.out 2).trans rfl; have hfz92_0 := blk_frozen BK134.out 0; have hfz92_1 := blk_frozen BK134.out 1; have hfz92_2 := blk_frozen BK134.out 2; obtain ⟨Ao93, co93, eo93⟩ := Kd.R_slice HO_4.out; subst eo93; have hcz94_0 : w89.cell? ⟨gb122, 0, none⟩ = some (.int .i64 a0_0) := (blk_cell BK122.out 0).trans rfl; have hcz94_1 : w89.cell? ⟨gb122, 1, none⟩ = some (.int .u64 a0_1) := (blk_cell BK122.out 1).trans rfl; have hcz94_2 : w89.cell? ⟨gb122, 2, none⟩ = some (.int .u64 a0_2) := (blk_cell BK122.out 2).trans rfl; have hfz94_0 := blk_frozen BK122.out 0; have hfz94_1 := blk_frozen BK122.out 1; have hfz94_2 := blk_frozen BK122.out 2))
                              go_ret
                              exact ⟨by first | rfl | (simp [errW_none, errW_some] <;> rfl) | (simp only [← hji82, ← hji84]; first | rfl | (simp [errW_none, errW_some] <;> rfl)) | (simp [*, errW_none, errW_some] <;> rfl), by repeat (first | (with_reducible first | exact HB.out | apply below_alloc | apply pw_below_drewN | apply below_drew1 | refine below_set ?_ GE122.out | refine below_set ?_ GE126.out | refine below_set ?_ GE134.out) | exact HB.out)⟩
                            · rw [if_neg c85] at H
                              have c85b0 : (t132 != ((Int.tmod (ji84) 2) == 1)) = false := by simpa using c85
                              (try (have c85b1 : decide (t132 = ((Int.tmod (ji84) 2) == 1)) = true := by simpa using c85))
                              (try (have c85b2 : (t132 == ((Int.tmod (ji84) 2) == 1)) = true := by simpa using c85))
                              clear c85
                              by_cases c95 : x4_2.length < 17592186044416
                              · rw [if_pos c95] at H
                                have LMc95 := Aside0.mk c95
                                clear c95
                                obtain ⟨y139, hy139⟩ : ∃ y_ : List Int, y_ = (x4_2 ++ [t131]) := ⟨_, rfl⟩
                                replace H : (atlaslaw18_AsidAll.l0 kj17 y139 (wrap64 (x5_2 + 1)) a0_0 a0_1 a0_2 t128 t129 t130) = some r := by first | (rw [hy139]; with_reducible exact H) | (have H2_ := (Option.bind_some _ _).symm.trans H; rw [hy139]; with_reducible exact H2_) | (have H2_ := (Option.bind_some _ _).symm.trans H; with_reducible exact H2_) | with_reducible exact H | (rw [hy139]; exact H) | exact H
                                have Ny139 := Aside0.mk hy139
                                clear hy139
                                have H' := Aside0.mk H
                                clear H
                                have hnb96 := NB126_122.out
                                have hnc96 := NB122_126.out
                                have hcz97_0 : wc.cell? ⟨gb126, 0, none⟩ = some (.int .i64 x127000_2) := (blk_cell BK126.out 0).trans rfl
                                have hcz97_1 : wc.cell? ⟨gb126, 1, none⟩ = some (.int .u64 x127001_2) := (blk_cell BK126.out 1).trans rfl
                                have hcz97_2 : wc.cell? ⟨gb126, 2, none⟩ = some (.int .u64 x127002_2) := (blk_cell BK126.out 2).trans rfl
                                have hfz97_0 := blk_frozen BK126.out 0
                                have hfz97_1 := blk_frozen BK126.out 1
                                have hfz97_2 := blk_frozen BK126.out 2
                                go_wp2_with (first | ((with_reducible refine gate_callee (f := 11) rfl ?_); refine goesL_ (some 33) rfl rfl Tryd.func11 (by kernel_rfl) rfl #[.agg #[.int .i64 x127000_2, .int .u64 x127001_2, .int .u64 x127002_2]] rfl (by (try simp only [List.map_toArray, List.map_cons, List.map_nil]); first | done | rfl | (simp only [List.length_drop, List.length_take]; rfl)) ?_; (with_reducible refine (asid_Take.calls x127000_2 x127001_2 x127002_2 t128 t129 t130 t131 t132 t133 _ ?side1 A25.out).mono ?_); (case side1 => exact HLD.out.below (by repeat (first | (with_reducible first | exact HB.out | apply below_alloc | apply pw_below_drewN | apply below_drew1 | refine below_set ?_ GE122.out | refine below_set ?_ GE126.out) | exact HB.out))); rintro e w98 ⟨rfl, hb⟩; refine ⟨_, rfl, ?_⟩; have n0_ := Aside0.mk (Kd.R_below (by (with_reducible repeat (first | apply Kd.R_alloc | apply Kd.R_drewN | apply Kd.R_drew)); exact HO_4.out) hb); have n1_ := Aside0.mk (blk_below (g := gb122) (o := .cells #[.int .i64 a0_0, .int .u64 a0_1, .int .u64 a0_2] 24 (0, 0)) (by (with_reducible repeat (first | refine blk_drewN ?_ _ | refine blk_drew ?_ | refine blk_alloc ?_ _)); exact BK122.out) hb); have n2_ := Aside0.mk (blk_below (g := gb126) (o := .cells #[.int .i64 x127000_2, .int .u64 x127001_2, .int .u64 x127002_2] 24 (0, 0)) (by (with_reducible repeat (first | refine blk_drewN ?_ _ | refine blk_drew ?_ | refine blk_alloc ?_ _)); exact BK126.out) hb); have n3_ := Aside0.mk (below_step (by repeat (first | (with_reducible first | exact HB.out | apply below_alloc | apply pw_below_drewN | apply below_drew1 | refine below_set ?_ GE122.out | refine below_set ?_ GE126.out) | exact HB.out)) hb); clear HO_4; clear BK122; clear BK126; clear HB; have HO_4 := n0_; have BK122 := n1_; have BK126 := n2_; have HB := n3_; clear n0_ n1_ n2_ n3_; (try clear hb); (try clear hb2); (try clear hk); (try clear hi)) | ((with_reducible refine gate_dst (N := 6) rfl ?_); (try (refine gate_guard (by rfl) ?_; dsimp only)); refine box_event ?hg (N := 6) ?hd (cs := #[.int .i64 0, .int .u64 0, .int .u64 0]) (t := 24) ?hr ?_; (case hd => rfl); (case hg => rfl); (case hr => first | (go_simp; done) | (go_simp; rfl)); intro gb134 hg w99 hbox hb; have n0_ := Aside0.mk (Kd.R_below (by (with_reducible repeat (first | apply Kd.R_alloc | apply Kd.R_drewN | apply Kd.R_drew)); exact HO_4.out) hb); have n1_ := Aside0.mk (blk_below (g := gb122) (o := .cells #[.int .i64 a0_0, .int .u64 a0_1, .int .u64 a0_2] 24 (0, 0)) (by (with_reducible repeat (first | refine blk_drewN ?_ _ | refine blk_drew ?_ | refine blk_alloc ?_ _)); exact BK122.out) hb); have n2_ := Aside0.mk (blk_below (g := gb126) (o := .cells #[.int .i64 x127000_2, .int .u64 x127001_2, .int .u64 x127002_2] 24 (0, 0)) (by (with_reducible repeat (first | refine blk_drewN ?_ _ | refine blk_drew ?_ | refine blk_alloc ?_ _)); exact BK126.out) hb); have n3_ := Aside0.mk (below_step (by repeat (first | (with_reducible first | exact HB.out | apply below_alloc | apply pw_below_drewN | apply below_drew1 | refine below_set ?_ GE122.out | refine below_set ?_ GE126.out) | exact HB.out)) hb); have n4_ := Aside0.mk (hbox); have n5_ := Aside0.mk ((by rw [hg]; exact (below_size (by repeat (first | (with_reducible first | exact HB.out | apply below_alloc | apply pw_below_drewN | apply below_drew1 | refine below_set ?_ GE122.out | refine below_set ?_ GE126.out) | exact HB.out))) : w.heap.size ≤ gb134)); have n6_ := Aside0.mk ((by rw [hg]; exact (below_size (by repeat (first | (with_reducible first | exact HB.out | apply below_alloc | apply pw_below_drewN | apply below_drew1 | refine below_set ?_ GE122.out | refine below_set ?_ GE126.out) | exact HB.out))) : w.heap.size ≤ gb134)); have n7_ := Aside0.mk ((by rw [hg]; exact Nat.ne_of_lt (blk_lt (g := gb122) (o := .cells #[.int .i64 a0_0, .int .u64 a0_1, .int .u64 a0_2] 24 (0, 0)) (by (with_reducible repeat (first | refine blk_drewN ?_ _ | refine blk_drew ?_ | refine blk_alloc ?_ _)); exact BK122.out)) : gb122 ≠ gb134)); have n8_ := Aside0.mk ((by rw [hg]; exact Nat.ne_of_gt (blk_lt (g := gb122) (o := .cells #[.int .i64 a0_0, .int .u64 a0_1, .int .u64 a0_2] 24 (0, 0)) (by (with_reducible repeat (first | refine blk_drewN ?_ _ | refine blk_drew ?_ | refine blk_alloc ?_ _)); exact BK122.out)) : gb134 ≠ gb122)); have n9_ := Aside0.mk ((by rw [hg]; exact Nat.ne_of_lt (blk_lt (g := gb126) (o := .cells #[.int .i64 x127000_2, .int .u64 x127001_2, .int .u64 x127002_2] 24 (0, 0)) (by (with_reducible repeat (first | refine blk_drewN ?_ _ | refine blk_drew ?_ | refine blk_alloc ?_ _)); exact BK126.out)) : gb126 ≠ gb134)); have n10_ := Aside0.mk ((by rw [hg]; exact Nat.ne_of_gt (blk_lt (g := gb126) (o := .cells #[.int .i64 x127000_2, .int .u64 x127001_2, .int .u64 x127002_2] 24 (0, 0)) (by (with_reducible repeat (first | refine blk_drewN ?_ _ | refine blk_drew ?_ | refine blk_alloc ?_ _)); exact BK126.out)) : gb134 ≠ gb126)); clear HO_4; clear BK122; clear BK126; clear HB; have HO_4 := n0_; have BK122 := n1_; have BK126 := n2_; have HB := n3_; have BK134 := n4_; have GW134 := n5_; have GE134 := n6_; have NB122_134 := n7_; have NB134_122 := n8_; have NB126_134 := n9_; have NB134_126 := n10_; clear n0_ n1_ n2_ n3_ n4_ n5_ n6_ n7_ n8_ n9_ n10_; clear hb hbox hg; have hnb100 := NB134_122.out; have hnc100 := NB122_134.out; have hnb101 := NB134_126.out; have hnc101 := NB126_134.out; have hcz102_0 : w99.cell? ⟨gb134, 0, none⟩ = some (.int .i64 0) := (blk_cell BK134.out 0).trans rfl; have hcz102_1 : w99.cell? ⟨gb134, 1, none⟩ = some (.int .u64 0) := (blk_cell BK134.out 1).trans rfl; have hcz102_2 : w99.cell? ⟨gb134, 2, none⟩ = some (.int .u64 0) := (blk_cell BK134.out 2).trans rfl; have hfz102_0 := blk_frozen BK134.out 0; have hfz102_1 := blk_frozen BK134.out 1; have hfz102_2 := blk_frozen BK134.out 2; obtain ⟨Ao103, co103, eo103⟩ := Kd.R_slice HO_4.out; subst eo103; have hcz104_0 : w99.cell? ⟨gb122, 0, none⟩ = some (.int .i64 a0_0) := (blk_cell BK122.out 0).trans rfl; have hcz104_1 : w99.cell? ⟨gb122, 1, none⟩ = some (.int .u64 a0_1) := (blk_cell BK122.out 1).trans rfl; have hcz104_2 : w99.cell? ⟨gb122, 2, none⟩ = some (.int .u64 a0_2) := (blk_cell BK122.out 2).trans rfl; have hfz104_0 := blk_frozen BK122.out 0; have hfz104_1 := blk_frozen BK122.out 1; have hfz104_2 := blk_frozen BK122.out 2) | ((with_reducible refine gate_builtin (b := .append) (xs := #[.tmp 74, .tmp 76]) rfl ?_); (try (refine gate_guard (by rfl) ?_; dsimp only)); at_builtin; refine Kd.R_append (Kd.int .u64) (w0 := w) w.heap.size rfl (.tmp 74) (.tmp 76) 43 22 (.int .u64 0) 8 rfl Tryd.underlying43 info22 rfl (by decide) (by omega) (.slice Ao103 x4_2.length co103) x4_2 t131 [.int .u64 t131] (fun _ => True) (fun _ => False) rfl (by first | (go_simp; done) | (go_simp; rfl)) ?aP (fun _ hk => hk.elim) ?aF ?aO ?aB ?aS ?aL ?_; (case aP => exact rfl); (case aB => exact (by repeat (first | (with_reducible first | exact HB.out | apply below_alloc | apply pw_below_drewN | apply below_drew1 | refine below_set ?_ GE122.out | refine below_set ?_ GE126.out | refine below_set ?_ GE134.out) | exact HB.out))); (case aF => exact (fun _ _ => trivial)); (case aO => exact (by (with_reducible repeat (first | apply Kd.R_alloc | apply Kd.R_drewN | apply Kd.R_drew)); exact Kd.R_mono (Kd.R_far (p := ⟨gb134, 2, none⟩) (Kd.R_far (p := ⟨gb134, 1, none⟩) (Kd.R_far (p := ⟨gb134, 0, none⟩) (Kd.R_types HO_4.out BK134.out (by decide)) (fun _ hk => hk.2) (.int .i64 t128)) (fun _ hk => hk.2) (.int .u64 t129)) (fun _ hk => hk.2) (.int .u64 t130)) (fun _ hk => trivial))); (case aS => exact (below_size (by repeat (first | (with_reducible first | exact HB.out | apply below_alloc | apply pw_below_drewN | apply below_drew1 | refine below_set ?_ GE122.out | refine below_set ?_ GE126.out | refine below_set ?_ GE134.out) | exact HB.out)))); (case aL => have := LMc95.out; omega); intro v140 w105 ho hb hg hat; rw [← Ny139.out] at ho; have n0_ := Aside0.mk (blk_grown (g := gb122) (o := .cells #[.int .i64 a0_0, .int .u64 a0_1, .int .u64 a0_2] 24 (0, 0)) (by (with_reducible repeat (first | refine blk_drewN ?_ _ | refine blk_drew ?_ | refine blk_alloc ?_ _)); refine blk_far ?_ NB122_134.out _; (with_reducible repeat (first | refine blk_drewN ?_ _ | refine blk_drew ?_ | refine blk_alloc ?_ _)); refine blk_far ?_ NB122_134.out _; (with_reducible repeat (first | refine blk_drewN ?_ _ | refine blk_drew ?_ | refine blk_alloc ?_ _)); refine blk_far ?_ NB122_134.out _; (with_reducible repeat (first | refine blk_drewN ?_ _ | refine blk_drew ?_ | refine blk_alloc ?_ _)); exact BK122.out) hg (Kd.R_ne HO_4.out BK122.out (by decide))); have n1_ := Aside0.mk (blk_grown (g := gb126) (o := .cells #[.int .i64 x127000_2, .int .u64 x127001_2, .int .u64 x127002_2] 24 (0, 0)) (by (with_reducible repeat (first | refine blk_drewN ?_ _ | refine blk_drew ?_ | refine blk_alloc ?_ _)); refine blk_far ?_ NB126_134.out _; (with_reducible repeat (first | refine blk_drewN ?_ _ | refine blk_drew ?_ | refine blk_alloc ?_ _)); refine blk_far ?_ NB126_134.out _; (with_reducible repeat (first | refine blk_drewN ?_ _ | refine blk_drew ?_ | refine blk_alloc ?_ _)); refine blk_far ?_ NB126_134.out _; (with_reducible repeat (first | refine blk_drewN ?_ _ | refine blk_drew ?_ | refine blk_alloc ?_ _)); exact BK126.out) hg (Kd.R_ne HO_4.out BK126.out (by decide))); have n2_ := Aside0.mk (blk_grown (g := gb134) (o := .cells #[.int .i64 t128, .int .u64 t129, .int .u64 t130] 24 (0, 0)) (by (with_reducible repeat (first | refine blk_drewN ?_ _ | refine blk_drew ?_ | refine blk_alloc ?_ _)); refine blk_put (cs := #[.int .i64 t128, .int .u64 t129, .int .u64 0]) ?_ 2 _ rfl; (with_reducible repeat (first | refine blk_drewN ?_ _ | refine blk_drew ?_ | refine blk_alloc ?_ _)); refine blk_put (cs := #[.int .i64 t128, .int .u64 0, .int .u64 0]) ?_ 1 _ rfl; (with_reducible repeat (first | refine blk_drewN ?_ _ | refine blk_drew ?_ | refine blk_alloc ?_ _)); refine blk_put (cs := #[.int .i64 0, .int .u64 0, .int .u64 0]) ?_ 0 _ rfl; (with_reducible repeat (first | refine blk_drewN ?_ _ | refine blk_drew ?_ | refine blk_alloc ?_ _)); exact BK134.out) hg (Kd.R_ne HO_4.out BK134.out (by decide))); have n3_ := Aside0.mk (hb); have n4_ := Aside0.mk (ho); clear BK122; clear BK126; clear BK134; clear HB; clear HO_4; have BK122 := n0_; have BK126 := n1_; have BK134 := n2_; have HB := n3_; have HO141 := n4_; clear n0_ n1_ n2_ n3_ n4_; clear ho hb hg hat; have hcz106_0 : w105.cell? ⟨gb134, 0, none⟩ = some (.int .i64 t128) := (blk_cell BK134.out 0).trans rfl; have hcz106_1 : w105.cell? ⟨gb134, 1, none⟩ = some (.int .u64 t129) := (blk_cell BK134.out 1).trans rfl; have hcz106_2 : w105.cell? ⟨gb134, 2, none⟩ = some (.int .u64 t130) := (blk_cell BK134.out 2).trans rfl; have hfz106_0 := blk_frozen BK134.out 0; have hfz106_1 := blk_frozen BK134.out 1; have hfz106_2 := blk_frozen BK134.out 2; have hcz107_0 : w105.cell? ⟨gb126, 0, none⟩ = some (.int .i64 x127000_2) := (blk_cell BK126.out 0).trans rfl; have hcz107_1 : w105.cell? ⟨gb126, 1, none⟩ = some (.int .u64 x127001_2) := (blk_cell BK126.out 1).trans rfl; have hcz107_2 : w105.cell? ⟨gb126, 2, none⟩ = some (.int .u64 x127002_2) := (blk_cell BK126.out 2).trans rfl; have hfz107_0 := blk_frozen BK126.out 0; have hfz107_1 := blk_frozen BK126.out 1; have hfz107_2 := blk_frozen BK126.out 2))
                                go_roundg kj17
                                case measure => have := HJ1.out; have := HK2.out; have := HJ17.out; omega
                                case rel => exact ⟨(y139), (wrap64 (x5_2 + 1)), (t128), (t129), (t130), (by first | rfl | (simp; done) | (simp [*]; done)), H', ⟨by have := HJ1.out; have := HK2.out; have := HJ17.out; omega⟩, ⟨by (with_reducible repeat (first | apply Kd.R_alloc | apply Kd.R_drewN | apply Kd.R_drew)); exact Kd.R_mono (Kd.R_far (p := ⟨gb126, 2, none⟩) (Kd.R_far (p := ⟨gb126, 1, none⟩) (Kd.R_far (p := ⟨gb126, 0, none⟩) (Kd.R_types HO141.out BK126.out (by decide)) (fun _ hk => hk.2) (.int .i64 t128)) (fun _ hk => hk.2) (.int .u64 t129)) (fun _ hk => hk.2) (.int .u64 t130)) (fun _ hk => trivial)⟩, ⟨by (with_reducible repeat (first | refine blk_drewN ?_ _ | refine blk_drew ?_ | refine blk_alloc ?_ _)); refine blk_far ?_ NB122_126.out _; (with_reducible repeat (first | refine blk_drewN ?_ _ | refine blk_drew ?_ | refine blk_alloc ?_ _)); refine blk_far ?_ NB122_126.out _; (with_reducible repeat (first | refine blk_drewN ?_ _ | refine blk_drew ?_ | refine blk_alloc ?_ _)); refine blk_far ?_ NB122_126.out _; (with_reducible repeat (first | refine blk_drewN ?_ _ | refine blk_drew ?_ | refine blk_alloc ?_ _)); exact BK122.out⟩, ⟨by (with_reducible repeat (first | refine blk_drewN ?_ _ | refine blk_drew ?_ | refine blk_alloc ?_ _)); refine blk_put (cs := #[.int .i64 t128, .int .u64 t129, .int .u64 x127002_2]) ?_ 2 _ rfl; (with_reducible repeat (first | refine blk_drewN ?_ _ | refine blk_drew ?_ | refine blk_alloc ?_ _)); refine blk_put (cs := #[.int .i64 t128, .int .u64 x127001_2, .int .u64 x127002_2]) ?_ 1 _ rfl; (with_reducible repeat (first | refine blk_drewN ?_ _ | refine blk_drew ?_ | refine blk_alloc ?_ _)); refine blk_put (cs := #[.int .i64 x127000_2, .int .u64 x127001_2, .int .u64 x127002_2]) ?_ 0 _ rfl; (with_reducible repeat (first | refine blk_drewN ?_ _ | refine blk_drew ?_ | refine blk_alloc ?_ _)); exact BK126.out⟩, ⟨by repeat (first | (with_reducible first | exact HB.out | apply below_alloc | apply pw_below_drewN | apply below_drew1 | refine below_set ?_ GE122.out | refine below_set ?_ GE126.out | refine below_set ?_ GE134.out) | exact HB.out)⟩⟩
                              · rw [if_neg c95] at H
                                exact absurd H (by simp)
                          · rw [if_neg c83] at H
                            exact absurd H (by simp)
                  · rw [if_neg c26] at H
                    have c26b0 : (t133 == 0) = false := beq_eq_false_iff_ne.mpr c26
                    have c26b1 : (t133 != 0) = true := bne_iff_ne.mpr c26
                    obtain rfl := Option.some.inj H
                    have hnb108 := NB126_122.out
                    have hnc108 := NB122_126.out
                    have hcz109_0 : wc.cell? ⟨gb126, 0, none⟩ = some (.int .i64 x127000_2) := (blk_cell BK126.out 0).trans rfl
                    have hcz109_1 : wc.cell? ⟨gb126, 1, none⟩ = some (.int .u64 x127001_2) := (blk_cell BK126.out 1).trans rfl
                    have hcz109_2 : wc.cell? ⟨gb126, 2, none⟩ = some (.int .u64 x127002_2) := (blk_cell BK126.out 2).trans rfl
                    have hfz109_0 := blk_frozen BK126.out 0
                    have hfz109_1 := blk_frozen BK126.out 1
                    have hfz109_2 := blk_frozen BK126.out 2
                    go_wp2_with (first | ((with_reducible refine gate_callee (f := 11) rfl ?_); refine goesL_ (some 33) rfl rfl Tryd.func11 (by kernel_rfl) rfl #[.agg #[.int .i64 x127000_2, .int .u64 x127001_2, .int .u64 x127002_2]] rfl (by (try simp only [List.map_toArray, List.map_cons, List.map_nil]); first | done | rfl | (simp only [List.length_drop, List.length_take]; rfl)) ?_; (with_reducible refine (asid_Take.calls x127000_2 x127001_2 x127002_2 t128 t129 t130 t131 t132 t133 _ ?side1 A25.out).mono ?_); (case side1 => exact HLD.out.below (by repeat (first | (with_reducible first | exact HB.out | apply below_alloc | apply pw_below_drewN | apply below_drew1 | refine below_set ?_ GE122.out | refine below_set ?_ GE126.out) | exact HB.out))); rintro e w110 ⟨rfl, hb⟩; refine ⟨_, rfl, ?_⟩; have n0_ := Aside0.mk (Kd.R_below (by (with_reducible repeat (first | apply Kd.R_alloc | apply Kd.R_drewN | apply Kd.R_drew)); exact HO_4.out) hb); have n1_ := Aside0.mk (blk_below (g := gb122) (o := .cells #[.int .i64 a0_0, .int .u64 a0_1, .int .u64 a0_2] 24 (0, 0)) (by (with_reducible repeat (first | refine blk_drewN ?_ _ | refine blk_drew ?_ | refine blk_alloc ?_ _)); exact BK122.out) hb); have n2_ := Aside0.mk (blk_below (g := gb126) (o := .cells #[.int .i64 x127000_2, .int .u64 x127001_2, .int .u64 x127002_2] 24 (0, 0)) (by (with_reducible repeat (first | refine blk_drewN ?_ _ | refine blk_drew ?_ | refine blk_alloc ?_ _)); exact BK126.out) hb); have n3_ := Aside0.mk (below_step (by repeat (first | (with_reducible first | exact HB.out | apply below_alloc | apply pw_below_drewN | apply below_drew1 | refine below_set ?_ GE122.out | refine below_set ?_ GE126.out) | exact HB.out)) hb); clear HO_4; clear BK122; clear BK126; clear HB; have HO_4 := n0_; have BK122 := n1_; have BK126 := n2_; have HB := n3_; clear n0_ n1_ n2_ n3_; (try clear hb); (try clear hb2); (try clear hk); (try clear hi)) | ((with_reducible refine gate_dst (N := 6) rfl ?_); (try (refine gate_guard (by rfl) ?_; dsimp only)); refine box_event ?hg (N := 6) ?hd (cs := #[.int .i64 0, .int .u64 0, .int .u64 0]) (t := 24) ?hr ?_; (case hd => rfl); (case hg => rfl); (case hr => first | (go_simp; done) | (go_simp; rfl)); intro gb134 hg w111 hbox hb; have n0_ := Aside0.mk (Kd.R_below (by (with_reducible repeat (first | apply Kd.R_alloc | apply Kd.R_drewN | apply Kd.R_drew)); exact HO_4.out) hb); have n1_ := Aside0.mk (blk_below (g := gb122) (o := .cells #[.int .i64 a0_0, .int .u64 a0_1, .int .u64 a0_2] 24 (0, 0)) (by (with_reducible repeat (first | refine blk_drewN ?_ _ | refine blk_drew ?_ | refine blk_alloc ?_ _)); exact BK122.out) hb); have n2_ := Aside0.mk (blk_below (g := gb126) (o := .cells #[.int .i64 x127000_2, .int .u64 x127001_2, .int .u64 x127002_2] 24 (0, 0)) (by (with_reducible repeat (first | refine blk_drewN ?_ _ | refine blk_drew ?_ | refine blk_alloc ?_ _)); exact BK126.out) hb); have n3_ := Aside0.mk (below_step (by repeat (first | (with_reducible first | exact HB.out | apply below_alloc | apply pw_below_drewN | apply below_drew1 | refine below_set ?_ GE122.out | refine below_set ?_ GE126.out) | exact HB.out)) hb); have n4_ := Aside0.mk (hbox); have n5_ := Aside0.mk ((by rw [hg]; exact (below_size (by repeat (first | (with_reducible first | exact HB.out | apply below_alloc | apply pw_below_drewN | apply below_drew1 | refine below_set ?_ GE122.out | refine below_set ?_ GE126.out) | exact HB.out))) : w.heap.size ≤ gb134)); have n6_ := Aside0.mk ((by rw [hg]; exact (below_size (by repeat (first | (with_reducible first | exact HB.out | apply below_alloc | apply pw_below_drewN | apply below_drew1 | refine below_set ?_ GE122.out | refine below_set ?_ GE126.out) | exact HB.out))) : w.heap.size ≤ gb134)); have n7_ := Aside0.mk ((by rw [hg]; exact Nat.ne_of_lt (blk_lt (g := gb122) (o := .cells #[.int .i64 a0_0, .int .u64 a0_1, .int .u64 a0_2] 24 (0, 0)) (by (with_reducible repeat (first | refine blk_drewN ?_ _ | refine blk_drew ?_ | refine blk_alloc ?_ _)); exact BK122.out)) : gb122 ≠ gb134)); have n8_ := Aside0.mk ((by rw [hg]; exact Nat.ne_of_gt (blk_lt (g := gb122) (o := .cells #[.int .i64 a0_0, .int .u64 a0_1, .int .u64 a0_2] 24 (0, 0)) (by (with_reducible repeat (first | refine blk_drewN ?_ _ | refine blk_drew ?_ | refine blk_alloc ?_ _)); exact BK122.out)) : gb134 ≠ gb122)); have n9_ := Aside0.mk ((by rw [hg]; exact Nat.ne_of_lt (blk_lt (g := gb126) (o := .cells #[.int .i64 x127000_2, .int .u64 x127001_2, .int .u64 x127002_2] 24 (0, 0)) (by (with_reducible repeat (first | refine blk_drewN ?_ _ | refine blk_drew ?_ | refine blk_alloc ?_ _)); exact BK126.out)) : gb126 ≠ gb134)); have n10_ := Aside0.mk ((by rw [hg]; exact Nat.ne_of_gt (blk_lt (g := gb126) (o := .cells #[.int .i64 x127000_2, .int .u64 x127001_2, .int .u64 x127002_2] 24 (0, 0)) (by (with_reducible repeat (first | refine blk_drewN ?_ _ | refine blk_drew ?_ | refine blk_alloc ?_ _)); exact BK126.out)) : gb134 ≠ gb126)); clear HO_4; clear BK122; clear BK126; clear HB; have HO_4 := n0_; have BK122 := n1_; have BK126 := n2_; have HB := n3_; have BK134 := n4_; have GW134 := n5_; have GE134 := n6_; have NB122_134 := n7_; have NB134_122 := n8_; have NB126_134 := n9_; have NB134_126 := n10_; clear n0_ n1_ n2_ n3_ n4_ n5_ n6_ n7_ n8_ n9_ n10_; clear hb hbox hg; have hnb112 := NB134_122.out; have hnc112 := NB122_134.out; have hnb113 := NB134_126.out; have hnc113 := NB126_134.out; have hcz114_0 : w111.cell? ⟨gb134, 0, none⟩ = some (.int .i64 0) := (blk_cell BK134.out 0).trans rfl; have hcz114_1 : w111.cell? ⟨gb134, 1, none⟩ = some (.int .u64 0) := (blk_cell BK134.out 1).trans rfl; have hcz114_2 : w111.cell? ⟨gb134, 2, none⟩ = some (.int .u64 0) := (blk_cell BK134.out 2).trans rfl; have hfz114_0 := blk_frozen BK134.out 0; have hfz114_1 := blk_frozen BK134.out 1; have hfz114_2 := blk_frozen BK134.out 2))
                    go_ret
                    exact ⟨by first | rfl | (simp [errW_none, errW_some] <;> rfl) | (simp [*, errW_none, errW_some] <;> rfl), by repeat (first | (with_reducible first | exact HB.out | apply below_alloc | apply pw_below_drewN | apply below_drew1 | refine below_set ?_ GE122.out | refine below_set ?_ GE126.out | refine below_set ?_ GE134.out) | exact HB.out)⟩
                · replace c24 := Bool.eq_false_iff.mpr c24
                  subst c24
                  have H1 : ((asid_Free.f a0_0 a0_1 a0_2).bind fun t142 => (if (x4_2.length : Int) = t142 then (atlaslaw18_AsidAll.l1 kj17 x4_2 0 a0_0 a0_1 a0_2 x127000_2 x127001_2 x127002_2) else (some false))) = some r := by rw [if_neg (show ¬ (false = true) by decide)] at H; exact H
                  clear H
                  have H := H1
                  clear H1
                  replace H := Option.bind_eq_some_iff.mp H
                  obtain ⟨t142, A1150, H⟩ := H
                  replace H : (if (x4_2.length : Int) = t142 then (atlaslaw18_AsidAll.l1 kj17 x4_2 0 a0_0 a0_1 a0_2 x127000_2 x127001_2 x127002_2) else (some false)) = some r := H
                  have A115 := Aside0.mk A1150
                  clear A1150
                  by_cases c116 : (x4_2.length : Int) = t142
                  · rw [if_pos c116] at H
                    have c116b0 : ((x4_2.length : Int) == t142) = true := beq_iff_eq.mpr c116
                    have c116b1 : ((x4_2.length : Int) != t142) = false := bne_eq_false_iff_eq.mpr c116
                    clear c116
                    have H' := Aside0.mk H
                    clear H
                    obtain ⟨Ao117, co117, eo117⟩ := Kd.R_slice HO_4.out
                    subst eo117
                    have hnb118 := NB122_126.out
                    have hnc118 := NB126_122.out
                    have hcz119_0 : wc.cell? ⟨gb122, 0, none⟩ = some (.int .i64 a0_0) := (blk_cell BK122.out 0).trans rfl
                    have hcz119_1 : wc.cell? ⟨gb122, 1, none⟩ = some (.int .u64 a0_1) := (blk_cell BK122.out 1).trans rfl
                    have hcz119_2 : wc.cell? ⟨gb122, 2, none⟩ = some (.int .u64 a0_2) := (blk_cell BK122.out 2).trans rfl
                    have hfz119_0 := blk_frozen BK122.out 0
                    have hfz119_1 := blk_frozen BK122.out 1
                    have hfz119_2 := blk_frozen BK122.out 2
                    go_wp2_with (first | ((with_reducible refine gate_callee (f := 15) rfl ?_); refine goesL_ (some 82) rfl rfl Tryd.func15 (by kernel_rfl) rfl #[.agg #[.int .i64 a0_0, .int .u64 a0_1, .int .u64 a0_2]] rfl (by (try simp only [List.map_toArray, List.map_cons, List.map_nil]); first | done | rfl | (simp only [List.length_drop, List.length_take]; rfl)) ?_; (with_reducible refine (asid_Free.calls a0_0 a0_1 a0_2 t142 _ A115.out).mono ?_); rintro e w120 ⟨rfl, hb⟩; refine ⟨_, rfl, ?_⟩; have n0_ := Aside0.mk (Kd.R_below (by (with_reducible repeat (first | apply Kd.R_alloc | apply Kd.R_drewN | apply Kd.R_drew)); exact HO_4.out) hb); have n1_ := Aside0.mk (blk_below (g := gb122) (o := .cells #[.int .i64 a0_0, .int .u64 a0_1, .int .u64 a0_2] 24 (0, 0)) (by (with_reducible repeat (first | refine blk_drewN ?_ _ | refine blk_drew ?_ | refine blk_alloc ?_ _)); exact BK122.out) hb); have n2_ := Aside0.mk (blk_below (g := gb126) (o := .cells #[.int .i64 x127000_2, .int .u64 x127001_2, .int .u64 x127002_2] 24 (0, 0)) (by (with_reducible repeat (first | refine blk_drewN ?_ _ | refine blk_drew ?_ | refine blk_alloc ?_ _)); exact BK126.out) hb); have n3_ := Aside0.mk (below_step (by repeat (first | (with_reducible first | exact HB.out | apply below_alloc | apply pw_below_drewN | apply below_drew1 | refine below_set ?_ GE122.out | refine below_set ?_ GE126.out) | exact HB.out)) hb); clear HO_4; clear BK122; clear BK126; clear HB; have HO_4 := n0_; have BK122 := n1_; have BK126 := n2_; have HB := n3_; clear n0_ n1_ n2_ n3_; (try clear hb); (try clear hb2); (try clear hk); (try clear hi)))
                    go_loopg [10] kj17 (fun kq v10 w' => ∃ (x10_4 : Int) (x127000_4 : Int) (x127001_4 : Int) (x127002_4 : Int), v10 = .int .i64 x10_4 ∧ Aside0 (atlaslaw18_AsidAll.l1 kq x4_2 x10_4 a0_0 a0_1 a0_2 x127000_4 x127001_4 x127002_4 = some r) ∧ Aside0 (kq ≤ kj17) ∧ Aside0 (Kd.R (Kd.int .u64) 22 w' w.heap.size (fun _ => True) (.slice Ao117 x4_2.length co117) x4_2) ∧ Aside0 (w'.heap[gb122]? = some (.cells #[.int .i64 a0_0, .int .u64 a0_1, .int .u64 a0_2] 24 (0, 0))) ∧ Aside0 (w'.heap[gb126]? = some (.cells #[.int .i64 x127000_4, .int .u64 x127001_4, .int .u64 x127002_4] 24 (0, 0))) ∧ Aside0 (Below w.heap.size w w'))
                    case atStart => exact ⟨(0), (x127000_2), (x127001_2), (x127002_2), (by first | rfl | (simp; done) | (simp [*]; done)), H', ⟨Nat.le_refl _⟩, ⟨by (with_reducible repeat (first | apply Kd.R_alloc | apply Kd.R_drewN | apply Kd.R_drew)); exact HO_4.out⟩, ⟨by (with_reducible repeat (first | refine blk_drewN ?_ _ | refine blk_drew ?_ | refine blk_alloc ?_ _)); exact BK122.out⟩, ⟨by (with_reducible repeat (first | refine blk_drewN ?_ _ | refine blk_drew ?_ | refine blk_alloc ?_ _)); exact BK126.out⟩, ⟨by repeat (first | (with_reducible first | exact HB.out | apply below_alloc | apply pw_below_drewN | apply below_drew1 | refine below_set ?_ GE122.out | refine below_set ?_ GE126.out) | exact HB.out)⟩⟩
                    case round =>
                      clear H'
                      try clear c1
                      try clear p1
                      try clear q1
                      try clear hx1
                      try clear c2
                      try clear p2
                      try clear c3
                      try clear c4
                      try clear c5
                      try clear c6
                      try clear p6
                      try clear c7
                      try clear c8
                      try clear c9
                      try clear c10
                      try clear c11
                      try clear p13
                      try clear q13
                      try clear hx13
                      try clear c15
                      try clear c16
                      try clear c19
                      try clear c19b0
                      try clear c21
                      try clear c24
                      try clear c26
                      try clear c26b0
                      try clear c26b1
                      try clear c27
                      try clear c27b0
                      try clear c28
                      try clear c32
                      try clear c33
                      try clear c35
                      try clear c35b0
                      try clear c36
                      try clear c40
                      try clear c41
                      try clear c43
                      try clear c43b0
                      try clear c43b1
                      try clear c45
                      try clear c45b0
                      try clear c46
                      try clear c46b0
                      try clear c47
                      try clear c47b0
                      try clear c48
                      try clear c52
                      try clear c53
                      try clear c57
                      try clear c57b0
                      try clear c57b1
                      try clear c59
                      try clear c59b0
                      try clear c59b1
                      try clear c59b2
                      try clear c60
                      try clear c64
                      try clear p64
                      try clear c65
                      try clear c69
                      try clear c70
                      try clear c74
                      try clear c75
                      try clear c83
                      try clear c83b0
                      try clear c83b1
                      try clear c85
                      try clear c85b0
                      try clear c85b1
                      try clear c85b2
                      try clear c86
                      try clear c90
                      try clear c91
                      try clear c95
                      try clear c96
                      try clear c100
                      try clear c101
                      try clear c108
                      try clear c112
                      try clear c113
                      try clear c116
                      try clear c116b0
                      try clear c116b1
                      try clear c118
                      try clear hcz102_0
                      try clear hcz102_1
                      try clear hcz102_2
                      try clear hcz104_0
                      try clear hcz104_1
                      try clear hcz104_2
                      try clear hcz106_0
                      try clear hcz106_1
                      try clear hcz106_2
                      try clear hcz107_0
                      try clear hcz107_1
                      try clear hcz107_2
                      try clear hcz109_0
                      try clear hcz109_1
                      try clear hcz109_2
                      try clear hcz114_0
                      try clear hcz114_1
                      try clear hcz114_2
                      try clear hcz119_0
                      try clear hcz119_1
                      try clear hcz119_2
                      try clear hcz14_0
                      try clear hcz14_1
                      try clear hcz14_2
                      try clear hcz17_0
                      try clear hcz17_1
                      try clear hcz17_2
                      try clear hcz22_0
                      try clear hcz22_1
                      try clear hcz22_2
                      try clear hcz29_0
                      try clear hcz29_1
                      try clear hcz29_2
                      try clear hcz34_0
                      try clear hcz34_1
                      try clear hcz34_2
                      try clear hcz37_0
                      try clear hcz37_1
                      try clear hcz37_2
                      try clear hcz42_0
                      try clear hcz42_1
                      try clear hcz42_2
                      try clear hcz49_0
                      try clear hcz49_1
                      try clear hcz49_2
                      try clear hcz54_0
                      try clear hcz54_1
                      try clear hcz54_2
                      try clear hcz61_0
                      try clear hcz61_1
                      try clear hcz61_2
                      try clear hcz66_0
                      try clear hcz66_1
                      try clear hcz66_2
                      try clear hcz68_0
                      try clear hcz68_1
                      try clear hcz68_2
                      try clear hcz71_0
                      try clear hcz71_1
                      try clear hcz71_2
                      try clear hcz76_0
                      try clear hcz76_1
                      try clear hcz76_2
                      try clear hcz78_0
                      try clear hcz78_1
                      try clear hcz78_2
                      try clear hcz80_0
                      try clear hcz80_1
                      try clear hcz80_2
                      try clear hcz81_0
                      try clear hcz81_1
                      try clear hcz81_2
                      try clear hcz87_0
                      try clear hcz87_1
                      try clear hcz87_2
                      try clear hcz8_0
                      try clear hcz8_1
                      try clear hcz8_2
                      try clear hcz92_0
                      try clear hcz92_1
                      try clear hcz92_2
                      try clear hcz94_0
                      try clear hcz94_1
                      try clear hcz94_2
                      try clear hcz97_0
                      try clear hcz97_1
                      try clear hcz97_2
                      try clear hfz102_0
                      try clear hfz102_1
                      try clear hfz102_2
                      try clear hfz104_0
                      try clear hfz104_1
                      try clear hfz104_2
                      try clear hfz106_0
                      try clear hfz106_1
                      try clear hfz106_2
                      try clear hfz107_0
                      try clear hfz107_1
                      try clear hfz107_2
                      try clear hfz109_0
                      try clear hfz109_1
                      try clear hfz109_2
                      try clear hfz114_0
                      try clear hfz114_1
                      try clear hfz114_2
                      try clear hfz119_0
                      try clear hfz119_1
                      try clear hfz119_2
                      try clear hfz14_0
                      try clear hfz14_1
                      try clear hfz14_2
                      try clear hfz17_0
                      try clear hfz17_1
                      try clear hfz17_2
                      try clear hfz22_0
                      try clear hfz22_1
                      try clear hfz22_2
                      try clear hfz29_0
                      try clear hfz29_1
                      try clear hfz29_2
                      try clear hfz34_0
                      try clear hfz34_1
                      try clear hfz34_2
                      try clear hfz37_0
                      try clear hfz37_1
                      try clear hfz37_2
                      try clear hfz42_0
                      try clear hfz42_1
                      try clear hfz42_2
                      try clear hfz49_0
                      try clear hfz49_1
                      try clear hfz49_2
                      try clear hfz54_0
                      try clear hfz54_1
                      try clear hfz54_2
                      try clear hfz61_0
                      try clear hfz61_1
                      try clear hfz61_2
                      try clear hfz66_0
                      try clear hfz66_1
                      try clear hfz66_2
                      try clear hfz68_0
                      try clear hfz68_1
                      try clear hfz68_2
                      try clear hfz71_0
                      try clear hfz71_1
                      try clear hfz71_2
                      try clear hfz76_0
                      try clear hfz76_1
                      try clear hfz76_2
                      try clear hfz78_0
                      try clear hfz78_1
                      try clear hfz78_2
                      try clear hfz80_0
                      try clear hfz80_1
                      try clear hfz80_2
                      try clear hfz81_0
                      try clear hfz81_1
                      try clear hfz81_2
                      try clear hfz87_0
                      try clear hfz87_1
                      try clear hfz87_2
                      try clear hfz8_0
                      try clear hfz8_1
                      try clear hfz8_2
                      try clear hfz92_0
                      try clear hfz92_1
                      try clear hfz92_2
                      try clear hfz94_0
                      try clear hfz94_1
                      try clear hfz94_2
                      try clear hfz97_0
                      try clear hfz97_1
                      try clear hfz97_2
                      try clear hx135_0
                      try clear p135
                      try clear p2
                      try clear q135
                      obtain ⟨x10_4, x127000_4, x127001_4, x127002_4, rfl, HA, HK4, HO_4, BK122, BK126, HB⟩ := hrel
                      cases gk with
                      | zero => exact absurd HA.out (by simp [atlaslaw18_AsidAll.l1])
                      | succ k4 =>
                        have H := HA.out
                        clear HA
                        simp only [atlaslaw18_AsidAll.l1] at H
                        by_cases c121 : x10_4 < (x4_2.length : Int)
                        · rw [if_pos c121] at H
                          have c121b0 : decide (x10_4 < (x4_2.length : Int)) = true := decide_eq_true c121
                          clear c121
                          by_cases c122 : 0 ≤ x10_4
                          · rw [if_pos c122] at H
                            have c122b0 : decide (0 ≤ x10_4) = true := decide_eq_true c122
                            clear c122
                            replace H := Option.bind_eq_some_iff.mp H
                            obtain ⟨⟨t144, t145, t146, t147⟩, A1230, H⟩ := H
                            replace H : (if t147 = 0 then (atlaslaw18_AsidAll.l1 k4 x4_2 (wrap64 (x10_4 + 1)) a0_0 a0_1 a0_2 t144 t145 t146) else (some false)) = some r := H
                            have A123 := Aside0.mk A1230
                            clear A1230
                            by_cases c124 : t147 = 0
                            · rw [if_pos c124] at H
                              have c124b0 : (t147 == 0) = true := beq_iff_eq.mpr c124
                              have c124b1 : (t147 != 0) = false := bne_eq_false_iff_eq.mpr c124
                              clear c124
                              have H' := Aside0.mk H
                              clear H
                              try go_wp2
                              have n0_ := Aside0.mk (Kd.R_drew HO_4.out)
                              have n1_ := Aside0.mk (blk_drew BK122.out)
                              have n2_ := Aside0.mk (blk_drew BK126.out)
                              have n3_ := Aside0.mk (below_drew1 HB.out)
                              clear HO_4
                              clear BK122
                              clear BK126
                              clear HB
                              have HO_4 := n0_
                              have BK122 := n1_
                              have BK126 := n2_
                              have HB := n3_
                              clear n0_ n1_ n2_ n3_
                              have p143 : 0 ≤ (x10_4 : Int) := of_decide_eq_true (by first | (with_reducible assumption) | assumption)
                              have q143 : x10_4 < (x4_2.length : Int) := of_decide_eq_true (by first | (with_reducible assumption) | assumption)
                              obtain ⟨ad143, e143, hx143_0⟩ := Kd.at_int (Kd.R_reads' HO_4.out).2.2 x10_4 p143 q143
                              cases e143
                              replace p143 := eq_true p143
                              replace q143 := eq_true q143
                              refine start_ (n := 12) (S := fun w' => w'.cell? ⟨gb126, 0, none⟩ = some (.int .i64 x127000_4) ∧ w'.cell? ⟨gb126, 1, none⟩ = some (.int .u64 x127001_4) ∧ w'.cell? ⟨gb126, 2, none⟩ = some (.int .u64 x127002_4) ∧ w'.cell? (ad143.add (x10_4).toNat) = some (.int .u64 (rd x4_2 x10_4))) (ds := []) #[false, false, false, false, false, false, false, false, false, false, false, false] (by kernel_rfl) rfl rfl ⟨(blk_cell BK126.out 0).trans rfl, (blk_cell BK126.out 1).trans rfl, (blk_cell BK126.out 2).trans rfl, hx143_0⟩ (fun hHeld => ?_); refine with_tabW atlaslaw18_AsidAll.tab18 atlaslaw18_AsidAll.bits18 (fun HT_ HW_ => ?_)
                              generalize wr.drew = w125 at HO_4 BK122 BK126 HB hx143_0 hHeld ⊢
                              refine pure_ (i := 1) (N := some 92) (v := ?_) (a' := ?_) #[false, true, false, false, false, false, false, false, false, false, false, false] rfl rfl (any_of HT_.out (by kernel_rfl)) (fun _ _ _ h => h) (Or.inl ⟨by rfl, ?_⟩) ?_ ?_
                              rotate_left
                              · intro w'
                                go_simp
                                with_reducible rfl
                              rotate_left
                              · simp only [Act.put, List.setIfInBounds_toArray, List.set_cons_zero, List.set_cons_succ, i64_w, i32_w]
                                rfl
                              refine pure_ (i := 2) (N := some 93) (v := ?_) (a' := ?_) #[false, true, true, false, false, false, false, false, false, false, false, false] rfl rfl (any_of HT_.out (by kernel_rfl)) (fun _ _ _ h => h) (Or.inl ⟨by rfl, ?_⟩) ?_ ?_
                              rotate_left
                              · intro w'
                                go_simp
                                with_reducible rfl
                              rotate_left
                              · simp only [Act.put, List.setIfInBounds_toArray, List.set_cons_zero, List.set_cons_succ, i64_w, i32_w]
                                rfl
                              refine pure_ (i := 3) (N := some 94) (v := ?_) (a' := ?_) #[false, true, true, true, false, false, false, false, false, false, false, false] rfl rfl (any_of HT_.out (by kernel_rfl)) (fun _ _ _ h => h) (Or.inl ⟨by rfl, ?_⟩) ?_ ?_
                              rotate_left
                              · intro w'
                                go_simp
                                with_reducible rfl
                              rotate_left
                              · simp only [Act.put, List.setIfInBounds_toArray, List.set_cons_zero, List.set_cons_succ, i64_w, i32_w]
                                rfl
                              refine take_ (i := 0) (N := some 91) (v := ?_) (a' := ?_) #[true, true, true, true, false, false, false, false, false, false, false, false] rfl rfl (take_ofW HT_.out HW_.out (by kernel_rfl)) (fun _ _ _ h => h) (Or.inl ⟨by rfl, ?_⟩) hHeld ?_ ?_
                              rotate_left
                              · rintro w' ⟨s0, s1, s2, s3⟩
                                go_simp
                                with_reducible rfl
                              rotate_left
                              · simp only [Act.put, List.setIfInBounds_toArray, List.set_cons_zero, List.set_cons_succ, i64_w, i32_w]
                                rfl
                              refine take_ (i := 4) (N := some 95) (v := ?_) (a' := ?_) #[true, true, true, true, true, false, false, false, false, false, false, false] rfl rfl (take_ofW HT_.out HW_.out (by kernel_rfl)) (fun _ _ _ h => h) (Or.inl ⟨by rfl, ?_⟩) hHeld ?_ ?_
                              rotate_left
                              · rintro w' ⟨s0, s1, s2, s3⟩
                                go_simp
                                with_reducible rfl
                              rotate_left
                              · simp only [Act.put, List.setIfInBounds_toArray, List.set_cons_zero, List.set_cons_succ, i64_w, i32_w]
                                rfl
                              refine join_ (σ := Nat) 2 #[true, true, true, true, true, true, true, true, true, true, false, false] (fun s_ => [(96, .tuple #[.agg #[.int .i64 t144, .int .u64 t145, .int .u64 t146], .int .i64 t147]), (11, .pointer (some ⟨s_, 0, none⟩)), (90, .tuple #[.agg #[.int .i64 t144, .int .u64 t145, .int .u64 t146], .int .i64 t147]), (97, .agg #[.int .i64 t144, .int .u64 t145, .int .u64 t146]), (98, .int .i64 t147)]) (fun s_ w' => (w'.cell? ⟨gb126, 0, none⟩ = some (.int .i64 x127000_4) ∧ w'.cell? ⟨gb126, 1, none⟩ = some (.int .u64 x127001_4) ∧ w'.cell? ⟨gb126, 2, none⟩ = some (.int .u64 x127002_4) ∧ w'.cell? (ad143.add (x10_4).toNat) = some (.int .u64 (rd x4_2 x10_4))) ∧ (Kd.R (Kd.int .u64) 22 w' w.heap.size (fun _ => True) (.slice (some ad143) x4_2.length co117) x4_2) ∧ (w'.heap[gb122]? = some (.cells #[.int .i64 a0_0, .int .u64 a0_1, .int .u64 a0_2] 24 (0, 0))) ∧ (w'.heap[gb126]? = some (.cells #[.int .i64 x127000_4, .int .u64 x127001_4, .int .u64 x127002_4] 24 (0, 0))) ∧ (w'.heap[s_]? = some (.cells #[.int .i64 0, .int .u64 0, .int .u64 0] 24 (0, 0))) ∧ (w.heap.size ≤ s_) ∧ (w.heap.size ≤ s_) ∧ (gb122 ≠ s_) ∧ (s_ ≠ gb122) ∧ (gb126 ≠ s_) ∧ (s_ ≠ gb126) ∧ (Below w.heap.size w w')) ?_ ?_
                              rotate_left
                              · intro hCont
                                refine two_ (i := 5) (j := 9) (Ni := some 96) (Nj := some 11) #[true, true, true, true, true, true, false, false, false, false, false, false] #[true, true, true, true, true, false, false, false, false, true, false, false] rfl rfl rfl rfl (two_of HT_.out (by kernel_rfl)) (by decide) (by decide) (fun K hK => ?_) (fun K hK => ?_)
                                · skip
                                  refine goes_ Tryd.func13 (by kernel_rfl) rfl #[.agg #[.int .i64 x127000_4, .int .u64 x127001_4, .int .u64 x127002_4], .int .u64 (rd x4_2 x10_4)] (by rfl) rfl rfl (by (try simp only [List.map_toArray, List.map_cons, List.map_nil]); first | done | rfl | (simp only [List.length_drop, List.length_take]; rfl)) ?_
                                  with_reducible refine (asid_Give.calls x127000_4 x127001_4 x127002_4 (rd x4_2 x10_4) t144 t145 t146 t147 _ A123.out).mono ?_
                                  rintro e w126 ⟨rfl, hb⟩
                                  have HS3_ := (hb.cell (World.block_lt_of_cell? _ _ (hHeld.2.2.2))).trans (hHeld.2.2.2)
                                  refine ⟨_, rfl, ?_⟩
                                  have n0_ := Aside0.mk (Kd.R_below (by (with_reducible repeat (first | apply Kd.R_alloc | apply Kd.R_drewN | apply Kd.R_drew)); exact HO_4.out) hb)
                                  have n1_ := Aside0.mk (blk_below (g := gb122) (o := .cells #[.int .i64 a0_0, .int .u64 a0_1, .int .u64 a0_2] 24 (0, 0)) (by (with_reducible repeat (first | refine blk_drewN ?_ _ | refine blk_drew ?_ | refine blk_alloc ?_ _)); exact BK122.out) hb)
                                  have n2_ := Aside0.mk (blk_below (g := gb126) (o := .cells #[.int .i64 x127000_4, .int .u64 x127001_4, .int .u64 x127002_4] 24 (0, 0)) (by (with_reducible repeat (first | refine blk_drewN ?_ _ | refine blk_drew ?_ | refine blk_alloc ?_ _)); exact BK126.out) hb)
                                  have n3_ := Aside0.mk (below_step (by repeat (first | (with_reducible first | exact HB.out | apply below_alloc | apply pw_below_drewN | apply below_drew1 | refine below_set ?_ GE122.out | refine below_set ?_ GE126.out) | exact HB.out)) hb)
                                  clear HO_4
                                  clear BK122
                                  clear BK126
                                  clear HB
                                  have HO_4 := n0_
                                  have BK122 := n1_
                                  have BK126 := n2_
                                  have HB := n3_
                                  clear n0_ n1_ n2_ n3_
                                  (try clear hb)
                                  (try clear hb2)
                                  (try clear hk)
                                  (try clear hi)
                                  refine hK.out _ _ ⟨(blk_cell BK126.out 0).trans rfl, (blk_cell BK126.out 1).trans rfl, (blk_cell BK126.out 2).trans rfl, HS3_⟩ (fun hHeld => ?_)
                                  clear hK K
                                  refine norm_ (a' := ?_) ?_ ?_
                                  rotate_left
                                  · show Act.put _ (some 96) _ = _
                                    simp only [Act.put, List.setIfInBounds_toArray, List.set_cons_zero, List.set_cons_succ, i64_w, i32_w]
                                    rfl
                                  refine pure_ (i := 6) (N := some 90) (v := ?_) (a' := ?_) #[true, true, true, true, true, true, true, false, false, false, false, false] rfl rfl (any_of HT_.out (by kernel_rfl)) (fun _ _ _ h => h) (Or.inl ⟨by rfl, ?_⟩) ?_ ?_
                                  rotate_left
                                  · intro w'
                                    go_simp
                                    with_reducible rfl
                                  rotate_left
                                  · simp only [Act.put, List.setIfInBounds_toArray, List.set_cons_zero, List.set_cons_succ, i64_w, i32_w]
                                    rfl
                                  refine pure_ (i := 7) (N := some 97) (v := ?_) (a' := ?_) #[true, true, true, true, true, true, true, true, false, false, false, false] rfl rfl (any_of HT_.out (by kernel_rfl)) (fun _ _ _ h => h) (Or.inl ⟨by rfl, ?_⟩) ?_ ?_
                                  rotate_left
                                  · intro w'
                                    go_simp
                                    with_reducible rfl
                                  rotate_left
                                  · simp only [Act.put, List.setIfInBounds_toArray, List.set_cons_zero, List.set_cons_succ, i64_w, i32_w]
                                    rfl
                                  refine pure_ (i := 8) (N := some 98) (v := ?_) (a' := ?_) #[true, true, true, true, true, true, true, true, true, false, false, false] rfl rfl (any_of HT_.out (by kernel_rfl)) (fun _ _ _ h => h) (Or.inl ⟨by rfl, ?_⟩) ?_ ?_
                                  rotate_left
                                  · intro w'
                                    go_simp
                                    with_reducible rfl
                                  rotate_left
                                  · simp only [Act.put, List.setIfInBounds_toArray, List.set_cons_zero, List.set_cons_succ, i64_w, i32_w]
                                    rfl
                                  refine one_ (i := 9) (N := some 11) #[true, true, true, true, true, true, true, true, true, true, false, false] rfl rfl (one_of HT_.out (by kernel_rfl)) (by decide) (fun K hK => ?_)
                                  refine box_step ?hg (N := 11) ?hd (cs := #[.int .i64 0, .int .u64 0, .int .u64 0]) (t := 24) ?hr ?_; (case hd => rfl); (case hg => rfl); (case hr => first | (go_simp; done) | (go_simp; rfl))
                                  intro gb148 hg w127 hbox hb
                                  have HS3_ := (hb.cell (World.block_lt_of_cell? _ _ (hHeld.2.2.2))).trans (hHeld.2.2.2)
                                  have n0_ := Aside0.mk (Kd.R_below (by (with_reducible repeat (first | apply Kd.R_alloc | apply Kd.R_drewN | apply Kd.R_drew)); exact HO_4.out) hb)
                                  have n1_ := Aside0.mk (blk_below (g := gb122) (o := .cells #[.int .i64 a0_0, .int .u64 a0_1, .int .u64 a0_2] 24 (0, 0)) (by (with_reducible repeat (first | refine blk_drewN ?_ _ | refine blk_drew ?_ | refine blk_alloc ?_ _)); exact BK122.out) hb)
                                  have n2_ := Aside0.mk (blk_below (g := gb126) (o := .cells #[.int .i64 x127000_4, .int .u64 x127001_4, .int .u64 x127002_4] 24 (0, 0)) (by (with_reducible repeat (first | refine blk_drewN ?_ _ | refine blk_drew ?_ | refine blk_alloc ?_ _)); exact BK126.out) hb)
                                  have n3_ := Aside0.mk (below_step (by repeat (first | (with_reducible first | exact HB.out | apply below_alloc | apply pw_below_drewN | apply below_drew1 | refine below_set ?_ GE122.out | refine below_set ?_ GE126.out) | exact HB.out)) hb)
                                  have n4_ := Aside0.mk (hbox)
                                  have n5_ := Aside0.mk ((by rw [hg]; exact (below_size (by repeat (first | (with_reducible first | exact HB.out | apply below_alloc | apply pw_below_drewN | apply below_drew1 | refine below_set ?_ GE122.out | refine below_set ?_ GE126.out) | exact HB.out))) : w.heap.size ≤ gb148))
                                  have n6_ := Aside0.mk ((by rw [hg]; exact (below_size (by repeat (first | (with_reducible first | exact HB.out | apply below_alloc | apply pw_below_drewN | apply below_drew1 | refine below_set ?_ GE122.out | refine below_set ?_ GE126.out) | exact HB.out))) : w.heap.size ≤ gb148))
                                  have n7_ := Aside0.mk ((by rw [hg]; exact Nat.ne_of_lt (blk_lt (g := gb122) (o := .cells #[.int .i64 a0_0, .int .u64 a0_1, .int .u64 a0_2] 24 (0, 0)) (by (with_reducible repeat (first | refine blk_drewN ?_ _ | refine blk_drew ?_ | refine blk_alloc ?_ _)); exact BK122.out)) : gb122 ≠ gb148))
                                  have n8_ := Aside0.mk ((by rw [hg]; exact Nat.ne_of_gt (blk_lt (g := gb122) (o := .cells #[.int .i64 a0_0, .int .u64 a0_1, .int .u64 a0_2] 24 (0, 0)) (by (with_reducible repeat (first | refine blk_drewN ?_ _ | refine blk_drew ?_ | refine blk_alloc ?_ _)); exact BK122.out)) : gb148 ≠ gb122))
                                  have n9_ := Aside0.mk ((by rw [hg]; exact Nat.ne_of_lt (blk_lt (g := gb126) (o := .cells #[.int .i64 x127000_4, .int .u64 x127001_4, .int .u64 x127002_4] 24 (0, 0)) (by (with_reducible repeat (first | refine blk_drewN ?_ _ | refine blk_drew ?_ | refine blk_alloc ?_ _)); exact BK126.out)) : gb126 ≠ gb148))
                                  have n10_ := Aside0.mk ((by rw [hg]; exact Nat.ne_of_gt (blk_lt (g := gb126) (o := .cells #[.int .i64 x127000_4, .int .u64 x127001_4, .int .u64 x127002_4] 24 (0, 0)) (by (with_reducible repeat (first | refine blk_drewN ?_ _ | refine blk_drew ?_ | refine blk_alloc ?_ _)); exact BK126.out)) : gb148 ≠ gb126))
                                  clear HO_4
                                  clear BK122
                                  clear BK126
                                  clear HB
                                  have HO_4 := n0_
                                  have BK122 := n1_
                                  have BK126 := n2_
                                  have HB := n3_
                                  have BK148 := n4_
                                  have GW148 := n5_
                                  have GE148 := n6_
                                  have NB122_148 := n7_
                                  have NB148_122 := n8_
                                  have NB126_148 := n9_
                                  have NB148_126 := n10_
                                  clear n0_ n1_ n2_ n3_ n4_ n5_ n6_ n7_ n8_ n9_ n10_
                                  clear hb hbox hg
                                  refine hK.out _ _ ⟨(blk_cell BK126.out 0).trans rfl, (blk_cell BK126.out 1).trans rfl, (blk_cell BK126.out 2).trans rfl, HS3_⟩ (fun hHeld => ?_)
                                  clear hK K
                                  refine norm_ (a' := ?_) ?_ ?_
                                  rotate_left
                                  · show Act.put _ (some 11) _ = _
                                    simp only [Act.put, List.setIfInBounds_toArray, List.set_cons_zero, List.set_cons_succ, i64_w, i32_w]
                                    rfl
                                  exact norm_ (by simp only [putAll, Act.put, List.setIfInBounds_toArray, List.set_cons_zero, List.set_cons_succ]) (hCont (gb148) _ ⟨hHeld, (by (with_reducible repeat (first | apply Kd.R_alloc | apply Kd.R_drewN | apply Kd.R_drew)); exact HO_4.out), (by (with_reducible repeat (first | refine blk_drewN ?_ _ | refine blk_drew ?_ | refine blk_alloc ?_ _)); exact BK122.out), (by (with_reducible repeat (first | refine blk_drewN ?_ _ | refine blk_drew ?_ | refine blk_alloc ?_ _)); exact BK126.out), (by (with_reducible repeat (first | refine blk_drewN ?_ _ | refine blk_drew ?_ | refine blk_alloc ?_ _)); exact BK148.out), GW148.out, GE148.out, NB122_148.out, NB148_122.out, NB126_148.out, NB148_126.out, (by repeat (first | (with_reducible first | exact HB.out | apply below_alloc | apply pw_below_drewN | apply below_drew1 | refine below_set ?_ GE122.out | refine below_set ?_ GE126.out | refine below_set ?_ GE148.out) | exact HB.out))⟩)
                                · skip
                                  refine box_step ?hg (N := 11) ?hd (cs := #[.int .i64 0, .int .u64 0, .int .u64 0]) (t := 24) ?hr ?_; (case hd => rfl); (case hg => rfl); (case hr => first | (go_simp; done) | (go_simp; rfl))
                                  intro gb148 hg w126 hbox hb
                                  have HS3_ := (hb.cell (World.block_lt_of_cell? _ _ (hHeld.2.2.2))).trans (hHeld.2.2.2)
                                  have n0_ := Aside0.mk (Kd.R_below (by (with_reducible repeat (first | apply Kd.R_alloc | apply Kd.R_drewN | apply Kd.R_drew)); exact HO_4.out) hb)
                                  have n1_ := Aside0.mk (blk_below (g := gb122) (o := .cells #[.int .i64 a0_0, .int .u64 a0_1, .int .u64 a0_2] 24 (0, 0)) (by (with_reducible repeat (first | refine blk_drewN ?_ _ | refine blk_drew ?_ | refine blk_alloc ?_ _)); exact BK122.out) hb)
                                  have n2_ := Aside0.mk (blk_below (g := gb126) (o := .cells #[.int .i64 x127000_4, .int .u64 x127001_4, .int .u64 x127002_4] 24 (0, 0)) (by (with_reducible repeat (first | refine blk_drewN ?_ _ | refine blk_drew ?_ | refine blk_alloc ?_ _)); exact BK126.out) hb)
                                  have n3_ := Aside0.mk (below_step (by repeat (first | (with_reducible first | exact HB.out | apply below_alloc | apply pw_below_drewN | apply below_drew1 | refine below_set ?_ GE122.out | refine below_set ?_ GE126.out) | exact HB.out)) hb)
                                  have n4_ := Aside0.mk (hbox)
                                  have n5_ := Aside0.mk ((by rw [hg]; exact (below_size (by repeat (first | (with_reducible first | exact HB.out | apply below_alloc | apply pw_below_drewN | apply below_drew1 | refine below_set ?_ GE122.out | refine below_set ?_ GE126.out) | exact HB.out))) : w.heap.size ≤ gb148))
                                  have n6_ := Aside0.mk ((by rw [hg]; exact (below_size (by repeat (first | (with_reducible first | exact HB.out | apply below_alloc | apply pw_below_drewN | apply below_drew1 | refine below_set ?_ GE122.out | refine below_set ?_ GE126.out) | exact HB.out))) : w.heap.size ≤ gb148))
                                  have n7_ := Aside0.mk ((by rw [hg]; exact Nat.ne_of_lt (blk_lt (g := gb122) (o := .cells #[.int .i64 a0_0, .int .u64 a0_1, .int .u64 a0_2] 24 (0, 0)) (by (with_reducible repeat (first | refine blk_drewN ?_ _ | refine blk_drew ?_ | refine blk_alloc ?_ _)); exact BK122.out)) : gb122 ≠ gb148))
                                  have n8_ := Aside0.mk ((by rw [hg]; exact Nat.ne_of_gt (blk_lt (g := gb122) (o := .cells #[.int .i64 a0_0, .int .u64 a0_1, .int .u64 a0_2] 24 (0, 0)) (by (with_reducible repeat (first | refine blk_drewN ?_ _ | refine blk_drew ?_ | refine blk_alloc ?_ _)); exact BK122.out)) : gb148 ≠ gb122))
                                  have n9_ := Aside0.mk ((by rw [hg]; exact Nat.ne_of_lt (blk_lt (g := gb126) (o := .cells #[.int .i64 x127000_4, .int .u64 x127001_4, .int .u64 x127002_4] 24 (0, 0)) (by (with_reducible repeat (first | refine blk_drewN ?_ _ | refine blk_drew ?_ | refine blk_alloc ?_ _)); exact BK126.out)) : gb126 ≠ gb148))
                                  have n10_ := Aside0.mk ((by rw [hg]; exact Nat.ne_of_gt (blk_lt (g := gb126) (o := .cells #[.int .i64 x127000_4, .int .u64 x127001_4, .int .u64 x127002_4] 24 (0, 0)) (by (with_reducible repeat (first | refine blk_drewN ?_ _ | refine blk_drew ?_ | refine blk_alloc ?_ _)); exact BK126.out)) : gb148 ≠ gb126))
                                  clear HO_4
                                  clear BK122
                                  clear BK126
                                  clear HB
                                  have HO_4 := n0_
                                  have BK122 := n1_
                                  have BK126 := n2_
                                  have HB := n3_
                                  have BK148 := n4_
                                  have GW148 := n5_
                                  have GE148 := n6_
                                  have NB122_148 := n7_
                                  have NB148_122 := n8_
                                  have NB126_148 := n9_
                                  have NB148_126 := n10_
                                  clear n0_ n1_ n2_ n3_ n4_ n5_ n6_ n7_ n8_ n9_ n10_
                                  clear hb hbox hg
                                  refine hK.out _ _ ⟨(blk_cell BK126.out 0).trans rfl, (blk_cell BK126.out 1).trans rfl, (blk_cell BK126.out 2).trans rfl, HS3_⟩ (fun hHeld => ?_)
                                  clear hK K
                                  refine norm_ (a' := ?_) ?_ ?_
                                  rotate_left
                                  · show Act.put _ (some 11) _ = _
                                    simp only [Act.put, List.setIfInBounds_toArray, List.set_cons_zero, List.set_cons_succ, i64_w, i32_w]
                                    rfl
                                  refine one_ (i := 5) (N := some 96) #[true, true, true, true, true, true, false, false, false, true, false, false] rfl rfl (one_of HT_.out (by kernel_rfl)) (by decide) (fun K hK => ?_)
                                  refine goes_ Tryd.func13 (by kernel_rfl) rfl #[.agg #[.int .i64 x127000_4, .int .u64 x127001_4, .int .u64 x127002_4], .int .u64 (rd x4_2 x10_4)] (by rfl) rfl rfl (by (try simp only [List.map_toArray, List.map_cons, List.map_nil]); first | done | rfl | (simp only [List.length_drop, List.length_take]; rfl)) ?_
                                  with_reducible refine (asid_Give.calls x127000_4 x127001_4 x127002_4 (rd x4_2 x10_4) t144 t145 t146 t147 _ A123.out).mono ?_
                                  rintro e w127 ⟨rfl, hb⟩
                                  have HS3_ := (hb.cell (World.block_lt_of_cell? _ _ (hHeld.2.2.2))).trans (hHeld.2.2.2)
                                  refine ⟨_, rfl, ?_⟩
                                  have n0_ := Aside0.mk (Kd.R_below (by (with_reducible repeat (first | apply Kd.R_alloc | apply Kd.R_drewN | apply Kd.R_drew)); exact HO_4.out) hb)
                                  have n1_ := Aside0.mk (blk_below (g := gb122) (o := .cells #[.int .i64 a0_0, .int .u64 a0_1, .int .u64 a0_2] 24 (0, 0)) (by (with_reducible repeat (first | refine blk_drewN ?_ _ | refine blk_drew ?_ | refine blk_alloc ?_ _)); exact BK122.out) hb)
                                  have n2_ := Aside0.mk (blk_below (g := gb126) (o := .cells #[.int .i64 x127000_4, .int .u64 x127001_4, .int .u64 x127002_4] 24 (0, 0)) (by (with_reducible repeat (first | refine blk_drewN ?_ _ | refine blk_drew ?_ | refine blk_alloc ?_ _)); exact BK126.out) hb)
                                  have n3_ := Aside0.mk (blk_below (g := gb148) (o := .cells #[.int .i64 0, .int .u64 0, .int .u64 0] 24 (0, 0)) (by (with_reducible repeat (first | refine blk_drewN ?_ _ | refine blk_drew ?_ | refine blk_alloc ?_ _)); exact BK148.out) hb)
                                  have n4_ := Aside0.mk (below_step (by repeat (first | (with_reducible first | exact HB.out | apply below_alloc | apply pw_below_drewN | apply below_drew1 | refine below_set ?_ GE122.out | refine below_set ?_ GE126.out | refine below_set ?_ GE148.out) | exact HB.out)) hb)
                                  clear HO_4
                                  clear BK122
                                  clear BK126
                                  clear BK148
                                  clear HB
                                  have HO_4 := n0_
                                  have BK122 := n1_
                                  have BK126 := n2_
                                  have BK148 := n3_
                                  have HB := n4_
                                  clear n0_ n1_ n2_ n3_ n4_
                                  (try clear hb)
                                  (try clear hb2)
                                  (try clear hk)
                                  (try clear hi)
                                  refine hK.out _ _ ⟨(blk_cell BK126.out 0).trans rfl, (blk_cell BK126.out 1).trans rfl, (blk_cell BK126.out 2).trans rfl, HS3_⟩ (fun hHeld => ?_)
                                  clear hK K
                                  refine norm_ (a' := ?_) ?_ ?_
                                  rotate_left
                                  · show Act.put _ (some 96) _ = _
                                    simp only [Act.put, List.setIfInBounds_toArray, List.set_cons_zero, List.set_cons_succ, i64_w, i32_w]
                                    rfl
                                  refine pure_ (i := 6) (N := some 90) (v := ?_) (a' := ?_) #[true, true, true, true, true, true, true, false, false, true, false, false] rfl rfl (any_of HT_.out (by kernel_rfl)) (fun _ _ _ h => h) (Or.inl ⟨by rfl, ?_⟩) ?_ ?_
                                  rotate_left
                                  · intro w'
                                    go_simp
                                    with_reducible rfl
                                  rotate_left
                                  · simp only [Act.put, List.setIfInBounds_toArray, List.set_cons_zero, List.set_cons_succ, i64_w, i32_w]
                                    rfl
                                  refine pure_ (i := 7) (N := some 97) (v := ?_) (a' := ?_) #[true, true, true, true, true, true, true, true, false, true, false, false] rfl rfl (any_of HT_.out (by kernel_rfl)) (fun _ _ _ h => h) (Or.inl ⟨by rfl, ?_⟩) ?_ ?_
                                  rotate_left
                                  · intro w'
                                    go_simp
                                    with_reducible rfl
                                  rotate_left
                                  · simp only [Act.put, List.setIfInBounds_toArray, List.set_cons_zero, List.set_cons_succ, i64_w, i32_w]
                                    rfl
                                  refine pure_ (i := 8) (N := some 98) (v := ?_) (a' := ?_) #[true, true, true, true, true, true, true, true, true, true, false, false] rfl rfl (any_of HT_.out (by kernel_rfl)) (fun _ _ _ h => h) (Or.inl ⟨by rfl, ?_⟩) ?_ ?_
                                  rotate_left
                                  · intro w'
                                    go_simp
                                    with_reducible rfl
                                  rotate_left
                                  · simp only [Act.put, List.setIfInBounds_toArray, List.set_cons_zero, List.set_cons_succ, i64_w, i32_w]
                                    rfl
                                  exact norm_ (by simp only [putAll, Act.put, List.setIfInBounds_toArray, List.set_cons_zero, List.set_cons_succ]) (hCont (gb148) _ ⟨hHeld, (by (with_reducible repeat (first | apply Kd.R_alloc | apply Kd.R_drewN | apply Kd.R_drew)); exact HO_4.out), (by (with_reducible repeat (first | refine blk_drewN ?_ _ | refine blk_drew ?_ | refine blk_alloc ?_ _)); exact BK122.out), (by (with_reducible repeat (first | refine blk_drewN ?_ _ | refine blk_drew ?_ | refine blk_alloc ?_ _)); exact BK126.out), (by (with_reducible repeat (first | refine blk_drewN ?_ _ | refine blk_drew ?_ | refine blk_alloc ?_ _)); exact BK148.out), GW148.out, GE148.out, NB122_148.out, NB148_122.out, NB126_148.out, NB148_126.out, (by repeat (first | (with_reducible first | exact HB.out | apply below_alloc | apply pw_below_drewN | apply below_drew1 | refine below_set ?_ GE122.out | refine below_set ?_ GE126.out | refine below_set ?_ GE148.out) | exact HB.out))⟩)
                              rintro gb148 w128 ⟨hS_, h0_, h1_, h2_, h3_, h4_, h5_, h6_, h7_, h8_, h9_, h10_⟩
                              have n0_ : Aside0 (Kd.R (Kd.int .u64) 22 w128 w.heap.size (fun _ => True) (.slice (some ad143) x4_2.length co117) x4_2) := ⟨h0_⟩
                              have n1_ : Aside0 (w128.heap[gb122]? = some (.cells #[.int .i64 a0_0, .int .u64 a0_1, .int .u64 a0_2] 24 (0, 0))) := ⟨h1_⟩
                              have n2_ : Aside0 (w128.heap[gb126]? = some (.cells #[.int .i64 x127000_4, .int .u64 x127001_4, .int .u64 x127002_4] 24 (0, 0))) := ⟨h2_⟩
                              have n3_ : Aside0 (w128.heap[gb148]? = some (.cells #[.int .i64 0, .int .u64 0, .int .u64 0] 24 (0, 0))) := ⟨h3_⟩
                              have n4_ : Aside0 (w.heap.size ≤ gb148) := ⟨h4_⟩
                              have n5_ : Aside0 (w.heap.size ≤ gb148) := ⟨h5_⟩
                              have n6_ : Aside0 (gb122 ≠ gb148) := ⟨h6_⟩
                              have n7_ : Aside0 (gb148 ≠ gb122) := ⟨h7_⟩
                              have n8_ : Aside0 (gb126 ≠ gb148) := ⟨h8_⟩
                              have n9_ : Aside0 (gb148 ≠ gb126) := ⟨h9_⟩
                              have n10_ : Aside0 (Below w.heap.size w w128) := ⟨h10_⟩
                              clear HO_4
                              clear BK122
                              clear BK126
                              clear HB
                              clear h0_ h1_ h2_ h3_ h4_ h5_ h6_ h7_ h8_ h9_ h10_
                              have HO_4 := n0_
                              have BK122 := n1_
                              have BK126 := n2_
                              have BK148 := n3_
                              have GW148 := n4_
                              have GE148 := n5_
                              have NB122_148 := n6_
                              have NB148_122 := n7_
                              have NB126_148 := n8_
                              have NB148_126 := n9_
                              have HB := n10_
                              clear n0_ n1_ n2_ n3_ n4_ n5_ n6_ n7_ n8_ n9_ n10_
                              have hHeld : w128.cell? ⟨gb126, 0, none⟩ = some (.int .i64 x127000_4) ∧ w128.cell? ⟨gb126, 1, none⟩ = some (.int .u64 x127001_4) ∧ w128.cell? ⟨gb126, 2, none⟩ = some (.int .u64 x127002_4) ∧ w128.cell? (ad143.add (x10_4).toNat) = some (.int .u64 (rd x4_2 x10_4)) := hS_
                              refine norm_ (a' := ?_) ?_ ?_
                              rotate_left
                              · simp only [putAll, Act.put, List.setIfInBounds_toArray, List.set_cons_zero, List.set_cons_succ]
                                rfl
                              refine one_ (i := 10) (N := none) #[true, true, true, true, true, true, true, true, true, true, true, false] rfl rfl (one_of HT_.out (by kernel_rfl)) (by decide) (fun K hK => ?_)
                              have hs129 : w128.cell? ⟨gb148, 0, none⟩ = some (.int .i64 0) := (blk_cell BK148.out 0).trans rfl
                              have hfs129 := blk_frozen BK148.out 0
                              have hns129_0 := NB122_148.out
                              have hns129_1 := NB126_148.out
                              have hms129_0 := NB148_122.out
                              have hms129_1 := NB148_126.out
                              have hs130 : w128.cell? ⟨gb148, 1, none⟩ = some (.int .u64 0) := (blk_cell BK148.out 1).trans rfl
                              have hfs130 := blk_frozen BK148.out 1
                              have hns130_0 := NB122_148.out
                              have hns130_1 := NB126_148.out
                              have hms130_0 := NB148_122.out
                              have hms130_1 := NB148_126.out
                              have hs131 : w128.cell? ⟨gb148, 2, none⟩ = some (.int .u64 0) := (blk_cell BK148.out 2).trans rfl
                              have hfs131 := blk_frozen BK148.out 2
                              have hns131_0 := NB122_148.out
                              have hns131_1 := NB126_148.out
                              have hms131_0 := NB148_122.out
                              have hms131_1 := NB148_126.out
                              refine skip_ (w1 := ?_) (by rfl) rfl ?_ ?_
                              rotate_left
                              · go_simp
                                rfl
                              refine hK.out _ _ ⟨((cell_far (p := ⟨gb148, _, none⟩) NB126_148.out _).trans (((cell_far (p := ⟨gb148, _, none⟩) NB126_148.out _).trans (((cell_far (p := ⟨gb148, _, none⟩) NB126_148.out _).trans (hHeld.1)))))), ((cell_far (p := ⟨gb148, _, none⟩) NB126_148.out _).trans (((cell_far (p := ⟨gb148, _, none⟩) NB126_148.out _).trans (((cell_far (p := ⟨gb148, _, none⟩) NB126_148.out _).trans (hHeld.2.1)))))), ((cell_far (p := ⟨gb148, _, none⟩) NB126_148.out _).trans (((cell_far (p := ⟨gb148, _, none⟩) NB126_148.out _).trans (((cell_far (p := ⟨gb148, _, none⟩) NB126_148.out _).trans (hHeld.2.2.1)))))), ((cell_far (p := ⟨gb148, _, none⟩) (by first | exact Kd.own_blk (Kd.R_ne HO_4.out BK148.out (by decide)) | (rw [add_block]; exact Kd.own_blk (Kd.R_ne HO_4.out BK148.out (by decide))) | (show (Addr.add _ _).block ≠ _; rw [add_block]; exact Kd.own_blk (Kd.R_ne HO_4.out BK148.out (by decide))) | (dsimp only; exact Kd.own_blk (Kd.R_ne HO_4.out BK148.out (by decide)))) _).trans (((cell_far (p := ⟨gb148, _, none⟩) (by first | exact Kd.own_blk (Kd.R_ne HO_4.out BK148.out (by decide)) | (rw [add_block]; exact Kd.own_blk (Kd.R_ne HO_4.out BK148.out (by decide))) | (show (Addr.add _ _).block ≠ _; rw [add_block]; exact Kd.own_blk (Kd.R_ne HO_4.out BK148.out (by decide))) | (dsimp only; exact Kd.own_blk (Kd.R_ne HO_4.out BK148.out (by decide)))) _).trans (((cell_far (p := ⟨gb148, _, none⟩) (by first | exact Kd.own_blk (Kd.R_ne HO_4.out BK148.out (by decide)) | (rw [add_block]; exact Kd.own_blk (Kd.R_ne HO_4.out BK148.out (by decide))) | (show (Addr.add _ _).block ≠ _; rw [add_block]; exact Kd.own_blk (Kd.R_ne HO_4.out BK148.out (by decide))) | (dsimp only; exact Kd.own_blk (Kd.R_ne HO_4.out BK148.out (by decide)))) _).trans (hHeld.2.2.2))))))⟩ (fun hHeld => ?_)
                              clear hK K
                              refine pure_ (i := 11) (N := some 12) (v := ?_) (a' := ?_) #[true, true, true, true, true, true, true, true, true, true, true, true] rfl rfl (any_of HT_.out (by kernel_rfl)) (fun _ _ _ h => h) (Or.inl ⟨by rfl, ?_⟩) ?_ ?_
                              rotate_left
                              · intro w'
                                go_simp
                                with_reducible rfl
                              rotate_left
                              · simp only [Act.put, List.setIfInBounds_toArray, List.set_cons_zero, List.set_cons_succ, i64_w, i32_w]
                                rfl
                              refine done_ (done_of HT_.out (by kernel_rfl)) ?_
                              have hnb132 := NB148_122.out
                              have hnc132 := NB122_148.out
                              have hnb133 := NB148_126.out
                              have hnc133 := NB126_148.out
                              have hcz134_0 : w128.cell? ⟨gb148, 0, none⟩ = some (.int .i64 0) := (blk_cell BK148.out 0).trans rfl
                              have hcz134_1 : w128.cell? ⟨gb148, 1, none⟩ = some (.int .u64 0) := (blk_cell BK148.out 1).trans rfl
                              have hcz134_2 : w128.cell? ⟨gb148, 2, none⟩ = some (.int .u64 0) := (blk_cell BK148.out 2).trans rfl
                              have hfz134_0 := blk_frozen BK148.out 0
                              have hfz134_1 := blk_frozen BK148.out 1
                              have hfz134_2 := blk_frozen BK148.out 2
                              have hnb135 := NB126_122.out
                              have hnc135 := NB122_126.out
                              have hcz136_0 : w128.cell? ⟨gb126, 0, none⟩ = some (.int .i64 x127000_4) := (blk_cell BK126.out 0).trans rfl
                              have hcz136_1 : w128.cell? ⟨gb126, 1, none⟩ = some (.int .u64 x127001_4) := (blk_cell BK126.out 1).trans rfl
                              have hcz136_2 : w128.cell? ⟨gb126, 2, none⟩ = some (.int .u64 x127002_4) := (blk_cell BK126.out 2).trans rfl
                              have hfz136_0 := blk_frozen BK126.out 0
                              have hfz136_1 := blk_frozen BK126.out 1
                              have hfz136_2 := blk_frozen BK126.out 2
                              try go_wp2
                              go_roundg k4
                              case measure => have := HJ1.out; have := HK2.out; have := HJ17.out; have := HK4.out; omega
                              case rel => exact ⟨(wrap64 (x10_4 + 1)), (t144), (t145), (t146), (by first | rfl | (simp; done) | (simp [*]; done)), H', ⟨by have := HJ1.out; have := HK2.out; have := HJ17.out; have := HK4.out; omega⟩, ⟨by (with_reducible repeat (first | apply Kd.R_alloc | apply Kd.R_drewN | apply Kd.R_drew)); exact Kd.R_mono (Kd.R_far (p := ⟨gb126, 2, none⟩) (Kd.R_far (p := ⟨gb126, 1, none⟩) (Kd.R_far (p := ⟨gb126, 0, none⟩) (Kd.R_far (p := ⟨gb148, 2, none⟩) (Kd.R_far (p := ⟨gb148, 1, none⟩) (Kd.R_far (p := ⟨gb148, 0, none⟩) (Kd.R_types (Kd.R_types HO_4.out BK148.out (by decide)) BK126.out (by decide)) (fun _ hk => hk.1.2) (.int .i64 t144)) (fun _ hk => hk.1.2) (.int .u64 t145)) (fun _ hk => hk.1.2) (.int .u64 t146)) (fun _ hk => hk.2) (.int .i64 t144)) (fun _ hk => hk.2) (.int .u64 t145)) (fun _ hk => hk.2) (.int .u64 t146)) (fun _ hk => trivial)⟩, ⟨by (with_reducible repeat (first | refine blk_drewN ?_ _ | refine blk_drew ?_ | refine blk_alloc ?_ _)); refine blk_far ?_ NB122_126.out _; (with_reducible repeat (first | refine blk_drewN ?_ _ | refine blk_drew ?_ | refine blk_alloc ?_ _)); refine blk_far ?_ NB122_126.out _; (with_reducible repeat (first | refine blk_drewN ?_ _ | refine blk_drew ?_ | refine blk_alloc ?_ _)); refine blk_far ?_ NB122_126.out _; (with_reducible repeat (first | refine blk_drewN ?_ _ | refine blk_drew ?_ | refine blk_alloc ?_ _)); refine blk_far ?_ NB122_148.out _; (with_reducible repeat (first | refine blk_drewN ?_ _ | refine blk_drew ?_ | refine blk_alloc ?_ _)); refine blk_far ?_ NB122_148.out _; (with_reducible repeat (first | refine blk_drewN ?_ _ | refine blk_drew ?_ | refine blk_alloc ?_ _)); refine blk_far ?_ NB122_148.out _; (with_reducible repeat (first | refine blk_drewN ?_ _ | refine blk_drew ?_ | refine blk_alloc ?_ _)); exact BK122.out⟩, ⟨by (with_reducible repeat (first | refine blk_drewN ?_ _ | refine blk_drew ?_ | refine blk_alloc ?_ _)); refine blk_put (cs := #[.int .i64 t144, .int .u64 t145, .int .u64 x127002_4]) ?_ 2 _ rfl; (with_reducible repeat (first | refine blk_drewN ?_ _ | refine blk_drew ?_ | refine blk_alloc ?_ _)); refine blk_put (cs := #[.int .i64 t144, .int .u64 x127001_4, .int .u64 x127002_4]) ?_ 1 _ rfl; (with_reducible repeat (first | refine blk_drewN ?_ _ | refine blk_drew ?_ | refine blk_alloc ?_ _)); refine blk_put (cs := #[.int .i64 x127000_4, .int .u64 x127001_4, .int .u64 x127002_4]) ?_ 0 _ rfl; (with_reducible repeat (first | refine blk_drewN ?_ _ | refine blk_drew ?_ | refine blk_alloc ?_ _)); refine blk_far ?_ NB126_148.out _; (with_reducible repeat (first | refine blk_drewN ?_ _ | refine blk_drew ?_ | refine blk_alloc ?_ _)); refine blk_far ?_ NB126_148.out _; (with_reducible repeat (first | refine blk_drewN ?_ _ | refine blk_drew ?_ | refine blk_alloc ?_ _)); refine blk_far ?_ NB126_148.out _; (with_reducible repeat (first | refine blk_drewN ?_ _ | refine blk_drew ?_ | refine blk_alloc ?_ _)); exact BK126.out⟩, ⟨by repeat (first | (with_reducible first | exact HB.out | apply below_alloc | apply pw_below_drewN | apply below_drew1 | refine below_set ?_ GE122.out | refine below_set ?_ GE126.out | refine below_set ?_ GE148.out) | exact HB.out)⟩⟩
                            · rw [if_neg c124] at H
                              have c124b0 : (t147 == 0) = false := beq_eq_false_iff_ne.mpr c124
                              have c124b1 : (t147 != 0) = true := bne_iff_ne.mpr c124
                              obtain rfl := Option.some.inj H
                              try go_wp2
                              have n0_ := Aside0.mk (Kd.R_drew HO_4.out)
                              have n1_ := Aside0.mk (blk_drew BK122.out)
                              have n2_ := Aside0.mk (blk_drew BK126.out)
                              have n3_ := Aside0.mk (below_drew1 HB.out)
                              clear HO_4
                              clear BK122
                              clear BK126
                              clear HB
                              have HO_4 := n0_
                              have BK122 := n1_
                              have BK126 := n2_
                              have HB := n3_
                              clear n0_ n1_ n2_ n3_
                              have p143 : 0 ≤ (x10_4 : Int) := of_decide_eq_true (by first | (with_reducible assumption) | assumption)
                              have q143 : x10_4 < (x4_2.length : Int) := of_decide_eq_true (by first | (with_reducible assumption) | assumption)
                              obtain ⟨ad143, e143, hx143_0⟩ := Kd.at_int (Kd.R_reads' HO_4.out).2.2 x10_4 p143 q143
                              cases e143
                              replace p143 := eq_true p143
                              replace q143 := eq_true q143
                              refine start_ (n := 12) (S := fun w' => w'.cell? ⟨gb126, 0, none⟩ = some (.int .i64 x127000_4) ∧ w'.cell? ⟨gb126, 1, none⟩ = some (.int .u64 x127001_4) ∧ w'.cell? ⟨gb126, 2, none⟩ = some (.int .u64 x127002_4) ∧ w'.cell? (ad143.add (x10_4).toNat) = some (.int .u64 (rd x4_2 x10_4))) (ds := []) #[false, false, false, false, false, false, false, false, false, false, false, false] (by kernel_rfl) rfl rfl ⟨(blk_cell BK126.out 0).trans rfl, (blk_cell BK126.out 1).trans rfl, (blk_cell BK126.out 2).trans rfl, hx143_0⟩ (fun hHeld => ?_); refine with_tabW atlaslaw18_AsidAll.tab18 atlaslaw18_AsidAll.bits18 (fun HT_ HW_ => ?_)
                              generalize wr.drew = w137 at HO_4 BK122 BK126 HB hx143_0 hHeld ⊢
                              refine pure_ (i := 1) (N := some 92) (v := ?_) (a' := ?_) #[false, true, false, false, false, false, false, false, false, false, false, false] rfl rfl (any_of HT_.out (by kernel_rfl)) (fun _ _ _ h => h) (Or.inl ⟨by rfl, ?_⟩) ?_ ?_
                              rotate_left
                              · intro w'
                                go_simp
                                with_reducible rfl
                              rotate_left
                              · simp only [Act.put, List.setIfInBounds_toArray, List.set_cons_zero, List.set_cons_succ, i64_w, i32_w]
                                rfl
                              refine pure_ (i := 2) (N := some 93) (v := ?_) (a' := ?_) #[false, true, true, false, false, false, false, false, false, false, false, false] rfl rfl (any_of HT_.out (by kernel_rfl)) (fun _ _ _ h => h) (Or.inl ⟨by rfl, ?_⟩) ?_ ?_
                              rotate_left
                              · intro w'
                                go_simp
                                with_reducible rfl
                              rotate_left
                              · simp only [Act.put, List.setIfInBounds_toArray, List.set_cons_zero, List.set_cons_succ, i64_w, i32_w]
                                rfl
                              refine pure_ (i := 3) (N := some 94) (v := ?_) (a' := ?_) #[false, true, true, true, false, false, false, false, false, false, false, false] rfl rfl (any_of HT_.out (by kernel_rfl)) (fun _ _ _ h => h) (Or.inl ⟨by rfl, ?_⟩) ?_ ?_
                              rotate_left
                              · intro w'
                                go_simp
                                with_reducible rfl
                              rotate_left
                              · simp only [Act.put, List.setIfInBounds_toArray, List.set_cons_zero, List.set_cons_succ, i64_w, i32_w]
                                rfl
                              refine take_ (i := 0) (N := some 91) (v := ?_) (a' := ?_) #[true, true, true, true, false, false, false, false, false, false, false, false] rfl rfl (take_ofW HT_.out HW_.out (by kernel_rfl)) (fun _ _ _ h => h) (Or.inl ⟨by rfl, ?_⟩) hHeld ?_ ?_
                              rotate_left
                              · rintro w' ⟨s0, s1, s2, s3⟩
                                go_simp
                                with_reducible rfl
                              rotate_left
                              · simp only [Act.put, List.setIfInBounds_toArray, List.set_cons_zero, List.set_cons_succ, i64_w, i32_w]
                                rfl
                              refine take_ (i := 4) (N := some 95) (v := ?_) (a' := ?_) #[true, true, true, true, true, false, false, false, false, false, false, false] rfl rfl (take_ofW HT_.out HW_.out (by kernel_rfl)) (fun _ _ _ h => h) (Or.inl ⟨by rfl, ?_⟩) hHeld ?_ ?_
                              rotate_left
                              · rintro w' ⟨s0, s1, s2, s3⟩
                                go_simp
                                with_reducible rfl
                              rotate_left
                              · simp only [Act.put, List.setIfInBounds_toArray, List.set_cons_zero, List.set_cons_succ, i64_w, i32_w]
                                rfl
                              refine join_ (σ := Nat) 2 #[true, true, true, true, true, true, true, true, true, true, false, false] (fun s_ => [(96, .tuple #[.agg #[.int .i64 t144, .int .u64 t145, .int .u64 t146], .int .i64 t147]), (11, .pointer (some ⟨s_, 0, none⟩)), (90, .tuple #[.agg #[.int .i64 t144, .int .u64 t145, .int .u64 t146], .int .i64 t147]), (97, .agg #[.int .i64 t144, .int .u64 t145, .int .u64 t146]), (98, .int .i64 t147)]) (fun s_ w' => (w'.cell? ⟨gb126, 0, none⟩ = some (.int .i64 x127000_4) ∧ w'.cell? ⟨gb126, 1, none⟩ = some (.int .u64 x127001_4) ∧ w'.cell? ⟨gb126, 2, none⟩ = some (.int .u64 x127002_4) ∧ w'.cell? (ad143.add (x10_4).toNat) = some (.int .u64 (rd x4_2 x10_4))) ∧ (Kd.R (Kd.int .u64) 22 w' w.heap.size (fun _ => True) (.slice (some ad143) x4_2.length co117) x4_2) ∧ (w'.heap[gb122]? = some (.cells #[.int .i64 a0_0, .int .u64 a0_1, .int .u64 a0_2] 24 (0, 0))) ∧ (w'.heap[gb126]? = some (.cells #[.int .i64 x127000_4, .int .u64 x127001_4, .int .u64 x127002_4] 24 (0, 0))) ∧ (w'.heap[s_]? = some (.cells #[.int .i64 0, .int .u64 0, .int .u64 0] 24 (0, 0))) ∧ (w.heap.size ≤ s_) ∧ (w.heap.size ≤ s_) ∧ (gb122 ≠ s_) ∧ (s_ ≠ gb122) ∧ (gb126 ≠ s_) ∧ (s_ ≠ gb126) ∧ (Below w.heap.size w w')) ?_ ?_
                              rotate_left
                              · intro hCont
                                refine two_ (i := 5) (j := 9) (Ni := some 96) (Nj := some 11) #[true, true, true, true, true, true, false, false, false, false, false, false] #[true, true, true, true, true, false, false, false, false, true, false, false] rfl rfl rfl rfl (two_of HT_.out (by kernel_rfl)) (by decide) (by decide) (fun K hK => ?_) (fun K hK => ?_)
                                · skip
                                  refine goes_ Tryd.func13 (by kernel_rfl) rfl #[.agg #[.int .i64 x127000_4, .int .u64 x127001_4, .int .u64 x127002_4], .int .u64 (rd x4_2 x10_4)] (by rfl) rfl rfl (by (try simp only [List.map_toArray, List.map_cons, List.map_nil]); first | done | rfl | (simp only [List.length_drop, List.length_take]; rfl)) ?_
                                  with_reducible refine (asid_Give.calls x127000_4 x127001_4 x127002_4 (rd x4_2 x10_4) t144 t145 t146 t147 _ A123.out).mono ?_
                                  rintro e w138 ⟨rfl, hb⟩
                                  have HS3_ := (hb.cell (World.block_lt_of_cell? _ _ (hHeld.2.2.2))).trans (hHeld.2.2.2)
                                  refine ⟨_, rfl, ?_⟩
                                  have n0_ := Aside0.mk (Kd.R_below (by (with_reducible repeat (first | apply Kd.R_alloc | apply Kd.R_drewN | apply Kd.R_drew)); exact HO_4.out) hb)
                                  have n1_ := Aside0.mk (blk_below (g := gb122) (o := .cells #[.int .i64 a0_0, .int .u64 a0_1, .int .u64 a0_2] 24 (0, 0)) (by (with_reducible repeat (first | refine blk_drewN ?_ _ | refine blk_drew ?_ | refine blk_alloc ?_ _)); exact BK122.out) hb)
                                  have n2_ := Aside0.mk (blk_below (g := gb126) (o := .cells #[.int .i64 x127000_4, .int .u64 x127001_4, .int .u64 x127002_4] 24 (0, 0)) (by (with_reducible repeat (first | refine blk_drewN ?_ _ | refine blk_drew ?_ | refine blk_alloc ?_ _)); exact BK126.out) hb)
                                  have n3_ := Aside0.mk (below_step (by repeat (first | (with_reducible first | exact HB.out | apply below_alloc | apply pw_below_drewN | apply below_drew1 | refine below_set ?_ GE122.out | refine below_set ?_ GE126.out) | exact HB.out)) hb)
                                  clear HO_4
                                  clear BK122
                                  clear BK126
                                  clear HB
                                  have HO_4 := n0_
                                  have BK122 := n1_
                                  have BK126 := n2_
                                  have HB := n3_
                                  clear n0_ n1_ n2_ n3_
                                  (try clear hb)
                                  (try clear hb2)
                                  (try clear hk)
                                  (try clear hi)
                                  refine hK.out _ _ ⟨(blk_cell BK126.out 0).trans rfl, (blk_cell BK126.out 1).trans rfl, (blk_cell BK126.out 2).trans rfl, HS3_⟩ (fun hHeld => ?_)
                                  clear hK K
                                  refine norm_ (a' := ?_) ?_ ?_
                                  rotate_left
                                  · show Act.put _ (some 96) _ = _
                                    simp only [Act.put, List.setIfInBounds_toArray, List.set_cons_zero, List.set_cons_succ, i64_w, i32_w]
                                    rfl
                                  refine pure_ (i := 6) (N := some 90) (v := ?_) (a' := ?_) #[true, true, true, true, true, true, true, false, false, false, false, false] rfl rfl (any_of HT_.out (by kernel_rfl)) (fun _ _ _ h => h) (Or.inl ⟨by rfl, ?_⟩) ?_ ?_
                                  rotate_left
                                  · intro w'
                                    go_simp
                                    with_reducible rfl
                                  rotate_left
                                  · simp only [Act.put, List.setIfInBounds_toArray, List.set_cons_zero, List.set_cons_succ, i64_w, i32_w]
                                    rfl
                                  refine pure_ (i := 7) (N := some 97) (v := ?_) (a' := ?_) #[true, true, true, true, true, true, true, true, false, false, false, false] rfl rfl (any_of HT_.out (by kernel_rfl)) (fun _ _ _ h => h) (Or.inl ⟨by rfl, ?_⟩) ?_ ?_
                                  rotate_left
                                  · intro w'
                                    go_simp
                                    with_reducible rfl
                                  rotate_left
                                  · simp only [Act.put, List.setIfInBounds_toArray, List.set_cons_zero, List.set_cons_succ, i64_w, i32_w]
                                    rfl
                                  refine pure_ (i := 8) (N := some 98) (v := ?_) (a' := ?_) #[true, true, true, true, true, true, true, true, true, false, false, false] rfl rfl (any_of HT_.out (by kernel_rfl)) (fun _ _ _ h => h) (Or.inl ⟨by rfl, ?_⟩) ?_ ?_
                                  rotate_left
                                  · intro w'
                                    go_simp
                                    with_reducible rfl
                                  rotate_left
                                  · simp only [Act.put, List.setIfInBounds_toArray, List.set_cons_zero, List.set_cons_succ, i64_w, i32_w]
                                    rfl
                                  refine one_ (i := 9) (N := some 11) #[true, true, true, true, true, true, true, true, true, true, false, false] rfl rfl (one_of HT_.out (by kernel_rfl)) (by decide) (fun K hK => ?_)
                                  refine box_step ?hg (N := 11) ?hd (cs := #[.int .i64 0, .int .u64 0, .int .u64 0]) (t := 24) ?hr ?_; (case hd => rfl); (case hg => rfl); (case hr => first | (go_simp; done) | (go_simp; rfl))
                                  intro gb148 hg w139 hbox hb
                                  have HS3_ := (hb.cell (World.block_lt_of_cell? _ _ (hHeld.2.2.2))).trans (hHeld.2.2.2)
                                  have n0_ := Aside0.mk (Kd.R_below (by (with_reducible repeat (first | apply Kd.R_alloc | apply Kd.R_drewN | apply Kd.R_drew)); exact HO_4.out) hb)
                                  have n1_ := Aside0.mk (blk_below (g := gb122) (o := .cells #[.int .i64 a0_0, .int .u64 a0_1, .int .u64 a0_2] 24 (0, 0)) (by (with_reducible repeat (first | refine blk_drewN ?_ _ | refine blk_drew ?_ | refine blk_alloc ?_ _)); exact BK122.out) hb)
                                  have n2_ := Aside0.mk (blk_below (g := gb126) (o := .cells #[.int .i64 x127000_4, .int .u64 x127001_4, .int .u64 x127002_4] 24 (0, 0)) (by (with_reducible repeat (first | refine blk_drewN ?_ _ | refine blk_drew ?_ | refine blk_alloc ?_ _)); exact BK126.out) hb)
                                  have n3_ := Aside0.mk (below_step (by repeat (first | (with_reducible first | exact HB.out | apply below_alloc | apply pw_below_drewN | apply below_drew1 | refine below_set ?_ GE122.out | refine below_set ?_ GE126.out) | exact HB.out)) hb)
                                  have n4_ := Aside0.mk (hbox)
                                  have n5_ := Aside0.mk ((by rw [hg]; exact (below_size (by repeat (first | (with_reducible first | exact HB.out | apply below_alloc | apply pw_below_drewN | apply below_drew1 | refine below_set ?_ GE122.out | refine below_set ?_ GE126.out) | exact HB.out))) : w.heap.size ≤ gb148))
                                  have n6_ := Aside0.mk ((by rw [hg]; exact (below_size (by repeat (first | (with_reducible first | exact HB.out | apply below_alloc | apply pw_below_drewN | apply below_drew1 | refine below_set ?_ GE122.out | refine below_set ?_ GE126.out) | exact HB.out))) : w.heap.size ≤ gb148))
                                  have n7_ := Aside0.mk ((by rw [hg]; exact Nat.ne_of_lt (blk_lt (g := gb122) (o := .cells #[.int .i64 a0_0, .int .u64 a0_1, .int .u64 a0_2] 24 (0, 0)) (by (with_reducible repeat (first | refine blk_drewN ?_ _ | refine blk_drew ?_ | refine blk_alloc ?_ _)); exact BK122.out)) : gb122 ≠ gb148))
                                  have n8_ := Aside0.mk ((by rw [hg]; exact Nat.ne_of_gt (blk_lt (g := gb122) (o := .cells #[.int .i64 a0_0, .int .u64 a0_1, .int .u64 a0_2] 24 (0, 0)) (by (with_reducible repeat (first | refine blk_drewN ?_ _ | refine blk_drew ?_ | refine blk_alloc ?_ _)); exact BK122.out)) : gb148 ≠ gb122))
                                  have n9_ := Aside0.mk ((by rw [hg]; exact Nat.ne_of_lt (blk_lt (g := gb126) (o := .cells #[.int .i64 x127000_4, .int .u64 x127001_4, .int .u64 x127002_4] 24 (0, 0)) (by (with_reducible repeat (first | refine blk_drewN ?_ _ | refine blk_drew ?_ | refine blk_alloc ?_ _)); exact BK126.out)) : gb126 ≠ gb148))
                                  have n10_ := Aside0.mk ((by rw [hg]; exact Nat.ne_of_gt (blk_lt (g := gb126) (o := .cells #[.int .i64 x127000_4, .int .u64 x127001_4, .int .u64 x127002_4] 24 (0, 0)) (by (with_reducible repeat (first | refine blk_drewN ?_ _ | refine blk_drew ?_ | refine blk_alloc ?_ _)); exact BK126.out)) : gb148 ≠ gb126))
                                  clear HO_4
                                  clear BK122
                                  clear BK126
                                  clear HB
                                  have HO_4 := n0_
                                  have BK122 := n1_
                                  have BK126 := n2_
                                  have HB := n3_
                                  have BK148 := n4_
                                  have GW148 := n5_
                                  have GE148 := n6_
                                  have NB122_148 := n7_
                                  have NB148_122 := n8_
                                  have NB126_148 := n9_
                                  have NB148_126 := n10_
                                  clear n0_ n1_ n2_ n3_ n4_ n5_ n6_ n7_ n8_ n9_ n10_
                                  clear hb hbox hg
                                  refine hK.out _ _ ⟨(blk_cell BK126.out 0).trans rfl, (blk_cell BK126.out 1).trans rfl, (blk_cell BK126.out 2).trans rfl, HS3_⟩ (fun hHeld => ?_)
                                  clear hK K
                                  refine norm_ (a' := ?_) ?_ ?_
                                  rotate_left
                                  · show Act.put _ (some 11) _ = _
                                    simp only [Act.put, List.setIfInBounds_toArray, List.set_cons_zero, List.set_cons_succ, i64_w, i32_w]
                                    rfl
                                  exact norm_ (by simp only [putAll, Act.put, List.setIfInBounds_toArray, List.set_cons_zero, List.set_cons_succ]) (hCont (gb148) _ ⟨hHeld, (by (with_reducible repeat (first | apply Kd.R_alloc | apply Kd.R_drewN | apply Kd.R_drew)); exact HO_4.out), (by (with_reducible repeat (first | refine blk_drewN ?_ _ | refine blk_drew ?_ | refine blk_alloc ?_ _)); exact BK122.out), (by (with_reducible repeat (first | refine blk_drewN ?_ _ | refine blk_drew ?_ | refine blk_alloc ?_ _)); exact BK126.out), (by (with_reducible repeat (first | refine blk_drewN ?_ _ | refine blk_drew ?_ | refine blk_alloc ?_ _)); exact BK148.out), GW148.out, GE148.out, NB122_148.out, NB148_122.out, NB126_148.out, NB148_126.out, (by repeat (first | (with_reducible first | exact HB.out | apply below_alloc | apply pw_below_drewN | apply below_drew1 | refine below_set ?_ GE122.out | refine below_set ?_ GE126.out | refine below_set ?_ GE148.out) | exact HB.out))⟩)
                                · skip
                                  refine box_step ?hg (N := 11) ?hd (cs := #[.int .i64 0, .int .u64 0, .int .u64 0]) (t := 24) ?hr ?_; (case hd => rfl); (case hg => rfl); (case hr => first | (go_simp; done) | (go_simp; rfl))
                                  intro gb148 hg w138 hbox hb
                                  have HS3_ := (hb.cell (World.block_lt_of_cell? _ _ (hHeld.2.2.2))).trans (hHeld.2.2.2)
                                  have n0_ := Aside0.mk (Kd.R_below (by (with_reducible repeat (first | apply Kd.R_alloc | apply Kd.R_drewN | apply Kd.R_drew)); exact HO_4.out) hb)
                                  have n1_ := Aside0.mk (blk_below (g := gb122) (o := .cells #[.int .i64 a0_0, .int .u64 a0_1, .int .u64 a0_2] 24 (0, 0)) (by (with_reducible repeat (first | refine blk_drewN ?_ _ | refine blk_drew ?_ | refine blk_alloc ?_ _)); exact BK122.out) hb)
                                  have n2_ := Aside0.mk (blk_below (g := gb126) (o := .cells #[.int .i64 x127000_4, .int .u64 x127001_4, .int .u64 x127002_4] 24 (0, 0)) (by (with_reducible repeat (first | refine blk_drewN ?_ _ | refine blk_drew ?_ | refine blk_alloc ?_ _)); exact BK126.out) hb)
                                  have n3_ := Aside0.mk (below_step (by repeat (first | (with_reducible first | exact HB.out | apply below_alloc | apply pw_below_drewN | apply below_drew1 | refine below_set ?_ GE122.out | refine below_set ?_ GE126.out) | exact HB.out)) hb)
                                  have n4_ := Aside0.mk (hbox)
                                  have n5_ := Aside0.mk ((by rw [hg]; exact (below_size (by repeat (first | (with_reducible first | exact HB.out | apply below_alloc | apply pw_below_drewN | apply below_drew1 | refine below_set ?_ GE122.out | refine below_set ?_ GE126.out) | exact HB.out))) : w.heap.size ≤ gb148))
                                  have n6_ := Aside0.mk ((by rw [hg]; exact (below_size (by repeat (first | (with_reducible first | exact HB.out | apply below_alloc | apply pw_below_drewN | apply below_drew1 | refine below_set ?_ GE122.out | refine below_set ?_ GE126.out) | exact HB.out))) : w.heap.size ≤ gb148))
                                  have n7_ := Aside0.mk ((by rw [hg]; exact Nat.ne_of_lt (blk_lt (g := gb122) (o := .cells #[.int .i64 a0_0, .int .u64 a0_1, .int .u64 a0_2] 24 (0, 0)) (by (with_reducible repeat (first | refine blk_drewN ?_ _ | refine blk_drew ?_ | refine blk_alloc ?_ _)); exact BK122.out)) : gb122 ≠ gb148))
                                  have n8_ := Aside0.mk ((by rw [hg]; exact Nat.ne_of_gt (blk_lt (g := gb122) (o := .cells #[.int .i64 a0_0, .int .u64 a0_1, .int .u64 a0_2] 24 (0, 0)) (by (with_reducible repeat (first | refine blk_drewN ?_ _ | refine blk_drew ?_ | refine blk_alloc ?_ _)); exact BK122.out)) : gb148 ≠ gb122))
                                  have n9_ := Aside0.mk ((by rw [hg]; exact Nat.ne_of_lt (blk_lt (g := gb126) (o := .cells #[.int .i64 x127000_4, .int .u64 x127001_4, .int .u64 x127002_4] 24 (0, 0)) (by (with_reducible repeat (first | refine blk_drewN ?_ _ | refine blk_drew ?_ | refine blk_alloc ?_ _)); exact BK126.out)) : gb126 ≠ gb148))
                                  have n10_ := Aside0.mk ((by rw [hg]; exact Nat.ne_of_gt (blk_lt (g := gb126) (o := .cells #[.int .i64 x127000_4, .int .u64 x127001_4, .int .u64 x127002_4] 24 (0, 0)) (by (with_reducible repeat (first | refine blk_drewN ?_ _ | refine blk_drew ?_ | refine blk_alloc ?_ _)); exact BK126.out)) : gb148 ≠ gb126))
                                  clear HO_4
                                  clear BK122
                                  clear BK126
                                  clear HB
                                  have HO_4 := n0_
                                  have BK122 := n1_
                                  have BK126 := n2_
                                  have HB := n3_
                                  have BK148 := n4_
                                  have GW148 := n5_
                                  have GE148 := n6_
                                  have NB122_148 := n7_
                                  have NB148_122 := n8_
                                  have NB126_148 := n9_
                                  have NB148_126 := n10_
                                  clear n0_ n1_ n2_ n3_ n4_ n5_ n6_ n7_ n8_ n9_ n10_
                                  clear hb hbox hg
                                  refine hK.out _ _ ⟨(blk_cell BK126.out 0).trans rfl, (blk_cell BK126.out 1).trans rfl, (blk_cell BK126.out 2).trans rfl, HS3_⟩ (fun hHeld => ?_)
                                  clear hK K
                                  refine norm_ (a' := ?_) ?_ ?_
                                  rotate_left
                                  · show Act.put _ (some 11) _ = _
                                    simp only [Act.put, List.setIfInBounds_toArray, List.set_cons_zero, List.set_cons_succ, i64_w, i32_w]
                                    rfl
                                  refine one_ (i := 5) (N := some 96) #[true, true, true, true, true, true, false, false, false, true, false, false] rfl rfl (one_of HT_.out (by kernel_rfl)) (by decide) (fun K hK => ?_)
                                  refine goes_ Tryd.func13 (by kernel_rfl) rfl #[.agg #[.int .i64 x127000_4, .int .u64 x127001_4, .int .u64 x127002_4], .int .u64 (rd x4_2 x10_4)] (by rfl) rfl rfl (by (try simp only [List.map_toArray, List.map_cons, List.map_nil]); first | done | rfl | (simp only [List.length_drop, List.length_take]; rfl)) ?_
                                  with_reducible refine (asid_Give.calls x127000_4 x127001_4 x127002_4 (rd x4_2 x10_4) t144 t145 t146 t147 _ A123.out).mono ?_
                                  rintro e w139 ⟨rfl, hb⟩
                                  have HS3_ := (hb.cell (World.block_lt_of_cell? _ _ (hHeld.2.2.2))).trans (hHeld.2.2.2)
                                  refine ⟨_, rfl, ?_⟩
                                  have n0_ := Aside0.mk (Kd.R_below (by (with_reducible repeat (first | apply Kd.R_alloc | apply Kd.R_drewN | apply Kd.R_drew)); exact HO_4.out) hb)
                                  have n1_ := Aside0.mk (blk_below (g := gb122) (o := .cells #[.int .i64 a0_0, .int .u64 a0_1, .int .u64 a0_2] 24 (0, 0)) (by (with_reducible repeat (first | refine blk_drewN ?_ _ | refine blk_drew ?_ | refine blk_alloc ?_ _)); exact BK122.out) hb)
                                  have n2_ := Aside0.mk (blk_below (g := gb126) (o := .cells #[.int .i64 x127000_4, .int .u64 x127001_4, .int .u64 x127002_4] 24 (0, 0)) (by (with_reducible repeat (first | refine blk_drewN ?_ _ | refine blk_drew ?_ | refine blk_alloc ?_ _)); exact BK126.out) hb)
                                  have n3_ := Aside0.mk (blk_below (g := gb148) (o := .cells #[.int .i64 0, .int .u64 0, .int .u64 0] 24 (0, 0)) (by (with_reducible repeat (first | refine blk_drewN ?_ _ | refine blk_drew ?_ | refine blk_alloc ?_ _)); exact BK148.out) hb)
                                  have n4_ := Aside0.mk (below_step (by repeat (first | (with_reducible first | exact HB.out | apply below_alloc | apply pw_below_drewN | apply below_drew1 | refine below_set ?_ GE122.out | refine below_set ?_ GE126.out | refine below_set ?_ GE148.out) | exact HB.out)) hb)
                                  clear HO_4
                                  clear BK122
                                  clear BK126
                                  clear BK148
                                  clear HB
                                  have HO_4 := n0_
                                  have BK122 := n1_
                                  have BK126 := n2_
                                  have BK148 := n3_
                                  have HB := n4_
                                  clear n0_ n1_ n2_ n3_ n4_
                                  (try clear hb)
                                  (try clear hb2)
                                  (try clear hk)
                                  (try clear hi)
                                  refine hK.out _ _ ⟨(blk_cell BK126.out 0).trans rfl, (blk_cell BK126.out 1).trans rfl, (blk_cell BK126.out 2).trans rfl, HS3_⟩ (fun hHeld => ?_)
                                  clear hK K
                                  refine norm_ (a' := ?_) ?_ ?_
                                  rotate_left
                                  · show Act.put _ (some 96) _ = _
                                    simp only [Act.put, List.setIfInBounds_toArray, List.set_cons_zero, List.set_cons_succ, i64_w, i32_w]
                                    rfl
                                  refine pure_ (i := 6) (N := some 90) (v := ?_) (a' := ?_) #[true, true, true, true, true, true, true, false, false, true, false, false] rfl rfl (any_of HT_.out (by kernel_rfl)) (fun _ _ _ h => h) (Or.inl ⟨by rfl, ?_⟩) ?_ ?_
                                  rotate_left
                                  · intro w'
                                    go_simp
                                    with_reducible rfl
                                  rotate_left
                                  · simp only [Act.put, List.setIfInBounds_toArray, List.set_cons_zero, List.set_cons_succ, i64_w, i32_w]
                                    rfl
                                  refine pure_ (i := 7) (N := some 97) (v := ?_) (a' := ?_) #[true, true, true, true, true, true, true, true, false, true, false, false] rfl rfl (any_of HT_.out (by kernel_rfl)) (fun _ _ _ h => h) (Or.inl ⟨by rfl, ?_⟩) ?_ ?_
                                  rotate_left
                                  · intro w'
                                    go_simp
                                    with_reducible rfl
                                  rotate_left
                                  · simp only [Act.put, List.setIfInBounds_toArray, List.set_cons_zero, List.set_cons_succ, i64_w, i32_w]
                                    rfl
                                  refine pure_ (i := 8) (N := some 98) (v := ?_) (a' := ?_) #[true, true, true, true, true, true, true, true, true, true, false, false] rfl rfl (any_of HT_.out (by kernel_rfl)) (fun _ _ _ h => h) (Or.inl ⟨by rfl, ?_⟩) ?_ ?_
                                  rotate_left
                                  · intro w'
                                    go_simp
                                    with_reducible rfl
                                  rotate_left
                                  · simp only [Act.put, List.setIfInBounds_toArray, List.set_cons_zero, List.set_cons_succ, i64_w, i32_w]
                                    rfl
                                  exact norm_ (by simp only [putAll, Act.put, List.setIfInBounds_toArray, List.set_cons_zero, List.set_cons_succ]) (hCont (gb148) _ ⟨hHeld, (by (with_reducible repeat (first | apply Kd.R_alloc | apply Kd.R_drewN | apply Kd.R_drew)); exact HO_4.out), (by (with_reducible repeat (first | refine blk_drewN ?_ _ | refine blk_drew ?_ | refine blk_alloc ?_ _)); exact BK122.out), (by (with_reducible repeat (first | refine blk_drewN ?_ _ | refine blk_drew ?_ | refine blk_alloc ?_ _)); exact BK126.out), (by (with_reducible repeat (first | refine blk_drewN ?_ _ | refine blk_drew ?_ | refine blk_alloc ?_ _)); exact BK148.out), GW148.out, GE148.out, NB122_148.out, NB148_122.out, NB126_148.out, NB148_126.out, (by repeat (first | (with_reducible first | exact HB.out | apply below_alloc | apply pw_below_drewN | apply below_drew1 | refine below_set ?_ GE122.out | refine below_set ?_ GE126.out | refine below_set ?_ GE148.out) | exact HB.out))⟩)
                              rintro gb148 w140 ⟨hS_, h0_, h1_, h2_, h3_, h4_, h5_, h6_, h7_, h8_, h9_, h10_⟩
                              have n0_ : Aside0 (Kd.R (Kd.int .u64) 22 w140 w.heap.size (fun _ => True) (.slice (some ad143) x4_2.length co117) x4_2) := ⟨h0_⟩
                              have n1_ : Aside0 (w140.heap[gb122]? = some (.cells #[.int .i64 a0_0, .int .u64 a0_1, .int .u64 a0_2] 24 (0, 0))) := ⟨h1_⟩
                              have n2_ : Aside0 (w140.heap[gb126]? = some (.cells #[.int .i64 x127000_4, .int .u64 x127001_4, .int .u64 x127002_4] 24 (0, 0))) := ⟨h2_⟩
                              have n3_ : Aside0 (w140.heap[gb148]? = some (.cells #[.int .i64 0, .int .u64 0, .int .u64 0] 24 (0, 0))) := ⟨h3_⟩
                              have n4_ : Aside0 (w.heap.size ≤ gb148) := ⟨h4_⟩
                              have n5_ : Aside0 (w.heap.size ≤ gb148) := ⟨h5_⟩
                              have n6_ : Aside0 (gb122 ≠ gb148) := ⟨h6_⟩
                              have n7_ : Aside0 (gb148 ≠ gb122) := ⟨h7_⟩
                              have n8_ : Aside0 (gb126 ≠ gb148) := ⟨h8_⟩
                              have n9_ : Aside0 (gb148 ≠ gb126) := ⟨h9_⟩
                              have n10_ : Aside0 (Below w.heap.size w w140) := ⟨h10_⟩
                              clear HO_4
                              clear BK122
                              clear BK126
                              clear HB
                              clear h0_ h1_ h2_ h3_ h4_ h5_ h6_ h7_ h8_ h9_ h10_
                              have HO_4 := n0_
                              have BK122 := n1_
                              have BK126 := n2_
                              have BK148 := n3_
                              have GW148 := n4_
                              have GE148 := n5_
                              have NB122_148 := n6_
                              have NB148_122 := n7_
                              have NB126_148 := n8_
                              have NB148_126 := n9_
                              have HB := n10_
                              clear n0_ n1_ n2_ n3_ n4_ n5_ n6_ n7_ n8_ n9_ n10_
                              have hHeld : w140.cell? ⟨gb126, 0, none⟩ = some (.int .i64 x127000_4) ∧ w140.cell? ⟨gb126, 1, none⟩ = some (.int .u64 x127001_4) ∧ w140.cell? ⟨gb126, 2, none⟩ = some (.int .u64 x127002_4) ∧ w140.cell? (ad143.add (x10_4).toNat) = some (.int .u64 (rd x4_2 x10_4)) := hS_
                              refine norm_ (a' := ?_) ?_ ?_
                              rotate_left
                              · simp only [putAll, Act.put, List.setIfInBounds_toArray, List.set_cons_zero, List.set_cons_succ]
                                rfl
                              refine one_ (i := 10) (N := none) #[true, true, true, true, true, true, true, true, true, true, true, false] rfl rfl (one_of HT_.out (by kernel_rfl)) (by decide) (fun K hK => ?_)
                              have hs141 : w140.cell? ⟨gb148, 0, none⟩ = some (.int .i64 0) := (blk_cell BK148.out 0).trans rfl
                              have hfs141 := blk_frozen BK148.out 0
                              have hns141_0 := NB122_148.out
                              have hns141_1 := NB126_148.out
                              have hms141_0 := NB148_122.out
                              have hms141_1 := NB148_126.out
                              have hs142 : w140.cell? ⟨gb148, 1, none⟩ = some (.int .u64 0) := (blk_cell BK148.out 1).trans rfl
                              have hfs142 := blk_frozen BK148.out 1
                              have hns142_0 := NB122_148.out
                              have hns142_1 := NB126_148.out
                              have hms142_0 := NB148_122.out
                              have hms142_1 := NB148_126.out
                              have hs143 : w140.cell? ⟨gb148, 2, none⟩ = some (.int .u64 0) := (blk_cell BK148.out 2).trans rfl
                              have hfs143 := blk_frozen BK148.out 2
                              have hns143_0 := NB122_148.out
                              have hns143_1 := NB126_148.out
                              have hms143_0 := NB148_122.out
                              have hms143_1 := NB148_126.out
                              refine skip_ (w1 := ?_) (by rfl) rfl ?_ ?_
                              rotate_left
                              · go_simp
                                rfl
                              refine hK.out _ _ ⟨((cell_far (p := ⟨gb148, _, none⟩) NB126_148.out _).trans (((cell_far (p := ⟨gb148, _, none⟩) NB126_148.out _).trans (((cell_far (p := ⟨gb148, _, none⟩) NB126_148.out _).trans (hHeld.1)))))), ((cell_far (p := ⟨gb148, _, none⟩) NB126_148.out _).trans (((cell_far (p := ⟨gb148, _, none⟩) NB126_148.out _).trans (((cell_far (p := ⟨gb148, _, none⟩) NB126_148.out _).trans (hHeld.2.1)))))), ((cell_far (p := ⟨gb148, _, none⟩) NB126_148.out _).trans (((cell_far (p := ⟨gb148, _, none⟩) NB126_148.out _).trans (((cell_far (p := ⟨gb148, _, none⟩) NB126_148.out _).trans (hHeld.2.2.1)))))), ((cell_far (p := ⟨gb148, _, none⟩) (by first | exact Kd.own_blk (Kd.R_ne HO_4.out BK148.out (by decide)) | (rw [add_block]; exact Kd.own_blk (Kd.R_ne HO_4.out BK148.out (by decide))) | (show (Addr.add _ _).block ≠ _; rw [add_block]; exact Kd.own_blk (Kd.R_ne HO_4.out BK148.out (by decide))) | (dsimp only; exact Kd.own_blk (Kd.R_ne HO_4.out BK148.out (by decide)))) _).trans (((cell_far (p := ⟨gb148, _, none⟩) (by first | exact Kd.own_blk (Kd.R_ne HO_4.out BK148.out (by decide)) | (rw [add_block]; exact Kd.own_blk (Kd.R_ne HO_4.out BK148.out (by decide))) | (show (Addr.add _ _).block ≠ _; rw [add_block]; exact Kd.own_blk (Kd.R_ne HO_4.out BK148.out (by decide))) | (dsimp only; exact Kd.own_blk (Kd.R_ne HO_4.out BK148.out (by decide)))) _).trans (((cell_far (p := ⟨gb148, _, none⟩) (by first | exact Kd.own_blk (Kd.R_ne HO_4.out BK148.out (by decide)) | (rw [add_block]; exact Kd.own_blk (Kd.R_ne HO_4.out BK148.out (by decide))) | (show (Addr.add _ _).block ≠ _; rw [add_block]; exact Kd.own_blk (Kd.R_ne HO_4.out BK148.out (by decide))) | (dsimp only; exact Kd.own_blk (Kd.R_ne HO_4.out BK148.out (by decide)))) _).trans (hHeld.2.2.2))))))⟩ (fun hHeld => ?_)
                              clear hK K
                              refine pure_ (i := 11) (N := some 12) (v := ?_) (a' := ?_) #[true, true, true, true, true, true, true, true, true, true, true, true] rfl rfl (any_of HT_.out (by kernel_rfl)) (fun _ _ _ h => h) (Or.inl ⟨by rfl, ?_⟩) ?_ ?_
                              rotate_left
                              · intro w'
                                go_simp
                                with_reducible rfl
                              rotate_left
                              · simp only [Act.put, List.setIfInBounds_toArray, List.set_cons_zero, List.set_cons_succ, i64_w, i32_w]
                                rfl
                              refine done_ (done_of HT_.out (by kernel_rfl)) ?_
                              try go_wp2
                              go_ret
                              exact ⟨by first | rfl | (simp [errW_none, errW_some] <;> rfl) | (simp [*, errW_none, errW_some] <;> rfl), by repeat (first | (with_reducible first | exact HB.out | apply below_alloc | apply pw_below_drewN | apply below_drew1 | refine below_set ?_ GE122.out | refine below_set ?_ GE126.out | refine below_set ?_ GE148.out) | exact HB.out)⟩
                          · rw [if_neg c122] at H
                            exact absurd H (by simp)
                        · rw [if_neg c121] at H
                          have c121b0 : decide (x10_4 < (x4_2.length : Int)) = false := decide_eq_false c121
                          clear c121
                          by_cases c144 : x127001_4 = a0_1
                          · rw [if_pos c144] at H
                            have c144b0 : (x127001_4 == a0_1) = true := beq_iff_eq.mpr c144
                            have c144b1 : (x127001_4 != a0_1) = false := bne_eq_false_iff_eq.mpr c144
                            clear c144
                            by_cases c145 : x127002_4 = (Go.bits .or .u64 a0_2 a0_1)
                            · rw [if_pos c145] at H
                              have c145b0 : (x127002_4 == (Go.bits .or .u64 a0_2 a0_1)) = true := beq_iff_eq.mpr c145
                              have c145b1 : (x127002_4 != (Go.bits .or .u64 a0_2 a0_1)) = false := bne_eq_false_iff_eq.mpr c145
                              clear c145
                              obtain rfl := Option.some.inj H
                              have hnb146 := NB126_122.out
                              have hnc146 := NB122_126.out
                              have hcz147_0 : wr.cell? ⟨gb126, 0, none⟩ = some (.int .i64 x127000_4) := (blk_cell BK126.out 0).trans rfl
                              have hcz147_1 : wr.cell? ⟨gb126, 1, none⟩ = some (.int .u64 x127001_4) := (blk_cell BK126.out 1).trans rfl
                              have hcz147_2 : wr.cell? ⟨gb126, 2, none⟩ = some (.int .u64 x127002_4) := (blk_cell BK126.out 2).trans rfl
                              have hfz147_0 := blk_frozen BK126.out 0
                              have hfz147_1 := blk_frozen BK126.out 1
                              have hfz147_2 := blk_frozen BK126.out 2
                              have hcz148_0 : wr.cell? ⟨gb122, 0, none⟩ = some (.int .i64 a0_0) := (blk_cell BK122.out 0).trans rfl
                              have hcz148_1 : wr.cell? ⟨gb122, 1, none⟩ = some (.int .u64 a0_1) := (blk_cell BK122.out 1).trans rfl
                              have hcz148_2 : wr.cell? ⟨gb122, 2, none⟩ = some (.int .u64 a0_2) := (blk_cell BK122.out 2).trans rfl
                              have hfz148_0 := blk_frozen BK122.out 0
                              have hfz148_1 := blk_frozen BK122.out 1
                              have hfz148_2 := blk_frozen BK122.out 2
                              go_wp2
                              go_ret
                              exact ⟨by first | rfl | (simp [errW_none, errW_some] <;> rfl) | (simp [*, errW_none, errW_some] <;> rfl), by repeat (first | (with_reducible first | exact HB.out | apply below_alloc | apply pw_below_drewN | apply below_drew1 | refine below_set ?_ GE122.out | refine below_set ?_ GE126.out) | exact HB.out)⟩
                            · rw [if_neg c145] at H
                              have c145b0 : (x127002_4 == (Go.bits .or .u64 a0_2 a0_1)) = false := beq_eq_false_iff_ne.mpr c145
                              have c145b1 : (x127002_4 != (Go.bits .or .u64 a0_2 a0_1)) = true := bne_iff_ne.mpr c145
                              obtain rfl := Option.some.inj H
                              have hnb149 := NB126_122.out
                              have hnc149 := NB122_126.out
                              have hcz150_0 : wr.cell? ⟨gb126, 0, none⟩ = some (.int .i64 x127000_4) := (blk_cell BK126.out 0).trans rfl
                              have hcz150_1 : wr.cell? ⟨gb126, 1, none⟩ = some (.int .u64 x127001_4) := (blk_cell BK126.out 1).trans rfl
                              have hcz150_2 : wr.cell? ⟨gb126, 2, none⟩ = some (.int .u64 x127002_4) := (blk_cell BK126.out 2).trans rfl
                              have hfz150_0 := blk_frozen BK126.out 0
                              have hfz150_1 := blk_frozen BK126.out 1
                              have hfz150_2 := blk_frozen BK126.out 2
                              have hcz151_0 : wr.cell? ⟨gb122, 0, none⟩ = some (.int .i64 a0_0) := (blk_cell BK122.out 0).trans rfl
                              have hcz151_1 : wr.cell? ⟨gb122, 1, none⟩ = some (.int .u64 a0_1) := (blk_cell BK122.out 1).trans rfl
                              have hcz151_2 : wr.cell? ⟨gb122, 2, none⟩ = some (.int .u64 a0_2) := (blk_cell BK122.out 2).trans rfl
                              have hfz151_0 := blk_frozen BK122.out 0
                              have hfz151_1 := blk_frozen BK122.out 1
                              have hfz151_2 := blk_frozen BK122.out 2
                              go_wp2
                              go_ret
                              exact ⟨by first | rfl | (simp [errW_none, errW_some] <;> rfl) | (simp [*, errW_none, errW_some] <;> rfl), by repeat (first | (with_reducible first | exact HB.out | apply below_alloc | apply pw_below_drewN | apply below_drew1 | refine below_set ?_ GE122.out | refine below_set ?_ GE126.out) | exact HB.out)⟩
                          · rw [if_neg c144] at H
                            have c144b0 : (x127001_4 == a0_1) = false := beq_eq_false_iff_ne.mpr c144
                            have c144b1 : (x127001_4 != a0_1) = true := bne_iff_ne.mpr c144
                            obtain rfl := Option.some.inj H
                            have hnb152 := NB126_122.out
                            have hnc152 := NB122_126.out
                            have hcz153_0 : wr.cell? ⟨gb126, 0, none⟩ = some (.int .i64 x127000_4) := (blk_cell BK126.out 0).trans rfl
                            have hcz153_1 : wr.cell? ⟨gb126, 1, none⟩ = some (.int .u64 x127001_4) := (blk_cell BK126.out 1).trans rfl
                            have hcz153_2 : wr.cell? ⟨gb126, 2, none⟩ = some (.int .u64 x127002_4) := (blk_cell BK126.out 2).trans rfl
                            have hfz153_0 := blk_frozen BK126.out 0
                            have hfz153_1 := blk_frozen BK126.out 1
                            have hfz153_2 := blk_frozen BK126.out 2
                            have hcz154_0 : wr.cell? ⟨gb122, 0, none⟩ = some (.int .i64 a0_0) := (blk_cell BK122.out 0).trans rfl
                            have hcz154_1 : wr.cell? ⟨gb122, 1, none⟩ = some (.int .u64 a0_1) := (blk_cell BK122.out 1).trans rfl
                            have hcz154_2 : wr.cell? ⟨gb122, 2, none⟩ = some (.int .u64 a0_2) := (blk_cell BK122.out 2).trans rfl
                            have hfz154_0 := blk_frozen BK122.out 0
                            have hfz154_1 := blk_frozen BK122.out 1
                            have hfz154_2 := blk_frozen BK122.out 2
                            go_wp2
                            go_ret
                            exact ⟨by first | rfl | (simp [errW_none, errW_some] <;> rfl) | (simp [*, errW_none, errW_some] <;> rfl), by repeat (first | (with_reducible first | exact HB.out | apply below_alloc | apply pw_below_drewN | apply below_drew1 | refine below_set ?_ GE122.out | refine below_set ?_ GE126.out) | exact HB.out)⟩
                  · rw [if_neg c116] at H
                    have c116b0 : ((x4_2.length : Int) == t142) = false := beq_eq_false_iff_ne.mpr c116
                    have c116b1 : ((x4_2.length : Int) != t142) = true := bne_iff_ne.mpr c116
                    obtain rfl := Option.some.inj H
                    obtain ⟨Ao155, co155, eo155⟩ := Kd.R_slice HO_4.out
                    subst eo155
                    have hnb156 := NB122_126.out
                    have hnc156 := NB126_122.out
                    have hcz157_0 : wc.cell? ⟨gb122, 0, none⟩ = some (.int .i64 a0_0) := (blk_cell BK122.out 0).trans rfl
                    have hcz157_1 : wc.cell? ⟨gb122, 1, none⟩ = some (.int .u64 a0_1) := (blk_cell BK122.out 1).trans rfl
                    have hcz157_2 : wc.cell? ⟨gb122, 2, none⟩ = some (.int .u64 a0_2) := (blk_cell BK122.out 2).trans rfl
                    have hfz157_0 := blk_frozen BK122.out 0
                    have hfz157_1 := blk_frozen BK122.out 1
                    have hfz157_2 := blk_frozen BK122.out 2
                    go_wp2_with (first | ((with_reducible refine gate_callee (f := 15) rfl ?_); refine goesL_ (some 82) rfl rfl Tryd.func15 (by kernel_rfl) rfl #[.agg #[.int .i64 a0_0, .int .u64 a0_1, .int .u64 a0_2]] rfl (by (try simp only [List.map_toArray, List.map_cons, List.map_nil]); first | done | rfl | (simp only [List.length_drop, List.length_take]; rfl)) ?_; (with_reducible refine (asid_Free.calls a0_0 a0_1 a0_2 t142 _ A115.out).mono ?_); rintro e w158 ⟨rfl, hb⟩; refine ⟨_, rfl, ?_⟩; have n0_ := Aside0.mk (Kd.R_below (by (with_reducible repeat (first | apply Kd.R_alloc | apply Kd.R_drewN | apply Kd.R_drew)); exact HO_4.out) hb); have n1_ := Aside0.mk (blk_below (g := gb122) (o := .cells #[.int .i64 a0_0, .int .u64 a0_1, .int .u64 a0_2] 24 (0, 0)) (by (with_reducible repeat (first | refine blk_drewN ?_ _ | refine blk_drew ?_ | refine blk_alloc ?_ _)); exact BK122.out) hb); have n2_ := Aside0.mk (blk_below (g := gb126) (o := .cells #[.int .i64 x127000_2, .int .u64 x127001_2, .int .u64 x127002_2] 24 (0, 0)) (by (with_reducible repeat (first | refine blk_drewN ?_ _ | refine blk_drew ?_ | refine blk_alloc ?_ _)); exact BK126.out) hb); have n3_ := Aside0.mk (below_step (by repeat (first | (with_reducible first | exact HB.out | apply below_alloc | apply pw_below_drewN | apply below_drew1 | refine below_set ?_ GE122.out | refine below_set ?_ GE126.out) | exact HB.out)) hb); clear HO_4; clear BK122; clear BK126; clear HB; have HO_4 := n0_; have BK122 := n1_; have BK126 := n2_; have HB := n3_; clear n0_ n1_ n2_ n3_; (try clear hb); (try clear hb2); (try clear hk); (try clear hi)))
                    go_ret
                    exact ⟨by first | rfl | (simp [errW_none, errW_some] <;> rfl) | (simp [*, errW_none, errW_some] <;> rfl), by repeat (first | (with_reducible first | exact HB.out | apply below_alloc | apply pw_below_drewN | apply below_drew1 | refine below_set ?_ GE122.out | refine below_set ?_ GE126.out) | exact HB.out)⟩

end Go.Proofs.YtjalglcmpnjeoaaDoor.SAsidAll
