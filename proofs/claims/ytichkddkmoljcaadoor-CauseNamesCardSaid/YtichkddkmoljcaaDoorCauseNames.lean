/- CauseNames holds for every number: its sort, kind and name are the reference's; the three tables hold what their declarations lay, which the card ties to the program's text. -/
import Derived.Test.YtichkddkmoljcaaDoorCauseQ
import Derived.Test.YtichkddkmoljcaaDoorCauseL
import Derived.Test.YtichkddkmoljcaaDoorCards
import Derived.Test.YtichkddkmoljcaaDoorTie
import Derived.SevenTiedAt
set_option linter.unusedVariables false
set_option linter.unusedSimpArgs false
namespace Go.Proofs.YtichkddkmoljcaaDoor
open Go.ChangeShapes Go.WideShapes Go.ChangeAt Go.RowKit Go.Proofs.YtichkddkmoljcaaDoorW.PrintWords
namespace Names1
set_option maxRecDepth 100000 in
theorem law_calls (n s k : Int) (w : World) (h0 : Ld w) (hs : (sortOf n).1 = s) (hk : (sortOf n).2 = k) :
    Calls Tryd.prog 4 #[.int .i64 n] w (Bools w true) := by
  have hS := fun w h => sort_calls n w h
  have hR := fun w => rsort_calls n w
  rw [hs, hk] at hS hR
  have HS := Lib.hid hS
  have HR := Lib.hid hR
  clear hS hR hs hk
  have hid0 := Lib.hid (Below.refl w.heap.size w)
  go_enter Tryd.func4, Tryd.ntmps4
  go_wp2_with fail
  refine (awake_calls _ h0).mono ?_
  rintro e w1 ⟨rfl, hb⟩
  have h1 := h0.below hb
  have hid1 := Lib.hid (below_then hid0.out hid0.out.size hb)
  clear hb h0 hid0
  go_wp2_with fail
  refine (HS.out _ h1).mono ?_
  rintro e w2 ⟨rfl, hb⟩
  have h2 := h1.below hb
  have hid2 := Lib.hid (below_then hid1.out hid1.out.size hb)
  clear hb h1 hid1
  go_wp2_with fail
  refine (HR.out _).mono ?_
  rintro e w3 ⟨rfl, hb⟩
  have h3 := h2.below hb
  have hid3 := Lib.hid (below_then hid2.out hid2.out.size hb)
  clear hb h2 hid2
  go_wp2_with fail
  refine (name_calls n _ h3).mono ?_
  rintro e w4 ⟨rfl, hb⟩
  have h4 := h3.below hb
  have hid4 := Lib.hid (below_then hid3.out hid3.out.size hb)
  clear hb h3 hid3
  go_wp2_with fail
  refine (rname_calls n _).mono ?_
  rintro e w5 ⟨rfl, hb⟩
  have h5 := h4.below hb
  have hid5 := Lib.hid (below_then hid4.out hid4.out.size hb)
  clear hb h4 hid4
  go_wp2_with fail
  go_ret
  exact ⟨rfl, hid5.out⟩

set_option maxRecDepth 100000 in
theorem lifted (os : Os) (started : os.Started) (H : Type) (enc : TypeId × Value → H) :
    ReturnsInHanded {} Tryd.checked os 4 .any (fun w args => (Rows.causeNamesSpec.pre enc Tryd.prog Tryd.f4 [] false w args ∧ laidMetH Tryd.prog laidAll w) ∧ sizedMet enc Tryd.prog Tryd.f4 (OpenSpec.ofChange Rows.causeNamesSpec) false w args)
      (Rows.causeNamesSpec.post enc Tryd.prog Tryd.f4 false true false false) := by
  refine returnsInHanded_of_change_and (C := Tryd.checked) (X := fun w _ => laidMetH Tryd.prog laidAll w) (fun _ _ _ hh h => h.of_heap hh) own started (by kernel_rfl) Tryd.func4
    (ChangeSpec.witness_shaped (enc := enc) (C := Tryd.checked) (os := os) (X := fun w _ => laidMetH Tryd.prog laidAll w) false (World.doorLaid Tryd.prog 27 os) #[.int .i64 0] 8 rfl (World.shaped_of_RefB (by kernel_rfl) (by kernel_rfl)) (by kernel_rfl) (by kernel_rfl) (by kernel_rfl) (door_met os _)) ?_
  intro W base args ds gs before hval0 hW _ _ hL _
  have hval : ∀ (j : Nat) t v, Tryd.f4.params[j]? = some t → args[j]? = some v → Value.okWide Tryd.prog W .any base t v := hval0
  have hW' := hW
  obtain ⟨p, q, hA0, hV, rfl, hfz, hnd⟩ := hW
  have hA : DataW.TrodAll enc Tryd.prog W 0 (fun _ => true) true Tryd.f4.params.toList args.toList ds p := hA0
  rw [Tryd.params4] at hA hval
  obtain ⟨v0, d0, rfl, rfl, h0⟩ := trodAll_one hA
  obtain ⟨rfl, rfl⟩ := trodVars_none hV
  obtain ⟨a0, rfl, rfl, rfl, w0⟩ := open_int Tryd.underlying3 (hval 0 3 v0 rfl rfl) h0
  clear hA0 hval0
  have hLd := of_laid hL
  refine (law_calls a0 _ _ W hLd rfl rfl).mono fun e W' ⟨he, bel⟩ => ?_
  subst he
  exact ⟨_, rfl, _, _, _, [], _, [], hW', trodAll_mk1 (shut_bool Tryd.underlying4 _), (trodAll_cons_mk (shut_int Tryd.underlying3 w0) trodAll_mk0), rfl, bel.frame _, fun h => by cases h⟩
theorem over : Rows.CauseNamesSaid :=
  OpenClaim.holds_of_wide 4 Tryd.f4 rfl rfl rfl rfl rfl rfl rfl ⟨rfl, rfl, rfl, rfl, rfl⟩ rfl rfl rfl rfl rfl (by kernel_rfl) Tryd.func4 (by kernel_rfl)
    (of_decide_eq_true (by kernel_rfl)) (by unfold Func.isWrapper; first | (rw [if_pos (by decide +kernel)]; kernel_rfl) | (rw [if_neg (by decide +kernel)]; exact ⟨rfl, rfl⟩))
    (fun os started H enc _ => lifted os started H enc)
theorem card : Rows.CauseNamesCardSaid :=
  Claim7.holds_tied_plain_at .later [] [.data, .data, .data] true (true, "30169ff142f5f8b1dc1e679fe817366156ec5cb13e44c97a90c56e72c3826d46") false
    over (fun _ h => by cases h) (by kernel_rfl) (fun _ h => by cases h) causeNames_row_tie rfl ⟨rfl, rfl⟩ (by kernel_rfl) rfl
    (fun f fn hf hfn => by
      obtain rfl : f = 4 := Option.some.inj ((show Tryd.prog.funcNamed "atlas/atlaslaw09.CauseNames" = some 4 by kernel_rfl).symm.trans hf) |>.symm
      obtain rfl : fn = Tryd.f4 := (Option.some.inj (Tryd.func4.symm.trans hfn)).symm
      exact ⟨by kernel_rfl, fun j t ht => by
        rw [Tryd.params4] at ht
        have hm : t ∈ [3] := by simpa using Array.mem_of_getElem? ht
        have hall : ([3].all fun u => !Tryd.prog.wantsStandIn u) = true := by kernel_rfl
        exact (show Tryd.prog.wantsStandIn t = false by simpa using List.all_eq_true.1 hall t hm)⟩)
    (by kernel_rfl)
end Names1
theorem causeNames_holds : Rows.CauseNamesCardSaid := Names1.card
#print axioms causeNames_holds
end Go.Proofs.YtichkddkmoljcaaDoor
