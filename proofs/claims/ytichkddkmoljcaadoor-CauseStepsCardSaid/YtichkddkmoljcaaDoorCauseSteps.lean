/- CauseSteps holds for every kind, address and number; the three tables hold what their declarations lay, which the card ties to the program's text. -/
import Derived.Test.YtichkddkmoljcaaDoorCauseT
import Derived.Test.YtichkddkmoljcaaDoorCauseT0
import Derived.Test.YtichkddkmoljcaaDoorCauseT1
import Derived.Test.YtichkddkmoljcaaDoorCauseT2
import Derived.Test.YtichkddkmoljcaaDoorCauseL
import Derived.Test.YtichkddkmoljcaaDoorCards
import Derived.Test.YtichkddkmoljcaaDoorTie
import Derived.SevenTiedAt
set_option linter.unusedVariables false
set_option linter.unusedSimpArgs false
namespace Go.Proofs.YtichkddkmoljcaaDoor
open Go.ChangeShapes Go.WideShapes Go.ChangeAt Go.RowKit Go.Proofs.YtichkddkmoljcaaDoorW.PrintWords
namespace Steps
theorem kind_of (kind : Int) (h : 0 ≤ kind) : (wrap64 (Int.tmod kind 3) = 0 ∨ wrap64 (Int.tmod kind 3) = 1 ∨ wrap64 (Int.tmod kind 3) = 2) := by
  rw [Int.tmod_eq_emod_of_nonneg h]; unfold wrap64; omega
theorem u8_low (x : Int) (h : (Lit.int .u8 x).wf = true) : 0 ≤ x := by
  simp [Lit.wf, IntKind.min, IntKind.max, IntKind.signed, IntKind.bits] at h
  omega
theorem law_calls (kind addr n : Int) (w : World) (h : Ld w) (hk : 0 ≤ kind) : Calls Tryd.prog 6 #[.int .u8 kind, .int .u64 addr, .int .i64 n] w (Bools w true) := by
  have k3 := kind_of kind hk
  by_cases e0 : n = 0
  · subst e0; exact steps_0 kind addr _ w h rfl k3
  by_cases e4 : n = 4
  · subst e4; exact steps_4 kind addr _ w h rfl k3
  by_cases e6 : n = 6
  · subst e6; exact steps_6 kind addr _ w h rfl k3
  by_cases e1 : n = 1
  · subst e1; exact steps_1 kind addr _ w h rfl k3
  by_cases e5 : n = 5
  · subst e5; exact steps_5 kind addr _ w h rfl k3
  by_cases e7 : n = 7
  · subst e7; exact steps_7 kind addr _ w h rfl k3
  by_cases e12 : n = 12
  · subst e12; exact steps_12 kind addr _ w h rfl k3
  by_cases e13 : n = 13
  · subst e13; exact steps_13 kind addr _ w h rfl k3
  by_cases e15 : n = 15
  · subst e15; exact steps_15 kind addr _ w h rfl k3
  have hs : sortOf n = (0, 0) := by simp [sortOf, e0, e4, e6, e1, e5, e7, e12, e13, e15]
  exact steps_none kind addr _ n w h rfl k3 hs (by simpa using e0) (by simpa using e4) (by simpa using e6) (by simpa using e1) (by simpa using e5) (by simpa using e7) (by simpa using e12) (by simpa using e13) (by simpa using e15)

set_option maxRecDepth 100000 in
theorem lifted (os : Os) (started : os.Started) (H : Type) (enc : TypeId × Value → H) :
    ReturnsInHanded {} Tryd.checked os 6 .any (fun w args => (Rows.causeStepsSpec.pre enc Tryd.prog Tryd.f6 [] false w args ∧ laidMetH Tryd.prog laidAll w) ∧ sizedMet enc Tryd.prog Tryd.f6 (OpenSpec.ofChange Rows.causeStepsSpec) false w args)
      (Rows.causeStepsSpec.post enc Tryd.prog Tryd.f6 false true false false) := by
  refine returnsInHanded_of_change_and (C := Tryd.checked) (X := fun w _ => laidMetH Tryd.prog laidAll w) (fun _ _ _ hh h => h.of_heap hh) own started (by kernel_rfl) Tryd.func6
    (ChangeSpec.witness_shaped (enc := enc) (C := Tryd.checked) (os := os) (X := fun w _ => laidMetH Tryd.prog laidAll w) false (World.doorLaid Tryd.prog 27 os) #[.int .u8 0, .int .u64 0, .int .i64 0] 8 rfl (World.shaped_of_RefB (by kernel_rfl) (by kernel_rfl)) (by kernel_rfl) (by kernel_rfl) (by kernel_rfl) (door_met os _)) ?_
  intro W base args ds gs before hval0 hW _ _ hL _
  have hval : ∀ (j : Nat) t v, Tryd.f6.params[j]? = some t → args[j]? = some v → Value.okWide Tryd.prog W .any base t v := hval0
  have hW' := hW
  obtain ⟨p, q, hA0, hV, rfl, hfz, hnd⟩ := hW
  have hA : DataW.TrodAll enc Tryd.prog W 0 (fun _ => true) true Tryd.f6.params.toList args.toList ds p := hA0
  rw [Tryd.params6] at hA hval
  obtain ⟨v0, v1, v2, d0, d1, d2, p0, p1, p2, rfl, rfl, rfl, h0, h1, h2⟩ := trodAll_three hA
  obtain ⟨rfl, rfl⟩ := trodVars_none hV
  obtain ⟨a0, rfl, rfl, rfl, w0⟩ := open_int Tryd.underlying5 (hval 0 5 v0 rfl rfl) h0
  obtain ⟨a1, rfl, rfl, rfl, w1⟩ := open_int Tryd.underlying22 (hval 1 22 v1 rfl rfl) h1
  obtain ⟨a2, rfl, rfl, rfl, w2⟩ := open_int Tryd.underlying3 (hval 2 3 v2 rfl rfl) h2
  clear hA0 hval0
  have hLd := of_laid hL
  refine (law_calls a0 a1 a2 W hLd (u8_low a0 w0)).mono fun e W' ⟨he, bel⟩ => ?_
  subst he
  exact ⟨_, rfl, _, _, _, [], _, [], hW', trodAll_mk1 (shut_bool Tryd.underlying4 _), (trodAll_cons_mk (shut_int Tryd.underlying5 w0) (trodAll_cons_mk (shut_int Tryd.underlying22 w1) (trodAll_cons_mk (shut_int Tryd.underlying3 w2) trodAll_mk0))), rfl, bel.frame _, fun h => by cases h⟩
theorem over : Rows.CauseStepsSaid :=
  OpenClaim.holds_of_wide 6 Tryd.f6 rfl rfl rfl rfl rfl rfl rfl ⟨rfl, rfl, rfl, rfl, rfl⟩ rfl rfl rfl rfl rfl (by kernel_rfl) Tryd.func6 (by kernel_rfl)
    (of_decide_eq_true (by kernel_rfl)) (by unfold Func.isWrapper; first | (rw [if_pos (by decide +kernel)]; kernel_rfl) | (rw [if_neg (by decide +kernel)]; exact ⟨rfl, rfl⟩))
    (fun os started H enc _ => lifted os started H enc)
theorem card : Rows.CauseStepsCardSaid :=
  Claim7.holds_tied_plain_at .later [] [.data, .data, .data] true (true, "30169ff142f5f8b1dc1e679fe817366156ec5cb13e44c97a90c56e72c3826d46") false
    over (fun _ h => by cases h) (by kernel_rfl) (fun _ h => by cases h) causeSteps_row_tie rfl ⟨rfl, rfl⟩ (by kernel_rfl) rfl
    (fun f fn hf hfn => by
      obtain rfl : f = 6 := Option.some.inj ((show Tryd.prog.funcNamed "atlas/atlaslaw09.CauseSteps" = some 6 by kernel_rfl).symm.trans hf) |>.symm
      obtain rfl : fn = Tryd.f6 := (Option.some.inj (Tryd.func6.symm.trans hfn)).symm
      exact ⟨by kernel_rfl, fun j t ht => by
        rw [Tryd.params6] at ht
        have hm : t ∈ [5, 22, 3] := by simpa using Array.mem_of_getElem? ht
        have hall : ([5, 22, 3].all fun u => !Tryd.prog.wantsStandIn u) = true := by kernel_rfl
        exact (show Tryd.prog.wantsStandIn t = false by simpa using List.all_eq_true.1 hall t hm)⟩)
    (by kernel_rfl)
end Steps
theorem causeSteps_holds : Rows.CauseStepsCardSaid := Steps.card
#print axioms causeSteps_holds
end Go.Proofs.YtichkddkmoljcaaDoor
