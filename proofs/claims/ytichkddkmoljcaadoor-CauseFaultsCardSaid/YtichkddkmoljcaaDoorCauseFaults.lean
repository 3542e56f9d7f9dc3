/- CauseFaults holds for every kind and address: the program's faults are the reference's; the three tables hold what their declarations lay, which the card ties to the program's text. -/
import Derived.Test.YtichkddkmoljcaaDoorCauseA
import Derived.Test.YtichkddkmoljcaaDoorCauseL
import Derived.Test.YtichkddkmoljcaaDoorCards
import Derived.Test.YtichkddkmoljcaaDoorTie
import Derived.Test.YtichkddkmoljcaaDoorPCauseFaultsx1
import Derived.SevenTiedAt
set_option linter.unusedVariables false
set_option linter.unusedSimpArgs false
namespace Go.Proofs.YtichkddkmoljcaaDoor
open Go.ChangeShapes Go.WideShapes Go.ChangeAt Go.RowKit Go.Proofs.YtichkddkmoljcaaDoorW.PrintWords
namespace Faults
attribute [local go_sem high] eqFault
theorem ref_calls (s k addr : Int) (w : World) (hs : s = 1 ∨ s = 2 ∨ s = 3) (hk : k = 0 ∨ k = 1 ∨ k = 2) :
    Calls Tryd.prog 9 #[.int .i64 s, .int .i64 k, .int .u64 addr] w (Tells w (causeOf (s - 1) k) addr) := by
  refine PCauseFaults.atlasref09_Fault.calls s k addr true (causeOf (s - 1) k) addr w ?_
  have hn : PCauseFaults.atlasref09_Number.f s k = some (causeOf (s - 1) k) := by
    rcases hs with rfl | rfl | rfl <;> rcases hk with rfl | rfl | rfl <;> decide +kernel
  unfold PCauseFaults.atlasref09_Fault.f
  rw [hn, Option.bind_some]
set_option maxRecDepth 100000 in
theorem law_calls (kind addr : Int) (k : Int) (w : World) (h : Ld w) (hw : wrap64 (Int.tmod kind 3) = k) (hk : k = 0 ∨ k = 1 ∨ k = 2) :
    Calls Tryd.prog 3 #[.int .u8 kind, .int .u64 addr] w (Bools w true) := by
  go_enter Tryd.func3, Tryd.ntmps3
  go_wp2_with fail
  refine (awake_calls _ h).mono ?_
  rintro e w1 ⟨rfl, hb⟩
  have h1 := h.below hb
  have hid1 := Lib.hid hb
  clear hb h
  go_wp2_with fail
  refine (odd_calls k addr _ h1 hk).mono ?_
  rintro e w2 ⟨rfl, hb⟩
  have h2 := h1.below hb
  have hid2 := Lib.hid (below_then hid1.out hid1.out.size hb)
  clear hb h1 hid1
  go_wp2_with fail
  refine (ref_calls 1 k addr _ (by omega) hk).mono ?_
  rintro e w3 ⟨rfl, hb⟩
  have h3 := h2.below hb
  have hid3 := Lib.hid (below_then hid2.out hid2.out.size hb)
  clear hb h2 hid2
  rw [show ((1 : Int) - 1) = 0 from rfl]
  go_wp2_with fail
  refine (access_calls k addr _ h3 hk).mono ?_
  rintro e w4 ⟨rfl, hb⟩
  have h4 := h3.below hb
  have hid4 := Lib.hid (below_then hid3.out hid3.out.size hb)
  clear hb h3 hid3
  go_wp2_with fail
  refine (ref_calls 2 k addr _ (by omega) hk).mono ?_
  rintro e w5 ⟨rfl, hb⟩
  have h5 := h4.below hb
  have hid5 := Lib.hid (below_then hid4.out hid4.out.size hb)
  clear hb h4 hid4
  rw [show ((2 : Int) - 1) = 1 from rfl]
  go_wp2_with fail
  refine (page_calls k addr _ h5 hk).mono ?_
  rintro e w6 ⟨rfl, hb⟩
  have h6 := h5.below hb
  have hid6 := Lib.hid (below_then hid5.out hid5.out.size hb)
  clear hb h5 hid5
  go_wp2_with fail
  refine (ref_calls 3 k addr _ (by omega) hk).mono ?_
  rintro e w7 ⟨rfl, hb⟩
  have h7 := h6.below hb
  have hid7 := Lib.hid (below_then hid6.out hid6.out.size hb)
  clear hb h6 hid6
  rw [show ((3 : Int) - 1) = 2 from rfl]
  go_wp2_with fail
  go_ret
  exact ⟨rfl, hid7.out⟩
theorem kind_of (kind : Int) (h : 0 ≤ kind) : (wrap64 (Int.tmod kind 3) = 0 ∨ wrap64 (Int.tmod kind 3) = 1 ∨ wrap64 (Int.tmod kind 3) = 2) := by
  rw [Int.tmod_eq_emod_of_nonneg h]; unfold wrap64; omega
theorem u8_low (x : Int) (h : (Lit.int .u8 x).wf = true) : 0 ≤ x := by
  simp [Lit.wf, IntKind.min, IntKind.max, IntKind.signed, IntKind.bits] at h
  omega

set_option maxRecDepth 100000 in
theorem lifted (os : Os) (started : os.Started) (H : Type) (enc : TypeId × Value → H) :
    ReturnsInHanded {} Tryd.checked os 3 .any (fun w args => (Rows.causeFaultsSpec.pre enc Tryd.prog Tryd.f3 [] false w args ∧ laidMetH Tryd.prog laidAll w) ∧ sizedMet enc Tryd.prog Tryd.f3 (OpenSpec.ofChange Rows.causeFaultsSpec) false w args)
      (Rows.causeFaultsSpec.post enc Tryd.prog Tryd.f3 false true false false) := by
  refine returnsInHanded_of_change_and (C := Tryd.checked) (X := fun w _ => laidMetH Tryd.prog laidAll w) (fun _ _ _ hh h => h.of_heap hh) own started (by kernel_rfl) Tryd.func3
    (ChangeSpec.witness_shaped (enc := enc) (C := Tryd.checked) (os := os) (X := fun w _ => laidMetH Tryd.prog laidAll w) false (World.doorLaid Tryd.prog 27 os) #[.int .u8 0, .int .u64 0] 8 rfl (World.shaped_of_RefB (by kernel_rfl) (by kernel_rfl)) (by kernel_rfl) (by kernel_rfl) (by kernel_rfl) (door_met os _)) ?_
  intro W base args ds gs before hval0 hW _ _ hL _
  have hval : ∀ (j : Nat) t v, Tryd.f3.params[j]? = some t → args[j]? = some v → Value.okWide Tryd.prog W .any base t v := hval0
  have hW' := hW
  obtain ⟨p, q, hA0, hV, rfl, hfz, hnd⟩ := hW
  have hA : DataW.TrodAll enc Tryd.prog W 0 (fun _ => true) true Tryd.f3.params.toList args.toList ds p := hA0
  rw [Tryd.params3] at hA hval
  obtain ⟨v0, v1, d0, d1, p0, p1, rfl, rfl, rfl, h0, h1⟩ := trodAll_two hA
  obtain ⟨rfl, rfl⟩ := trodVars_none hV
  obtain ⟨a0, rfl, rfl, rfl, w0⟩ := open_int Tryd.underlying5 (hval 0 5 v0 rfl rfl) h0
  obtain ⟨a1, rfl, rfl, rfl, w1⟩ := open_int Tryd.underlying22 (hval 1 22 v1 rfl rfl) h1
  clear hA0 hval0
  have hLd := of_laid hL
  refine (law_calls a0 a1 _ W hLd rfl (kind_of a0 (u8_low a0 w0))).mono fun e W' ⟨he, bel⟩ => ?_
  subst he
  exact ⟨_, rfl, _, _, _, [], _, [], hW', trodAll_mk1 (shut_bool Tryd.underlying4 _), (trodAll_cons_mk (shut_int Tryd.underlying5 w0) (trodAll_cons_mk (shut_int Tryd.underlying22 w1) trodAll_mk0)), rfl, bel.frame _, fun h => by cases h⟩
theorem over : Rows.CauseFaultsSaid :=
  OpenClaim.holds_of_wide 3 Tryd.f3 rfl rfl rfl rfl rfl rfl rfl ⟨rfl, rfl, rfl, rfl, rfl⟩ rfl rfl rfl rfl rfl (by kernel_rfl) Tryd.func3 (by kernel_rfl)
    (of_decide_eq_true (by kernel_rfl)) (by unfold Func.isWrapper; first | (rw [if_pos (by decide +kernel)]; kernel_rfl) | (rw [if_neg (by decide +kernel)]; exact ⟨rfl, rfl⟩))
    (fun os started H enc _ => lifted os started H enc)
theorem card : Rows.CauseFaultsCardSaid :=
  Claim7.holds_tied_plain_at .later [] [.data, .data, .data] true (true, "30169ff142f5f8b1dc1e679fe817366156ec5cb13e44c97a90c56e72c3826d46") false
    over (fun _ h => by cases h) (by kernel_rfl) (fun _ h => by cases h) causeFaults_row_tie rfl ⟨rfl, rfl⟩ (by kernel_rfl) rfl
    (fun f fn hf hfn => by
      obtain rfl : f = 3 := Option.some.inj ((show Tryd.prog.funcNamed "atlas/atlaslaw09.CauseFaults" = some 3 by kernel_rfl).symm.trans hf) |>.symm
      obtain rfl : fn = Tryd.f3 := (Option.some.inj (Tryd.func3.symm.trans hfn)).symm
      exact ⟨by kernel_rfl, fun j t ht => by
        rw [Tryd.params3] at ht
        have hm : t ∈ [5, 22] := by simpa using Array.mem_of_getElem? ht
        have hall : ([5, 22].all fun u => !Tryd.prog.wantsStandIn u) = true := by kernel_rfl
        exact (show Tryd.prog.wantsStandIn t = false by simpa using List.all_eq_true.1 hall t hm)⟩)
    (by kernel_rfl)
end Faults
theorem causeFaults_holds : Rows.CauseFaultsCardSaid := Faults.card
#print axioms causeFaults_holds
end Go.Proofs.YtichkddkmoljcaaDoor
