/- SatpWords holds for every input: whether a register may be, its word and the register of a word are those of the reference; no condition. -/
import Derived.Test.YtopdfddoadcjoaaRows
import Derived.Test.YtopdfddoadcjoaaPureSatpWords
import Derived.Test.YtopdfddoadcjoaaThree
import Derived.WalkKit
import Derived.ProofKit
import Derived.OpenShut
import Derived.ChangeOld
import Derived.Below
set_option linter.unusedVariables false
namespace Go.Proofs.Ytopdfddoadcjoaa.satpWords
open Go.ChangeShapes Go.WideShapes Go.ChangeAt Go.RowKit Go.Proofs.Ytopdfddoadcjoaa.Three Go.Proofs.Ytopdfddoadcjoaa.Bits
theorem own : ownKnob Try.prog.godebug = none := by kernel_rfl
set_option maxRecDepth 100000 in
theorem lifted (os : Os) (started : os.Started) (H : Type) (enc : TypeId × Value → H) :
    ReturnsInHanded {} Try.checked os 3 .any (Rows.satpWordsSpec.pre6 enc Try.prog Try.f3 Rows.satpWordsRow.domain false) (Rows.satpWordsSpec.post enc Try.prog Try.f3 false true false false) := by
  refine returnsInHanded_of_change_sized (C := Try.checked) own started (by kernel_rfl) Try.func3
    (ChangeSpec.witness6 (enc := enc) (C := Try.checked) false ⟨#[], #[.agg #[.int .u64 0, .int .u64 0, .int .u64 0], .int .u64 0], []⟩ 8 (by kernel_rfl) (by kernel_rfl) (by kernel_rfl) (by kernel_rfl)) ?_
  intro W base args ds gs before hval0 hW hcnd hsz0 _
  have hval : ∀ (j : Nat) t v, Try.f3.params[j]? = some t → args[j]? = some v → Value.okWide Try.prog W .any base t v := hval0
  have hW' := hW
  obtain ⟨p, q, hA0, hV, rfl, hfz, hnd⟩ := hW
  have hA : DataW.TrodAll enc Try.prog W 0 (fun _ => true) true Try.f3.params.toList args.toList ds p := hA0
  rw [Try.params3] at hA hval
  obtain ⟨v0, v1, d0, d1, p0, p1, rfl, rfl, rfl, h0, h1⟩ := trodAll_two hA
  obtain ⟨rfl, rfl⟩ := trodVars_none hV
  obtain ⟨m, a, x, rfl, rfl, rfl, w0, w1, w2⟩ := open3 Try.underlying24 (by kernel_rfl) (by kernel_rfl) Try.underlying22 Try.underlying22 Try.underlying22 (hval 0 24 v0 rfl rfl) h0
  obtain ⟨w, rfl, rfl, rfl, w3⟩ := open_int Try.underlying22 (hval 1 22 v1 rfl rfl) h1
  clear hA0 hval0 hsz0
  have pure : PSatpWords.atlaslaw07_SatpWords.f 1 m a x w = some true := by
    obtain ⟨n0, rfl, b0⟩ := u64_of m w0
    obtain ⟨n1, rfl, b1⟩ := u64_of a w1
    obtain ⟨n2, rfl, b2⟩ := u64_of x w2
    obtain ⟨n6, rfl, b6⟩ := u64_of w w3
    exact Pure.SatpWords n0 n1 n2 n6 b0 b1 b2 b6
  refine (PSatpWords.atlaslaw07_SatpWords.calls 1 m a x w true W pure).mono fun e W' ⟨he, bel⟩ => ?_
  subst he
  exact ⟨_, rfl, _, _, _, [], _, [], hW', trodAll_mk1 (shut_bool Try.underlying4 _),
    (trodAll_cons_mk (shut3 Try.underlying24 (by kernel_rfl) (by kernel_rfl) Try.underlying22 Try.underlying22 Try.underlying22 w0 w1 w2) (trodAll_cons_mk (shut_int Try.underlying22 w3) trodAll_mk0)), rfl, bel.frame _, fun h => by cases h⟩
end Go.Proofs.Ytopdfddoadcjoaa.satpWords
namespace Go.Proofs.Ytopdfddoadcjoaa
theorem satpWords_holds : Rows.SatpWordsSaid :=
  OpenClaim.holds_of_wide 3 Try.f3 rfl rfl rfl rfl rfl rfl rfl ⟨rfl, rfl, rfl, rfl, rfl⟩ rfl rfl rfl rfl rfl (by kernel_rfl) Try.func3 (by kernel_rfl)
    (of_decide_eq_true (by kernel_rfl)) (by unfold Func.isWrapper; first | (rw [if_pos (by decide +kernel)]; kernel_rfl) | (rw [if_neg (by decide +kernel)]; exact ⟨rfl, rfl⟩))
    (fun os started H enc _ => satpWords.lifted os started H enc)
#print axioms satpWords_holds
end Go.Proofs.Ytopdfddoadcjoaa
