/- SatpBack holds for every input: what is put is read as it was, what is read is put as it was, unlike registers have unlike words; no condition. -/
import Derived.Test.YtopdfddoadcjoaaRows
import Derived.Test.YtopdfddoadcjoaaPureSatpBack
import Derived.Test.YtopdfddoadcjoaaThree
import Derived.WalkKit
import Derived.ProofKit
import Derived.OpenShut
import Derived.ChangeOld
import Derived.Below
set_option linter.unusedVariables false
namespace Go.Proofs.Ytopdfddoadcjoaa.satpBack
open Go.ChangeShapes Go.WideShapes Go.ChangeAt Go.RowKit Go.Proofs.Ytopdfddoadcjoaa.Three Go.Proofs.Ytopdfddoadcjoaa.Bits
theorem own : ownKnob Try.prog.godebug = none := by kernel_rfl
set_option maxRecDepth 100000 in
theorem lifted (os : Os) (started : os.Started) (H : Type) (enc : TypeId × Value → H) :
    ReturnsInHanded {} Try.checked os 4 .any (Rows.satpBackSpec.pre6 enc Try.prog Try.f4 Rows.satpBackRow.domain false) (Rows.satpBackSpec.post enc Try.prog Try.f4 false true false false) := by
  refine returnsInHanded_of_change_sized (C := Try.checked) own started (by kernel_rfl) Try.func4
    (ChangeSpec.witness6 (enc := enc) (C := Try.checked) false ⟨#[], #[.agg #[.int .u64 0, .int .u64 0, .int .u64 0], .agg #[.int .u64 0, .int .u64 0, .int .u64 0], .int .u64 0], []⟩ 8 (by kernel_rfl) (by kernel_rfl) (by kernel_rfl) (by kernel_rfl)) ?_
  intro W base args ds gs before hval0 hW hcnd hsz0 _
  have hval : ∀ (j : Nat) t v, Try.f4.params[j]? = some t → args[j]? = some v → Value.okWide Try.prog W .any base t v := hval0
  have hW' := hW
  obtain ⟨p, q, hA0, hV, rfl, hfz, hnd⟩ := hW
  have hA : DataW.TrodAll enc Try.prog W 0 (fun _ => true) true Try.f4.params.toList args.toList ds p := hA0
  rw [Try.params4] at hA hval
  obtain ⟨v0, v1, v2, d0, d1, d2, p0, p1, p2, rfl, rfl, rfl, h0, h1, h2⟩ := trodAll_three hA
  obtain ⟨rfl, rfl⟩ := trodVars_none hV
  obtain ⟨m, a, x, rfl, rfl, rfl, w0, w1, w2⟩ := open3 Try.underlying24 (by kernel_rfl) (by kernel_rfl) Try.underlying22 Try.underlying22 Try.underlying22 (hval 0 24 v0 rfl rfl) h0
  obtain ⟨m', a', x', rfl, rfl, rfl, w0', w1', w2'⟩ := open3 Try.underlying24 (by kernel_rfl) (by kernel_rfl) Try.underlying22 Try.underlying22 Try.underlying22 (hval 1 24 v1 rfl rfl) h1
  obtain ⟨w, rfl, rfl, rfl, w3⟩ := open_int Try.underlying22 (hval 2 22 v2 rfl rfl) h2
  clear hA0 hval0 hsz0
  have pure : PSatpBack.atlaslaw07_SatpBack.f 1 m a x m' a' x' w = some true := by
    obtain ⟨n0, rfl, b0⟩ := u64_of m w0
    obtain ⟨n1, rfl, b1⟩ := u64_of a w1
    obtain ⟨n2, rfl, b2⟩ := u64_of x w2
    obtain ⟨n3, rfl, b3⟩ := u64_of m' w0'
    obtain ⟨n4, rfl, b4⟩ := u64_of a' w1'
    obtain ⟨n5, rfl, b5⟩ := u64_of x' w2'
    obtain ⟨n6, rfl, b6⟩ := u64_of w w3
    exact Pure.SatpBack n0 n1 n2 n3 n4 n5 n6 b0 b1 b2 b3 b4 b5 b6
  refine (PSatpBack.atlaslaw07_SatpBack.calls 1 m a x m' a' x' w true W pure).mono fun e W' ⟨he, bel⟩ => ?_
  subst he
  exact ⟨_, rfl, _, _, _, [], _, [], hW', trodAll_mk1 (shut_bool Try.underlying4 _),
    (trodAll_cons_mk (shut3 Try.underlying24 (by kernel_rfl) (by kernel_rfl) Try.underlying22 Try.underlying22 Try.underlying22 w0 w1 w2) (trodAll_cons_mk (shut3 Try.underlying24 (by kernel_rfl) (by kernel_rfl) Try.underlying22 Try.underlying22 Try.underlying22 w0' w1' w2') (trodAll_cons_mk (shut_int Try.underlying22 w3) trodAll_mk0))), rfl, bel.frame _, fun h => by cases h⟩
end Go.Proofs.Ytopdfddoadcjoaa.satpBack
namespace Go.Proofs.Ytopdfddoadcjoaa
theorem satpBack_holds : Rows.SatpBackSaid :=
  OpenClaim.holds_of_wide 4 Try.f4 rfl rfl rfl rfl rfl rfl rfl ⟨rfl, rfl, rfl, rfl, rfl⟩ rfl rfl rfl rfl rfl (by kernel_rfl) Try.func4 (by kernel_rfl)
    (of_decide_eq_true (by kernel_rfl)) (by unfold Func.isWrapper; first | (rw [if_pos (by decide +kernel)]; kernel_rfl) | (rw [if_neg (by decide +kernel)]; exact ⟨rfl, rfl⟩))
    (fun os started H enc _ => satpBack.lifted os started H enc)
#print axioms satpBack_holds
end Go.Proofs.Ytopdfddoadcjoaa
