/-
  NARROWER THAN 'FOR EVERY INPUT', by the rows' own cells (each row's printed sentence says how): CauseFaults: laid · CauseNames: laid · CauseApart: laid · CauseSteps: laid.
  DERIVED. THE GIVEN ROWS OF THIS SEAT. 4 by the template 'for every input the law returns true; each argument reads behind the call as it read before'; 0 by the template 'total and deterministic' (their statements: YtichkddkmoljcaaDoorTotals.lean).
  GIVEN WITH THE SEED: the statements are not yours to turn. If you find one false, say at which input.
  Laid BY PROGRAM, IN A SANDBOX (cutbox-rows.mjs): the forced cells as the released guide's own fill.sh prints them over the translation d41ad600733b90a3… (all of the seat's roots in one cut). By AI agents, Wed Nov 11 2026. No macro, syntax, notation, axiom, sorry.
-/
import Derived.Test.YtichkddkmoljcaaDoorChecked
import GoSem.Claim
import GoSem.ClaimJoined
import GoSem.ClaimMapViews
import Derived.JoinedTies
import Derived.KernelRfl
namespace Go.Proofs.YtichkddkmoljcaaDoor
/- THE CELL 'sum', in the pinned program and in every row, IS THE sha256 OF THE DUMP (.gsa) THAT YtichkddkmoljcaaDoorProg.lean LOADS. Nothing in Lean hashes anything: it is a label: what it is worth is what the hold of that sum in a sandbox is worth. -/
noncomputable def Tryd.pinned : Pinned := { name := "ytichkddkmoljcaadoor", sum := "d41ad600733b90a399fbb208ffc90fca2e78d073afac4d0f92698d04a7414c55", checked := Tryd.checked }
namespace Rows
def none {H : Type} : Left H := { results := [], args := [] }

/- WHAT THE LISTED PACKAGE-LEVEL VARIABLES READ AS WHEN THE CALL BEGINS. Each datum BY PROGRAM (the guide's laid-datum.mjs) off the statement by which the dump's own 'gosem.cut.vars' lays the variable. In a bare row this is a premise. The card (YtichkddkmoljcaaDoorCards.lean) ties it to the program's text. -/
def laid_atlas_cause_causes {H : Type} : DataW H := .agg [.agg [.lit (.int .i64 0), .lit (.int .i64 4), .lit (.int .i64 6)], .agg [.lit (.int .i64 1), .lit (.int .i64 5), .lit (.int .i64 7)], .agg [.lit (.int .i64 12), .lit (.int .i64 13), .lit (.int .i64 15)]]
def laid_atlas_cause_sorts {H : Type} : DataW H := .agg [.lit (.string [111, 100, 100]), .lit (.string [97, 99, 99, 101, 115, 115]), .lit (.string [112, 97, 103, 101])]
def laid_atlas_cause_kinds {H : Type} : DataW H := .agg [.lit (.string [102, 101, 116, 99, 104]), .lit (.string [108, 111, 97, 100]), .lit (.string [115, 116, 111, 114, 101])]

/-- 'atlaslaw09.CauseFaults': WHATEVER THE INPUT: true; the input reads as it did. -/
def causeFaultsSpec : ChangeSpec := { name := "causeFaults", fn := fun _ => fun
  | [d1, d2] => { results := [.lit (.bool true)], args := [d1, d2] }
  | _ => none }
def causeFaultsRow : OpenClaim := { program := "ytichkddkmoljcaadoor", sum := "d41ad600733b90a399fbb208ffc90fca2e78d073afac4d0f92698d04a7414c55", func := "atlas/atlaslaw09.CauseFaults", spec := "causeFaults", named := ["atlas/cause.causes", "atlas/cause.sorts", "atlas/cause.kinds"], apart := false, laid := [("atlas/cause.causes", laid_atlas_cause_causes), ("atlas/cause.sorts", laid_atlas_cause_sorts), ("atlas/cause.kinds", laid_atlas_cause_kinds)] }
def CauseFaultsSaid : Prop := causeFaultsRow.holds Tryd.pinned (OpenSpec.ofChange causeFaultsSpec)

/-- ITS FALSE NEIGHBOUR: 'it returns false'. Refute it at one input. -/
def causeFaultsWrong : ChangeSpec := { name := "causeFaults", fn := fun _ => fun
  | [d1, d2] => { results := [.lit (.bool false)], args := [d1, d2] }
  | _ => none }
def CauseFaultsWrongFalsely : Prop := causeFaultsRow.holds Tryd.pinned (OpenSpec.ofChange causeFaultsWrong)

/-- 'atlaslaw09.CauseNames': WHATEVER THE INPUT: true; the input reads as it did. -/
def causeNamesSpec : ChangeSpec := { name := "causeNames", fn := fun _ => fun
  | [d] => { results := [.lit (.bool true)], args := [d] }
  | _ => none }
def causeNamesRow : OpenClaim := { program := "ytichkddkmoljcaadoor", sum := "d41ad600733b90a399fbb208ffc90fca2e78d073afac4d0f92698d04a7414c55", func := "atlas/atlaslaw09.CauseNames", spec := "causeNames", named := ["atlas/cause.causes", "atlas/cause.sorts", "atlas/cause.kinds"], apart := false, laid := [("atlas/cause.causes", laid_atlas_cause_causes), ("atlas/cause.sorts", laid_atlas_cause_sorts), ("atlas/cause.kinds", laid_atlas_cause_kinds)] }
def CauseNamesSaid : Prop := causeNamesRow.holds Tryd.pinned (OpenSpec.ofChange causeNamesSpec)

/-- ITS FALSE NEIGHBOUR: 'it returns false'. Refute it at one input. -/
def causeNamesWrong : ChangeSpec := { name := "causeNames", fn := fun _ => fun
  | [d] => { results := [.lit (.bool false)], args := [d] }
  | _ => none }
def CauseNamesWrongFalsely : Prop := causeNamesRow.holds Tryd.pinned (OpenSpec.ofChange causeNamesWrong)

/-- 'atlaslaw09.CauseApart': WHATEVER THE INPUT: true; the input reads as it did. -/
def causeApartSpec : ChangeSpec := { name := "causeApart", fn := fun _ => fun
  | [d] => { results := [.lit (.bool true)], args := [d] }
  | _ => none }
def causeApartRow : OpenClaim := { program := "ytichkddkmoljcaadoor", sum := "d41ad600733b90a399fbb208ffc90fca2e78d073afac4d0f92698d04a7414c55", func := "atlas/atlaslaw09.CauseApart", spec := "causeApart", named := ["atlas/cause.causes", "atlas/cause.sorts", "atlas/cause.kinds"], apart := false, laid := [("atlas/cause.causes", laid_atlas_cause_causes), ("atlas/cause.sorts", laid_atlas_cause_sorts), ("atlas/cause.kinds", laid_atlas_cause_kinds)] }
def CauseApartSaid : Prop := causeApartRow.holds Tryd.pinned (OpenSpec.ofChange causeApartSpec)

/-- ITS FALSE NEIGHBOUR: 'it returns false'. Refute it at one input. -/
def causeApartWrong : ChangeSpec := { name := "causeApart", fn := fun _ => fun
  | [d] => { results := [.lit (.bool false)], args := [d] }
  | _ => none }
def CauseApartWrongFalsely : Prop := causeApartRow.holds Tryd.pinned (OpenSpec.ofChange causeApartWrong)

/-- 'atlaslaw09.CauseSteps': WHATEVER THE INPUT: true; the input reads as it did. -/
def causeStepsSpec : ChangeSpec := { name := "causeSteps", fn := fun _ => fun
  | [d1, d2, d3] => { results := [.lit (.bool true)], args := [d1, d2, d3] }
  | _ => none }
def causeStepsRow : OpenClaim := { program := "ytichkddkmoljcaadoor", sum := "d41ad600733b90a399fbb208ffc90fca2e78d073afac4d0f92698d04a7414c55", func := "atlas/atlaslaw09.CauseSteps", spec := "causeSteps", named := ["atlas/cause.causes", "atlas/cause.sorts", "atlas/cause.kinds"], apart := false, laid := [("atlas/cause.causes", laid_atlas_cause_causes), ("atlas/cause.sorts", laid_atlas_cause_sorts), ("atlas/cause.kinds", laid_atlas_cause_kinds)] }
def CauseStepsSaid : Prop := causeStepsRow.holds Tryd.pinned (OpenSpec.ofChange causeStepsSpec)

/-- ITS FALSE NEIGHBOUR: 'it returns false'. Refute it at one input. -/
def causeStepsWrong : ChangeSpec := { name := "causeSteps", fn := fun _ => fun
  | [d1, d2, d3] => { results := [.lit (.bool false)], args := [d1, d2, d3] }
  | _ => none }
def CauseStepsWrongFalsely : Prop := causeStepsRow.holds Tryd.pinned (OpenSpec.ofChange causeStepsWrong)

/- THE SECOND FORM. 'bulk': how many values and letters a reading holds, each counted each time it is reached (what is shared counts as often as it is met; a slice's spare places count too). A statement '..UptoSaid' is the law's where the arguments, and the package variables that the reading takes, are together of bulk at most 1048576: NARROWER than '..Said'. Prove '..Said' where nothing that the law and all that it calls make is longer than what came in: it says more and counts as full. Else prove '..UptoSaid'. A law counts once. -/
mutual
def uptoBulk {H : Type} : DataW H → Nat
  | .lit (.string bytes) => bytes.length + 1
  | .lit _ => 1
  | .nil => 1
  | .ptr d => uptoBulk d + 1
  | .slice elems spare => uptoBulkAll elems + uptoBulkAll spare + 1
  | .agg parts => uptoBulkAll parts + 1
  | .iface _ d => uptoBulk d + 1
  | .map entries => uptoBulkEntries entries + 1
  | .held _ => 1
def uptoBulkAll {H : Type} : List (DataW H) → Nat
  | [] => 0
  | d :: r => uptoBulk d + uptoBulkAll r
def uptoBulkEntries {H : Type} : List (Lit × DataW H) → Nat
  | [] => 0
  | x :: r => uptoBulkEntry x + uptoBulkEntries r
def uptoBulkEntry {H : Type} : Lit × DataW H → Nat
  | (.string bytes, d) => bytes.length + uptoBulk d + 1
  | (_, d) => uptoBulk d + 1
 end
def uptoSmall : (H : Type) → List (DataW H) → Bool := fun _ ds => decide (uptoBulkAll ds ≤ 1048576)
def OpenSpec.upto (s : _root_.Go.ChangeSpec) : _root_.Go.OpenSpec := { _root_.Go.OpenSpec.ofChange s with cond := some uptoSmall }

/-- 'atlaslaw09.CauseFaults', WHERE WHAT IT READS IS OF BULK AT MOST 1048576: true; the input reads as it did. -/
def causeFaultsUptoRow : OpenClaim := { program := "ytichkddkmoljcaadoor", sum := "d41ad600733b90a399fbb208ffc90fca2e78d073afac4d0f92698d04a7414c55", func := "atlas/atlaslaw09.CauseFaults", spec := "causeFaults", named := ["atlas/cause.causes", "atlas/cause.sorts", "atlas/cause.kinds"], apart := false, laid := [("atlas/cause.causes", laid_atlas_cause_causes), ("atlas/cause.sorts", laid_atlas_cause_sorts), ("atlas/cause.kinds", laid_atlas_cause_kinds)], narrowed := true }
def CauseFaultsUptoSaid : Prop := causeFaultsUptoRow.holds Tryd.pinned (OpenSpec.upto causeFaultsSpec)

/-- 'atlaslaw09.CauseNames', WHERE WHAT IT READS IS OF BULK AT MOST 1048576: true; the input reads as it did. -/
def causeNamesUptoRow : OpenClaim := { program := "ytichkddkmoljcaadoor", sum := "d41ad600733b90a399fbb208ffc90fca2e78d073afac4d0f92698d04a7414c55", func := "atlas/atlaslaw09.CauseNames", spec := "causeNames", named := ["atlas/cause.causes", "atlas/cause.sorts", "atlas/cause.kinds"], apart := false, laid := [("atlas/cause.causes", laid_atlas_cause_causes), ("atlas/cause.sorts", laid_atlas_cause_sorts), ("atlas/cause.kinds", laid_atlas_cause_kinds)], narrowed := true }
def CauseNamesUptoSaid : Prop := causeNamesUptoRow.holds Tryd.pinned (OpenSpec.upto causeNamesSpec)

/-- 'atlaslaw09.CauseApart', WHERE WHAT IT READS IS OF BULK AT MOST 1048576: true; the input reads as it did. -/
def causeApartUptoRow : OpenClaim := { program := "ytichkddkmoljcaadoor", sum := "d41ad600733b90a399fbb208ffc90fca2e78d073afac4d0f92698d04a7414c55", func := "atlas/atlaslaw09.CauseApart", spec := "causeApart", named := ["atlas/cause.causes", "atlas/cause.sorts", "atlas/cause.kinds"], apart := false, laid := [("atlas/cause.causes", laid_atlas_cause_causes), ("atlas/cause.sorts", laid_atlas_cause_sorts), ("atlas/cause.kinds", laid_atlas_cause_kinds)], narrowed := true }
def CauseApartUptoSaid : Prop := causeApartUptoRow.holds Tryd.pinned (OpenSpec.upto causeApartSpec)

/-- 'atlaslaw09.CauseSteps', WHERE WHAT IT READS IS OF BULK AT MOST 1048576: true; the input reads as it did. -/
def causeStepsUptoRow : OpenClaim := { program := "ytichkddkmoljcaadoor", sum := "d41ad600733b90a399fbb208ffc90fca2e78d073afac4d0f92698d04a7414c55", func := "atlas/atlaslaw09.CauseSteps", spec := "causeSteps", named := ["atlas/cause.causes", "atlas/cause.sorts", "atlas/cause.kinds"], apart := false, laid := [("atlas/cause.causes", laid_atlas_cause_causes), ("atlas/cause.sorts", laid_atlas_cause_sorts), ("atlas/cause.kinds", laid_atlas_cause_kinds)], narrowed := true }
def CauseStepsUptoSaid : Prop := causeStepsUptoRow.holds Tryd.pinned (OpenSpec.upto causeStepsSpec)

end Rows
end Go.Proofs.YtichkddkmoljcaaDoor
