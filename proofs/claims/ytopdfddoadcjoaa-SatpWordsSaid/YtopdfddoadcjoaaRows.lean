/-
  No cell of these rows narrows 'for every input' (looked for: loops, veiled, ifaces, maps, wideKeys, modest, calm, conditions, laid).
  DERIVED. THE GIVEN ROWS OF THIS SEAT. 3 by the template 'for every input the law returns true; each argument reads behind the call as it read before'; 0 by the template 'total and deterministic' (their statements: YtopdfddoadcjoaaTotals.lean).
  GIVEN WITH THE SEED: the statements are not yours to turn. If you find one false, say at which input.
  Laid BY PROGRAM, IN A SANDBOX (cutbox-rows.mjs): the forced cells as the released guide's own fill.sh prints them over the translation 5ac209b75e36421d… (all of the seat's roots in one cut). By AI agents, Wed Nov 11 2026. No macro, syntax, notation, axiom, sorry.
-/
import Derived.Test.YtopdfddoadcjoaaChecked
import GoSem.Claim
import GoSem.ClaimJoined
import GoSem.ClaimMapViews
import Derived.JoinedTies
import Derived.KernelRfl
namespace Go.Proofs.Ytopdfddoadcjoaa
/- THE CELL 'sum', in the pinned program and in every row, IS THE sha256 OF THE DUMP (.gsa) THAT YtopdfddoadcjoaaProg.lean LOADS. Nothing in Lean hashes anything: it is a label: what it is worth is what the hold of that sum in a sandbox is worth. -/
noncomputable def Try.pinned : Pinned := { name := "ytopdfddoadcjoaa", sum := "5ac209b75e36421ddc9a655b48d8eef8da784eb914d54059807f759d069c05bc", checked := Try.checked }
namespace Rows
def none {H : Type} : Left H := { results := [], args := [] }

/-- 'atlaslaw07.SatpWords': WHATEVER THE INPUT: true; the input reads as it did. -/
def satpWordsSpec : ChangeSpec := { name := "satpWords", fn := fun _ => fun
  | [d1, d2] => { results := [.lit (.bool true)], args := [d1, d2] }
  | _ => none }
def satpWordsRow : OpenClaim := { program := "ytopdfddoadcjoaa", sum := "5ac209b75e36421ddc9a655b48d8eef8da784eb914d54059807f759d069c05bc", func := "atlas/atlaslaw07.SatpWords", spec := "satpWords", apart := false }
def SatpWordsSaid : Prop := satpWordsRow.holds Try.pinned (OpenSpec.ofChange satpWordsSpec)

/-- ITS FALSE NEIGHBOUR: 'it returns false'. Refute it at one input. -/
def satpWordsWrong : ChangeSpec := { name := "satpWords", fn := fun _ => fun
  | [d1, d2] => { results := [.lit (.bool false)], args := [d1, d2] }
  | _ => none }
def SatpWordsWrongFalsely : Prop := satpWordsRow.holds Try.pinned (OpenSpec.ofChange satpWordsWrong)

/-- 'atlaslaw07.SatpBack': WHATEVER THE INPUT: true; the input reads as it did. -/
def satpBackSpec : ChangeSpec := { name := "satpBack", fn := fun _ => fun
  | [d1, d2, d3] => { results := [.lit (.bool true)], args := [d1, d2, d3] }
  | _ => none }
def satpBackRow : OpenClaim := { program := "ytopdfddoadcjoaa", sum := "5ac209b75e36421ddc9a655b48d8eef8da784eb914d54059807f759d069c05bc", func := "atlas/atlaslaw07.SatpBack", spec := "satpBack", apart := false }
def SatpBackSaid : Prop := satpBackRow.holds Try.pinned (OpenSpec.ofChange satpBackSpec)

/-- ITS FALSE NEIGHBOUR: 'it returns false'. Refute it at one input. -/
def satpBackWrong : ChangeSpec := { name := "satpBack", fn := fun _ => fun
  | [d1, d2, d3] => { results := [.lit (.bool false)], args := [d1, d2, d3] }
  | _ => none }
def SatpBackWrongFalsely : Prop := satpBackRow.holds Try.pinned (OpenSpec.ofChange satpBackWrong)

/-- 'atlaslaw07.SatpModes': WHATEVER THE INPUT: true; the input reads as it did. -/
def satpModesSpec : ChangeSpec := { name := "satpModes", fn := fun _ => fun
  | [d1, d2, d3] => { results := [.lit (.bool true)], args := [d1, d2, d3] }
  | _ => none }
def satpModesRow : OpenClaim := { program := "ytopdfddoadcjoaa", sum := "5ac209b75e36421ddc9a655b48d8eef8da784eb914d54059807f759d069c05bc", func := "atlas/atlaslaw07.SatpModes", spec := "satpModes", apart := false }
def SatpModesSaid : Prop := satpModesRow.holds Try.pinned (OpenSpec.ofChange satpModesSpec)

/-- ITS FALSE NEIGHBOUR: 'it returns false'. Refute it at one input. -/
def satpModesWrong : ChangeSpec := { name := "satpModes", fn := fun _ => fun
  | [d1, d2, d3] => { results := [.lit (.bool false)], args := [d1, d2, d3] }
  | _ => none }
def SatpModesWrongFalsely : Prop := satpModesRow.holds Try.pinned (OpenSpec.ofChange satpModesWrong)

/- THE SECOND FORM. 'bulk': how many values and letters a reading holds, each counted each time it is reached (what is shared counts as often as it is met; a slice's spare places count too). A statement '..UptoSaid' is the law's where the arguments, and the package variables that the reading takes, are together of bulk at most 1048576: NARROWER than '..Said'. Prove '..Said' where nothing that the law and all that it calls make is longer than what came in: it says more and counts as full. Else prove '..UptoSaid'. A law counts once. -/
mutual
def uptoBulk {H : Type} : DataW H → Nat
  | .lit (.string bytes) => bytes.length + 1
  | .lit _ => 1
  | .nil => 1
  | .ptr d => uptoBulk d + 1
  | .slice elems spare => uptoBulkAll elems + uptoBulkAll spare + 1
  | .agg parts => uptoBulkAll parts + 1
  | .iface _ d => uptoBulk d + 1
  | .map entries => uptoBulkEntries entries + 1
  | .held _ => 1
def uptoBulkAll {H : Type} : List (DataW H) → Nat
  | [] => 0
  | d :: r => uptoBulk d + uptoBulkAll r
def uptoBulkEntries {H : Type} : List (Lit × DataW H) → Nat
  | [] => 0
  | x :: r => uptoBulkEntry x + uptoBulkEntries r
def uptoBulkEntry {H : Type} : Lit × DataW H → Nat
  | (.string bytes, d) => bytes.length + uptoBulk d + 1
  | (_, d) => uptoBulk d + 1
 end
def uptoSmall : (H : Type) → List (DataW H) → Bool := fun _ ds => decide (uptoBulkAll ds ≤ 1048576)
def OpenSpec.upto (s : _root_.Go.ChangeSpec) : _root_.Go.OpenSpec := { _root_.Go.OpenSpec.ofChange s with cond := some uptoSmall }

/-- 'atlaslaw07.SatpWords', WHERE WHAT IT READS IS OF BULK AT MOST 1048576: true; the input reads as it did. -/
def satpWordsUptoRow : OpenClaim := { program := "ytopdfddoadcjoaa", sum := "5ac209b75e36421ddc9a655b48d8eef8da784eb914d54059807f759d069c05bc", func := "atlas/atlaslaw07.SatpWords", spec := "satpWords", apart := false, narrowed := true }
def SatpWordsUptoSaid : Prop := satpWordsUptoRow.holds Try.pinned (OpenSpec.upto satpWordsSpec)

/-- 'atlaslaw07.SatpBack', WHERE WHAT IT READS IS OF BULK AT MOST 1048576: true; the input reads as it did. -/
def satpBackUptoRow : OpenClaim := { program := "ytopdfddoadcjoaa", sum := "5ac209b75e36421ddc9a655b48d8eef8da784eb914d54059807f759d069c05bc", func := "atlas/atlaslaw07.SatpBack", spec := "satpBack", apart := false, narrowed := true }
def SatpBackUptoSaid : Prop := satpBackUptoRow.holds Try.pinned (OpenSpec.upto satpBackSpec)

/-- 'atlaslaw07.SatpModes', WHERE WHAT IT READS IS OF BULK AT MOST 1048576: true; the input reads as it did. -/
def satpModesUptoRow : OpenClaim := { program := "ytopdfddoadcjoaa", sum := "5ac209b75e36421ddc9a655b48d8eef8da784eb914d54059807f759d069c05bc", func := "atlas/atlaslaw07.SatpModes", spec := "satpModes", apart := false, narrowed := true }
def SatpModesUptoSaid : Prop := satpModesUptoRow.holds Try.pinned (OpenSpec.upto satpModesSpec)

end Rows
end Go.Proofs.Ytopdfddoadcjoaa
