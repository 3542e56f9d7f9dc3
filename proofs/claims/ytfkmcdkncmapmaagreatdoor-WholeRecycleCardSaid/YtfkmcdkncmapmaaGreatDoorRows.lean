/-
  NARROWER THAN 'FOR EVERY INPUT', by the rows' own cells (each row's printed sentence says how): WholeRoom: laid · WholeRecycle: laid.
  DERIVED. THE GIVEN ROWS OF THIS SEAT. 2 by the template 'for every input the law returns true; each argument reads behind the call as it read before'; 0 by the template 'total and deterministic' (their statements: YtfkmcdkncmapmaaGreatDoorTotals.lean).
  GIVEN WITH THE SEED: the statements are not yours to turn. If you find one false, say at which input.
  Laid BY PROGRAM, IN A SANDBOX (cutbox-rows.mjs): the forced cells as the released guide's own fill.sh prints them over the translation 375ed5e49032da7e… (all of the seat's roots in one cut). By AI agents, Wed Nov 11 2026. No macro, syntax, notation, axiom, sorry.
-/
import Derived.Test.YtfkmcdkncmapmaaGreatDoorChecked
import GoSem.Claim
import GoSem.ClaimJoined
import GoSem.ClaimMapViews
import Derived.JoinedTies
import Derived.KernelRfl
namespace Go.Proofs.YtfkmcdkncmapmaaGreatDoor
/- THE CELL 'sum', in the pinned program and in every row, IS THE sha256 OF THE DUMP (.gsa) THAT YtfkmcdkncmapmaaGreatDoorProg.lean LOADS. Nothing in Lean hashes anything: it is a label: what it is worth is what the hold of that sum in a sandbox is worth. -/
noncomputable def Tryz.pinned : Pinned := { name := "ytfkmcdkncmapmaagreatdoor", sum := "375ed5e49032da7ea61cf7ce1c40b6f5735db5d08cd8cf4b6c6d9ff8f1f742dd", checked := Tryz.checked }
namespace Rows
def none {H : Type} : Left H := { results := [], args := [] }

/- WHAT THE LISTED PACKAGE-LEVEL VARIABLES READ AS WHEN THE CALL BEGINS. Each datum BY PROGRAM (the guide's laid-datum.mjs) off the statement by which the dump's own 'gosem.cut.vars' lays the variable. In a bare row this is a premise. The card (YtfkmcdkncmapmaaGreatDoorCards.lean) ties it to the program's text. -/
def laid_atlas_cause_causes {H : Type} : DataW H := .agg [.agg [.lit (.int .i64 0), .lit (.int .i64 4), .lit (.int .i64 6)], .agg [.lit (.int .i64 1), .lit (.int .i64 5), .lit (.int .i64 7)], .agg [.lit (.int .i64 12), .lit (.int .i64 13), .lit (.int .i64 15)]]
def laid_atlas_perm_asks {H : Type} : DataW H := .iface "func table" (.agg [.iface "func" (.lit (.string [97, 116, 108, 97, 115, 47, 112, 101, 114, 109, 46, 97, 115, 107, 115, 36, 49])), .iface "func" (.lit (.string [97, 116, 108, 97, 115, 47, 112, 101, 114, 109, 46, 97, 115, 107, 115, 36, 50])), .iface "func" (.lit (.string [97, 116, 108, 97, 115, 47, 112, 101, 114, 109, 46, 97, 115, 107, 115, 36, 51]))])
def laid_atlas_plru_touches {H : Type} : DataW H := .agg [.agg [.lit (.int .u8 3), .lit (.int .u8 0)], .agg [.lit (.int .u8 1), .lit (.int .u8 2)], .agg [.lit (.int .u8 4), .lit (.int .u8 1)], .agg [.lit (.int .u8 0), .lit (.int .u8 5)]]
def laid_atlas_va_sizes {H : Type} : DataW H := .agg [.lit (.int .u64 4096), .lit (.int .u64 2097152), .lit (.int .u64 1073741824)]
def laid_math_bits_deBruijn64tab {H : Type} : DataW H := .agg [.lit (.int .u8 0), .lit (.int .u8 1), .lit (.int .u8 56), .lit (.int .u8 2), .lit (.int .u8 57), .lit (.int .u8 49), .lit (.int .u8 28), .lit (.int .u8 3), .lit (.int .u8 61), .lit (.int .u8 58), .lit (.int .u8 42), .lit (.int .u8 50), .lit (.int .u8 38), .lit (.int .u8 29), .lit (.int .u8 17), .lit (.int .u8 4), .lit (.int .u8 62), .lit (.int .u8 47), .lit (.int .u8 59), .lit (.int .u8 36), .lit (.int .u8 45), .lit (.int .u8 43), .lit (.int .u8 51), .lit (.int .u8 22), .lit (.int .u8 53), .lit (.int .u8 39), .lit (.int .u8 33), .lit (.int .u8 30), .lit (.int .u8 24), .lit (.int .u8 18), .lit (.int .u8 12), .lit (.int .u8 5), .lit (.int .u8 63), .lit (.int .u8 55), .lit (.int .u8 48), .lit (.int .u8 27), .lit (.int .u8 60), .lit (.int .u8 41), .lit (.int .u8 37), .lit (.int .u8 16), .lit (.int .u8 46), .lit (.int .u8 35), .lit (.int .u8 44), .lit (.int .u8 21), .lit (.int .u8 52), .lit (.int .u8 32), .lit (.int .u8 23), .lit (.int .u8 11), .lit (.int .u8 54), .lit (.int .u8 26), .lit (.int .u8 40), .lit (.int .u8 15), .lit (.int .u8 34), .lit (.int .u8 20), .lit (.int .u8 31), .lit (.int .u8 10), .lit (.int .u8 25), .lit (.int .u8 14), .lit (.int .u8 19), .lit (.int .u8 9), .lit (.int .u8 13), .lit (.int .u8 8), .lit (.int .u8 7), .lit (.int .u8 6)]
def laid_atlas_fence_asks {H : Type} : DataW H := .iface "func table" (.slice [.iface "func" (.lit (.string [40, 97, 116, 108, 97, 115, 47, 102, 101, 110, 99, 101, 46, 102, 111, 114, 109, 41, 46, 97, 100, 100, 114])), .iface "func" (.lit (.string [40, 97, 116, 108, 97, 115, 47, 102, 101, 110, 99, 101, 46, 102, 111, 114, 109, 41, 46, 97, 115, 105, 100]))] [])
def laid_atlas_script_twos {H : Type} : DataW H := .agg [.lit (.int .u64 0), .lit (.int .u64 1), .lit (.int .u64 510), .lit (.int .u64 511)]
def laid_atlas_script_ones {H : Type} : DataW H := .agg [.lit (.int .u64 0), .lit (.int .u64 1), .lit (.int .u64 2), .lit (.int .u64 511)]

/-- 'atlastop.WholeRoom': WHATEVER THE INPUT: true; the input reads as it did. -/
def wholeRoomSpec : ChangeSpec := { name := "wholeRoom", fn := fun _ => fun
  | [d1, d2] => { results := [.lit (.bool true)], args := [d1, d2] }
  | _ => none }
def wholeRoomRow : OpenClaim := { program := "ytfkmcdkncmapmaagreatdoor", sum := "375ed5e49032da7ea61cf7ce1c40b6f5735db5d08cd8cf4b6c6d9ff8f1f742dd", func := "atlas/atlastop.WholeRoom", spec := "wholeRoom", inPlace := ["slices.overlaps[atlas/api.Cell]"], unfollowed := true, recurses := true, named := ["math/bits.deBruijn64tab", "atlas/script.twos", "atlas/script.ones", "atlas/va.sizes", "atlas/fence.asks", "atlas/cause.causes", "atlas/perm.asks", "atlas/plru.touches"], apart := false, laid := [("atlas/cause.causes", laid_atlas_cause_causes), ("atlas/perm.asks", laid_atlas_perm_asks), ("atlas/plru.touches", laid_atlas_plru_touches), ("atlas/va.sizes", laid_atlas_va_sizes), ("math/bits.deBruijn64tab", laid_math_bits_deBruijn64tab), ("atlas/fence.asks", laid_atlas_fence_asks), ("atlas/script.twos", laid_atlas_script_twos), ("atlas/script.ones", laid_atlas_script_ones)] }
def WholeRoomSaid : Prop := wholeRoomRow.holds Tryz.pinned (OpenSpec.ofChange wholeRoomSpec)

/-- ITS FALSE NEIGHBOUR: 'it returns false'. Refute it at one input. -/
def wholeRoomWrong : ChangeSpec := { name := "wholeRoom", fn := fun _ => fun
  | [d1, d2] => { results := [.lit (.bool false)], args := [d1, d2] }
  | _ => none }
def WholeRoomWrongFalsely : Prop := wholeRoomRow.holds Tryz.pinned (OpenSpec.ofChange wholeRoomWrong)

/-- 'atlastop.WholeRecycle': WHATEVER THE INPUT: true; the input reads as it did. -/
def wholeRecycleSpec : ChangeSpec := { name := "wholeRecycle", fn := fun _ => fun
  | [d1, d2, d3, d4] => { results := [.lit (.bool true)], args := [d1, d2, d3, d4] }
  | _ => none }
def wholeRecycleRow : OpenClaim := { program := "ytfkmcdkncmapmaagreatdoor", sum := "375ed5e49032da7ea61cf7ce1c40b6f5735db5d08cd8cf4b6c6d9ff8f1f742dd", func := "atlas/atlastop.WholeRecycle", spec := "wholeRecycle", inPlace := ["slices.overlaps[atlas/api.Cell]"], unfollowed := true, recurses := true, named := ["math/bits.deBruijn64tab", "atlas/script.twos", "atlas/script.ones", "atlas/va.sizes", "atlas/fence.asks", "atlas/cause.causes", "atlas/perm.asks", "atlas/plru.touches"], apart := false, laid := [("atlas/cause.causes", laid_atlas_cause_causes), ("atlas/perm.asks", laid_atlas_perm_asks), ("atlas/plru.touches", laid_atlas_plru_touches), ("atlas/va.sizes", laid_atlas_va_sizes), ("math/bits.deBruijn64tab", laid_math_bits_deBruijn64tab), ("atlas/fence.asks", laid_atlas_fence_asks), ("atlas/script.twos", laid_atlas_script_twos), ("atlas/script.ones", laid_atlas_script_ones)] }
def WholeRecycleSaid : Prop := wholeRecycleRow.holds Tryz.pinned (OpenSpec.ofChange wholeRecycleSpec)

/-- ITS FALSE NEIGHBOUR: 'it returns false'. Refute it at one input. -/
def wholeRecycleWrong : ChangeSpec := { name := "wholeRecycle", fn := fun _ => fun
  | [d1, d2, d3, d4] => { results := [.lit (.bool false)], args := [d1, d2, d3, d4] }
  | _ => none }
def WholeRecycleWrongFalsely : Prop := wholeRecycleRow.holds Tryz.pinned (OpenSpec.ofChange wholeRecycleWrong)

/- THE SECOND FORM. 'bulk': how many values and letters a reading holds, each counted each time it is reached (what is shared counts as often as it is met; a slice's spare places count too). A statement '..UptoSaid' is the law's where the arguments, and the package variables that the reading takes, are together of bulk at most 1048576: NARROWER than '..Said'. Prove '..Said' where nothing that the law and all that it calls make is longer than what came in: it says more and counts as full. Else prove '..UptoSaid'. A law counts once. -/
mutual
def uptoBulk {H : Type} : DataW H → Nat
  | .lit (.string bytes) => bytes.length + 1
  | .lit _ => 1
  | .nil => 1
  | .ptr d => uptoBulk d + 1
  | .slice elems spare => uptoBulkAll elems + uptoBulkAll spare + 1
  | .agg parts => uptoBulkAll parts + 1
  | .iface _ d => uptoBulk d + 1
  | .map entries => uptoBulkEntries entries + 1
  | .held _ => 1
def uptoBulkAll {H : Type} : List (DataW H) → Nat
  | [] => 0
  | d :: r => uptoBulk d + uptoBulkAll r
def uptoBulkEntries {H : Type} : List (Lit × DataW H) → Nat
  | [] => 0
  | x :: r => uptoBulkEntry x + uptoBulkEntries r
def uptoBulkEntry {H : Type} : Lit × DataW H → Nat
  | (.string bytes, d) => bytes.length + uptoBulk d + 1
  | (_, d) => uptoBulk d + 1
 end
def uptoSmall : (H : Type) → List (DataW H) → Bool := fun _ ds => decide (uptoBulkAll ds ≤ 1048576)
def OpenSpec.upto (s : _root_.Go.ChangeSpec) : _root_.Go.OpenSpec := { _root_.Go.OpenSpec.ofChange s with cond := some uptoSmall }

/-- 'atlastop.WholeRoom', WHERE WHAT IT READS IS OF BULK AT MOST 1048576: true; the input reads as it did. -/
def wholeRoomUptoRow : OpenClaim := { program := "ytfkmcdkncmapmaagreatdoor", sum := "375ed5e49032da7ea61cf7ce1c40b6f5735db5d08cd8cf4b6c6d9ff8f1f742dd", func := "atlas/atlastop.WholeRoom", spec := "wholeRoom", inPlace := ["slices.overlaps[atlas/api.Cell]"], unfollowed := true, recurses := true, named := ["math/bits.deBruijn64tab", "atlas/script.twos", "atlas/script.ones", "atlas/va.sizes", "atlas/fence.asks", "atlas/cause.causes", "atlas/perm.asks", "atlas/plru.touches"], apart := false, laid := [("atlas/cause.causes", laid_atlas_cause_causes), ("atlas/perm.asks", laid_atlas_perm_asks), ("atlas/plru.touches", laid_atlas_plru_touches), ("atlas/va.sizes", laid_atlas_va_sizes), ("math/bits.deBruijn64tab", laid_math_bits_deBruijn64tab), ("atlas/fence.asks", laid_atlas_fence_asks), ("atlas/script.twos", laid_atlas_script_twos), ("atlas/script.ones", laid_atlas_script_ones)], narrowed := true }
def WholeRoomUptoSaid : Prop := wholeRoomUptoRow.holds Tryz.pinned (OpenSpec.upto wholeRoomSpec)

/-- 'atlastop.WholeRecycle', WHERE WHAT IT READS IS OF BULK AT MOST 1048576: true; the input reads as it did. -/
def wholeRecycleUptoRow : OpenClaim := { program := "ytfkmcdkncmapmaagreatdoor", sum := "375ed5e49032da7ea61cf7ce1c40b6f5735db5d08cd8cf4b6c6d9ff8f1f742dd", func := "atlas/atlastop.WholeRecycle", spec := "wholeRecycle", inPlace := ["slices.overlaps[atlas/api.Cell]"], unfollowed := true, recurses := true, named := ["math/bits.deBruijn64tab", "atlas/script.twos", "atlas/script.ones", "atlas/va.sizes", "atlas/fence.asks", "atlas/cause.causes", "atlas/perm.asks", "atlas/plru.touches"], apart := false, laid := [("atlas/cause.causes", laid_atlas_cause_causes), ("atlas/perm.asks", laid_atlas_perm_asks), ("atlas/plru.touches", laid_atlas_plru_touches), ("atlas/va.sizes", laid_atlas_va_sizes), ("math/bits.deBruijn64tab", laid_math_bits_deBruijn64tab), ("atlas/fence.asks", laid_atlas_fence_asks), ("atlas/script.twos", laid_atlas_script_twos), ("atlas/script.ones", laid_atlas_script_ones)], narrowed := true }
def WholeRecycleUptoSaid : Prop := wholeRecycleUptoRow.holds Tryz.pinned (OpenSpec.upto wholeRecycleSpec)

end Rows
end Go.Proofs.YtfkmcdkncmapmaaGreatDoor
