/-
  DERIVED. GIVEN WITH THE SEED: THE CARDS: each row of YtfkmcdkncmapmaaGreatDoorRows.lean that lists a variable, with what it lists TIED to the program's text (the seventh form; the later family's looks); each row that meets fmt, with fmt's text TOLD by the authors' own Lean function (tested against real Go, not proved from fmt's source: count such statements apart). THE CARD IS WHAT COUNTS. Prove the row's statement (the work); the ties are given (YtfkmcdkncmapmaaGreatDoorTie.lean); close each card by the builder's one call (the guide's Derived/Test/ToyasCard.lean, 'card_holds'). Laid BY PROGRAM, IN A SANDBOX (cutbox-door.mjs). By AI agents, Wed Nov 11 2026. No macro, syntax, notation, axiom, sorry.
-/
import Derived.Test.YtfkmcdkncmapmaaGreatDoorRows
import GoSem.ClaimSeven
namespace Go.Proofs.YtfkmcdkncmapmaaGreatDoor
namespace Rows

/-- THE TIED CARD OF 'atlastop.WholeRoom'. -/
def wholeRoomCard : Claim7 := { stood := { row := wholeRoomRow, standIns := [], harness := (true, "2da5a3d28903d8e622d5efabbd36640f1294dad2c764f57e4324def8aea936b2"), looks := false }, kinds := [], alts := [], laidByText := true, laidKinds := [.data, .funcs, .data, .data, .data, .funcs, .data, .data], laidTests := true, laidLooks := .later }
def WholeRoomCardSaid : Prop := Claim7.holds Tryz.pinned (.plain (OpenSpec.ofChange wholeRoomSpec)) wholeRoomCard

/-- THE TIED CARD OF 'atlastop.WholeRecycle'. -/
def wholeRecycleCard : Claim7 := { stood := { row := wholeRecycleRow, standIns := [], harness := (true, "2da5a3d28903d8e622d5efabbd36640f1294dad2c764f57e4324def8aea936b2"), looks := false }, kinds := [], alts := [], laidByText := true, laidKinds := [.data, .funcs, .data, .data, .data, .funcs, .data, .data], laidTests := true, laidLooks := .later }
def WholeRecycleCardSaid : Prop := Claim7.holds Tryz.pinned (.plain (OpenSpec.ofChange wholeRecycleSpec)) wholeRecycleCard

/-- THE SECOND FORM's CARD OF 'atlastop.WholeRoom'. -/
def wholeRoomUptoCard : Claim7 := { stood := { row := wholeRoomUptoRow, standIns := [], harness := (true, "2da5a3d28903d8e622d5efabbd36640f1294dad2c764f57e4324def8aea936b2"), looks := false }, kinds := [], alts := [], laidByText := true, laidKinds := [.data, .funcs, .data, .data, .data, .funcs, .data, .data], laidTests := true, laidLooks := .later }
def WholeRoomUptoCardSaid : Prop := Claim7.holds Tryz.pinned (.plain (OpenSpec.upto wholeRoomSpec)) wholeRoomUptoCard

/-- THE SECOND FORM's CARD OF 'atlastop.WholeRecycle'. -/
def wholeRecycleUptoCard : Claim7 := { stood := { row := wholeRecycleUptoRow, standIns := [], harness := (true, "2da5a3d28903d8e622d5efabbd36640f1294dad2c764f57e4324def8aea936b2"), looks := false }, kinds := [], alts := [], laidByText := true, laidKinds := [.data, .funcs, .data, .data, .data, .funcs, .data, .data], laidTests := true, laidLooks := .later }
def WholeRecycleUptoCardSaid : Prop := Claim7.holds Tryz.pinned (.plain (OpenSpec.upto wholeRecycleSpec)) wholeRecycleUptoCard
end Rows
end Go.Proofs.YtfkmcdkncmapmaaGreatDoor
