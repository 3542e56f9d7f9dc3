/-
  DERIVED. GIVEN WITH THE SEED: THE CARDS: each row of YtichkddkmoljcaaDoorRows.lean that lists a variable, with what it lists TIED to the program's text (the seventh form; the later family's looks); each row that meets fmt, with fmt's text TOLD by the authors' own Lean function (tested against real Go, not proved from fmt's source: count such statements apart). THE CARD IS WHAT COUNTS. Prove the row's statement (the work); the ties are given (YtichkddkmoljcaaDoorTie.lean); close each card by the builder's one call (the guide's Derived/Test/ToyasCard.lean, 'card_holds'). Laid BY PROGRAM, IN A SANDBOX (cutbox-door.mjs). By AI agents, Wed Nov 11 2026. No macro, syntax, notation, axiom, sorry.
-/
import Derived.Test.YtichkddkmoljcaaDoorRows
import GoSem.ClaimSeven
namespace Go.Proofs.YtichkddkmoljcaaDoor
namespace Rows

/-- THE TIED CARD OF 'atlaslaw09.CauseFaults'. -/
def causeFaultsCard : Claim7 := { stood := { row := causeFaultsRow, standIns := [], harness := (true, "30169ff142f5f8b1dc1e679fe817366156ec5cb13e44c97a90c56e72c3826d46"), looks := false }, kinds := [], alts := [], laidByText := true, laidKinds := [.data, .data, .data], laidTests := true, laidLooks := .later }
def CauseFaultsCardSaid : Prop := Claim7.holds Tryd.pinned (.plain (OpenSpec.ofChange causeFaultsSpec)) causeFaultsCard

/-- THE TIED CARD OF 'atlaslaw09.CauseNames'. -/
def causeNamesCard : Claim7 := { stood := { row := causeNamesRow, standIns := [], harness := (true, "30169ff142f5f8b1dc1e679fe817366156ec5cb13e44c97a90c56e72c3826d46"), looks := false }, kinds := [], alts := [], laidByText := true, laidKinds := [.data, .data, .data], laidTests := true, laidLooks := .later }
def CauseNamesCardSaid : Prop := Claim7.holds Tryd.pinned (.plain (OpenSpec.ofChange causeNamesSpec)) causeNamesCard

/-- THE TIED CARD OF 'atlaslaw09.CauseApart'. -/
def causeApartCard : Claim7 := { stood := { row := causeApartRow, standIns := [], harness := (true, "30169ff142f5f8b1dc1e679fe817366156ec5cb13e44c97a90c56e72c3826d46"), looks := false }, kinds := [], alts := [], laidByText := true, laidKinds := [.data, .data, .data], laidTests := true, laidLooks := .later }
def CauseApartCardSaid : Prop := Claim7.holds Tryd.pinned (.plain (OpenSpec.ofChange causeApartSpec)) causeApartCard

/-- THE TIED CARD OF 'atlaslaw09.CauseSteps'. -/
def causeStepsCard : Claim7 := { stood := { row := causeStepsRow, standIns := [], harness := (true, "30169ff142f5f8b1dc1e679fe817366156ec5cb13e44c97a90c56e72c3826d46"), looks := false }, kinds := [], alts := [], laidByText := true, laidKinds := [.data, .data, .data], laidTests := true, laidLooks := .later }
def CauseStepsCardSaid : Prop := Claim7.holds Tryd.pinned (.plain (OpenSpec.ofChange causeStepsSpec)) causeStepsCard

/-- THE SECOND FORM's CARD OF 'atlaslaw09.CauseFaults'. -/
def causeFaultsUptoCard : Claim7 := { stood := { row := causeFaultsUptoRow, standIns := [], harness := (true, "30169ff142f5f8b1dc1e679fe817366156ec5cb13e44c97a90c56e72c3826d46"), looks := false }, kinds := [], alts := [], laidByText := true, laidKinds := [.data, .data, .data], laidTests := true, laidLooks := .later }
def CauseFaultsUptoCardSaid : Prop := Claim7.holds Tryd.pinned (.plain (OpenSpec.upto causeFaultsSpec)) causeFaultsUptoCard

/-- THE SECOND FORM's CARD OF 'atlaslaw09.CauseNames'. -/
def causeNamesUptoCard : Claim7 := { stood := { row := causeNamesUptoRow, standIns := [], harness := (true, "30169ff142f5f8b1dc1e679fe817366156ec5cb13e44c97a90c56e72c3826d46"), looks := false }, kinds := [], alts := [], laidByText := true, laidKinds := [.data, .data, .data], laidTests := true, laidLooks := .later }
def CauseNamesUptoCardSaid : Prop := Claim7.holds Tryd.pinned (.plain (OpenSpec.upto causeNamesSpec)) causeNamesUptoCard

/-- THE SECOND FORM's CARD OF 'atlaslaw09.CauseApart'. -/
def causeApartUptoCard : Claim7 := { stood := { row := causeApartUptoRow, standIns := [], harness := (true, "30169ff142f5f8b1dc1e679fe817366156ec5cb13e44c97a90c56e72c3826d46"), looks := false }, kinds := [], alts := [], laidByText := true, laidKinds := [.data, .data, .data], laidTests := true, laidLooks := .later }
def CauseApartUptoCardSaid : Prop := Claim7.holds Tryd.pinned (.plain (OpenSpec.upto causeApartSpec)) causeApartUptoCard

/-- THE SECOND FORM's CARD OF 'atlaslaw09.CauseSteps'. -/
def causeStepsUptoCard : Claim7 := { stood := { row := causeStepsUptoRow, standIns := [], harness := (true, "30169ff142f5f8b1dc1e679fe817366156ec5cb13e44c97a90c56e72c3826d46"), looks := false }, kinds := [], alts := [], laidByText := true, laidKinds := [.data, .data, .data], laidTests := true, laidLooks := .later }
def CauseStepsUptoCardSaid : Prop := Claim7.holds Tryd.pinned (.plain (OpenSpec.upto causeStepsSpec)) causeStepsUptoCard
end Rows
end Go.Proofs.YtichkddkmoljcaaDoor
