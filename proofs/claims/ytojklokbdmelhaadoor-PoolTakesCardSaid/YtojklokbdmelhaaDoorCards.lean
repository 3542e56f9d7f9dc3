/-
  DERIVED. GIVEN WITH THE SEED: THE CARDS: each row of YtojklokbdmelhaaDoorRows.lean that lists a variable, with what it lists TIED to the program's text (the seventh form; the later family's looks); each row that meets fmt, with fmt's text TOLD by the authors' own Lean function (tested against real Go, not proved from fmt's source: count such statements apart). THE CARD IS WHAT COUNTS. Prove the row's statement (the work); the ties are given (YtojklokbdmelhaaDoorTie.lean); close each card by the builder's one call (the guide's Derived/Test/ToyasCard.lean, 'card_holds'). Laid BY PROGRAM, IN A SANDBOX (cutbox-door.mjs). By AI agents, Wed Nov 11 2026. No macro, syntax, notation, axiom, sorry.
-/
import Derived.Test.YtojklokbdmelhaaDoorRows
import GoSem.ClaimSeven
namespace Go.Proofs.YtojklokbdmelhaaDoor
namespace Rows

/-- THE TIED CARD OF 'atlaslaw04.PoolDoes'. -/
def poolDoesCard : Claim7 := { stood := { row := poolDoesRow, standIns := [], harness := (true, "afc078a89ac976d87bfd331b21ea6a24ec125a18819afe5541123bfee56d3a93"), looks := false }, kinds := [], alts := [], laidByText := true, laidKinds := [.data], laidTests := true, laidLooks := .later }
def PoolDoesCardSaid : Prop := Claim7.holds Tryd.pinned (.plain (OpenSpec.ofChange poolDoesSpec)) poolDoesCard

/-- THE TIED CARD OF 'atlaslaw04.PoolNews'. -/
def poolNewsCard : Claim7 := { stood := { row := poolNewsRow, standIns := [], harness := (true, "afc078a89ac976d87bfd331b21ea6a24ec125a18819afe5541123bfee56d3a93"), looks := false }, kinds := [], alts := [], laidByText := true, laidKinds := [.data], laidTests := true, laidLooks := .later }
def PoolNewsCardSaid : Prop := Claim7.holds Tryd.pinned (.plain (OpenSpec.ofChange poolNewsSpec)) poolNewsCard

/-- THE TIED CARD OF 'atlaslaw04.PoolTakes'. -/
def poolTakesCard : Claim7 := { stood := { row := poolTakesRow, standIns := [], harness := (true, "afc078a89ac976d87bfd331b21ea6a24ec125a18819afe5541123bfee56d3a93"), looks := false }, kinds := [], alts := [], laidByText := true, laidKinds := [.data], laidTests := true, laidLooks := .later }
def PoolTakesCardSaid : Prop := Claim7.holds Tryd.pinned (.plain (OpenSpec.ofChange poolTakesSpec)) poolTakesCard

/-- THE TIED CARD OF 'atlaslaw04.PoolBack'. -/
def poolBackCard : Claim7 := { stood := { row := poolBackRow, standIns := [], harness := (true, "afc078a89ac976d87bfd331b21ea6a24ec125a18819afe5541123bfee56d3a93"), looks := false }, kinds := [], alts := [], laidByText := true, laidKinds := [.data], laidTests := true, laidLooks := .later }
def PoolBackCardSaid : Prop := Claim7.holds Tryd.pinned (.plain (OpenSpec.ofChange poolBackSpec)) poolBackCard

/-- THE TIED CARD OF 'atlaslaw04.PoolAll'. -/
def poolAllCard : Claim7 := { stood := { row := poolAllRow, standIns := [], harness := (true, "afc078a89ac976d87bfd331b21ea6a24ec125a18819afe5541123bfee56d3a93"), looks := false }, kinds := [], alts := [], laidByText := true, laidKinds := [.data], laidTests := true, laidLooks := .later }
def PoolAllCardSaid : Prop := Claim7.holds Tryd.pinned (.plain (OpenSpec.ofChange poolAllSpec)) poolAllCard

/-- THE SECOND FORM's CARD OF 'atlaslaw04.PoolDoes'. -/
def poolDoesUptoCard : Claim7 := { stood := { row := poolDoesUptoRow, standIns := [], harness := (true, "afc078a89ac976d87bfd331b21ea6a24ec125a18819afe5541123bfee56d3a93"), looks := false }, kinds := [], alts := [], laidByText := true, laidKinds := [.data], laidTests := true, laidLooks := .later }
def PoolDoesUptoCardSaid : Prop := Claim7.holds Tryd.pinned (.plain (OpenSpec.upto poolDoesSpec)) poolDoesUptoCard

/-- THE SECOND FORM's CARD OF 'atlaslaw04.PoolNews'. -/
def poolNewsUptoCard : Claim7 := { stood := { row := poolNewsUptoRow, standIns := [], harness := (true, "afc078a89ac976d87bfd331b21ea6a24ec125a18819afe5541123bfee56d3a93"), looks := false }, kinds := [], alts := [], laidByText := true, laidKinds := [.data], laidTests := true, laidLooks := .later }
def PoolNewsUptoCardSaid : Prop := Claim7.holds Tryd.pinned (.plain (OpenSpec.upto poolNewsSpec)) poolNewsUptoCard

/-- THE SECOND FORM's CARD OF 'atlaslaw04.PoolTakes'. -/
def poolTakesUptoCard : Claim7 := { stood := { row := poolTakesUptoRow, standIns := [], harness := (true, "afc078a89ac976d87bfd331b21ea6a24ec125a18819afe5541123bfee56d3a93"), looks := false }, kinds := [], alts := [], laidByText := true, laidKinds := [.data], laidTests := true, laidLooks := .later }
def PoolTakesUptoCardSaid : Prop := Claim7.holds Tryd.pinned (.plain (OpenSpec.upto poolTakesSpec)) poolTakesUptoCard

/-- THE SECOND FORM's CARD OF 'atlaslaw04.PoolBack'. -/
def poolBackUptoCard : Claim7 := { stood := { row := poolBackUptoRow, standIns := [], harness := (true, "afc078a89ac976d87bfd331b21ea6a24ec125a18819afe5541123bfee56d3a93"), looks := false }, kinds := [], alts := [], laidByText := true, laidKinds := [.data], laidTests := true, laidLooks := .later }
def PoolBackUptoCardSaid : Prop := Claim7.holds Tryd.pinned (.plain (OpenSpec.upto poolBackSpec)) poolBackUptoCard

/-- THE SECOND FORM's CARD OF 'atlaslaw04.PoolAll'. -/
def poolAllUptoCard : Claim7 := { stood := { row := poolAllUptoRow, standIns := [], harness := (true, "afc078a89ac976d87bfd331b21ea6a24ec125a18819afe5541123bfee56d3a93"), looks := false }, kinds := [], alts := [], laidByText := true, laidKinds := [.data], laidTests := true, laidLooks := .later }
def PoolAllUptoCardSaid : Prop := Claim7.holds Tryd.pinned (.plain (OpenSpec.upto poolAllSpec)) poolAllUptoCard
end Rows
end Go.Proofs.YtojklokbdmelhaaDoor
