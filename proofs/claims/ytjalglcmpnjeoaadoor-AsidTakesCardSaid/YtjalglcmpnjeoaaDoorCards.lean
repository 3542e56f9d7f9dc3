/-
  DERIVED. GIVEN WITH THE SEED: THE CARDS: each row of YtjalglcmpnjeoaaDoorRows.lean that lists a variable, with what it lists TIED to the program's text (the seventh form; the later family's looks); each row that meets fmt, with fmt's text TOLD by the authors' own Lean function (tested against real Go, not proved from fmt's source: count such statements apart). THE CARD IS WHAT COUNTS. Prove the row's statement (the work); the ties are given (YtjalglcmpnjeoaaDoorTie.lean); close each card by the builder's one call (the guide's Derived/Test/ToyasCard.lean, 'card_holds'). Laid BY PROGRAM, IN A SANDBOX (cutbox-door.mjs). By AI agents, Wed Nov 11 2026. No macro, syntax, notation, axiom, sorry.
-/
import Derived.Test.YtjalglcmpnjeoaaDoorRows
import GoSem.ClaimSeven
namespace Go.Proofs.YtjalglcmpnjeoaaDoor
namespace Rows

/-- THE TIED CARD OF 'atlaslaw18.AsidDoes'. -/
def asidDoesCard : Claim7 := { stood := { row := asidDoesRow, standIns := [], harness := (true, "cab8cfea4b84d4df5cae1fa00c0c5701bf4fec270e99a918e73424bfcea86bbf"), looks := false }, kinds := [], alts := [], laidByText := true, laidKinds := [.data], laidTests := true, laidLooks := .later }
def AsidDoesCardSaid : Prop := Claim7.holds Tryd.pinned (.plain (OpenSpec.ofChange asidDoesSpec)) asidDoesCard

/-- THE TIED CARD OF 'atlaslaw18.AsidTakes'. -/
def asidTakesCard : Claim7 := { stood := { row := asidTakesRow, standIns := [], harness := (true, "cab8cfea4b84d4df5cae1fa00c0c5701bf4fec270e99a918e73424bfcea86bbf"), looks := false }, kinds := [], alts := [], laidByText := true, laidKinds := [.data], laidTests := true, laidLooks := .later }
def AsidTakesCardSaid : Prop := Claim7.holds Tryd.pinned (.plain (OpenSpec.ofChange asidTakesSpec)) asidTakesCard

/-- THE TIED CARD OF 'atlaslaw18.AsidAll'. -/
def asidAllCard : Claim7 := { stood := { row := asidAllRow, standIns := [], harness := (true, "cab8cfea4b84d4df5cae1fa00c0c5701bf4fec270e99a918e73424bfcea86bbf"), looks := false }, kinds := [], alts := [], laidByText := true, laidKinds := [.data], laidTests := true, laidLooks := .later }
def AsidAllCardSaid : Prop := Claim7.holds Tryd.pinned (.plain (OpenSpec.ofChange asidAllSpec)) asidAllCard

/-- THE SECOND FORM's CARD OF 'atlaslaw18.AsidDoes'. -/
def asidDoesUptoCard : Claim7 := { stood := { row := asidDoesUptoRow, standIns := [], harness := (true, "cab8cfea4b84d4df5cae1fa00c0c5701bf4fec270e99a918e73424bfcea86bbf"), looks := false }, kinds := [], alts := [], laidByText := true, laidKinds := [.data], laidTests := true, laidLooks := .later }
def AsidDoesUptoCardSaid : Prop := Claim7.holds Tryd.pinned (.plain (OpenSpec.upto asidDoesSpec)) asidDoesUptoCard

/-- THE SECOND FORM's CARD OF 'atlaslaw18.AsidTakes'. -/
def asidTakesUptoCard : Claim7 := { stood := { row := asidTakesUptoRow, standIns := [], harness := (true, "cab8cfea4b84d4df5cae1fa00c0c5701bf4fec270e99a918e73424bfcea86bbf"), looks := false }, kinds := [], alts := [], laidByText := true, laidKinds := [.data], laidTests := true, laidLooks := .later }
def AsidTakesUptoCardSaid : Prop := Claim7.holds Tryd.pinned (.plain (OpenSpec.upto asidTakesSpec)) asidTakesUptoCard

/-- THE SECOND FORM's CARD OF 'atlaslaw18.AsidAll'. -/
def asidAllUptoCard : Claim7 := { stood := { row := asidAllUptoRow, standIns := [], harness := (true, "cab8cfea4b84d4df5cae1fa00c0c5701bf4fec270e99a918e73424bfcea86bbf"), looks := false }, kinds := [], alts := [], laidByText := true, laidKinds := [.data], laidTests := true, laidLooks := .later }
def AsidAllUptoCardSaid : Prop := Claim7.holds Tryd.pinned (.plain (OpenSpec.upto asidAllSpec)) asidAllUptoCard
end Rows
end Go.Proofs.YtjalglcmpnjeoaaDoor
