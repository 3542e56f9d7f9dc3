/-
  DERIVED. GIVEN WITH THE SEED: THE PROGRAM's TIES (one call each: nine closed facts by the kernel) AND EACH ROW's TIE, after the 31st guide's Derived/Test/Toyas{Tie, Card}.lean. No idea stands in it: it is a product of the set-up. Laid BY PROGRAM, IN A SANDBOX (cutbox-door.mjs). By AI agents, Wed Nov 11 2026. No macro, syntax, notation, axiom, sorry.
-/
import Derived.Test.YtichkddkmoljcaaDoorRows
import Derived.LaidByTextLater
import Derived.SevenTiedAt
import Derived.LaidSub
import Derived.LaidOnce
namespace Go.Proofs.YtichkddkmoljcaaDoor
open Go
set_option maxRecDepth 100000
theorem seatTie1 : Tryd.prog.laidByTextLater [("atlas/cause.causes", Rows.laid_atlas_cause_causes), ("atlas/cause.sorts", Rows.laid_atlas_cause_sorts), ("atlas/cause.kinds", Rows.laid_atlas_cause_kinds)] [.data, .data, .data] true :=
  Program.laidByTextLater_by_one 27 8 10 (by kernel_rfl) (by kernel_rfl) (by kernel_rfl) (by kernel_rfl) (by kernel_rfl) (by kernel_rfl) (fun _ _ => by kernel_rfl)
theorem noOwnUnsafe : Tryd.pinned.checked.prog.headLifts.contains "ownunsafe" = false := by kernel_rfl
theorem tie : Tryd.prog.laidByTextLater [("atlas/cause.causes", Rows.laid_atlas_cause_causes), ("atlas/cause.sorts", Rows.laid_atlas_cause_sorts), ("atlas/cause.kinds", Rows.laid_atlas_cause_kinds)] [.data, .data, .data] true :=
  Program.laidByTextLater.sub seatTie1 ["atlas/cause.causes", "atlas/cause.sorts", "atlas/cause.kinds"] (by kernel_rfl) (by kernel_rfl)
theorem causeFaults_row_tie : Rows.causeFaultsRow.laidByTextAt .later Tryd.pinned [.data, .data, .data] true :=
  OpenClaim.laidByTextAt_later rfl rfl tie noOwnUnsafe
theorem causeNames_row_tie : Rows.causeNamesRow.laidByTextAt .later Tryd.pinned [.data, .data, .data] true :=
  OpenClaim.laidByTextAt_later rfl rfl tie noOwnUnsafe
theorem causeApart_row_tie : Rows.causeApartRow.laidByTextAt .later Tryd.pinned [.data, .data, .data] true :=
  OpenClaim.laidByTextAt_later rfl rfl tie noOwnUnsafe
theorem causeSteps_row_tie : Rows.causeStepsRow.laidByTextAt .later Tryd.pinned [.data, .data, .data] true :=
  OpenClaim.laidByTextAt_later rfl rfl tie noOwnUnsafe
theorem causeFaultsUpto_row_tie : Rows.causeFaultsUptoRow.laidByTextAt .later Tryd.pinned [.data, .data, .data] true :=
  OpenClaim.laidByTextAt_later rfl rfl tie noOwnUnsafe
theorem causeNamesUpto_row_tie : Rows.causeNamesUptoRow.laidByTextAt .later Tryd.pinned [.data, .data, .data] true :=
  OpenClaim.laidByTextAt_later rfl rfl tie noOwnUnsafe
theorem causeApartUpto_row_tie : Rows.causeApartUptoRow.laidByTextAt .later Tryd.pinned [.data, .data, .data] true :=
  OpenClaim.laidByTextAt_later rfl rfl tie noOwnUnsafe
theorem causeStepsUpto_row_tie : Rows.causeStepsUptoRow.laidByTextAt .later Tryd.pinned [.data, .data, .data] true :=
  OpenClaim.laidByTextAt_later rfl rfl tie noOwnUnsafe
end Go.Proofs.YtichkddkmoljcaaDoor
