-- Written by the session's own program wip/stubprint.py; Lean checks it.
import Derived.Test.YtjalglcmpnjeoaaDoorProg
import Derived.Test.YtjalglcmpnjeoaaDoorHand
import Derived.Below
import Derived.Deep.Draws
import Derived.Deep.AppendLies
import Derived.Maps.AppendAt
import Derived.OwnWalk
import Derived.Laws.BytesArg
import Derived.Laws.MakeOwn
import Derived.Laws.OwnMore
import Derived.Deep.OwnRows
import Derived.Tactics
import Derived.Lib.ConvBytes
import Derived.Laws.Slices
import Derived.WalkKit
import Derived.KernelRfl
import Derived.RowKit3
import Derived.Deep.LoopGhost
import Derived.Deep.QuietTactic
import Derived.BigQuiet
import Derived.WideLaws
import Derived.Deep.DeepCutAuto
import Derived.Deep.CutBlock
import Derived.Deep.RegionHeld3
import Derived.Laws.Rows
import Derived.Lib.AppendStr
import Derived.ArgAppend
import Derived.Laws.IdiomCopy
import Derived.OrdersHeld
import Derived.Laws.BitsLemmas
import Derived.RowKit
import Derived.Test.YtjalglcmpnjeoaaDoorWWords
import Derived.Test.YtjalglcmpnjeoaaDoorWLast
import Derived.Test.YtjalglcmpnjeoaaDoorWTab
import Derived.Test.YtjalglcmpnjeoaaDoorWFour
import Derived.Test.YtjalglcmpnjeoaaDoorWQPut
import Derived.Test.YtjalglcmpnjeoaaDoorWApart
import Derived.Test.YtjalglcmpnjeoaaDoorWArr
import Derived.Test.YtjalglcmpnjeoaaDoorWZeros
import Derived.Test.YtjalglcmpnjeoaaDoorWFoot
import Derived.Test.YtjalglcmpnjeoaaDoorWKept
import Derived.Test.YtjalglcmpnjeoaaDoorWShare
import Derived.Test.YtjalglcmpnjeoaaDoorWN
import Derived.Test.YtjalglcmpnjeoaaDoorWFootNe
import Derived.Test.YtjalglcmpnjeoaaDoorWAt
import Derived.Test.YtjalglcmpnjeoaaDoorWEqStruct
import Derived.Test.YtjalglcmpnjeoaaDoorWRepsOne
import Derived.Test.YtjalglcmpnjeoaaDoorWInv
import Derived.Test.YtjalglcmpnjeoaaDoorWInvWords
import Derived.Test.YtjalglcmpnjeoaaDoorWGuard
import Derived.Test.YtjalglcmpnjeoaaDoorWNEv
import Derived.Test.YtjalglcmpnjeoaaDoorWMore
namespace Go.Proofs.YtjalglcmpnjeoaaDoor.SAsidAll
open Go.RowKit Go.Proofs.YtjalglcmpnjeoaaDoorW.PrintWords Go.Proofs.YtjalglcmpnjeoaaDoorW.PrintLast Go.Proofs.YtjalglcmpnjeoaaDoorW.PrintMore
attribute [local go_sem] max2_int min2_int max_two min_two max_three min_three max_four min_four   -- for this text's walks alone
set_option linter.unusedVariables false
set_option linter.unusedSimpArgs false



def errW : Option Int → Value
  | none => .nilIface
  | some c => .iface 0 (.int .i64 c)
theorem errW_none : errW none = .nilIface := rfl
theorem errW_some (c : Int) : errW (some c) = .iface 0 (.int .i64 c) := rfl

theorem info22 : (Tryd.prog.info? 22).map (fun i => (i.zero, i.size, i.bytes)) = some (some (.int .u64 0), 1, 8) := by kernel_rfl
-- the values' own types

end Go.Proofs.YtjalglcmpnjeoaaDoor.SAsidAll
