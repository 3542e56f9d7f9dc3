-- Written by the session's own program wip/stubprint.py; Lean checks it.
import Derived.Test.YtojklokbdmelhaaDoorProg
import Derived.Test.YtojklokbdmelhaaDoorHand
import Derived.Below
import Derived.Deep.Draws
import Derived.Deep.AppendLies
import Derived.Maps.AppendAt
import Derived.OwnWalk
import Derived.Laws.BytesArg
import Derived.Laws.MakeOwn
import Derived.Laws.OwnMore
import Derived.Deep.OwnRows
import Derived.Tactics
import Derived.Lib.ConvBytes
import Derived.Laws.Slices
import Derived.WalkKit
import Derived.KernelRfl
import Derived.RowKit3
import Derived.Deep.LoopGhost
import Derived.Deep.QuietTactic
import Derived.BigQuiet
import Derived.WideLaws
import Derived.Deep.DeepCutAuto
import Derived.Deep.CutBlock
import Derived.Deep.RegionHeld3
import Derived.Laws.Rows
import Derived.Lib.AppendStr
import Derived.ArgAppend
import Derived.Laws.IdiomCopy
import Derived.OrdersHeld
import Derived.Laws.BitsLemmas
import Derived.RowKit
import Derived.Test.YtojklokbdmelhaaDoorWWords
import Derived.Test.YtojklokbdmelhaaDoorWLast
import Derived.Test.YtojklokbdmelhaaDoorWTab
import Derived.Test.YtojklokbdmelhaaDoorWFour
import Derived.Test.YtojklokbdmelhaaDoorWQPut
import Derived.Test.YtojklokbdmelhaaDoorWApart
import Derived.Test.YtojklokbdmelhaaDoorWArr
import Derived.Test.YtojklokbdmelhaaDoorWZeros
import Derived.Test.YtojklokbdmelhaaDoorWFoot
import Derived.Test.YtojklokbdmelhaaDoorWKept
import Derived.Test.YtojklokbdmelhaaDoorWShare
import Derived.Test.YtojklokbdmelhaaDoorWN
import Derived.Test.YtojklokbdmelhaaDoorWFootNe
import Derived.Test.YtojklokbdmelhaaDoorWAt
import Derived.Test.YtojklokbdmelhaaDoorWEqStruct
import Derived.Test.YtojklokbdmelhaaDoorWRepsOne
import Derived.Test.YtojklokbdmelhaaDoorWInv
import Derived.Test.YtojklokbdmelhaaDoorWInvWords
import Derived.Test.YtojklokbdmelhaaDoorWGuard
import Derived.Test.YtojklokbdmelhaaDoorWNEv
import Derived.Test.YtojklokbdmelhaaDoorWMore
namespace Go.Proofs.YtojklokbdmelhaaDoor.SPoolAll
open Go.RowKit Go.Proofs.YtojklokbdmelhaaDoorW.PrintWords Go.Proofs.YtojklokbdmelhaaDoorW.PrintLast Go.Proofs.YtojklokbdmelhaaDoorW.PrintMore
attribute [local go_sem] max2_int min2_int max_two min_two max_three min_three max_four min_four   -- for this text's walks alone
set_option linter.unusedVariables false
set_option linter.unusedSimpArgs false



def errW : Option Int → Value
  | none => .nilIface
  | some c => .iface 0 (.int .i64 c)
theorem errW_none : errW none = .nilIface := rfl
theorem errW_some (c : Int) : errW (some c) = .iface 0 (.int .i64 c) := rfl

theorem info22 : (Tryd.prog.info? 22).map (fun i => (i.zero, i.size, i.bytes)) = some (some (.int .u64 0), 1, 8) := by kernel_rfl
-- the values' own types

end Go.Proofs.YtojklokbdmelhaaDoor.SPoolAll
