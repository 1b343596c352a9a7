-- Written by a program of this session (wip/patch_print.py) over the kit's print.
import Derived.Test.YtbfnkfnapfaimaaProg
import Derived.Below
import Derived.Deep.Draws
import Derived.Deep.AppendLies
import Derived.Maps.AppendAt
import Derived.OwnWalk
import Derived.Laws.BytesArg
import Derived.Laws.MakeOwn
import Derived.Laws.OwnMore
import Derived.Deep.OwnRows
import Derived.Tactics
import Derived.Lib.ConvBytes
import Derived.Laws.Slices
import Derived.WalkKit
import Derived.KernelRfl
import Derived.RowKit3
import Derived.Deep.LoopGhost
import Derived.Deep.QuietTactic
import Derived.BigQuiet
import Derived.WideLaws
import Derived.Deep.DeepCutAuto
import Derived.Deep.CutBlock
import Derived.Deep.RegionHeld3
import Derived.Laws.Rows
import Derived.Lib.AppendStr
import Derived.ArgAppend
import Derived.Laws.IdiomCopy
import Derived.OrdersHeld
import Derived.Laws.BitsLemmas
import Derived.RowKit
import Derived.Test.YtbfnkfnapfaimaaWWords
import Derived.Test.YtbfnkfnapfaimaaWLast
import Derived.Test.YtbfnkfnapfaimaaWTab
import Derived.Test.YtbfnkfnapfaimaaWFour
import Derived.Test.YtbfnkfnapfaimaaWQPut
import Derived.Test.YtbfnkfnapfaimaaWApart
import Derived.Test.YtbfnkfnapfaimaaWArr
import Derived.Test.YtbfnkfnapfaimaaWZeros
import Derived.Test.YtbfnkfnapfaimaaWFoot
import Derived.Test.YtbfnkfnapfaimaaWKept
import Derived.Test.YtbfnkfnapfaimaaWShare
import Derived.Test.YtbfnkfnapfaimaaWN
import Derived.Test.YtbfnkfnapfaimaaWFootNe
import Derived.Test.YtbfnkfnapfaimaaWAt
import Derived.Test.YtbfnkfnapfaimaaWEqStruct
import Derived.Test.YtbfnkfnapfaimaaWRepsOne
import Derived.Test.YtbfnkfnapfaimaaWInv
import Derived.Test.YtbfnkfnapfaimaaWInvWords
import Derived.Test.YtbfnkfnapfaimaaWGuard
import Derived.Test.YtbfnkfnapfaimaaWNEv
import Derived.Test.YtbfnkfnapfaimaaWMore
namespace Go.Proofs.Ytbfnkfnapfaimaa.PFnReplace
open Go.RowKit Go.Proofs.YtbfnkfnapfaimaaW.PrintWords Go.Proofs.YtbfnkfnapfaimaaW.PrintLast Go.Proofs.YtbfnkfnapfaimaaW.PrintMore
attribute [local go_sem] max2_int min2_int max_two min_two max_three min_three max_four min_four   -- for this text's walks alone
set_option linter.unusedVariables false
set_option linter.unusedSimpArgs false



def errW : Option Int → Value
  | none => .nilIface
  | some c => .iface 0 (.int .i64 c)
theorem errW_none : errW none = .nilIface := rfl
theorem errW_some (c : Int) : errW (some c) = .iface 0 (.int .i64 c) := rfl

theorem info3 : (Try.prog.info? 3).map (fun i => (i.zero, i.size, i.bytes)) = some (some (.int .i64 0), 1, 8) := by kernel_rfl
theorem info5 : (Try.prog.info? 5).map (fun i => (i.zero, i.size, i.bytes)) = some (some (.int .u8 0), 1, 1) := by kernel_rfl
-- the values' own types

end Go.Proofs.Ytbfnkfnapfaimaa.PFnReplace
