-- Written by wip/pr.py (over the print of the kit) out of the translation.
import Derived.Test.YthhkbbhfloekiaaProg
import Derived.Below
import Derived.Deep.Draws
import Derived.Deep.AppendLies
import Derived.Maps.AppendAt
import Derived.OwnWalk
import Derived.Laws.BytesArg
import Derived.Laws.MakeOwn
import Derived.Laws.OwnMore
import Derived.Deep.OwnRows
import Derived.Tactics
import Derived.Lib.ConvBytes
import Derived.Laws.Slices
import Derived.WalkKit
import Derived.KernelRfl
import Derived.RowKit3
import Derived.Deep.LoopGhost
import Derived.Deep.QuietTactic
import Derived.BigQuiet
import Derived.WideLaws
import Derived.Deep.DeepCutAuto
import Derived.Deep.CutBlock
import Derived.Deep.RegionHeld3
import Derived.Laws.Rows
import Derived.Lib.AppendStr
import Derived.ArgAppend
import Derived.Laws.IdiomCopy
import Derived.OrdersHeld
import Derived.Laws.BitsLemmas
import Derived.RowKit
import Derived.Test.YthhkbbhfloekiaaWWords
import Derived.Test.YthhkbbhfloekiaaWLast
import Derived.Test.YthhkbbhfloekiaaWTab
import Derived.Test.YthhkbbhfloekiaaWFour
import Derived.Test.YthhkbbhfloekiaaWQPut
import Derived.Test.YthhkbbhfloekiaaWApart
import Derived.Test.YthhkbbhfloekiaaWArr
import Derived.Test.YthhkbbhfloekiaaWZeros
import Derived.Test.YthhkbbhfloekiaaWFoot
import Derived.Test.YthhkbbhfloekiaaWKept
import Derived.Test.YthhkbbhfloekiaaWShare
import Derived.Test.YthhkbbhfloekiaaWN
import Derived.Test.YthhkbbhfloekiaaWFootNe
import Derived.Test.YthhkbbhfloekiaaWAt
import Derived.Test.YthhkbbhfloekiaaWEqStruct
import Derived.Test.YthhkbbhfloekiaaWRepsOne
import Derived.Test.YthhkbbhfloekiaaWInv
import Derived.Test.YthhkbbhfloekiaaWInvWords
import Derived.Test.YthhkbbhfloekiaaWGuard
import Derived.Test.YthhkbbhfloekiaaWNEv
import Derived.Test.YthhkbbhfloekiaaWMore
namespace Go.Proofs.Ythhkbbhfloekiaa.Pr
open Go.RowKit Go.Proofs.YthhkbbhfloekiaaW.PrintWords Go.Proofs.YthhkbbhfloekiaaW.PrintLast Go.Proofs.YthhkbbhfloekiaaW.PrintMore
attribute [local go_sem] max2_int min2_int max_two min_two max_three min_three max_four min_four   -- for this text's walks alone
set_option linter.unusedVariables false
set_option linter.unusedSimpArgs false



def errW : Option Int → Value
  | none => .nilIface
  | some c => .iface 0 (.int .i64 c)
theorem errW_none : errW none = .nilIface := rfl
theorem errW_some (c : Int) : errW (some c) = .iface 0 (.int .i64 c) := rfl

theorem info5 : (Try.prog.info? 5).map (fun i => (i.zero, i.size, i.bytes)) = some (some (.int .u8 0), 1, 1) := by kernel_rfl
-- the values' own types

end Go.Proofs.Ythhkbbhfloekiaa.Pr
