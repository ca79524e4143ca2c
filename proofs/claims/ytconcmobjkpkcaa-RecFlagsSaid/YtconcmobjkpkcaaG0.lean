-- Written by wip/gen.py: the kit's print.py, with this session's own texts where it takes a function not. Not trusted: Lean checks it.
import Derived.Test.YtconcmobjkpkcaaProg
import Derived.Below
import Derived.Deep.Draws
import Derived.Deep.AppendLies
import Derived.Maps.AppendAt
import Derived.OwnWalk
import Derived.Laws.BytesArg
import Derived.Laws.MakeOwn
import Derived.Laws.OwnMore
import Derived.Deep.OwnRows
import Derived.Tactics
import Derived.Lib.ConvBytes
import Derived.Laws.Slices
import Derived.WalkKit
import Derived.KernelRfl
import Derived.RowKit3
import Derived.Deep.LoopGhost
import Derived.Deep.QuietTactic
import Derived.BigQuiet
import Derived.WideLaws
import Derived.Deep.DeepCutAuto
import Derived.Deep.CutBlock
import Derived.Deep.RegionHeld3
import Derived.Laws.Rows
import Derived.Lib.AppendStr
import Derived.ArgAppend
import Derived.Laws.IdiomCopy
import Derived.OrdersHeld
import Derived.Laws.BitsLemmas
import Derived.RowKit
import Derived.Test.YtconcmobjkpkcaaKit
import Derived.Test.YtconcmobjkpkcaaWWords
import Derived.Test.YtconcmobjkpkcaaWLast
import Derived.Test.YtconcmobjkpkcaaWTab
import Derived.Test.YtconcmobjkpkcaaWFour
import Derived.Test.YtconcmobjkpkcaaWQPut
import Derived.Test.YtconcmobjkpkcaaWApart
import Derived.Test.YtconcmobjkpkcaaWArr
import Derived.Test.YtconcmobjkpkcaaWZeros
import Derived.Test.YtconcmobjkpkcaaWFoot
import Derived.Test.YtconcmobjkpkcaaWKept
import Derived.Test.YtconcmobjkpkcaaWShare
import Derived.Test.YtconcmobjkpkcaaWN
import Derived.Test.YtconcmobjkpkcaaWFootNe
import Derived.Test.YtconcmobjkpkcaaWAt
import Derived.Test.YtconcmobjkpkcaaWEqStruct
import Derived.Test.YtconcmobjkpkcaaWRepsOne
import Derived.Test.YtconcmobjkpkcaaWInv
import Derived.Test.YtconcmobjkpkcaaWInvWords
import Derived.Test.YtconcmobjkpkcaaWGuard
import Derived.Test.YtconcmobjkpkcaaWNEv
import Derived.Test.YtconcmobjkpkcaaWMore
namespace Go.Proofs.Ytconcmobjkpkcaa.G
open Go.RowKit Go.Proofs.YtconcmobjkpkcaaW.PrintWords Go.Proofs.YtconcmobjkpkcaaW.PrintLast Go.Proofs.YtconcmobjkpkcaaW.PrintMore
attribute [local go_sem] max2_int min2_int max_two min_two max_three min_three max_four min_four   -- for this text's walks alone
set_option linter.unusedVariables false
set_option linter.unusedSimpArgs false



def errW : Option Int → Value
  | none => .nilIface
  | some c => .iface 0 (.int .i64 c)
theorem errW_none : errW none = .nilIface := rfl
theorem errW_some (c : Int) : errW (some c) = .iface 0 (.int .i64 c) := rfl

theorem info5 : (Try.prog.info? 5).map (fun i => (i.zero, i.size, i.bytes)) = some (some (.int .u8 0), 1, 1) := by kernel_rfl
-- the values' own types

end Go.Proofs.Ytconcmobjkpkcaa.G
