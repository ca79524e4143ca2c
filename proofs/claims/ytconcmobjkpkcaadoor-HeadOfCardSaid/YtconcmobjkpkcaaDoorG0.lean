-- Written by wip/gen.py: the kit's print.py, with this session's own texts where it takes a function not. Not trusted: Lean checks it.
import Derived.Test.YtconcmobjkpkcaaDoorProg
import Derived.Below
import Derived.Deep.Draws
import Derived.Deep.AppendLies
import Derived.Maps.AppendAt
import Derived.OwnWalk
import Derived.Laws.BytesArg
import Derived.Laws.MakeOwn
import Derived.Laws.OwnMore
import Derived.Deep.OwnRows
import Derived.Tactics
import Derived.Lib.ConvBytes
import Derived.Laws.Slices
import Derived.WalkKit
import Derived.KernelRfl
import Derived.RowKit3
import Derived.Deep.LoopGhost
import Derived.Deep.QuietTactic
import Derived.BigQuiet
import Derived.WideLaws
import Derived.Deep.DeepCutAuto
import Derived.Deep.CutBlock
import Derived.Deep.RegionHeld3
import Derived.Laws.Rows
import Derived.Lib.AppendStr
import Derived.ArgAppend
import Derived.Laws.IdiomCopy
import Derived.OrdersHeld
import Derived.Laws.BitsLemmas
import Derived.RowKit
import Derived.Test.YtconcmobjkpkcaaDoorArr2
import Derived.Test.YtconcmobjkpkcaaDoorMarked
import Derived.Test.YtconcmobjkpkcaaDoorRowAt
import Derived.Test.YtconcmobjkpkcaaDoorWWords
import Derived.Test.YtconcmobjkpkcaaDoorWLast
import Derived.Test.YtconcmobjkpkcaaDoorWTab
import Derived.Test.YtconcmobjkpkcaaDoorWFour
import Derived.Test.YtconcmobjkpkcaaDoorWQPut
import Derived.Test.YtconcmobjkpkcaaDoorWApart
import Derived.Test.YtconcmobjkpkcaaDoorWArr
import Derived.Test.YtconcmobjkpkcaaDoorWZeros
import Derived.Test.YtconcmobjkpkcaaDoorWFoot
import Derived.Test.YtconcmobjkpkcaaDoorWKept
import Derived.Test.YtconcmobjkpkcaaDoorWShare
import Derived.Test.YtconcmobjkpkcaaDoorWN
import Derived.Test.YtconcmobjkpkcaaDoorWFootNe
import Derived.Test.YtconcmobjkpkcaaDoorWAt
import Derived.Test.YtconcmobjkpkcaaDoorWEqStruct
import Derived.Test.YtconcmobjkpkcaaDoorWRepsOne
import Derived.Test.YtconcmobjkpkcaaDoorWInv
import Derived.Test.YtconcmobjkpkcaaDoorWInvWords
import Derived.Test.YtconcmobjkpkcaaDoorWGuard
import Derived.Test.YtconcmobjkpkcaaDoorWNEv
import Derived.Test.YtconcmobjkpkcaaDoorWMore
namespace Go.Proofs.YtconcmobjkpkcaaDoor.G
open Go.RowKit Go.Proofs.YtconcmobjkpkcaaDoorW.PrintWords Go.Proofs.YtconcmobjkpkcaaDoorW.PrintLast Go.Proofs.YtconcmobjkpkcaaDoorW.PrintMore
attribute [local go_sem] max2_int min2_int max_two min_two max_three min_three max_four min_four   -- for this text's walks alone
set_option linter.unusedVariables false
set_option linter.unusedSimpArgs false



def errW : Option Int → Value
  | none => .nilIface
  | some c => .iface 0 (.int .i64 c)
theorem errW_none : errW none = .nilIface := rfl
theorem errW_some (c : Int) : errW (some c) = .iface 0 (.int .i64 c) := rfl

theorem info5 : (Tryd.prog.info? 5).map (fun i => (i.zero, i.size, i.bytes)) = some (some (.int .u8 0), 1, 1) := by kernel_rfl
-- the values' own types

end Go.Proofs.YtconcmobjkpkcaaDoor.G
