-- Written by wip/gen.py: the kit's print.py, with this session's own texts where it takes a function not. Not trusted: Lean checks it.
import Derived.Test.YtdpnhjhbdobhjaaProg
import Derived.Below
import Derived.Deep.Draws
import Derived.Deep.AppendLies
import Derived.Maps.AppendAt
import Derived.OwnWalk
import Derived.Laws.BytesArg
import Derived.Laws.MakeOwn
import Derived.Laws.OwnMore
import Derived.Deep.OwnRows
import Derived.Tactics
import Derived.Lib.ConvBytes
import Derived.Laws.Slices
import Derived.WalkKit
import Derived.KernelRfl
import Derived.RowKit3
import Derived.Deep.LoopGhost
import Derived.Deep.QuietTactic
import Derived.BigQuiet
import Derived.WideLaws
import Derived.Deep.DeepCutAuto
import Derived.Deep.CutBlock
import Derived.Deep.RegionHeld3
import Derived.Laws.Rows
import Derived.Lib.AppendStr
import Derived.ArgAppend
import Derived.Laws.IdiomCopy
import Derived.OrdersHeld
import Derived.Laws.BitsLemmas
import Derived.RowKit
import Derived.Test.YtdpnhjhbdobhjaaArr
import Derived.Test.YtdpnhjhbdobhjaaWWords
import Derived.Test.YtdpnhjhbdobhjaaWLast
import Derived.Test.YtdpnhjhbdobhjaaWTab
import Derived.Test.YtdpnhjhbdobhjaaWFour
import Derived.Test.YtdpnhjhbdobhjaaWQPut
import Derived.Test.YtdpnhjhbdobhjaaWApart
import Derived.Test.YtdpnhjhbdobhjaaWArr
import Derived.Test.YtdpnhjhbdobhjaaWZeros
import Derived.Test.YtdpnhjhbdobhjaaWFoot
import Derived.Test.YtdpnhjhbdobhjaaWKept
import Derived.Test.YtdpnhjhbdobhjaaWShare
import Derived.Test.YtdpnhjhbdobhjaaWN
import Derived.Test.YtdpnhjhbdobhjaaWFootNe
import Derived.Test.YtdpnhjhbdobhjaaWAt
import Derived.Test.YtdpnhjhbdobhjaaWEqStruct
import Derived.Test.YtdpnhjhbdobhjaaWRepsOne
import Derived.Test.YtdpnhjhbdobhjaaWInv
import Derived.Test.YtdpnhjhbdobhjaaWInvWords
import Derived.Test.YtdpnhjhbdobhjaaWGuard
import Derived.Test.YtdpnhjhbdobhjaaWNEv
import Derived.Test.YtdpnhjhbdobhjaaWMore
namespace Go.Proofs.Ytdpnhjhbdobhjaa.G
open Go.RowKit Go.Proofs.YtdpnhjhbdobhjaaW.PrintWords Go.Proofs.YtdpnhjhbdobhjaaW.PrintLast Go.Proofs.YtdpnhjhbdobhjaaW.PrintMore
attribute [local go_sem] max2_int min2_int max_two min_two max_three min_three max_four min_four   -- for this text's walks alone
set_option linter.unusedVariables false
set_option linter.unusedSimpArgs false



def errW : Option Int → Value
  | none => .nilIface
  | some c => .iface 0 (.int .i64 c)
theorem errW_none : errW none = .nilIface := rfl
theorem errW_some (c : Int) : errW (some c) = .iface 0 (.int .i64 c) := rfl

theorem info9 : (Try.prog.info? 9).map (fun i => (i.zero, i.size, i.bytes)) = some (some (.string ⟨#[]⟩), 1, 16) := by kernel_rfl
-- the values' own types

end Go.Proofs.Ytdpnhjhbdobhjaa.G
