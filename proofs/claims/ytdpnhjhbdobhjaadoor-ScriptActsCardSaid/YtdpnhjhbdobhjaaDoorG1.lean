-- Written by wip/gen.py: the kit's print.py, with this session's own texts where it takes a function not. Not trusted: Lean checks it.
import Derived.Test.YtdpnhjhbdobhjaaDoorG0
namespace Go.Proofs.YtdpnhjhbdobhjaaDoor.G
open Go.RowKit Go.Proofs.YtdpnhjhbdobhjaaDoorW.PrintWords Go.Proofs.YtdpnhjhbdobhjaaDoorW.PrintLast Go.Proofs.YtdpnhjhbdobhjaaDoorW.PrintMore
attribute [local go_sem] max2_int min2_int max_two min_two max_three min_three max_four min_four   -- for this text's walks alone
set_option linter.unusedVariables false
set_option linter.unusedSimpArgs false

/-! ### script_kindsAt: function 35 -/
def tabKinds : List Int := [1, 1, 1, 2, 2, 2, 2, 3, 4, 4, 4, 4, 5, 5, 6, 6, 6, 7, 8, 8, 9, 9, 9, 9, 10, 11, 12, 13, 14, 15, 16, 0]
def script_kindsAt.f (a0 : Int) : Option Int := if 0 ≤ a0 ∧ a0 < 32 then some (rd tabKinds a0) else none

end Go.Proofs.YtdpnhjhbdobhjaaDoor.G
