/- The chapter's example, by the kernel's own run. -/
import Derived.Test.YtconcmobjkpkcaaDoorG3
namespace Go.Proofs.YtconcmobjkpkcaaDoor.Head
open Go Go.RowKit Go.Proofs.YtconcmobjkpkcaaDoor.G
set_option maxRecDepth 100000
theorem fixed05 : flintlaw05_fixed.f 600 = some true := by decide +kernel
theorem fixed_at (k : Nat) (h : 600 ≤ k) : flintlaw05_fixed.f k = some true := Go.Proofs.YtconcmobjkpkcaaDoorW.PrintWords.at_rounds flintlaw05_fixed.mono h fixed05
end Go.Proofs.YtconcmobjkpkcaaDoor.Head
