/- A frame's bytes, as the program lays them, are the reference's, for any record. No conditions. -/
import Derived.Test.YtconcmobjkpkcaaG25
import Derived.Test.YtconcmobjkpkcaaRecLoops
namespace Go.Proofs.Ytconcmobjkpkcaa.Pure
open Go.RowKit Go.Proofs.Ytconcmobjkpkcaa.G Go.Proofs.YtconcmobjkpkcaaW.PrintWords Go.Proofs.YtconcmobjkpkcaaW.PrintLast SumMath SumLoops RecLoops
theorem RecFrames : flintlaw06_RecFrames.Pure := by
  intro l hlen1 hlen hw
  have hl := octs_wf hw
  refine ⟨3 * l.length + 40, ?_⟩
  unfold flintlaw06_RecFrames.f
  by_cases c1 : (l.length : Int) > 3000
  · rw [if_pos c1, fixed6_is _ (by omega)]; rfl
  rw [if_neg c1, recPut_is l hl (by omega) _ (by omega), Option.bind_some, ref6Put_is l hl (by omega) _ (by omega), Option.bind_some, fixed6_is _ (by omega), Option.bind_some, if_pos rfl]
  simp
end Go.Proofs.Ytconcmobjkpkcaa.Pure
