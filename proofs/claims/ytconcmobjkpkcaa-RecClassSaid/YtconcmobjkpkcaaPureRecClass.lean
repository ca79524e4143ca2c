/- What stands at any place of any bytes is told by the program as by the reference: the state, the record, the place behind it. No conditions. -/
import Derived.Test.YtconcmobjkpkcaaG33
import Derived.Test.YtconcmobjkpkcaaClassLoops
namespace Go.Proofs.Ytconcmobjkpkcaa.Pure
open Go.RowKit Go.Proofs.Ytconcmobjkpkcaa.G Go.Proofs.YtconcmobjkpkcaaW.PrintWords Go.Proofs.YtconcmobjkpkcaaW.PrintLast SumMath SumLoops RecLoops ClassLoops
theorem RecClass : flintlaw06_RecClass.Pure := by
  intro b a hlen1 hlen hw ha
  have hb := octs_wf hw
  refine ⟨4 * b.length + 60 + 1, ?_⟩
  unfold flintlaw06_RecClass.f
  by_cases c1 : (b.length : Int) > 3000
  · rw [if_pos c1, fixed6_is _ (by omega)]; rfl
  rw [if_neg c1]
  by_cases c2 : a < 0 ∨ (b.length : Int) < a
  · rw [class_out b a c2, Option.bind_some, refClass_out b a c2, Option.bind_some, fixed6_is _ (by omega), Option.bind_some, if_pos rfl, if_pos rfl, if_pos rfl]
    rfl
  · obtain ⟨n, rfl⟩ := Int.eq_ofNat_of_zero_le (show 0 ≤ a by omega)
    rw [class_is b hb (by omega) n (by omega) _ (by omega), Option.bind_some, refClass_is b hb (by omega) n (by omega) _ (by omega), Option.bind_some, fixed6_is _ (by omega), Option.bind_some, if_pos rfl, if_pos rfl, if_pos rfl]
    simp
end Go.Proofs.Ytconcmobjkpkcaa.Pure
