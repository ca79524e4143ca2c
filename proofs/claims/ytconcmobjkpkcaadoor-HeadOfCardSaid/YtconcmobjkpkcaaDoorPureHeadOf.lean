/- The head of any geometry is the document's; its death is eight bytes 0. No conditions. -/
import Derived.Test.YtconcmobjkpkcaaDoorG7
import Derived.Test.YtconcmobjkpkcaaDoorHeadFixed
import Derived.Test.YtconcmobjkpkcaaDoorHeadLaws
namespace Go.Proofs.YtconcmobjkpkcaaDoor.Pure
open Go Go.RowKit Go.Proofs.YtconcmobjkpkcaaDoor.G Go.Proofs.YtconcmobjkpkcaaDoorW.PrintWords Go.Proofs.YtconcmobjkpkcaaDoorW.PrintLast Go.Proofs.YtconcmobjkpkcaaDoorW.PrintMore
theorem zeros8 : (strOfNums (List.replicate 8 0)).toList = [0, 0, 0, 0, 0, 0, 0, 0] := by decide +kernel
theorem zerosB : (⟨#[0, 0, 0, 0, 0, 0, 0, 0]⟩ : ByteArray).toList = [0, 0, 0, 0, 0, 0, 0, 0] := by decide +kernel
theorem death_is : head_Death.f = some (List.replicate 8 0) := by unfold head_Death.f; rw [if_pos (by omega)]
theorem HeadOf : flintlaw05_HeadOf.Pure := by
  intro g0 g1 _ _
  refine ⟨600, ?_⟩
  unfold flintlaw05_HeadOf.f
  cases h : Head.mayB g0 g1 with
  | true =>
    obtain ⟨s, hs, hs2⟩ := Head.refOf_is h 600 (by omega)
    rw [Head.of_is h 600 (by omega), Option.bind_some, death_is, Option.bind_some, Head.fixed05, Option.bind_some, if_pos rfl, hs, Option.bind_some, if_pos hs2.symm, if_pos zeros8]
  | false =>
    rw [Head.of_no h 600, Option.bind_some, death_is, Option.bind_some, Head.fixed05, Option.bind_some, if_pos rfl, Head.refOf_no h 600, Option.bind_some, if_pos (zeros8.trans zerosB.symm), if_pos zeros8]
end Go.Proofs.YtconcmobjkpkcaaDoor.Pure
