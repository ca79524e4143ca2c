/- What any bytes are is the document's. No conditions. -/
import Derived.Test.YtconcmobjkpkcaaDoorG6
import Derived.Test.YtconcmobjkpkcaaDoorHeadFixed
import Derived.Test.YtconcmobjkpkcaaDoorHeadLaws
namespace Go.Proofs.YtconcmobjkpkcaaDoor.Pure
open Go Go.RowKit Go.Proofs.YtconcmobjkpkcaaDoor.G Go.Proofs.YtconcmobjkpkcaaDoorW.PrintWords Go.Proofs.YtconcmobjkpkcaaDoorW.PrintLast Go.Proofs.YtconcmobjkpkcaaDoorW.PrintMore SumMath
theorem tail_is (g0 g1 : Int) (y : List Int) (hy : octs y) (hl : y.length ≤ 1000000) (k : Nat) (hk : y.length + 700 ≤ k) : flintlaw05_HeadClass.tail k g0 g1 y = some true := by
  unfold flintlaw05_HeadClass.tail
  rw [Head.fixed_at k (by omega), Option.bind_some, if_pos rfl, Head.class_is g0 g1 y k (by omega), Option.bind_some, Head.refClass_is g0 g1 y hy hl k (by omega), Option.bind_some, if_pos rfl]
theorem cpy_octs {n : Nat} {l : List Int} (h : octs l) : octs (Kit.cpy (List.replicate n 255) l) := by
  unfold Kit.cpy
  refine octs_append (octs_take h _) (octs_drop (fun x hx => ?_) _)
  rw [List.mem_replicate] at hx
  omega
theorem bytes_octs (s : ByteArray) : octs (bytesOf s) := by
  intro x hx
  simp only [bytesOf, List.mem_map] at hx
  obtain ⟨b, _, rfl⟩ := hx
  have := b.toNat_lt
  omega
theorem HeadClass : flintlaw05_HeadClass.Pure := by
  intro g0 g1 l a2 a3 _ _ hlm hw
  have hl := octs_wf hw
  refine ⟨10000, ?_⟩
  unfold flintlaw05_HeadClass.f
  by_cases cl : (l.length : Int) > 5000
  · rw [if_pos cl]; exact Head.fixed_at _ (by omega)
  rw [if_neg cl]
  unfold flintlaw05_HeadClass.row
  cases a2 with
  | false =>
    rw [if_neg (by decide), Option.bind_some]
    exact tail_is g0 g1 l hl (by omega) _ (by omega)
  | true =>
    rw [if_pos rfl, Head.refMay_is, Option.bind_some]
    cases h : Head.mayB g0 g1 with
    | false =>
      rw [if_neg (by decide), Option.bind_some]
      exact tail_is g0 g1 l hl (by omega) _ (by omega)
    | true =>
      have hb := Head.may_bd h
      obtain ⟨n, rfl⟩ := Int.eq_ofNat_of_zero_le (show 0 ≤ g1 by omega)
      rw [if_pos rfl]
      cases a3 with
      | false =>
        rw [if_neg (by decide), Head.sector_is g0 n (by omega) l _ (by omega), Option.bind_some]
        exact tail_is g0 n _ (cpy_octs hl) (by rw [Kit.cpy_length, List.length_replicate]; omega) _ (by rw [Kit.cpy_length, List.length_replicate]; omega)
      | true =>
        obtain ⟨s, hs, hs2⟩ := Head.refOf_is h 10000 (by omega)
        have hsz : s.size = 8 := by
          have := congrArg List.length hs2
          rw [ByteArray.toList_eq, data_length, Head.str_toList, List.length_map, Head.head_length] at this
          exact this
        rw [if_pos rfl, hs, Option.bind_some, if_pos (by omega), Head.sector_is g0 n (by omega) _ _ (by omega), Option.bind_some]
        exact tail_is g0 n _ (cpy_octs (octs_append (bytes_octs s) hl)) (by rw [Kit.cpy_length, List.length_replicate]; omega) _ (by rw [Kit.cpy_length, List.length_replicate]; omega)
end Go.Proofs.YtconcmobjkpkcaaDoor.Pure
