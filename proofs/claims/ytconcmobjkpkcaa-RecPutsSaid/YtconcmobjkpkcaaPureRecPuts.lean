/- Any record's frame is as long as the reference's, or both refuse it; what is handed in stays; Size tells the frame's length. No conditions. -/
import Derived.Test.YtconcmobjkpkcaaG24
import Derived.Test.YtconcmobjkpkcaaRecLoops
namespace Go.Proofs.Ytconcmobjkpkcaa.Pure
open Go.RowKit Go.Proofs.Ytconcmobjkpkcaa.G Go.Proofs.YtconcmobjkpkcaaW.PrintWords Go.Proofs.YtconcmobjkpkcaaW.PrintLast SumMath SumLoops RecLoops

theorem size_is (n : Nat) (h : n ≤ 65535) : rec_Size.f n = some ((n + 8 : Nat) : Int) := by
  unfold rec_Size.f
  rw [if_neg (by omega), if_neg (by omega)]
  congr 1
  unfold wrap64; omega
theorem size_long (n : Nat) (h : 65535 < n) : rec_Size.f n = some 0 := by
  unfold rec_Size.f
  rw [if_neg (by omega), if_pos (by omega)]
theorem size_below (n : Nat) (h : n ≤ 9223372036854775000) : rec_Size.f (wrap64 ((-1) - (n : Int))) = some 0 := by
  unfold rec_Size.f
  rw [if_pos (by unfold wrap64; omega)]
theorem octs_zeros (n : Nat) : octs (List.replicate n 0) := by
  intro x hx
  rw [List.eq_of_mem_replicate hx]; omega
/-- What the rest of the law says of a record: both answers, as they are. -/
theorem tail_is (l : List Int) (hl : octs l) (hlen : l.length ≤ 65536) (k : Nat) (hk : 3 * l.length + 40 ≤ k) :
    ((rec_Put.f k l).bind fun bt286 => ((flintref06_Put.f k l).bind fun bt290 => (if (l.length : Int) ≤ 65535 then ((flintlaw06_fixed.f k).bind fun t295 => (if t295 = true then (if bt286.2 = bt290.2 then (if (bt286.1.length : Int) = (bt290.1.length : Int) then (if (strOfNums l).toList = (strOfNums l).toList then ((rec_Size.f (l.length : Int)).bind fun t296 => (if t296 = (bt290.1.length : Int) then ((rec_Size.f (wrap64 ((-1) - (l.length : Int)))).bind fun t297 => (some (t297 == 0))) else (some false))) else (some false)) else (some false)) else (some false)) else (some false))) else ((flintlaw06_fixed.f k).bind fun t299 => (if t299 = true then (if bt286.2 = bt290.2 then (if (bt286.1.length : Int) = (bt290.1.length : Int) then (if (strOfNums l).toList = (strOfNums l).toList then ((rec_Size.f (l.length : Int)).bind fun t300 => (if t300 = 0 then ((rec_Size.f (wrap64 ((-1) - (l.length : Int)))).bind fun t301 => (some (t301 == 0))) else (some false))) else (some false)) else (some false)) else (some false)) else (some false)))))) = some true := by
  by_cases h : l.length ≤ 65535
  · rw [recPut_is l hl h k (by omega), Option.bind_some, ref6Put_is l hl h k (by omega), Option.bind_some, if_pos (by omega), fixed6_is k (by omega), Option.bind_some, if_pos rfl, if_pos rfl, if_pos rfl, if_pos rfl, size_is l.length h, Option.bind_some, if_pos (by rw [frame_length]), size_below l.length (by omega)]
    rfl
  · rw [recPut_long l (by omega) k, Option.bind_some, ref6Put_long l (by omega) k, Option.bind_some, if_neg (by omega), fixed6_is k (by omega), Option.bind_some, if_pos rfl, if_pos rfl, if_pos rfl, if_pos rfl, size_long l.length (by omega), Option.bind_some, if_pos rfl, size_below l.length (by omega)]
    rfl
theorem RecPuts : flintlaw06_RecPuts.Pure := by
  intro l long hlen1 hlen hw
  have hl := octs_wf hw
  refine ⟨200000, ?_⟩
  unfold flintlaw06_RecPuts.f
  by_cases c1 : (l.length : Int) > 3000
  · rw [if_pos c1, fixed6_is _ (by omega)]; rfl
  rw [if_neg c1]
  cases long with
  | true =>
    have hn : ((65535 + ((l.length : Int) % 2)) : Int).toNat = 65535 + l.length % 2 := by omega
    have hz : (List.replicate (65535 + l.length % 2) (0 : Int)).length = 65535 + l.length % 2 := List.length_replicate
    rw [if_pos rfl, if_pos (by omega), if_pos (by omega), Option.bind_some, Option.bind_some, hn, List.length_nil, if_pos (by rw [hz]; omega), Option.bind_some, List.nil_append]
    exact tail_is _ (octs_zeros _) (by rw [hz]; omega) _ (by rw [hz]; omega)
  | false =>
    rw [if_neg (by decide), Option.bind_some, List.length_nil, if_pos (by omega), Option.bind_some, List.nil_append]
    exact tail_is l hl (by omega) _ (by omega)
end Go.Proofs.Ytconcmobjkpkcaa.Pure
