/- For any bytes, any sum: the program's Sum, More and May tell what the reference's tell, and what is handed in stays. No conditions. -/
import Derived.Test.YtconcmobjkpkcaaG9
import Derived.Test.YtconcmobjkpkcaaSumLoops
namespace Go.Proofs.Ytconcmobjkpkcaa.Pure
open Go.RowKit Go.Proofs.Ytconcmobjkpkcaa.G Go.Proofs.YtconcmobjkpkcaaW.PrintWords Go.Proofs.YtconcmobjkpkcaaW.PrintLast SumMath SumLoops

theorem j1_is (s : Int) (h0 : 0 ≤ s) (h1 : s < 4294967296) (l : List Int) (hl : octs l) (hlen : l.length ≤ 20000) (K : Nat) (hK : 3 * l.length + 100 ≤ K) : flintlaw01_SumOf.j1 (K + 1) s l = some true := by
  simp only [flintlaw01_SumOf.j1]
  rw [fixed_is K (by omega), sum_is l hl K (by omega), refSum_is l hl (by omega) K (by omega), more_is s l h0 h1 hl K (by omega), refMore_is s l h0 h1 hl (by omega) K (by omega), may_is h0 h1, refMay_is h0 h1]
  simp
theorem l0_is (s : Int) (h0 : 0 ≤ s) (h1 : s < 4294967296) (n : Nat) (hn : n ≤ 20000) (K : Nat) (hK : 3 * n + 100 ≤ K) (d : Nat) : ∀ (i : Nat) (l : List Int), octs l → l.length = n → i + d = n →
    flintlaw01_SumOf.l0 (K + 1 + d + 1) s l n i = some true := by
  induction d with
  | zero =>
    intro i l hl hlen hi
    simp only [flintlaw01_SumOf.l0]
    rw [if_neg (by omega)]
    exact j1_is s h0 h1 l hl (by omega) K (by omega)
  | succ d ih =>
    intro i l hl hlen hi
    rw [show K + 1 + (d + 1) + 1 = (K + 1 + d + 1) + 1 by omega]
    simp only [flintlaw01_SumOf.l0]
    rw [if_pos (by omega), if_pos (by omega), if_pos (by omega), wrap_up (by omega) (by omega), Int.toNat_natCast]
    have := ih (i + 1) (l.set i 255) (octs_set hl i (by omega)) (by rw [List.length_set]; exact hlen) (by omega)
    rw [show ((i + 1 : Nat) : Int) = (i : Int) + 1 by omega] at this
    exact this

theorem SumOf : flintlaw01_SumOf.Pure := by
  intro l s high hlen1 hlen hw hs
  have hl := octs_wf hw
  rw [wf_u32] at hs
  unfold flintlaw01_SumOf.f
  by_cases c1 : (l.length : Int) > 20000
  · refine ⟨100, ?_⟩
    rw [if_pos c1, fixed_is _ (by omega)]; rfl
  refine ⟨3 * l.length + 100 + 1 + l.length + 1, ?_⟩
  rw [if_neg c1]
  simp only [Option.bind_some, List.nil_append, List.length_nil, Nat.zero_add]
  rw [if_pos (by omega)]
  cases high with
  | false =>
    rw [if_neg (by decide), show 3 * l.length + 100 + 1 + l.length + 1 = (3 * l.length + 100 + 1 + l.length) + 1 by omega]
    exact j1_is s hs.1 (by omega) l hl (by omega) _ (by omega)
  | true =>
    rw [if_pos rfl]
    exact l0_is s hs.1 (by omega) l.length (by omega) (3 * l.length + 100) (by omega) l.length 0 l hl rfl (by omega)

end Go.Proofs.Ytconcmobjkpkcaa.Pure
