/- The acts of any bytes are the document's. No conditions. -/
import Derived.Test.YtdpnhjhbdobhjaaDoorG16
import Derived.Test.YtdpnhjhbdobhjaaDoorActLoops
namespace Go.Proofs.YtdpnhjhbdobhjaaDoor.Pure
open Go Go.RowKit Go.Proofs.YtdpnhjhbdobhjaaDoor.G Go.Proofs.YtdpnhjhbdobhjaaDoorW.PrintWords Go.Proofs.YtdpnhjhbdobhjaaDoorW.PrintLast Go.Proofs.YtdpnhjhbdobhjaaDoor.ActMath
set_option maxRecDepth 100000
theorem law_l0 (l : List Int) (hb : Bytes l) (n : Nat) (hn : n ≤ 512) (r : Nat) : ∀ (k j : Nat), j + r = n → r < k → flintlaw25_ScriptActs.l0 k (actsL l n) (actsL l n) (n : Int) (j : Int) = some true := by
  induction r with
  | zero =>
    intro k j hj hk
    obtain ⟨k, rfl⟩ : ∃ m, k = m + 1 := ⟨k - 1, by omega⟩
    rw [flintlaw25_ScriptActs.l0, if_neg (by omega), fixed25]; rfl
  | succ r ih =>
    intro k j hj hk
    obtain ⟨k, rfl⟩ : ∃ m, k = m + 1 := ⟨k - 1, by omega⟩
    have w1 : wrap64 ((j : Int) + 1) = ((j + 1 : Nat) : Int) := by unfold wrap64; omega
    rewrite [flintlaw25_ScriptActs.l0, actsL_length, if_pos (by omega), if_pos (by omega), if_pos (by omega), if_pos (by omega), rd_acts l n j (by omega), same_self _ (good l hb j), Option.bind_some, if_pos rfl, w1]
    exact ih k (j + 1) (by omega) (by omega)
theorem ScriptActs : flintlaw25_ScriptActs.Pure := by
  intro l hl1 hl2 hw
  refine ⟨3000, ?_⟩
  have hb := bytes_of hw
  have hn : num l = min 512 ((l.length - 2) / 4) := rfl
  unfold flintlaw25_ScriptActs.f
  by_cases c : (l.length : Int) > 4000
  · rw [if_pos c, fixed25]; rfl
  · rewrite [if_neg c, acts_is l (by omega) hb 3000 (by omega), Option.bind_some, refActs_is l (by omega) hb 3000 (by omega), Option.bind_some, if_pos rfl, actsL_length]
    exact law_l0 l hb (num l) (by omega) (num l) 3000 0 (by omega) (by omega)
end Go.Proofs.YtdpnhjhbdobhjaaDoor.Pure
