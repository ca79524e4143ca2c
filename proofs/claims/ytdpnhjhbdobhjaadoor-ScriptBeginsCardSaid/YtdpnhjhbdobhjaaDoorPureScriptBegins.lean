/- A beginning of bytes has a beginning of their acts. No conditions. -/
import Derived.Test.YtdpnhjhbdobhjaaDoorG17
import Derived.Test.YtdpnhjhbdobhjaaDoorActLoops
namespace Go.Proofs.YtdpnhjhbdobhjaaDoor.Pure
open Go Go.RowKit Go.Proofs.YtdpnhjhbdobhjaaDoor.G Go.Proofs.YtdpnhjhbdobhjaaDoorW.PrintWords Go.Proofs.YtdpnhjhbdobhjaaDoorW.PrintLast Go.Proofs.YtdpnhjhbdobhjaaDoor.ActMath
set_option maxRecDepth 100000
theorem begins_l0 (l l' : List Int) (hb : Bytes l) (n n' : Nat) (hn : n' ≤ n) (h512 : n ≤ 512) (he : ∀ j, j < n' → actAt l' j = actAt l j) (r : Nat) : ∀ (k j : Nat), j + r = n' → r < k → flintlaw25_ScriptBegins.l0 k (actsL l n) (actsL l' n') (n' : Int) (j : Int) = some true := by
  induction r with
  | zero =>
    intro k j hj hk
    obtain ⟨k, rfl⟩ : ∃ m, k = m + 1 := ⟨k - 1, by omega⟩
    rw [flintlaw25_ScriptBegins.l0, if_neg (by omega), fixed25]; rfl
  | succ r ih =>
    intro k j hj hk
    obtain ⟨k, rfl⟩ : ∃ m, k = m + 1 := ⟨k - 1, by omega⟩
    have w1 : wrap64 ((j : Int) + 1) = ((j + 1 : Nat) : Int) := by unfold wrap64; omega
    rewrite [flintlaw25_ScriptBegins.l0, actsL_length, actsL_length, if_pos (by omega), if_pos (by omega), if_pos (by omega), if_pos (by omega), rd_acts l n j (by omega), rd_acts l' n' j (by omega), he j (by omega), same_self _ (good l hb j), Option.bind_some, if_pos rfl, w1]
    exact ih k (j + 1) (by omega) (by omega)
theorem ScriptBegins : flintlaw25_ScriptBegins.Pure := by
  intro l a hl1 hl2 hw ha
  refine ⟨3000, ?_⟩
  have ha : 0 ≤ a ∧ a ≤ 65535 := by simpa [Lit.wf, IntKind.min, IntKind.max, IntKind.signed, IntKind.bits] using ha
  have hb := bytes_of hw
  have hn : num l = min 512 ((l.length - 2) / 4) := rfl
  unfold flintlaw25_ScriptBegins.f
  by_cases c : (l.length : Int) > 4000
  · rw [if_pos c, fixed25]; rfl
  · have wl : wrap64 ((l.length : Int) + 1) = ((l.length + 1 : Nat) : Int) := by unfold wrap64; omega
    have wa : wrap64 a = a := by unfold wrap64; omega
    rw [if_neg c, acts_is l (by omega) hb 3000 (by omega), Option.bind_some, wl, wa, if_neg (by omega), Int.tmod_eq_emod_of_nonneg ha.1]
    have hm0 := Int.emod_nonneg a (show ((l.length + 1 : Nat) : Int) ≠ 0 by omega)
    have hm1 := Int.emod_lt_of_pos a (show (0 : Int) < ((l.length + 1 : Nat) : Int) by omega)
    obtain ⟨n, hn'⟩ := Int.eq_ofNat_of_zero_le hm0
    rw [hn'] at hm0 hm1 ⊢
    have hle : (l.take n).length = n := by rw [List.length_take]; omega
    have hg : ∀ i, i < n → (l.take n).getD i 0 = l.getD i 0 := fun i hi => by simp [List.getElem?_take, hi]
    have hb' : Bytes (l.take n) := by
      intro i
      by_cases hi : i < n
      · rw [hg i hi]; exact hb i
      · have e : (l.take n).getD i 0 = 0 := by simp [List.getElem?_take, hi]
        rw [e]; omega
    have hnn : num (l.take n) = min 512 ((n - 2) / 4) := by unfold num; rw [hle]
    rewrite [if_pos (by omega), if_pos (by omega), Int.toNat_natCast, acts_is (l.take n) (by omega) hb' 3000 (by omega), Option.bind_some, actsL_length, actsL_length, if_neg (by omega)]
    refine begins_l0 l (l.take n) hb (num l) (num (l.take n)) (by omega) (by omega) (fun j hj => ?_) (num (l.take n)) 3000 0 (by omega) (by omega)
    unfold actAt
    rw [hg _ (by omega), hg _ (by omega), hg _ (by omega), hg _ (by omega)]
end Go.Proofs.YtdpnhjhbdobhjaaDoor.Pure
