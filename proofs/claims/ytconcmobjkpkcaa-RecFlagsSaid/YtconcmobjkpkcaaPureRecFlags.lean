/- Any flags programmed over a record leave it settled or obsolete as the law counts it; what stands before and behind changes nothing. No conditions. -/
import Derived.Test.YtconcmobjkpkcaaG26
import Derived.Test.YtconcmobjkpkcaaFrameLaws
namespace Go.Proofs.Ytconcmobjkpkcaa.FrameLaws
/-- What the flags make of a record's first byte and of what is looked for. -/
def flags : List Int := [127, 63, 95, 31]
end Go.Proofs.Ytconcmobjkpkcaa.FrameLaws
namespace Go.Proofs.Ytconcmobjkpkcaa.Pure
open Go Go.RowKit Go.Proofs.Ytconcmobjkpkcaa.G Go.Proofs.YtconcmobjkpkcaaW.PrintWords Go.Proofs.YtconcmobjkpkcaaW.PrintLast SumMath SumLoops RecLoops ClassLoops FrameLaws
theorem flags_l0 (l0 l1 l2 : List Int) (hl0 : octs l0) (hl1 : octs l1) (hl2 : octs l2) (n0 : l0.length ≤ 500) (n1 : l1.length ≤ 500) (n2 : l2.length ≤ 500) (l3 : List Bool) (n3 : l3.length ≤ 10) (d : Nat) :
    ∀ (k i : Nat) (F : Int), i + d = l3.length → 6000 + d < k → F ∈ flags → flintlaw06_RecFlags.l0 k l0 l1 l2 (F :: body l1) (st F) l3 l3.length i = some true := by
  induction d with
  | zero =>
    intro k i F hi hk hF
    obtain ⟨k, rfl⟩ : ∃ m, k = m + 1 := ⟨k - 1, by omega⟩
    have hst : st F ≠ 3 := by simp [flags] at hF; rcases hF with rfl | rfl | rfl | rfl <;> decide
    have hoF : octs [F] := by intro x hx; simp [flags] at hF hx; omega
    have hoB : octs (F :: body l1) := octs_append (l := [F]) hoF (body_octs hl1)
    have hc := class_is (l0 ++ (F :: body l1 ++ l2)) (octs_append hl0 (octs_append hoB hl2)) (by simp [body_length]; omega) l0.length (by simp) k (by simp [body_length]; omega)
    rw [whole_is _ _ _ _ (by omega) hst] at hc
    have hb := body_length l1
    rw [flintlaw06_RecFlags.l0, if_neg (by omega), Option.bind_some, if_pos (by simp; omega), Option.bind_some, if_pos (by simp [hb]; omega), Option.bind_some, if_pos (by simp [hb]; omega), List.nil_append,
      show l0 ++ F :: body l1 ++ l2 = l0 ++ (F :: body l1 ++ l2) by simp, hc, Option.bind_some, fixed6_is _ (by omega), Option.bind_some, if_pos rfl, if_pos rfl, if_pos rfl, if_pos (by simp [hb]; omega)]
    rfl
  | succ d ih =>
    intro k i F hi hk hF
    obtain ⟨k, rfl⟩ : ∃ m, k = m + 1 := ⟨k - 1, by omega⟩
    have w1 : wrap64 ((i : Int) + 1) = ((i + 1 : Nat) : Int) := by unfold wrap64; omega
    have v5 : rec_Flag.f 5 = some 191 := rfl
    have v6 : rec_Flag.f 6 = some 223 := rfl
    have hrd : rd (F :: body l1) 0 = F := rfl
    have hp : (0 : Int) < ((F :: body l1).length : Int) := by simp [body_length]; omega
    have j := fun F' (hF' : F' ∈ flags) => ih k (i + 1) F' (by omega) (by omega) hF'
    have j127 := j 127 (by decide); have j63 := j 63 (by decide); have j95 := j 95 (by decide); have j31 := j 31 (by decide)
    by_cases hs : rdOf false l3 (i : Int) = true
    · rw [flintlaw06_RecFlags.l0, if_pos (by omega), if_pos (by omega), if_pos (by omega), if_pos hs, if_pos hp, v5, Option.bind_some, Option.bind_some, w1, hrd, show (0 : Int).toNat = 0 from rfl, List.set_cons_zero]
      simp [flags] at hF
      rcases hF with rfl | rfl | rfl | rfl
      · exact j63
      · exact j63
      · exact j31
      · exact j31
    · rw [flintlaw06_RecFlags.l0, if_pos (by omega), if_pos (by omega), if_pos (by omega), if_neg hs, if_pos hp, v6, Option.bind_some, w1, hrd, show (0 : Int).toNat = 0 from rfl, List.set_cons_zero]
      simp [flags] at hF
      rcases hF with rfl | rfl | rfl | rfl
      · exact j95
      · exact j31
      · exact j95
      · exact j31
theorem RecFlags (l0 l1 l2 : List Int) (l3 : List Bool) (hw0 : ∀ x ∈ l0, (Lit.int .u8 x).wf = true) (hw1 : ∀ x ∈ l1, (Lit.int .u8 x).wf = true) (hw2 : ∀ x ∈ l2, (Lit.int .u8 x).wf = true) : ∃ k, flintlaw06_RecFlags.f k l0 l1 l2 l3 = some true := by
  refine ⟨7002, ?_⟩
  have fx : ∀ k x0 x1 x2 x3, 41 ≤ k → flintlaw06_RecFlags.j0 k x0 x1 x2 x3 true = some true := by
    intro k x0 x1 x2 x3 hk
    obtain ⟨k, rfl⟩ : ∃ m, k = m + 1 := ⟨k - 1, by omega⟩
    rw [flintlaw06_RecFlags.j0, if_pos rfl, fixed6_is _ (by omega)]
    rfl
  unfold flintlaw06_RecFlags.f
  by_cases c0 : (l0.length : Int) > 500
  · rw [if_pos c0]; exact fx _ _ _ _ _ (by omega)
  by_cases c1 : (l1.length : Int) > 500
  · rw [if_neg c0, if_pos c1]; exact fx _ _ _ _ _ (by omega)
  by_cases c2 : (l2.length : Int) > 500
  · rw [if_neg c0, if_neg c1, if_pos c2]; exact fx _ _ _ _ _ (by omega)
  by_cases c3 : (l3.length : Int) > 10
  · rw [if_neg c0, if_neg c1, if_neg c2, decide_eq_true c3]; exact fx _ _ _ _ _ (by omega)
  have hl1 := octs_wf hw1
  rw [if_neg c0, if_neg c1, if_neg c2, decide_eq_false c3, show (7002 : Nat) = 7001 + 1 from rfl, flintlaw06_RecFlags.j0, if_neg (by decide), recPut_is l1 hl1 (by omega) _ (by omega), Option.bind_some, if_pos rfl]
  have hz : (((frame l1).length : Int) == 0) = false := by rw [frame_length]; simp; omega
  simp only [hz]
  rw [show (7001 : Nat) = 7000 + 1 from rfl, flintlaw06_RecFlags.j1, if_neg (by decide), frame_is]
  exact flags_l0 l0 l1 l2 (octs_wf hw0) hl1 (octs_wf hw2) (by omega) (by omega) (by omega) l3 (by omega) l3.length 7000 0 127 (by omega) (by omega) (by decide)
end Go.Proofs.Ytconcmobjkpkcaa.Pure
