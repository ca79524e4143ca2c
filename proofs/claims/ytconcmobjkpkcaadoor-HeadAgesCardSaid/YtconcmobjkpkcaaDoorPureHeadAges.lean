/- The least and the greatest of any numbers stand among them, and none is less or greater. No conditions. -/
import Derived.Test.YtconcmobjkpkcaaDoorG18
import Derived.Test.YtconcmobjkpkcaaDoorHeadFixed
namespace Go.Proofs.YtconcmobjkpkcaaDoor.Pure
open Go Go.RowKit Go.Proofs.YtconcmobjkpkcaaDoor.G Go.Proofs.YtconcmobjkpkcaaDoorW.PrintWords Go.Proofs.YtconcmobjkpkcaaDoorW.PrintLast Go.Proofs.YtconcmobjkpkcaaDoorW.PrintMore
set_option maxRecDepth 100000
theorem wrap_up (i n : Nat) (h : i < n) (hn : n ≤ 140737488351232) : wrap64 ((i : Int) + 1) = ((i + 1 : Nat) : Int) := by unfold wrap64; omega
theorem min_l0 (l : List Int) (hl : l.length ≤ 140737488351232) (d : Nat) : ∀ (k i : Nat) (m : Int), i + d = l.length → d < k →
    ∃ r, slices_Min_int_int.l0 k l m (i : Int) = some r ∧ r ≤ m ∧ (∀ j : Nat, i ≤ j → j < l.length → r ≤ rd l j) ∧ (r = m ∨ ∃ j : Nat, i ≤ j ∧ j < l.length ∧ r = rd l j) := by
  induction d with
  | zero =>
    intro k i m hi hk
    obtain ⟨k, rfl⟩ : ∃ n, k = n + 1 := ⟨k - 1, by omega⟩
    refine ⟨m, ?_, by omega, fun j h1 h2 => by omega, .inl rfl⟩
    rw [slices_Min_int_int.l0, if_neg (by omega)]
  | succ d ih =>
    intro k i m hi hk
    obtain ⟨k, rfl⟩ : ∃ n, k = n + 1 := ⟨k - 1, by omega⟩
    obtain ⟨r, hr, h1, h2, h3⟩ := ih k (i + 1) (mn m (rd l i)) (by omega) (by omega)
    have hm : mn m (rd l i) ≤ m ∧ mn m (rd l i) ≤ rd l i ∧ (mn m (rd l i) = m ∨ mn m (rd l i) = rd l i) := by unfold mn; split <;> omega
    refine ⟨r, ?_, by omega, fun j a b => ?_, ?_⟩
    · rw [slices_Min_int_int.l0, if_pos (by omega), if_pos (by omega), wrap_up i l.length (by omega) hl]; exact hr
    · by_cases e : j = i
      · subst e; omega
      · exact h2 j (by omega) b
    · rcases h3 with h3 | ⟨j, a, b, c⟩
      · rcases hm.2.2 with h | h
        · exact .inl (h3.trans h)
        · exact .inr ⟨i, Nat.le_refl _, by omega, h3.trans h⟩
      · exact .inr ⟨j, by omega, b, c⟩
theorem max_l0 (l : List Int) (hl : l.length ≤ 140737488351232) (d : Nat) : ∀ (k i : Nat) (m : Int), i + d = l.length → d < k →
    ∃ r, slices_Max_int_int.l0 k l m (i : Int) = some r ∧ m ≤ r ∧ (∀ j : Nat, i ≤ j → j < l.length → rd l j ≤ r) ∧ (r = m ∨ ∃ j : Nat, i ≤ j ∧ j < l.length ∧ r = rd l j) := by
  induction d with
  | zero =>
    intro k i m hi hk
    obtain ⟨k, rfl⟩ : ∃ n, k = n + 1 := ⟨k - 1, by omega⟩
    refine ⟨m, ?_, by omega, fun j h1 h2 => by omega, .inl rfl⟩
    rw [slices_Max_int_int.l0, if_neg (by omega)]
  | succ d ih =>
    intro k i m hi hk
    obtain ⟨k, rfl⟩ : ∃ n, k = n + 1 := ⟨k - 1, by omega⟩
    obtain ⟨r, hr, h1, h2, h3⟩ := ih k (i + 1) (mx m (rd l i)) (by omega) (by omega)
    have hm : m ≤ mx m (rd l i) ∧ rd l i ≤ mx m (rd l i) ∧ (mx m (rd l i) = m ∨ mx m (rd l i) = rd l i) := by unfold mx; split <;> omega
    refine ⟨r, ?_, by omega, fun j a b => ?_, ?_⟩
    · rw [slices_Max_int_int.l0, if_pos (by omega), if_pos (by omega), wrap_up i l.length (by omega) hl]; exact hr
    · by_cases e : j = i
      · subst e; omega
      · exact h2 j (by omega) b
    · rcases h3 with h3 | ⟨j, a, b, c⟩
      · rcases hm.2.2 with h | h
        · exact .inl (h3.trans h)
        · exact .inr ⟨i, Nat.le_refl _, by omega, h3.trans h⟩
      · exact .inr ⟨j, by omega, b, c⟩
theorem ages_l0 (l : List Int) (hl : l.length ≤ 140737488351232) (lo hi : Int) (hlo : ∀ j : Nat, j < l.length → lo ≤ rd l j) (hhi : ∀ j : Nat, j < l.length → rd l j ≤ hi) (d : Nat) : ∀ (k i : Nat) (a b : Bool), i + d = l.length → d + 601 ≤ k →
    (a = true ∨ ∃ j : Nat, i ≤ j ∧ j < l.length ∧ rd l j = lo) → (b = true ∨ ∃ j : Nat, i ≤ j ∧ j < l.length ∧ rd l j = hi) → flintlaw05_HeadAges.l0 k lo hi a b l (l.length : Int) (i : Int) = some true := by
  induction d with
  | zero =>
    intro k i a b hi hk ha hb
    obtain ⟨k, rfl⟩ : ∃ n, k = n + 1 := ⟨k - 1, by omega⟩
    have ha : a = true := ha.resolve_right (fun ⟨j, h1, h2, _⟩ => by omega)
    have hb : b = true := hb.resolve_right (fun ⟨j, h1, h2, _⟩ => by omega)
    rw [flintlaw05_HeadAges.l0, if_neg (by omega), Head.fixed_at k (by omega), Option.bind_some, if_pos rfl, if_pos ha, hb]
  | succ d ih =>
    intro k i a b hi_ hk ha hb
    obtain ⟨k, rfl⟩ : ∃ n, k = n + 1 := ⟨k - 1, by omega⟩
    have h1 := hlo i (by omega)
    have h2 := hhi i (by omega)
    have ha' : (if a = true then true else (rd l i == lo)) = true ∨ ∃ j : Nat, i + 1 ≤ j ∧ j < l.length ∧ rd l j = lo := by
      rcases ha with h | ⟨j, p, q, r⟩
      · exact .inl (by rw [if_pos h])
      · by_cases e : j = i
        · subst e; exact .inl (by rw [r]; simp)
        · exact .inr ⟨j, by omega, q, r⟩
    have hb' : (if b = true then true else (rd l i == hi)) = true ∨ ∃ j : Nat, i + 1 ≤ j ∧ j < l.length ∧ rd l j = hi := by
      rcases hb with h | ⟨j, p, q, r⟩
      · exact .inl (by rw [if_pos h])
      · by_cases e : j = i
        · subst e; exact .inl (by rw [r]; simp)
        · exact .inr ⟨j, by omega, q, r⟩
    have hr := ih k (i + 1) _ _ (by omega) (by omega) ha' hb'
    rw [flintlaw05_HeadAges.l0, if_pos (by omega), if_pos (by omega), if_pos (by omega), if_neg (by omega), if_neg (by omega), wrap_up i l.length (by omega) hl]
    cases a <;> cases b <;> simpa using hr
theorem HeadAges : flintlaw05_HeadAges.Pure := by
  intro l hl1 hl2 hw
  have hl : l.length ≤ 140737488351232 := by omega
  refine ⟨l.length + 602, ?_⟩
  unfold flintlaw05_HeadAges.f head_Ages.f
  by_cases c : (l.length : Int) = 0
  · rw [if_pos c, Option.bind_some, if_pos c, Head.fixed_at _ (by omega), Option.bind_some, if_pos rfl, if_pos rfl]; rfl
  · rw [if_neg c]
    unfold slices_Min_int_int.f slices_Max_int_int.f
    obtain ⟨lo, e1, a1, a2, a3⟩ := min_l0 l hl (l.length - 1) (l.length + 602) 1 (rd l 0) (by omega) (by omega)
    obtain ⟨hi, e2, b1, b2, b3⟩ := max_l0 l hl (l.length - 1) (l.length + 602) 1 (rd l 0) (by omega) (by omega)
    have e1 : slices_Min_int_int.l0 (l.length + 602) l (rd l 0) 1 = some lo := e1
    have e2 : slices_Max_int_int.l0 (l.length + 602) l (rd l 0) 1 = some hi := e2
    rw [if_neg (by omega), if_pos (by omega), e1, Option.bind_some, if_neg (by omega), if_pos (by omega), e2, Option.bind_some, Option.bind_some, if_neg c]
    refine ages_l0 l hl lo hi (fun j hj => ?_) (fun j hj => ?_) l.length (l.length + 602) 0 false false (by omega) (by omega) (.inr ?_) (.inr ?_)
    · by_cases e : j = 0
      · subst e; exact a1
      · exact a2 j (by omega) hj
    · by_cases e : j = 0
      · subst e; exact b1
      · exact b2 j (by omega) hj
    · rcases a3 with h | ⟨j, _, q, r⟩
      · exact ⟨0, by omega, by omega, h.symm⟩
      · exact ⟨j, by omega, q, r.symm⟩
    · rcases b3 with h | ⟨j, _, q, r⟩
      · exact ⟨0, by omega, by omega, h.symm⟩
      · exact ⟨j, by omega, q, r.symm⟩
end Go.Proofs.YtconcmobjkpkcaaDoor.Pure
