/- For any bytes: with one byte turned into another one, or two that stand side by side turned round, the sum is another one. No conditions. -/
import Derived.Test.YtconcmobjkpkcaaG12
import Derived.Test.YtconcmobjkpkcaaSumLoops
namespace Go.Proofs.Ytconcmobjkpkcaa.Pure
open Go.RowKit Go.Proofs.Ytconcmobjkpkcaa.G Go.Proofs.YtconcmobjkpkcaaW.PrintWords Go.Proofs.YtconcmobjkpkcaaW.PrintLast SumMath SumLoops

theorem xor_other {x y : Int} (hx : 0 ≤ x ∧ x ≤ 255) (hy : 0 ≤ y ∧ y ≤ 255) : 0 ≤ Go.bits .xor .u8 x y ∧ Go.bits .xor .u8 x y ≤ 255 ∧ (Go.bits .xor .u8 x y = x → y = 0) := by
  rw [u8_xor x y hx.1 (by omega) hy.1 (by omega)]
  have hlt : x.toNat ^^^ y.toNat < 2 ^ 8 := Nat.xor_lt_two_pow (by omega) (by omega)
  refine ⟨by omega, by omega, fun h => ?_⟩
  have h2 : x.toNat ^^^ y.toNat = x.toNat := by omega
  have h3 : x.toNat ^^^ (x.toNat ^^^ y.toNat) = x.toNat ^^^ x.toNat := by rw [h2]
  rw [← Nat.xor_assoc, Nat.xor_self, Nat.zero_xor] at h3
  omega
theorem parted {l : List Int} {n : Nat} (h : n < l.length) : ∃ p x q, l = p ++ x :: q ∧ p.length = n ∧ rd l n = x := by
  refine ⟨l.take n, rd l n, l.drop (n + 1), ?_, by simp; omega, rfl⟩
  rw [← rd_drop h, List.take_append_drop]
theorem set_parted {p q : List Int} {x v : Int} : (p ++ x :: q).set p.length v = p ++ v :: q := by simp
theorem rd_parted {p q : List Int} {x : Int} : rd (p ++ x :: q) p.length = x := by simp [rd]
theorem rd_parted1 {p q : List Int} {x y : Int} : rd (p ++ x :: y :: q) ((p.length + 1 : Nat) : Int) = y := by simp [rd]

theorem j2_is (l : List Int) (hl : octs l) (hlen : l.length ≤ 140737488351232) (K : Nat) (hK : 3 * l.length + 100 ≤ K) (n : Nat) (hn : n < l.length) (b : Bool)
    (hb : b = true ∨ (b = false ∧ n + 1 < l.length ∧ rd l n ≠ rd l ((n + 1 : Nat) : Int))) : flintlaw01_SumSpoilt.j2 (K + 1) l n b = some true := by
  have hw : wrap64 ((n : Int) + 1) = ((n + 1 : Nat) : Int) := by rw [wrap_up (by omega) (by omega)]; omega
  rcases hb with rfl | ⟨rfl, h1, h2⟩
  · simp only [flintlaw01_SumSpoilt.j2]
    rw [if_pos trivial, fixed_is K (by omega)]; rfl
  · simp only [flintlaw01_SumSpoilt.j2]
    rw [if_neg (by decide), hw]
    simp only [Option.bind_some, List.nil_append, List.length_nil, Nat.zero_add, Int.toNat_natCast]
    rw [if_pos (by omega), if_pos (by omega), if_pos (by omega), if_pos (by omega), if_pos (by omega), if_pos (by omega), if_pos (by omega), fixed_is K (by omega)]
    simp only [Option.bind_some, if_true]
    obtain ⟨p, x, q0, rfl, hp, hx⟩ := parted hn
    obtain ⟨y, q, rfl⟩ : ∃ y q, q0 = y :: q := by
      cases q0 with
      | nil => simp at h1; omega
      | cons y q => exact ⟨y, q, rfl⟩
    subst hp
    rw [rd_parted] at h2 ⊢
    rw [rd_parted1] at h2 ⊢
    have hx2 := hl x (by simp)
    have hy2 := hl y (by simp)
    rw [set_parted, show (p ++ y :: y :: q).set (p.length + 1) x = p ++ y :: x :: q by simp]
    have ho : octs (p ++ y :: x :: q) := fun z hz => hl z (by simp at hz ⊢; rcases hz with h | h | h | h <;> simp [h])
    rw [sum_is _ ho K (by simp at hK ⊢; omega), sum_is _ hl K (by omega)]
    simp only [Option.bind_some, Option.some.injEq, bne_iff_ne]
    intro h
    exact h2 (more_turned hx2 hy2 h.symm)

theorem SumSpoilt : flintlaw01_SumSpoilt.Pure := by
  intro l a by_ hlen1 hlen hw ha hby
  have hl := octs_wf hw
  rw [wf_i64] at ha
  rw [wf_u8] at hby
  have hlen : l.length ≤ 140737488351232 := by omega
  refine ⟨3 * l.length + 100 + 1 + 1 + 1, ?_⟩
  generalize hK : 3 * l.length + 100 = K
  have out : flintlaw01_SumSpoilt.j0 (K + 1 + 1 + 1) l a by_ true = some true := by
    simp only [flintlaw01_SumSpoilt.j0]
    rw [if_pos trivial, fixed_is _ (by omega)]; rfl
  unfold flintlaw01_SumSpoilt.f
  by_cases c1 : (l.length : Int) > 10000
  · rw [if_pos c1]; exact out
  rw [if_neg c1]
  by_cases c2 : a < 0
  · rw [if_pos c2]; exact out
  rw [if_neg c2]
  by_cases c3 : a ≥ (l.length : Int)
  · rw [decide_eq_true c3]; exact out
  rw [decide_eq_false c3]
  obtain ⟨n, rfl⟩ := Int.eq_ofNat_of_zero_le (show 0 ≤ a by omega)
  have hn : n < l.length := by omega
  simp only [flintlaw01_SumSpoilt.j0]
  rw [if_neg (by decide)]
  simp only [Option.bind_some, List.nil_append, List.length_nil, Nat.zero_add, Int.toNat_natCast]
  rw [if_pos (by omega), if_pos (by omega), if_pos (by omega)]
  have hn2 : wrap64 ((n : Int) + 1) = ((n + 1 : Nat) : Int) := by rw [wrap_up (by omega) (by omega)]; omega
  have rest : flintlaw01_SumSpoilt.j1 (K + 1 + 1) l n false = some true := by
    simp only [flintlaw01_SumSpoilt.j1]
    rw [if_neg (by decide), hn2]
    by_cases c4 : ((n + 1 : Nat) : Int) = (l.length : Int)
    · rw [if_pos c4]
      exact j2_is l hl hlen K (by omega) n hn true (.inl rfl)
    · rw [if_neg c4, if_pos (by omega), if_pos (by omega), if_pos (by omega), if_pos (by omega)]
      by_cases c5 : rd l n = rd l ((n + 1 : Nat) : Int)
      · rw [beq_iff_eq.mpr c5]
        exact j2_is l hl hlen K (by omega) n hn true (.inl rfl)
      · rw [beq_eq_false_iff_ne.mpr c5]
        exact j2_is l hl hlen K (by omega) n hn false (.inr ⟨rfl, by omega, c5⟩)
  by_cases c6 : by_ = 0
  · rw [if_pos c6]; exact rest
  · rw [if_neg c6]
    obtain ⟨p, x, q, hlq, hp, hx⟩ := parted hn
    have hx2 : 0 ≤ rd l n ∧ rd l n ≤ 255 := rd_byte hl hn
    obtain ⟨b1, b2, b3⟩ := xor_other hx2 hby
    generalize Go.bits .xor .u8 (rd l n) by_ = z at b1 b2 b3 ⊢
    rw [sum_is _ (octs_set hl n ⟨b1, b2⟩) _ (by simp; omega), sum_is _ hl _ (by omega)]
    simp only [Option.bind_some]
    have hne : (more 1 (l.set n z) == more 1 l) = false := by
      rw [beq_eq_false_iff_ne]
      intro h
      subst hlq
      subst hp
      rw [set_parted] at h
      have := more_other ⟨b1, b2⟩ (hl x (by simp)) h
      rw [rd_parted] at b3
      exact c6 (b3 this)
    rw [hne]
    exact rest

end Go.Proofs.Ytconcmobjkpkcaa.Pure
