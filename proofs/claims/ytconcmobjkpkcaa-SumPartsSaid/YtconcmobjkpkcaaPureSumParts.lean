/- For any two texts: the sum of both, one behind the other, is told by More and by Join. No conditions. -/
import Derived.Test.YtconcmobjkpkcaaG11
import Derived.Test.YtconcmobjkpkcaaSumLoops
import Derived.Laws.Bits64
namespace Go.Proofs.Ytconcmobjkpkcaa.Pure
open Go.RowKit Go.Proofs.Ytconcmobjkpkcaa.G Go.Proofs.YtconcmobjkpkcaaW.PrintWords Go.Proofs.YtconcmobjkpkcaaW.PrintLast SumMath SumLoops

theorem wrap_u64_in {n : Int} (h0 : 0 ≤ n) (h1 : n < 18446744073709551616) : IntKind.u64.wrap n = n := by rw [IntKind.wrap_u64]; omega
theorem mul_small {p q : Int} (hp : 0 ≤ p ∧ p < 65521) (hq : 0 ≤ q ∧ q < 65521) : 0 ≤ p * q ∧ p * q ≤ 4293001441 := by
  refine ⟨Int.mul_nonneg hp.1 hq.1, ?_⟩
  have := Int.mul_le_mul (show p ≤ 65521 by omega) (show q ≤ 65521 by omega) hq.1 (by omega)
  omega
theorem join_is (a b n : Int) (ha : 0 ≤ a ∧ a < 4294967296) (hb : 0 ≤ b ∧ b < 4294967296) (hma : may a = true) (hmb : may b = true) (h1 : 1 ≤ n) (h2 : n ≤ 9223372036854775807) (k : Nat) :
    sum_Join.f (k + 1) a b n = some (65536 * ((a / 65536 + b / 65536 + n * ((a % 65536 + 65520) % 65521)) % 65521) + ((a % 65536 + 65520) % 65521 + b % 65536) % 65521) := by
  unfold sum_Join.f
  rw [if_neg (by omega), may_is ha.1 ha.2, hma]
  simp only [Option.bind_some, if_true]
  rw [may_is hb.1 hb.2, hmb]
  simp only [Option.bind_some, Bool.not_true, sum_Join.j0]
  rw [if_neg (by decide), parts_is ha.1 ha.2, parts_is hb.1 hb.2]
  simp only [Option.bind_some]
  have qa : a / 65536 < 65521 ∧ a % 65536 < 65521 := by simpa [may] using hma
  have qb : b / 65536 < 65521 ∧ b % 65536 < 65521 := by simpa [may] using hmb
  have e : (a / 65536 + b / 65536 + n * ((a % 65536 + 65520) % 65521)) % 65521 = (a / 65536 + b / 65536 + n % 65521 * ((a % 65536 + 65520) % 65521)) % 65521 := by
    have : n * ((a % 65536 + 65520) % 65521) % 65521 = n % 65521 * ((a % 65536 + 65520) % 65521) % 65521 := by
      generalize (a % 65536 + 65520) % 65521 = y
      rw [Int.mul_emod n y, Int.mul_emod (n % 65521) y, Int.emod_emod_of_dvd n (Int.dvd_refl _)]
    omega
  rw [e]
  have a0 : 0 ≤ a / 65536 := by omega
  have b0 : 0 ≤ b / 65536 := by omega
  have a1 : 0 ≤ a % 65536 := by omega
  have b1 : 0 ≤ b % 65536 := by omega
  generalize a / 65536 = ah at *
  generalize b / 65536 = bh at *
  generalize a % 65536 = al at *
  generalize b % 65536 = bl at *
  clear e
  have w1 : IntKind.u64.wrap ah = ah := wrap_u64_in (by omega) (by omega)
  have w2 : IntKind.u64.wrap bh = bh := wrap_u64_in (by omega) (by omega)
  have w3 : IntKind.u64.wrap al = al := wrap_u64_in (by omega) (by omega)
  have w4 : IntKind.u64.wrap bl = bl := wrap_u64_in (by omega) (by omega)
  have w5 : IntKind.u64.wrap n = n := wrap_u64_in (by omega) (by omega)
  have w6 : IntKind.u64.wrap (ah + bh) = ah + bh := wrap_u64_in (by omega) (by omega)
  have w7 : IntKind.u64.wrap (al + 65521) = al + 65521 := wrap_u64_in (by omega) (by omega)
  have w8 : IntKind.u64.wrap (al + 65521 - 1) = al + 65520 := by rw [show al + 65521 - 1 = al + 65520 by omega]; exact wrap_u64_in (by omega) (by omega)
  have m1 : Int.tmod n 65521 = n % 65521 := Int.tmod_eq_emod_of_nonneg (by omega)
  have m2 : Int.tmod (al + 65520) 65521 = (al + 65520) % 65521 := Int.tmod_eq_emod_of_nonneg (by omega)
  rw [w1, w2, w3, w4, w5, w6, w7, w8, m1, m2]
  have hq := mul_small (p := n % 65521) (q := (al + 65520) % 65521) (by omega) (by omega)
  have hL : 0 ≤ (al + 65520) % 65521 ∧ (al + 65520) % 65521 < 65521 := by omega
  generalize (al + 65520) % 65521 = L at *
  generalize n % 65521 * L = z at *
  rw [wrap_u64_in (n := z) (by omega) (by omega), wrap_u64_in (n := ah + bh + z) (by omega) (by omega), wrap_u64_in (n := L + bl) (by omega) (by omega), Int.tmod_eq_emod_of_nonneg (a := ah + bh + z) (by omega), Int.tmod_eq_emod_of_nonneg (a := L + bl) (by omega)]
  rw [show (L + bl) % 65521 % 4294967296 = (L + bl) % 65521 by omega, show (ah + bh + z) % 65521 % 4294967296 = (ah + bh + z) % 65521 by omega, bits_or_join _ _ (by omega) (by omega) (by omega) (by omega)]

theorem SumParts : flintlaw01_SumParts.Pure := by
  intro l m hl1 hl2 hlw hm1 hm2 hmw
  have hl := octs_wf hlw
  have hm := octs_wf hmw
  refine ⟨3 * (l.length + m.length) + 100 + 1 + 1, ?_⟩
  generalize hK : 3 * (l.length + m.length) + 100 + 1 = K
  have out : flintlaw01_SumParts.j0 (K + 1) l m true = some true := by
    simp only [flintlaw01_SumParts.j0]
    rw [if_pos trivial, fixed_is K (by omega)]; rfl
  unfold flintlaw01_SumParts.f
  by_cases c1 : (l.length : Int) > 10000
  · rw [if_pos c1]; exact out
  rw [if_neg c1]
  by_cases c2 : (m.length : Int) > 10000
  · rw [decide_eq_true c2]; exact out
  rw [decide_eq_false c2]
  simp only [flintlaw01_SumParts.j0]
  rw [if_neg (by decide)]
  simp only [Option.bind_some, List.nil_append, List.length_nil, Nat.zero_add]
  rw [if_pos (by omega), if_pos (by omega), sum_is (l ++ m) (octs_append hl hm) K (by rw [List.length_append]; omega), fixed_is K (by omega)]
  simp only [Option.bind_some, if_true]
  have r1 := more_range (s := 1) (by omega) (by omega) l
  have r2 := more_range (s := 1) (by omega) (by omega) m
  rw [sum_is l hl K (by omega)]
  simp only [Option.bind_some]
  rw [more_is (more 1 l) m r1.1 r1.2 hm K (by omega), sum_is m hm K (by omega)]
  simp only [Option.bind_some]
  rw [if_pos (more_append 1 l m)]
  by_cases hz : m.length = 0
  · have : m = [] := List.length_eq_zero_iff.mp hz
    subst this
    unfold sum_Join.f
    rw [if_pos (by simp), show K = (K - 1) + 1 by omega]
    simp only [sum_Join.j0]
    rw [if_pos trivial]
    simp
  · rw [show K = (K - 1) + 1 by omega, join_is _ _ _ r1 r2 (may_more may_one l) (may_more may_one m) (by omega) (by omega), more_join (l := l) (m := m) _ rfl]
    simp

end Go.Proofs.Ytconcmobjkpkcaa.Pure
