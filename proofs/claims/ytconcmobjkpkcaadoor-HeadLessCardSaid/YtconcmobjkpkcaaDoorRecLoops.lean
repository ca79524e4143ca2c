/- What pack.Put, pack.Get, rec.Put and the reference's come to: numbers by their digits, a record's frame. -/
import Derived.Test.YtconcmobjkpkcaaDoorG1
import Derived.Test.YtconcmobjkpkcaaDoorG4
import Derived.Test.YtconcmobjkpkcaaDoorSumLoops
import Derived.Laws.Bits64
namespace Go.Proofs.YtconcmobjkpkcaaDoor.RecLoops
open Go Go.RowKit Go.Proofs.YtconcmobjkpkcaaDoor.G Go.Proofs.YtconcmobjkpkcaaDoorW.PrintWords Go.Proofs.YtconcmobjkpkcaaDoorW.PrintLast Go.Proofs.YtconcmobjkpkcaaDoorW.PrintMore SumMath SumLoops

/-- A number's digits to the base 256, the greatest first. -/
def dig : Nat → Int → List Int
  | 0, _ => []
  | i + 1, x => x / 256 ^ i % 256 :: dig i x
theorem dig_length (n : Nat) (x : Int) : (dig n x).length = n := by
  induction n with
  | zero => rfl
  | succ n ih => simp [dig, ih]
theorem dig_octs (n : Nat) (x : Int) : octs (dig n x) := by
  induction n with
  | zero => exact octs_nil
  | succ n ih =>
    intro y hy
    rcases List.mem_cons.mp hy with rfl | hy
    · omega
    · exact ih y hy
theorem u64_in {n : Int} (h0 : 0 ≤ n) (h1 : n < 18446744073709551616) : IntKind.u64.wrap n = n := by rw [IntKind.wrap_u64]; omega

theorem pow_pos256 (i : Nat) : (0 : Int) < 256 ^ i := Int.pow_pos (by decide)
theorem div_pow {x : Int} (h0 : 0 ≤ x) (h1 : x < 18446744073709551616) (i : Nat) : 0 ≤ x / 256 ^ i ∧ x / 256 ^ i < 18446744073709551616 := by
  refine ⟨Int.ediv_nonneg h0 (Int.le_of_lt (pow_pos256 i)), ?_⟩
  have := Int.ediv_le_self (256 ^ i) h0
  omega
theorem wide_is {n : Nat} (h0 : 1 ≤ n) (h1 : n ≤ 8) : pack_wide.f n = some (n : Int) := by
  unfold pack_wide.f mn mx
  rw [if_neg (by omega), if_neg (by omega)]
theorem refWide_is {n : Nat} (h0 : 1 ≤ n) (h1 : n ≤ 8) : flintref03_wide.f n = some (n : Int) := by
  unfold flintref03_wide.f
  rw [if_neg (by omega), if_neg (by omega)]
theorem own_is (l : List Int) (n : Nat) (hl : l.length ≤ 140737488355328) (hn : n ≤ 8) : pack_own.f l n = some (l ++ List.replicate n 0) := by
  unfold pack_own.f
  have hw : wrap64 ((l.length : Int) + n) = ((l.length + n : Nat) : Int) := by unfold wrap64; omega
  rw [hw, if_pos (by omega), Int.toNat_natCast, if_pos (by omega)]
  congr 1
  unfold Kit.cpy
  rw [List.length_replicate, List.take_of_length_le (by omega), List.drop_replicate, show l.length + n - l.length = n by omega]
theorem shr_is {x : Int} (i : Nat) (hi : i < 8) : shr .u64 x (8 * (i : Int)) = x / 256 ^ i := by
  unfold shr
  have e : (8 * (i : Int)).toNat = 8 * i := by omega
  rw [e, Nat.min_eq_left (by simp [IntKind.bits]; omega)]
  congr 1
  rw [Int.pow_mul]
  rfl

theorem put_l0_is (l : List Int) (n : Nat) (x : Int) (hl : l.length ≤ 140737488355328) (hn : n ≤ 8) (d : Nat) : ∀ (k i : Nat), i + d = n → d < k →
    pack_Put.l0 k x (l ++ List.replicate d 0 ++ dig i x) n i = some (l ++ dig n x) := by
  induction d with
  | zero =>
    intro k i hi hk
    obtain ⟨k, rfl⟩ : ∃ m, k = m + 1 := ⟨k - 1, by omega⟩
    obtain rfl : i = n := by omega
    simp only [pack_Put.l0]
    rw [if_neg (by omega)]
    simp
  | succ d ih =>
    intro k i hi hk
    obtain ⟨k, rfl⟩ : ∃ m, k = m + 1 := ⟨k - 1, by omega⟩
    have hlen : (l ++ List.replicate (d + 1) 0 ++ dig i x).length = l.length + n := by simp [dig_length]; omega
    have w1 : wrap64 (8 * (i : Int)) = 8 * (i : Int) := by unfold wrap64; omega
    have w2 : wrap64 ((wrap64 (((l ++ List.replicate (d + 1) 0 ++ dig i x).length : Int) - 1)) - i) = ((l.length + d : Nat) : Int) := by rw [hlen]; unfold wrap64; omega
    simp only [pack_Put.l0]
    rw [if_pos (by omega), w1, w2, if_pos (by omega), if_pos (by omega), if_pos (by rw [hlen]; omega), wrap_up (by omega) (by omega), shr_is i (by omega), Int.toNat_natCast]
    have e : (l ++ List.replicate (d + 1) 0 ++ dig i x).set (l.length + d) (x / 256 ^ i % 256) = l ++ List.replicate d 0 ++ dig (i + 1) x := by
      rw [List.replicate_succ', ← List.append_assoc, List.append_assoc (l ++ List.replicate d 0)]
      rw [show l.length + d = (l ++ List.replicate d 0).length by simp]
      simp [dig]
    rw [e]
    exact ih k (i + 1) (by omega) (by omega)
theorem put_is (l : List Int) (n : Nat) (x : Int) (hl : l.length ≤ 140737488355328) (h1 : 1 ≤ n) (hn : n ≤ 8) (k : Nat) (hk : 9 ≤ k) : pack_Put.f k l n x = some (l ++ dig n x) := by
  have e1 := wide_is h1 hn
  have e2 := own_is l n hl hn
  have h := put_l0_is l n x hl hn n k 0 (Nat.zero_add n) (Nat.lt_of_le_of_lt hn (Nat.lt_of_lt_of_le (by decide) hk))
  rw [show dig 0 x = [] from rfl, List.append_nil] at h
  generalize l ++ dig n x = r at h ⊢
  unfold pack_Put.f
  rw [e1, Option.bind_some, e2, Option.bind_some]
  exact h

theorem ref_l1_is (y : List Int) (hy : y.length ≤ 8) (d : Nat) : ∀ (k : Nat) (l : List Int), l.length + d ≤ 140737488355328 → d ≤ y.length → d < k →
    flintref03_Put.l1 k l y ((d : Int) - 1) = some (l ++ (y.take d).reverse) := by
  induction d with
  | zero =>
    intro k l hl hd hk
    obtain ⟨k, rfl⟩ : ∃ m, k = m + 1 := ⟨k - 1, by omega⟩
    simp only [flintref03_Put.l1]
    rw [if_neg (by omega)]
    simp
  | succ d ih =>
    intro k l hl hd hk
    obtain ⟨k, rfl⟩ : ∃ m, k = m + 1 := ⟨k - 1, by omega⟩
    have e0 : ((d + 1 : Nat) : Int) - 1 = (d : Int) := by omega
    have w1 : wrap64 ((d : Int) - 1) = (d : Int) - 1 := by unfold wrap64; omega
    simp only [flintref03_Put.l1]
    rw [e0, if_pos (by omega), if_pos (by omega), if_pos (by omega), if_pos (by omega), w1, ih k _ (by simp; omega) (by omega) (by omega)]
    congr 1
    have e1 : y.take (d + 1) = y.take d ++ [rd y d] := by
      rw [List.take_succ_eq_append_getElem (by omega)]
      simp [rd, show d < y.length by omega]
    rw [e1]
    simp
theorem ref_l0_is (l : List Int) (n : Nat) (x : Int) (hx0 : 0 ≤ x) (hx1 : x < 18446744073709551616) (hl : l.length + 8 ≤ 140737488355328) (h1 : 1 ≤ n) (hn : n ≤ 8) (d : Nat) : ∀ (k i : Nat), i + d = n → d + 10 < k →
    flintref03_Put.l0 k n (x / 256 ^ i) l (dig i x).reverse i = some (l ++ dig n x) := by
  induction d with
  | zero =>
    intro k i hi hk
    obtain ⟨k, rfl⟩ : ∃ m, k = m + 1 := ⟨k - 1, by omega⟩
    obtain rfl : i = n := by omega
    simp only [flintref03_Put.l0]
    rw [refWide_is h1 hn]
    simp only [Option.bind_some]
    rw [if_neg (by omega)]
    have hln : (dig i x).reverse.length = i := by rw [List.length_reverse, dig_length]
    have w1 : wrap64 (((dig i x).reverse.length : Int) - 1) = (i : Int) - 1 := by rw [hln]; unfold wrap64; omega
    rw [w1, ref_l1_is _ (by omega) i k l (by omega) (by omega) (by omega), List.take_of_length_le (by omega), List.reverse_reverse]
  | succ d ih =>
    intro k i hi hk
    obtain ⟨k, rfl⟩ : ∃ m, k = m + 1 := ⟨k - 1, by omega⟩
    have hln : (dig i x).reverse.length = i := by rw [List.length_reverse, dig_length]
    have hd0 : 0 ≤ x / 256 ^ i := (div_pow hx0 hx1 i).1
    have hd1 := div_pow hx0 hx1 (i + 1)
    simp only [flintref03_Put.l0]
    rw [refWide_is h1 hn]
    simp only [Option.bind_some]
    rw [if_pos (by omega), if_pos (by omega), wrap_up (by omega) (by omega)]
    have e1 : IntKind.u64.wrap (Int.tdiv (x / 256 ^ i) 256) = x / 256 ^ (i + 1) := by
      rw [Int.tdiv_eq_ediv_of_nonneg hd0, Int.ediv_ediv_of_nonneg (Int.le_of_lt (pow_pos256 i)), ← Int.pow_succ]
      exact u64_in hd1.1 hd1.2
    have e2 : Int.tmod (x / 256 ^ i) 256 % 256 = x / 256 ^ i % 256 := by rw [Int.tmod_eq_emod_of_nonneg hd0]; omega
    rw [e1, e2]
    have := ih k (i + 1) (by omega) (by omega)
    simpa [dig] using this
theorem refPut_is (l : List Int) (n : Nat) (x : Int) (hx0 : 0 ≤ x) (hx1 : x < 18446744073709551616) (hl : l.length + 8 < 140737488355328) (h1 : 1 ≤ n) (hn : n ≤ 8) (k : Nat) (hk : 30 ≤ k) : flintref03_Put.f k l n x = some (l ++ dig n x) := by
  have h := ref_l0_is l n x hx0 hx1 (by omega) h1 hn n k 0 (Nat.zero_add n) (by omega)
  rw [Int.pow_zero, Int.ediv_one, show (dig 0 x).reverse = [] from rfl] at h
  generalize l ++ dig n x = r at h ⊢
  unfold flintref03_Put.f
  rw [Option.bind_some, List.length_nil, if_pos (by omega), List.nil_append]
  exact h

end Go.Proofs.YtconcmobjkpkcaaDoor.RecLoops
