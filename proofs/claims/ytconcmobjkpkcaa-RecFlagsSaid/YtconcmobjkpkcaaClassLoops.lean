/- What rec.Class and the reference's come to: one plain function of bytes and a place. -/
import Derived.Test.YtconcmobjkpkcaaG20
import Derived.Test.YtconcmobjkpkcaaG22
import Derived.Test.YtconcmobjkpkcaaRecLoops
namespace Go.Proofs.Ytconcmobjkpkcaa.ClassLoops
open Go Go.RowKit Go.Proofs.Ytconcmobjkpkcaa.G Go.Proofs.YtconcmobjkpkcaaW.PrintWords Go.Proofs.YtconcmobjkpkcaaW.PrintLast Go.Proofs.YtconcmobjkpkcaaW.PrintMore SumMath SumLoops RecLoops

/-- A number out of its digits. -/
def num : Int → List Int → Int
  | x, [] => x
  | x, c :: t => num (256 * x + c) t
theorem num_range (l : List Int) (hl : octs l) (j : Nat) (x : Int) (h0 : 0 ≤ x) (h1 : x < 256 ^ j) : 0 ≤ num x l ∧ num x l < 256 ^ (j + l.length) := by
  induction l generalizing x j with
  | nil => exact ⟨h0, h1⟩
  | cons c t ih =>
    obtain ⟨hc, ht⟩ := octs_cons hl
    have e : (256 : Int) ^ (j + 1) = 256 * 256 ^ j := by rw [Int.pow_succ, Int.mul_comm]
    have := ih ht (j + 1) (256 * x + c) (by omega) (by rw [e]; omega)
    rw [show j + (c :: t).length = j + 1 + t.length by simp; omega]
    exact this

theorem pow_small {i : Nat} (h : i ≤ 3) : (256 : Int) ^ i ≤ 16777216 := by
  have : i = 0 ∨ i = 1 ∨ i = 2 ∨ i = 3 := by omega
  rcases this with rfl | rfl | rfl | rfl <;> decide
theorem orU64 {x c : Int} (h0 : 0 ≤ x) (h1 : x < 72057594037927936) (hc : 0 ≤ c ∧ c ≤ 255) : Go.bits .or .u64 (IntKind.u64.wrap (x * 256)) (IntKind.u64.wrap c) = 256 * x + c := by
  rw [u64_in (n := x * 256) (by omega) (by omega), u64_in (n := c) (by omega) (by omega), u64_or _ c (by omega) (by omega) hc.1 (by omega), nat_join 8 _ _ (by omega) (by omega)]
  omega

theorem get_l0_is (y : List Int) (hy : octs y) (hlen : y.length ≤ 4) (a n : Int) (d : Nat) : ∀ (k i : Nat) (x : Int), i + d = y.length → d < k → 0 ≤ x → x < 256 ^ i →
    pack_Get.l0 k a n x y y.length i = some (num x (y.drop i), wrap64 (a + n), 0) := by
  induction d with
  | zero =>
    intro k i x hi hk h0 h1
    obtain ⟨k, rfl⟩ : ∃ m, k = m + 1 := ⟨k - 1, by omega⟩
    have hd : y.drop i = [] := List.drop_eq_nil_of_le (by omega)
    simp only [pack_Get.l0]
    rw [if_neg (by omega), hd]
    rfl
  | succ d ih =>
    intro k i x hi hk h0 h1
    obtain ⟨k, rfl⟩ : ∃ m, k = m + 1 := ⟨k - 1, by omega⟩
    have hlt : i < y.length := by omega
    have hb := rd_byte hy hlt
    have hx : x < 16777216 := by
      have := pow_small (i := i) (by omega)
      omega
    have e : (256 : Int) ^ (i + 1) = 256 * 256 ^ i := by rw [Int.pow_succ, Int.mul_comm]
    simp only [pack_Get.l0]
    rw [if_pos (by omega), if_pos (by omega), if_pos (by omega), orU64 h0 (by omega) hb, wrap_up (by omega) (by omega)]
    have h := ih k (i + 1) (256 * x + rd y i) (by omega) (by omega) (by omega) (by rw [e]; omega)
    rw [rd_drop hlt]
    exact h
theorem seg_length (b : List Int) (a n : Nat) (h : a + n ≤ b.length) : ((b.take (a + n)).drop a).length = n := by
  rw [List.length_drop, List.length_take]; omega
theorem get_is (b : List Int) (hb : octs b) (hlen : b.length ≤ 100000) (a n : Nat) (ha : a ≤ b.length) (h1 : 1 ≤ n) (hn : n ≤ 4) (k : Nat) (hk : 10 ≤ k) :
    pack_Get.f k b a n = if a + n ≤ b.length then some (num 0 ((b.take (a + n)).drop a), ((a + n : Nat) : Int), 0) else some (0, 0, 3) := by
  obtain ⟨k, rfl⟩ : ∃ m, k = m + 1 := ⟨k - 1, by omega⟩
  unfold pack_Get.f
  rw [wide_is h1 (by omega), Option.bind_some, if_neg (by omega), decide_eq_false (by omega)]
  simp only [pack_Get.j0]
  have w1 : wrap64 ((b.length : Int) - a) = (b.length : Int) - a := by unfold wrap64; omega
  have w2 : wrap64 ((a : Int) + n) = ((a + n : Nat) : Int) := by unfold wrap64; omega
  rw [if_neg (by decide), w1, w2]
  by_cases h : a + n ≤ b.length
  · rw [if_neg (by omega), if_pos (by omega), if_pos (by omega), if_pos (by omega), if_pos h]
    have hg := get_l0_is ((b.take (a + n)).drop a) (octs_drop (octs_take hb _) _) (by rw [seg_length b a n h]; omega) a n n k 0 0 (by rw [seg_length b a n h]; omega) (by omega) (by omega) (by decide)
    rw [List.drop_zero, w2] at hg
    exact hg
  · rw [if_pos (by omega), if_neg h]

theorem refGet_l0_is (b : List Int) (hb : octs b) (hlen : b.length ≤ 100000) (a n : Nat) (h : a + n ≤ b.length) (h1 : 1 ≤ n) (hn : n ≤ 4) (d : Nat) : ∀ (k i : Nat) (x : Int), i + d = n → d < k → 0 ≤ x → x < 256 ^ i →
    flintref03_Get.l0 k b a n x i = some (num x ((b.take (a + n)).drop (a + i)), ((a + n : Nat) : Int), 0) := by
  induction d with
  | zero =>
    intro k i x hi hk h0 hx
    obtain ⟨k, rfl⟩ : ∃ m, k = m + 1 := ⟨k - 1, by omega⟩
    have hd : (b.take (a + n)).drop (a + i) = [] := List.drop_eq_nil_of_le (by rw [List.length_take]; omega)
    have w2 : wrap64 ((a : Int) + n) = ((a + n : Nat) : Int) := by unfold wrap64; omega
    simp only [flintref03_Get.l0]
    rw [refWide_is h1 (by omega), Option.bind_some, if_neg (by omega), Option.bind_some, w2, hd]
    rfl
  | succ d ih =>
    intro k i x hi hk h0 h2
    obtain ⟨k, rfl⟩ : ∃ m, k = m + 1 := ⟨k - 1, by omega⟩
    have hlt : a + i < b.length := by omega
    have hbb := rd_byte hb hlt
    have hx : x < 16777216 := by
      have := pow_small (i := i) (by omega)
      omega
    have e : (256 : Int) ^ (i + 1) = 256 * 256 ^ i := by rw [Int.pow_succ, Int.mul_comm]
    have w1 : wrap64 ((a : Int) + i) = ((a + i : Nat) : Int) := by unfold wrap64; omega
    simp only [flintref03_Get.l0]
    rw [refWide_is h1 (by omega), Option.bind_some, if_pos (by omega), w1, if_neg (by omega), if_pos (by omega), if_pos (by omega), wrap_up (by omega) (by omega),
      u64_in (n := 256 * x) (by omega) (by omega), u64_in (n := rd b ((a + i : Nat) : Int)) (by omega) (by omega), u64_in (n := 256 * x + rd b ((a + i : Nat) : Int)) (by omega) (by omega)]
    have h := ih k (i + 1) (256 * x + rd b ((a + i : Nat) : Int)) (by omega) (by omega) (by omega) (by rw [e]; omega)
    have hl2 : a + i < (b.take (a + n)).length := by rw [List.length_take]; omega
    have er : rd (b.take (a + n)) ((a + i : Nat) : Int) = rd b ((a + i : Nat) : Int) := by
      simp only [rd, Int.toNat_natCast, List.getD_eq_getElem?_getD]
      rw [List.getElem?_take, if_pos (by omega)]
    rw [rd_drop hl2, er]
    exact h
theorem refGet_is (b : List Int) (hb : octs b) (hlen : b.length ≤ 100000) (a n : Nat) (h : a + n ≤ b.length) (h1 : 1 ≤ n) (hn : n ≤ 4) (k : Nat) (hk : 10 ≤ k) :
    flintref03_Get.f k b a n = some (num 0 ((b.take (a + n)).drop a), ((a + n : Nat) : Int), 0) := by
  obtain ⟨k, rfl⟩ : ∃ m, k = m + 1 := ⟨k - 1, by omega⟩
  unfold flintref03_Get.f
  rw [if_neg (by omega), decide_eq_false (by omega)]
  simp only [flintref03_Get.j0]
  rw [if_neg (by decide)]
  exact refGet_l0_is b hb hlen a n h h1 hn n k 0 0 (by omega) (by omega) (by omega) (by decide)

/-- What a record's flags say. -/
def st (f : Int) : Int := if f = 127 then 4 else if f = 63 then 5 else if f = 95 then 6 else if f = 31 then 6 else 3
theorem state_is (f : Int) : rec_state.f f = some (st f) := by
  unfold rec_state.f st
  split
  · rfl
  · split
    · rfl
    · split
      · rfl
      · split <;> rfl
def two (b : List Int) (a : Nat) : Nat := (256 * rd b ((a + 1 : Nat) : Int) + rd b ((a + 2 : Nat) : Int)).toNat
def four (b : List Int) (a : Nat) : Int := num 0 ((b.take (a + 7)).drop (a + 3))
def part (b : List Int) (a n : Nat) : List Int := (b.take (a + 7 + n)).drop (a + 7)
/-- What stands at a place. -/
def classS (b : List Int) (a : Nat) : Int × List Int × Int :=
  if (b.drop a).all (fun c => c == 255) then (0, [], 0)
  else if st (rd b a) = 3 ∨ b.length < a + 8 then (3, [], 0)
  else if b.length < a + 8 + two b a ∨ rd b ((a + 7 + two b a : Nat) : Int) ≠ 0 then (3, [], 0)
  else if sumOf (part b a (two b a)) = four b a then (st (rd b a), part b a (two b a), ((a + 8 + two b a : Nat) : Int))
  else (3, [], 0)
theorem seg2 (b : List Int) (a : Nat) (h : a + 2 ≤ b.length) : (b.take (a + 2)).drop a = [rd b a, rd b ((a + 1 : Nat) : Int)] := by
  have h1 : a < (b.take (a + 2)).length := by rw [List.length_take]; omega
  have h2 : a + 1 < (b.take (a + 2)).length := by rw [List.length_take]; omega
  rw [rd_drop h1, rd_drop h2]
  have h3 : (b.take (a + 2)).drop (a + 1 + 1) = [] := List.drop_eq_nil_of_le (by rw [List.length_take]; omega)
  rw [h3]
  simp only [rd, Int.toNat_natCast, List.getD_eq_getElem?_getD]
  rw [List.getElem?_take, if_pos (by omega), List.getElem?_take, if_pos (by omega)]
theorem two_is (b : List Int) (hb : octs b) (a : Nat) (h : a + 3 ≤ b.length) : 0 ≤ 256 * rd b ((a + 1 : Nat) : Int) + rd b ((a + 2 : Nat) : Int) ∧ 256 * rd b ((a + 1 : Nat) : Int) + rd b ((a + 2 : Nat) : Int) = (two b a : Int) ∧ two b a ≤ 65535 := by
  have h1 := rd_byte hb (show a + 1 < b.length by omega)
  have h2 := rd_byte hb (show a + 2 < b.length by omega)
  unfold two
  omega
theorem dig_two (b : List Int) (hb : octs b) (a : Nat) (h : a + 3 ≤ b.length) : dig 2 (two b a) = [rd b ((a + 1 : Nat) : Int), rd b ((a + 2 : Nat) : Int)] := by
  have h1 := rd_byte hb (show a + 1 < b.length by omega)
  have h2 := rd_byte hb (show a + 2 < b.length by omega)
  have h3 := two_is b hb a h
  simp only [dig]
  rw [← h3.2.1]
  have e1 : (256 : Int) ^ 1 = 256 := by decide
  have e0 : (256 : Int) ^ 0 = 1 := by decide
  rw [e1, e0]
  congr 1
  · omega
  · congr 1; omega

theorem j1_torn (k : Nat) (b : List Int) (s n f : Int) : rec_Class.j1 (k + 1) b s n f true = some (3, [], 0) := by
  simp only [rec_Class.j1]; rw [if_pos trivial]
theorem j2_torn (k : Nat) (b : List Int) (s f w e : Int) : rec_Class.j2 (k + 1) b s f w e true = some (3, [], 0) := by
  simp only [rec_Class.j2]; rw [if_pos trivial]

theorem class_is (b : List Int) (hb : octs b) (hlen : b.length ≤ 10000) (a : Nat) (ha : a ≤ b.length) (k : Nat) (hk : 3 * b.length + 60 ≤ k) : rec_Class.f k b a = some (classS b a) := by
  obtain ⟨k, rfl⟩ : ∃ m, k = m + 1 + 1 + 1 := ⟨k - 3, by omega⟩
  unfold rec_Class.f classS
  rw [if_neg (by omega), decide_eq_false (by omega)]
  simp only [rec_Class.j0]
  rw [if_neg (by decide), if_pos (by omega), if_pos (by omega), Int.toNat_natCast]
  unfold rec_blank.f
  rw [Option.bind_some]
  by_cases hblank : ((b.drop a).all fun c => c == 255) = true
  · rw [if_pos hblank, if_pos hblank]
  rw [if_neg hblank, if_neg hblank]
  have hlt : a < b.length := by
    refine Nat.lt_of_not_le fun h => hblank ?_
    rw [List.drop_eq_nil_of_le h]; rfl
  have w1 : wrap64 ((a : Int) + 1) = ((a + 1 : Nat) : Int) := by unfold wrap64; omega
  rw [if_pos (by omega), state_is, Option.bind_some, w1, show (2 : Int) = ((2 : Nat) : Int) from rfl, get_is b hb (by omega) (a + 1) 2 (by omega) (by omega) (by omega) (k + 1 + 1) (by omega)]
  by_cases hs : st (rd b a) = 3
  · rw [if_pos (show st (rd b a) = 3 ∨ b.length < a + 8 from .inl hs)]
    by_cases h3 : a + 1 + 2 ≤ b.length
    · rw [if_pos h3, Option.bind_some, if_pos hs, j1_torn]
    · rw [if_neg h3, Option.bind_some, if_pos hs, j1_torn]
  by_cases h3 : a + 1 + 2 ≤ b.length
  case neg => rw [if_neg h3, Option.bind_some, if_neg hs, if_pos (.inr (by omega)), show ((3 : Int) != 0) = true by decide, j1_torn]
  rw [if_pos h3, Option.bind_some, if_neg hs, show ((0 : Int) != 0) = false by decide]
  obtain ⟨t0, t1, t2⟩ := two_is b hb a (by omega)
  have e2 : num 0 ((b.take (a + 1 + 2)).drop (a + 1)) = (two b a : Int) := by
    rw [seg2 b (a + 1) (by omega), ← t1, show a + 1 + 1 = a + 2 from rfl]
    simp only [num]
    omega
  rw [e2]
  simp only [rec_Class.j1]
  rw [if_neg (by decide), show (4 : Int) = ((4 : Nat) : Int) from rfl, get_is b hb (by omega) (a + 1 + 2) 4 (by omega) (by omega) (by omega) (k + 1) (by omega)]
  have w2 : wrap64 (two b a : Int) = (two b a : Int) := by unfold wrap64; omega
  by_cases h7 : a + 1 + 2 + 4 ≤ b.length
  case neg =>
    rw [if_neg h7, Option.bind_some, if_neg (by decide), j2_torn, if_pos (.inr (by omega))]
  rw [if_pos h7, Option.bind_some, if_pos rfl, w2]
  have w3 : wrap64 (((a + 1 + 2 + 4 : Nat) : Int) + (two b a : Int)) = ((a + 7 + two b a : Nat) : Int) := by unfold wrap64; omega
  rw [w3]
  by_cases hend : b.length ≤ a + 7 + two b a
  · rw [if_pos (by omega), j2_torn]
    by_cases h8 : b.length < a + 8
    · rw [if_pos (.inr h8)]
    · rw [if_neg (by rintro (h | h); exact hs h; exact h8 h), if_pos (.inl (by omega))]
  rw [if_neg (by omega), if_pos (by omega), if_pos (by omega), if_neg (show ¬ (st (rd b a) = 3 ∨ b.length < a + 8) by rintro (h | h); exact hs h; omega)]
  by_cases h0 : rd b ((a + 7 + two b a : Nat) : Int) = 0
  case neg => rw [bne_iff_ne.mpr h0, j2_torn, if_pos (.inr h0)]
  rw [if_neg (show ¬ (b.length < a + 8 + two b a ∨ rd b ((a + 7 + two b a : Nat) : Int) ≠ 0) by rintro (h | h); omega; exact h h0), show (rd b ((a + 7 + two b a : Nat) : Int) != 0) = false by rw [h0]; decide]
  simp only [rec_Class.j2]
  have hp : ((b.take ((a + 7 + two b a : Nat) : Int).toNat).drop ((a + 1 + 2 + 4 : Nat) : Int).toNat) = part b a (two b a) := by
    rw [Int.toNat_natCast, Int.toNat_natCast]; rfl
  have hpl : (part b a (two b a)).length = two b a := by unfold part; rw [List.length_drop, List.length_take]; omega
  have hpo : octs (part b a (two b a)) := octs_drop (octs_take hb _) _
  rw [if_neg (by decide), if_pos (by omega), if_pos (by omega), if_pos (by omega), hp]
  unfold bytes_Clone.f
  have hr := sumOf_range (part b a (two b a))
  rw [if_pos (by omega), Option.bind_some, checked_is _ hpo (by omega) k (by omega), Option.bind_some, u64_in hr.1 (by omega)]
  have e4 : num 0 ((b.take (a + 1 + 2 + 4)).drop (a + 1 + 2)) = four b a := rfl
  rw [e4]
  have w4 : wrap64 (((a + 7 + two b a : Nat) : Int) + 1) = ((a + 8 + two b a : Nat) : Int) := by unfold wrap64; omega
  rw [w4]
  split <;> rfl
theorem class_out (b : List Int) (a : Int) (ha : a < 0 ∨ (b.length : Int) < a) (k : Nat) : rec_Class.f (k + 1) b a = some (3, [], 0) := by
  have h : rec_Class.j0 (k + 1) b a true = some (3, [], 0) := by
    simp only [rec_Class.j0]; rw [if_pos trivial]
  unfold rec_Class.f
  by_cases c : a < 0
  · rw [if_pos c]; exact h
  · rw [if_neg c, decide_eq_true (by omega)]; exact h

/-! The reference's. -/
theorem ref_l0_is (b : List Int) (a : Int) (hlen : b.length ≤ 10000) (d : Nat) : ∀ (k i : Nat) (flag : Bool), i + d = b.length → d < k →
    flintref06_Class.l0 k b a [] flag i = flintref06_Class.l0 (k - d) b a [] (flag && (b.drop i).all fun c => c == 255) b.length := by
  induction d with
  | zero =>
    intro k i flag hi hk
    have : b.drop i = [] := List.drop_eq_nil_of_le (by omega)
    rw [this, show ((b.length : Nat) : Int) = (i : Int) by omega]
    simp
  | succ d ih =>
    intro k i flag hi hk
    obtain ⟨k, rfl⟩ : ∃ m, k = m + 1 := ⟨k - 1, by omega⟩
    have hlt : i < b.length := by omega
    conv => lhs; rw [flintref06_Class.l0]
    rw [if_pos (by omega), rd_drop hlt, List.all_cons, show k + 1 - (d + 1) = k - d by omega]
    cases flag with
    | true =>
      rw [if_pos rfl, if_pos (by omega), wrap_up (by omega) (by omega)]
      have := ih k (i + 1) (rd b i == 255) (by omega) (by omega)
      rw [show ((i + 1 : Nat) : Int) = (i : Int) + 1 by omega] at this
      rw [this, Bool.true_and]
    | false =>
      rw [if_neg (by decide), wrap_up (by omega) (by omega)]
      have := ih k (i + 1) false (by omega) (by omega)
      rw [show ((i + 1 : Nat) : Int) = (i : Int) + 1 by omega] at this
      rw [this, Bool.false_and, Bool.false_and]
theorem j3_torn (k : Nat) (b : List Int) (a s : Int) : flintref06_Class.j3 (k + 1) b a [] s true = some (3, [], 0) := by
  rw [flintref06_Class.j3, if_pos rfl]
theorem j4_torn (k : Nat) (b : List Int) (a s n : Int) : flintref06_Class.j4 (k + 1) b a [] s n true = some (3, [], 0) := by
  rw [flintref06_Class.j4, if_pos rfl]
theorem j4_is (b : List Int) (hb : octs b) (hlen : b.length ≤ 10000) (a : Nat) (s : Int) (h8 : a + 8 + two b a ≤ b.length) (k : Nat) (hk : 3 * b.length + 40 ≤ k) :
    flintref06_Class.j4 (k + 1) b a [] s (two b a) false = some (if sumOf (part b a (two b a)) = four b a then (s, part b a (two b a), ((a + 8 + two b a : Nat) : Int)) else (3, [], 0)) := by
  have w1 : wrap64 ((a : Int) + 1) = ((a + 1 : Nat) : Int) := by unfold wrap64; omega
  have w3 : wrap64 ((a : Int) + 3) = ((a + 3 : Nat) : Int) := by unfold wrap64; omega
  have w7 : wrap64 ((a : Int) + 7) = ((a + 7 : Nat) : Int) := by unfold wrap64; omega
  have w8 : wrap64 ((a : Int) + 8) = ((a + 8 : Nat) : Int) := by unfold wrap64; omega
  have wn : wrap64 (((a + 7 : Nat) : Int) + (two b a : Int)) = ((a + 7 + two b a : Nat) : Int) := by unfold wrap64; omega
  have w9 : wrap64 (((a + 8 : Nat) : Int) + (two b a : Int)) = ((a + 8 + two b a : Nat) : Int) := by unfold wrap64; omega
  have h2 : (b.take (a + 3)).drop (a + 1) = dig 2 (two b a) := by
    rw [dig_two b hb a (by omega), show a + 3 = a + 1 + 2 by omega, seg2 b (a + 1) (by omega)]
  have hpl : (part b a (two b a)).length = two b a := by unfold part; rw [List.length_drop, List.length_take]; omega
  have hpo : octs (part b a (two b a)) := octs_drop (octs_take hb _) _
  have hsum := refSum_is (dig 2 (two b a) ++ part b a (two b a)) (octs_append (dig_octs _ _) hpo) (by rw [List.length_append, dig_length]; omega) k (by rw [List.length_append, dig_length]; omega)
  have hS : more 1 (dig 2 (two b a) ++ part b a (two b a)) = sumOf (part b a (two b a)) := by unfold sumOf; rw [hpl]
  have hr := sumOf_range (part b a (two b a))
  have hp : (b.take (a + 7 + two b a)).drop (a + 7) = part b a (two b a) := rfl
  rw [flintref06_Class.j4, if_neg (by decide), Option.bind_some, w1, w3, if_pos (by omega), if_pos (by omega), if_pos (by omega)]
  simp only [Int.toNat_natCast]
  rw [h2, List.length_nil, dig_length, if_pos (by omega), Option.bind_some, List.nil_append, w7, wn, if_pos (by omega), if_pos (by omega), if_pos (by omega)]
  simp only [Int.toNat_natCast]
  rw [hp, dig_length, hpl, if_pos (by omega), Option.bind_some, show (4 : Int) = ((4 : Nat) : Int) from rfl, refGet_is b hb (by omega) (a + 3) 4 (by omega) (by omega) (by omega) k (by omega), Option.bind_some, hsum, Option.bind_some, hS, u64_in hr.1 (by omega)]
  rw [show num 0 ((b.take (a + 3 + 4)).drop (a + 3)) = four b a from rfl]
  split
  · rw [if_pos (by rw [List.length_append, dig_length]; omega), w8, w9]
    have hd : (dig 2 (two b a) ++ part b a (two b a)).drop (2 : Int).toNat = part b a (two b a) := by
      rw [show (2 : Int).toNat = (dig 2 (two b a)).length by rw [dig_length]; rfl, List.drop_left]
    rw [hd]
  · rfl
theorem wr {x : Int} (h0 : -1000000 ≤ x) (h1 : x ≤ 1000000) : wrap64 x = x := by unfold wrap64; omega
/-- What j3 says of a whole head. -/
theorem j3_is (b : List Int) (hb : octs b) (hlen : b.length ≤ 10000) (a : Nat) (s : Int) (h8 : a + 8 ≤ b.length) (k : Nat) (hk : 3 * b.length + 40 ≤ k) (r : Int × List Int × Int)
    (ht : b.length < a + 8 + two b a → r = (3, [], 0)) (h0 : a + 8 + two b a ≤ b.length → rd b ((a + 7 + two b a : Nat) : Int) ≠ 0 → r = (3, [], 0))
    (h4 : a + 8 + two b a ≤ b.length → rd b ((a + 7 + two b a : Nat) : Int) = 0 → r = if sumOf (part b a (two b a)) = four b a then (s, part b a (two b a), ((a + 8 + two b a : Nat) : Int)) else (3, [], 0)) :
    flintref06_Class.j3 (k + 1 + 1) b a [] s false = some r := by
  obtain ⟨t0, t1, t2⟩ := two_is b hb a (by omega)
  have b1 := rd_byte hb (show a + 1 < b.length by omega)
  have b2 := rd_byte hb (show a + 2 < b.length by omega)
  have hj4 := fun hle => j4_is b hb hlen a s hle k hk
  clear hk hb
  generalize two b a = n at *
  generalize hR : (if sumOf (part b a n) = four b a then (s, part b a n, ((a + 8 + n : Nat) : Int)) else (3, [], 0)) = R at *
  have w0 : wrap64 ((b.length : Int) - a) = (b.length : Int) - a := wr (by omega) (by omega)
  have w1 : wrap64 ((a : Int) + 1) = ((a + 1 : Nat) : Int) := by rw [wr (by omega) (by omega)]; omega
  have w2 : wrap64 ((a : Int) + 2) = ((a + 2 : Nat) : Int) := by rw [wr (by omega) (by omega)]; omega
  have w7 : wrap64 ((a : Int) + 7) = ((a + 7 : Nat) : Int) := by rw [wr (by omega) (by omega)]; omega
  have w8 : wrap64 ((b.length : Int) - a - 8) = (b.length : Int) - a - 8 := wr (by omega) (by omega)
  have w9 : wrap64 (((a + 7 : Nat) : Int) + (n : Int)) = ((a + 7 + n : Nat) : Int) := by rw [wr (by omega) (by omega)]; omega
  generalize hc1 : rd b ((a + 1 : Nat) : Int) = c1 at b1 t0 t1
  generalize hc2 : rd b ((a + 2 : Nat) : Int) = c2 at b2 t0 t1
  have e1 : wrap64 c1 = c1 := wr (by omega) (by omega)
  have e2 : wrap64 c2 = c2 := wr (by omega) (by omega)
  have e3 : wrap64 (256 * c1) = 256 * c1 := wr (by omega) (by omega)
  have wn : wrap64 (256 * c1 + c2) = (n : Int) := by rw [t1]; exact wr (by omega) (by omega)
  have p1 : (0 : Int) ≤ ((a + 1 : Nat) : Int) := by omega
  have p2 : ((a + 1 : Nat) : Int) < (b.length : Int) := by omega
  have p3 : (0 : Int) ≤ ((a + 2 : Nat) : Int) := by omega
  have p4 : ((a + 2 : Nat) : Int) < (b.length : Int) := by omega
  clear t0 t1 b1 b2
  rw [flintref06_Class.j3]
  rw [if_neg (show ¬ false = true by decide), w1, w2, if_pos p1, if_pos p2, if_pos p3, if_pos p4]
  rw [hc1, hc2, e1, e2, e3, wn, w0, w8, w7, w9]
  clear e1 e2 e3 wn w0 w8 w7 w9 w1 w2 p1 p2 p3 p4
  by_cases hend : b.length < a + 8 + n
  · have q : (b.length : Int) - a - 8 < (n : Int) := by omega
    rw [if_pos q, j4_torn, ht hend]
  have q : ¬ (b.length : Int) - a - 8 < (n : Int) := by omega
  have q1 : (0 : Int) ≤ ((a + 7 + n : Nat) : Int) := by omega
  have q2 : ((a + 7 + n : Nat) : Int) < (b.length : Int) := by omega
  have hle : a + 8 + n ≤ b.length := by omega
  rw [if_neg q, if_pos q1, if_pos q2]
  by_cases hz : rd b ((a + 7 + n : Nat) : Int) = 0
  · have hne : (rd b ((a + 7 + n : Nat) : Int) != 0) = false := by rw [hz]; decide
    rw [hne, hj4 hle, h4 hle hz]
  · rw [bne_iff_ne.mpr hz, j4_torn, h0 hle hz]
theorem j2_is (b : List Int) (hb : octs b) (hlen : b.length ≤ 10000) (a : Nat) (ha : a < b.length) (s : Int) (k : Nat) (hk : 3 * b.length + 40 ≤ k) :
    flintref06_Class.j2 (k + 1 + 1 + 1) b a [] s = some (if s = 3 ∨ b.length < a + 8 then (3, [], 0) else if b.length < a + 8 + two b a ∨ rd b ((a + 7 + two b a : Nat) : Int) ≠ 0 then (3, [], 0)
      else if sumOf (part b a (two b a)) = four b a then (s, part b a (two b a), ((a + 8 + two b a : Nat) : Int)) else (3, [], 0)) := by
  have w0 : wrap64 ((b.length : Int) - a) = (b.length : Int) - a := by unfold wrap64; omega
  rw [flintref06_Class.j2, w0]
  by_cases hs : s = 3
  · rw [if_pos hs, j3_torn, if_pos (show s = 3 ∨ b.length < a + 8 from .inl hs)]
  rw [if_neg hs]
  by_cases h8 : b.length < a + 8
  · have q : (b.length : Int) - a < 8 := by omega
    rw [decide_eq_true q, j3_torn, if_pos (show s = 3 ∨ b.length < a + 8 from .inr h8)]
  have q : ¬ (b.length : Int) - a < 8 := by omega
  rw [decide_eq_false q, if_neg (show ¬ (s = 3 ∨ b.length < a + 8) by rintro (h | h); exact hs h; exact h8 h)]
  refine j3_is b hb hlen a s (by omega) k hk _ (fun h => ?_) (fun h h0 => ?_) (fun h h0 => ?_)
  · exact if_pos (.inl h)
  · exact if_pos (.inr h0)
  · exact if_neg (by
      rintro (h1 | h1)
      · omega
      · exact h1 h0)
theorem refClass_is (b : List Int) (hb : octs b) (hlen : b.length ≤ 10000) (a : Nat) (ha : a ≤ b.length) (k : Nat) (hk : 4 * b.length + 60 ≤ k) : flintref06_Class.f k b a = some (classS b a) := by
  obtain ⟨k, rfl⟩ : ∃ m, k = m + 1 := ⟨k - 1, by omega⟩
  unfold flintref06_Class.f classS
  rw [Option.bind_some, if_neg (by omega), decide_eq_false (by omega), flintref06_Class.j0, if_neg (by decide), ref_l0_is b a hlen (b.length - a) k a true (by omega) (by omega), Bool.true_and]
  obtain ⟨m, hm⟩ : ∃ m, k - (b.length - a) = m + 1 + 1 + 1 + 1 := ⟨k - (b.length - a) - 4, by omega⟩
  rw [hm, flintref06_Class.l0, if_neg (by omega)]
  by_cases hblank : ((b.drop a).all fun c => c == 255) = true
  · rw [if_pos hblank, if_pos hblank]
  rw [if_neg hblank, if_neg hblank]
  have hlt : a < b.length := by
    refine Nat.lt_of_not_le fun h => hblank ?_
    rw [List.drop_eq_nil_of_le h]; rfl
  rw [if_pos (by omega), if_pos (by omega)]
  have hj := fun s => j2_is b hb hlen a hlt s m (by omega)
  rw [hj, hj, hj, hj]
  unfold st
  repeat' split
  all_goals first | rfl | (exfalso; omega) | simp_all
theorem refClass_out (b : List Int) (a : Int) (ha : a < 0 ∨ (b.length : Int) < a) (k : Nat) : flintref06_Class.f (k + 1) b a = some (3, [], 0) := by
  have h : flintref06_Class.j0 (k + 1) b a [] true = some (3, [], 0) := by
    rw [flintref06_Class.j0, if_pos rfl]
  unfold flintref06_Class.f
  rw [Option.bind_some]
  by_cases c : a < 0
  · rw [if_pos c]; exact h
  · rw [if_neg c, decide_eq_true (by omega)]; exact h
end Go.Proofs.Ytconcmobjkpkcaa.ClassLoops
