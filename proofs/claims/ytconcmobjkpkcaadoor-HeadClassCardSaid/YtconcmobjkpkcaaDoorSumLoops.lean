/- What sum.More, sum.Sum, sum.Join and the reference's come to, as plain laws: the loops of the printed functions, by induction on what is left. -/
import Derived.Test.YtconcmobjkpkcaaDoorG1
import Derived.Test.YtconcmobjkpkcaaDoorG4
import Derived.Test.YtconcmobjkpkcaaDoorSumMath
namespace Go.Proofs.YtconcmobjkpkcaaDoor.SumLoops
open Go Go.RowKit Go.Proofs.YtconcmobjkpkcaaDoor.G Go.Proofs.YtconcmobjkpkcaaDoorW.PrintWords Go.Proofs.YtconcmobjkpkcaaDoorW.PrintLast Go.Proofs.YtconcmobjkpkcaaDoorW.PrintMore SumMath

theorem wrap_up {i : Int} (h0 : 0 ≤ i) (h : i < 9223372036854775807) : wrap64 (i + 1) = i + 1 := by
  unfold wrap64; omega
theorem rd_drop {l : List Int} {i : Nat} (h : i < l.length) : l.drop i = rd l i :: l.drop (i + 1) := by
  have e : rd l i = l[i] := by simp [rd, h]
  rw [e]; exact List.drop_eq_getElem_cons h
theorem rd_byte {l : List Int} (hl : octs l) {i : Nat} (h : i < l.length) : 0 ≤ rd l i ∧ rd l i ≤ 255 := by
  have e : rd l i = l[i] := by simp [rd, h]
  rw [e]; exact hl _ (List.getElem_mem h)

theorem parts_is {s : Int} (h0 : 0 ≤ s) (h1 : s < 4294967296) : sum_parts.f s = some (s / 65536, s % 65536) := by
  unfold sum_parts.f; rw [bits_and_65535 s h0 h1]
theorem may_is {s : Int} (h0 : 0 ≤ s) (h1 : s < 4294967296) : sum_May.f s = some (may s) := by
  unfold sum_May.f
  rw [parts_is h0 h1]
  simp only [Option.bind_some, may]
  by_cases c : s / 65536 < 65521
  · simp [c]
  · simp [c]
theorem refMay_is {s : Int} (h0 : 0 ≤ s) (h1 : s < 4294967296) : flintref01_May.f s = some (may s) := by
  unfold flintref01_May.f
  have e1 : Int.tdiv s 65536 % 4294967296 = s / 65536 := by rw [Int.tdiv_eq_ediv_of_nonneg h0]; omega
  have e2 : Int.tmod s 65536 = s % 65536 := by rw [Int.tmod_eq_emod_of_nonneg h0]
  rw [e1, e2]
  unfold may
  by_cases c : s / 65536 < 65521
  · simp [c]
  · simp [c]

/-- The inner loop of More: the octs of a piece, from place i on. -/
theorem l1_is (x y : List Int) (n : Int) (hy : octs y) (hlen : y.length ≤ 5000) (d : Nat) : ∀ (k : Nat) (i : Nat) (h a : Int), i + d = y.length → d < k → 0 ≤ h → 0 ≤ a → top h a d < 4294967296 → a + 255 * d < 4294967296 →
    sum_More.l1 k x h a n y y.length i = (if 0 ≤ n then (if n ≤ (x.length : Int) then (sum_More.l0 (k - d - 1) (x.drop n.toNat) (hiS h a (y.drop i) % 65521) (loS a (y.drop i) % 65521)) else none) else none) := by
  induction d with
  | zero =>
    intro k i h a hi hk h0 a0 ht ha
    obtain ⟨k, rfl⟩ : ∃ m, k = m + 1 := ⟨k - 1, by omega⟩
    have hd : y.drop i = [] := List.drop_eq_nil_of_le (by omega)
    have hh : 0 ≤ hiS h a (y.drop i) := by rw [hd]; exact h0
    rw [hd]
    simp only [sum_More.l1, hiS, loS]
    rw [if_neg (by omega), Int.tmod_eq_emod_of_nonneg h0, Int.tmod_eq_emod_of_nonneg a0]
    rfl
  | succ d ih =>
    intro k i h a hi hk h0 a0 ht ha
    obtain ⟨k, rfl⟩ : ∃ m, k = m + 1 := ⟨k - 1, by omega⟩
    have hlt : i < y.length := by omega
    have hb := rd_byte hy hlt
    have e1 := rd_drop hlt
    have hm := top_mono (h := h + a + rd y i) (h' := h + a + 255) (a := a + rd y i) (a' := a + 255) d (by omega) (by omega)
    have hg := top_ge (h := h + a + rd y i) (a := a + rd y i) d (by omega)
    have hu : top h a (d + 1) = top (h + a + 255) (a + 255) d := rfl
    rw [hu] at ht
    simp only [sum_More.l1]
    rw [if_pos (by omega), if_pos (by omega), if_pos (by omega)]
    have ea : (a + rd y i % 4294967296) % 4294967296 = a + rd y i := by omega
    have eh : (h + (a + rd y i)) % 4294967296 = h + a + rd y i := by omega
    rw [ea, eh, wrap_up (by omega) (by omega)]
    have hn : ((i : Int) + 1) = ((i + 1 : Nat) : Int) := by omega
    rw [hn, ih k (i + 1) _ _ (by omega) (by omega) (by omega) (by omega) (by omega) (by omega), e1]
    simp only [hiS, loS]
    have ek : k - d - 1 = k + 1 - (d + 1) - 1 := by omega
    rw [ek]

/-- The outer loop of More. -/
theorem l0_is (d : Nat) : ∀ (k : Nat) (x : List Int) (h a : Int), x.length ≤ d → octs x → 3 * x.length + 1 < k → 0 ≤ h → h < 65521 → 0 ≤ a → a < 65521 →
    sum_More.l0 k x h a = some (65536 * (hiS h a x % 65521) + loS a x % 65521) := by
  induction d with
  | zero =>
    intro k x h a hx hb hk h0 h1 a0 a1
    obtain ⟨k, rfl⟩ : ∃ m, k = m + 1 := ⟨k - 1, by omega⟩
    have : x = [] := List.length_eq_zero_iff.mp (by omega)
    subst this
    simp only [sum_More.l0, hiS, loS]
    rw [if_neg (by simp), bits_or_join h a h0 (by omega) a0 (by omega)]
    congr 1; omega
  | succ d ih =>
    intro k x h a hx hb hk h0 h1 a0 a1
    by_cases hz : x.length = 0
    · exact ih k x h a (by omega) hb hk h0 h1 a0 a1
    obtain ⟨k, rfl⟩ : ∃ m, k = m + 1 := ⟨k - 1, by omega⟩
    simp only [sum_More.l0]
    obtain ⟨n, hn, hn1, hn2, hn3⟩ : ∃ n : Nat, mn (x.length : Int) 5000 = n ∧ n ≤ x.length ∧ n ≤ 5000 ∧ 1 ≤ n := by
      refine ⟨min x.length 5000, ?_, by omega, by omega, by omega⟩
      unfold mn; split <;> omega
    rw [hn, if_pos (by omega), if_pos (by omega), if_pos (by omega)]
    simp only [Option.bind_some, Int.toNat_natCast]
    have hlt : (x.take n).length = n := by simp; omega
    have htop : top h a n < 4294967296 := by
      exact Int.lt_of_le_of_lt (Int.le_trans (top_mono n (by omega) (by omega)) (top_le n 5000 hn2 (by omega))) top_5000
    have hl1 := l1_is x (x.take n) n (octs_take hb n) (by omega) n k 0 h a (by omega) (by omega) h0 a0 htop (by omega)
    rw [show ((0 : Nat) : Int) = (0 : Int) from rfl] at hl1
    rw [hl1, if_pos (by omega), if_pos (by omega)]
    have hk2 : k - n - 1 > 3 * (x.length - n) + 1 := by omega
    clear hl1 htop hlt
    simp only [List.drop_zero, Int.toNat_natCast]
    rw [ih (k - n - 1) (x.drop n) _ _ (by rw [List.length_drop]; omega) (octs_drop hb n) (by rw [List.length_drop]; omega) (by omega) (by omega) (by omega) (by omega)]
    have e1 : hiS h a x = hiS (hiS h a (x.take n)) (loS a (x.take n)) (x.drop n) := by rw [← hiS_append, List.take_append_drop]
    have e2 : loS a x = loS (loS a (x.take n)) (x.drop n) := by rw [← loS_append, List.take_append_drop]
    rw [e1, e2, emod_high, emod_low]

theorem more_is (s : Int) (l : List Int) (h0 : 0 ≤ s) (h1 : s < 4294967296) (hl : octs l) (k : Nat) (hk : 3 * l.length + 2 ≤ k) : sum_More.f k s l = some (more s l) := by
  unfold sum_More.f
  rw [may_is h0 h1, parts_is h0 h1]
  simp only [Option.bind_some]
  unfold more
  by_cases hs : may s = true
  · rw [if_pos hs, if_pos hs]
    have hp : s / 65536 < 65521 ∧ s % 65536 < 65521 := by simpa [may] using hs
    exact l0_is l.length k l _ _ (Nat.le_refl _) hl (by omega) (by omega) hp.1 (by omega) hp.2
  · rw [if_neg hs, if_neg hs]
theorem sum_is (l : List Int) (hl : octs l) (k : Nat) (hk : 3 * l.length + 2 ≤ k) : sum_Sum.f k l = some (more 1 l) := by
  unfold sum_Sum.f; rw [more_is 1 l (by omega) (by omega) hl k hk]; rfl

/-- The reference's loop. -/
theorem ref_l0_is (x : List Int) (hx : octs x) (hlen : x.length ≤ 140737488351232) (d : Nat) : ∀ (k : Nat) (i : Nat) (h a : Int), i + d = x.length → d < k → 0 ≤ h → h < 65521 → 0 ≤ a → a < 65521 →
    flintref01_More.l0 k x h a x.length i = some (65536 * (hiS h a (x.drop i) % 65521) + loS a (x.drop i) % 65521) := by
  induction d with
  | zero =>
    intro k i h a hi hk h0 h1 a0 a1
    obtain ⟨k, rfl⟩ : ∃ m, k = m + 1 := ⟨k - 1, by omega⟩
    have hd : x.drop i = [] := List.drop_eq_nil_of_le (by omega)
    rw [hd]
    simp only [flintref01_More.l0, hiS, loS]
    rw [if_neg (by omega)]
    congr 1; omega
  | succ d ih =>
    intro k i h a hi hk h0 h1 a0 a1
    obtain ⟨k, rfl⟩ : ∃ m, k = m + 1 := ⟨k - 1, by omega⟩
    have hlt : i < x.length := by omega
    have hb := rd_byte hx hlt
    have e1 := rd_drop hlt
    simp only [flintref01_More.l0]
    rw [if_pos (by omega), if_pos (by omega), if_pos (by omega), wrap_up (by omega) (by omega)]
    have hn : ((i : Int) + 1) = ((i + 1 : Nat) : Int) := by omega
    rw [hn, ih k (i + 1) _ _ (by omega) (by omega) (by omega) (by omega) (by omega) (by omega), e1]
    simp only [hiS, loS]
    have ea : (a + rd x i % 4294967296) % 4294967296 % 65521 = (a + rd x i) % 65521 := by omega
    have eh : (h + (a + rd x i) % 65521) % 4294967296 % 65521 = (h + a + rd x i) % 65521 := by omega
    rw [ea, eh, emod_high, emod_low]
theorem refMore_is (s : Int) (l : List Int) (h0 : 0 ≤ s) (h1 : s < 4294967296) (hl : octs l) (hlen : l.length ≤ 140737488351232) (k : Nat) (hk : l.length + 1 ≤ k) : flintref01_More.f k s l = some (more s l) := by
  unfold flintref01_More.f
  rw [refMay_is h0 h1]
  simp only [Option.bind_some]
  unfold more
  by_cases hs : may s = true
  · rw [if_pos hs, if_pos hs]
    have hp : s / 65536 < 65521 ∧ s % 65536 < 65521 := by simpa [may] using hs
    have e1 : Int.tdiv s 65536 % 4294967296 = s / 65536 := by rw [Int.tdiv_eq_ediv_of_nonneg h0]; omega
    have e2 : Int.tmod s 65536 = s % 65536 := by rw [Int.tmod_eq_emod_of_nonneg h0]
    rw [e1, e2]
    exact ref_l0_is l hl hlen l.length k 0 _ _ (by omega) (by omega) (by omega) hp.1 (by omega) hp.2
  · rw [if_neg hs, if_neg hs]
theorem refSum_is (l : List Int) (hl : octs l) (hlen : l.length ≤ 140737488351232) (k : Nat) (hk : l.length + 1 ≤ k) : flintref01_Sum.f k l = some (more 1 l) := by
  unfold flintref01_Sum.f; rw [refMore_is 1 l (by omega) (by omega) hl hlen k hk]; rfl
end Go.Proofs.YtconcmobjkpkcaaDoor.SumLoops
