/- Plain laws of the sum (two parts modulo 65521), over lists of numbers: no program in sight. -/
import Derived.Laws.BitsAllLaws
import Derived.RowKit
namespace Go.Proofs.YtconcmobjkpkcaaDoor.SumMath
open Go Go.RowKit

/-- The high part before it is divided. -/
def hiS : Int → Int → List Int → Int
  | h, _, [] => h
  | h, a, c :: t => hiS (h + a + c) (a + c) t
/-- The low part before it is divided. -/
def loS : Int → List Int → Int
  | a, [] => a
  | a, c :: t => loS (a + c) t
def octs (l : List Int) : Prop := ∀ x ∈ l, 0 ≤ x ∧ x ≤ 255
theorem octs_cons {c : Int} {t : List Int} (h : octs (c :: t)) : (0 ≤ c ∧ c ≤ 255) ∧ octs t :=
  ⟨h c (by simp), fun x hx => h x (by simp [hx])⟩
theorem octs_nil : octs [] := fun x hx => by cases hx
theorem octs_append {l m : List Int} (h : octs l) (k : octs m) : octs (l ++ m) := fun x hx => by
  rcases List.mem_append.mp hx with hx | hx
  · exact h x hx
  · exact k x hx
theorem octs_of_append_left {l m : List Int} (h : octs (l ++ m)) : octs l := fun x hx => h x (by simp [hx])
theorem octs_of_append_right {l m : List Int} (h : octs (l ++ m)) : octs m := fun x hx => h x (by simp [hx])
theorem octs_take {l : List Int} (h : octs l) (n : Nat) : octs (l.take n) := fun x hx => h x (List.mem_of_mem_take hx)
theorem octs_drop {l : List Int} (h : octs l) (n : Nat) : octs (l.drop n) := fun x hx => h x (List.mem_of_mem_drop hx)
theorem octs_set {l : List Int} (h : octs l) (n : Nat) {v : Int} (hv : 0 ≤ v ∧ v ≤ 255) : octs (l.set n v) := fun x hx => by
  rcases List.mem_or_eq_of_mem_set hx with hx | rfl
  · exact h x hx
  · exact hv
theorem wf_u8 {n : Int} : (Lit.int .u8 n).wf = true ↔ 0 ≤ n ∧ n ≤ 255 := by
  simp [Lit.wf, IntKind.min, IntKind.max, IntKind.signed, IntKind.bits]
theorem wf_u32 {n : Int} : (Lit.int .u32 n).wf = true ↔ 0 ≤ n ∧ n ≤ 4294967295 := by
  simp [Lit.wf, IntKind.min, IntKind.max, IntKind.signed, IntKind.bits]
theorem wf_i64 {n : Int} : (Lit.int .i64 n).wf = true ↔ -9223372036854775808 ≤ n ∧ n ≤ 9223372036854775807 := by
  simp [Lit.wf, IntKind.min, IntKind.max, IntKind.signed, IntKind.bits]
theorem octs_wf {l : List Int} (h : ∀ x ∈ l, (Lit.int .u8 x).wf = true) : octs l := fun x hx => wf_u8.mp (h x hx)

theorem loS_append (a : Int) (l m : List Int) : loS a (l ++ m) = loS (loS a l) m := by
  induction l generalizing a with
  | nil => rfl
  | cons c t ih => exact ih _
theorem hiS_append (h a : Int) (l m : List Int) : hiS h a (l ++ m) = hiS (hiS h a l) (loS a l) m := by
  induction l generalizing h a with
  | nil => rfl
  | cons c t ih => exact ih _ _
theorem loS_zero (a : Int) (l : List Int) : loS a l = a + loS 0 l := by
  induction l generalizing a with
  | nil => simp [loS]
  | cons c t ih => simp only [loS]; rw [ih (a + c), ih (0 + c)]; omega
theorem hiS_zero (h a : Int) (l : List Int) : hiS h a l = h + l.length * a + hiS 0 0 l := by
  induction l generalizing h a with
  | nil => simp [hiS]
  | cons c t ih =>
    simp only [hiS]
    rw [ih (h + a + c) (a + c), ih (0 + 0 + c) (0 + c)]
    simp only [List.length_cons, Int.natCast_add, Int.add_mul, Int.mul_add, Int.zero_add, Int.natCast_one, Int.one_mul]
    omega
theorem loS_ge {a : Int} {l : List Int} (hl : octs l) : a ≤ loS a l := by
  induction l generalizing a with
  | nil => simp [loS]
  | cons c t ih =>
    obtain ⟨hc, ht⟩ := octs_cons hl
    have := ih (a := a + c) ht
    simp only [loS]; omega
theorem hiS_ge {h a : Int} {l : List Int} (ha : 0 ≤ a) (hl : octs l) : h ≤ hiS h a l := by
  induction l generalizing h a with
  | nil => simp [hiS]
  | cons c t ih =>
    obtain ⟨hc, ht⟩ := octs_cons hl
    have := ih (h := h + a + c) (a := a + c) (by omega) ht
    simp only [hiS]; omega

/-- The greatest high part that n octs can make. -/
def top (h a : Int) : Nat → Int
  | 0 => h
  | n + 1 => top (h + a + 255) (a + 255) n
theorem top_mono {h h' a a' : Int} (n : Nat) (hh : h ≤ h') (ha : a ≤ a') : top h a n ≤ top h' a' n := by
  induction n generalizing h h' a a' with
  | zero => exact hh
  | succ n ih => exact ih (by omega) (by omega)
theorem top_ge {h a : Int} (n : Nat) (ha : 0 ≤ a) : h ≤ top h a n := by
  induction n generalizing h a with
  | zero => exact Int.le_refl _
  | succ n ih => have := ih (h := h + a + 255) (a := a + 255) (by omega); simp only [top]; omega
theorem top_le {h a : Int} (n m : Nat) (hn : n ≤ m) (ha : 0 ≤ a) : top h a n ≤ top h a m := by
  induction n generalizing h a m with
  | zero => exact top_ge m ha
  | succ n ih =>
    obtain ⟨m, rfl⟩ : ∃ k, m = k + 1 := ⟨m - 1, by omega⟩
    exact ih m (by omega) (by omega)
theorem top_closed (h a : Int) (n : Nat) : 2 * top h a n = 2 * h + 2 * (n * a) + 255 * (n * n + n) := by
  induction n generalizing h a with
  | zero => simp [top]
  | succ n ih =>
    simp only [top]
    rw [ih (h + a + 255) (a + 255)]
    simp only [Int.natCast_add, Int.natCast_one, Int.add_mul, Int.mul_add, Int.one_mul, Int.mul_one]
    omega
theorem top_5000 : top 65520 65520 5000 < 4294967296 := by
  have := top_closed 65520 65520 5000
  omega

theorem emod_high (h a : Int) (l : List Int) : hiS (h % 65521) (a % 65521) l % 65521 = hiS h a l % 65521 := by
  rw [hiS_zero (h % 65521) (a % 65521) l, hiS_zero h a l]
  have e : (l.length : Int) * (a % 65521) % 65521 = (l.length : Int) * a % 65521 := by rw [Int.mul_emod, Int.emod_emod_of_dvd _ (Int.dvd_refl _), ← Int.mul_emod]
  omega
theorem emod_low (a : Int) (l : List Int) : loS (a % 65521) l % 65521 = loS a l % 65521 := by
  rw [loS_zero (a % 65521) l, loS_zero a l]; omega
theorem emod_high2 (h a : Int) (l : List Int) : hiS (h % 65521) a l % 65521 = hiS h a l % 65521 := by
  rw [hiS_zero (h % 65521) a l, hiS_zero h a l]; omega

/-- May a sum be? -/
def may (s : Int) : Bool := decide (s / 65536 < 65521) && decide (s % 65536 < 65521)
/-- A sum with more octs behind. -/
def more (s : Int) (l : List Int) : Int :=
  if may s then 65536 * (hiS (s / 65536) (s % 65536) l % 65521) + loS (s % 65536) l % 65521 else s
theorem may_parts {h a : Int} (_h0 : 0 ≤ h) (h1 : h < 65521) (a0 : 0 ≤ a) (a1 : a < 65521) : may (65536 * h + a) = true := by
  have e1 : (65536 * h + a) / 65536 = h := by omega
  have e2 : (65536 * h + a) % 65536 = a := by omega
  simp [may, e1, e2, h1, a1]
theorem more_range {s : Int} (h0 : 0 ≤ s) (h1 : s < 4294967296) (l : List Int) : 0 ≤ more s l ∧ more s l < 4294967296 := by
  unfold more
  split
  · omega
  · exact ⟨h0, h1⟩
theorem may_more {s : Int} (hs : may s = true) (l : List Int) : may (more s l) = true := by
  unfold more; rw [if_pos hs]; exact may_parts (by omega) (by omega) (by omega) (by omega)
theorem more_parts {s : Int} (hs : may s = true) (l : List Int) : more s l / 65536 = hiS (s / 65536) (s % 65536) l % 65521 ∧ more s l % 65536 = loS (s % 65536) l % 65521 := by
  unfold more; rw [if_pos hs]; constructor <;> omega
theorem may_one : may 1 = true := by decide
/-- The sum of a text, told on by the text behind it. -/
theorem more_append (s : Int) (l m : List Int) : more (more s l) m = more s (l ++ m) := by
  by_cases hs : may s = true
  · obtain ⟨e1, e2⟩ := more_parts hs l
    have h2 := may_more hs l
    rw [more, if_pos h2, e1, e2, emod_high, emod_low, more, if_pos hs, hiS_append, loS_append]
  · have e : ∀ l, more s l = s := fun l => by rw [more, if_neg hs]
    rw [e, e, e]
theorem more_nil {s : Int} (h0 : 0 ≤ s) : more s [] = s := by
  unfold more
  split
  · rename_i h
    simp only [may, Bool.and_eq_true, decide_eq_true_eq] at h
    simp only [hiS, loS]; omega
  · rfl
theorem bits_and_65535 (a : Int) (h0 : 0 ≤ a) (h1 : a < 4294967296) : Go.bits .and .u32 a 65535 = a % 65536 := by
  rw [u32_and a 65535 h0 h1 (by omega) (by omega)]
  have := Nat.and_two_pow_sub_one_eq_mod a.toNat 16
  have e : (65535 : Int).toNat = 2 ^ 16 - 1 := by decide
  rw [e, this]; omega
theorem bits_or_join (x y : Int) (h0 : 0 ≤ x) (h1 : x < 65536) (k0 : 0 ≤ y) (k1 : y < 65536) : Go.bits .or .u32 (x * 65536 % 4294967296) y = 65536 * x + y := by
  rw [u32_or _ y (by omega) (by omega) k0 (by omega), nat_join 16 _ _ (by omega) (by omega)]
  omega

/-- Two sums that are no two of one: another byte. -/
theorem more_other {p q : List Int} {x y : Int} (hx : 0 ≤ x ∧ x ≤ 255) (hy : 0 ≤ y ∧ y ≤ 255) (h : more 1 (p ++ x :: q) = more 1 (p ++ y :: q)) : x = y := by
  have e1 := (more_parts may_one (p ++ x :: q)).2
  have e2 := (more_parts may_one (p ++ y :: q)).2
  rw [h] at e1
  have e := e1.symm.trans e2
  rw [loS_append, loS_append] at e
  simp only [loS] at e
  rw [loS_zero (_ + x), loS_zero (_ + y)] at e
  omega
/-- Two octs that stand side by side, turned round. -/
theorem more_turned {p q : List Int} {x y : Int} (hx : 0 ≤ x ∧ x ≤ 255) (hy : 0 ≤ y ∧ y ≤ 255) (h : more 1 (p ++ x :: y :: q) = more 1 (p ++ y :: x :: q)) : x = y := by
  have e1 := (more_parts may_one (p ++ x :: y :: q)).1
  have e2 := (more_parts may_one (p ++ y :: x :: q)).1
  rw [h] at e1
  have e := e1.symm.trans e2
  rw [hiS_append, hiS_append] at e
  simp only [hiS] at e
  rw [hiS_zero, hiS_zero (_ + (_ + y) + x)] at e
  have hl : loS (1 % 65536) p + x + y = loS (1 % 65536) p + y + x := by omega
  rw [hl] at e
  generalize (q.length : Int) * (loS (1 % 65536) p + y + x) = z at e
  omega
/-- Join's answer. -/
theorem more_join {l m : List Int} (n : Int) (hn : n = m.length) :
    65536 * ((more 1 l / 65536 + more 1 m / 65536 + n * ((more 1 l % 65536 + 65520) % 65521)) % 65521) + ((more 1 l % 65536 + 65520) % 65521 + more 1 m % 65536) % 65521 = more 1 (l ++ m) := by
  obtain ⟨a1, a2⟩ := more_parts may_one l
  obtain ⟨b1, b2⟩ := more_parts may_one m
  have hj := more_append 1 l m
  have hm : more (more 1 l) m = 65536 * (hiS (hiS (1 / 65536) (1 % 65536) l) (loS (1 % 65536) l) m % 65521) + loS (loS (1 % 65536) l) m % 65521 := by
    rw [more, if_pos (may_more may_one l), a1, a2, emod_high, emod_low]
  rw [← hj, hm, a1, a2, b1, b2]
  clear hj hm a1 a2 b1 b2
  subst hn
  generalize hiS (1 / 65536) (1 % 65536) l = H
  generalize loS (1 % 65536) l = L
  rw [hiS_zero H L, hiS_zero (1 / 65536) (1 % 65536) m, loS_zero L, loS_zero (1 % 65536) m]
  generalize hiS 0 0 m = H2
  generalize loS 0 m = L2
  have e0 : (L % 65521 + 65520) % 65521 = (L + 65520) % 65521 := by omega
  have e : (m.length : Int) * ((L + 65520) % 65521) % 65521 = (m.length : Int) * (L + 65520) % 65521 := by rw [Int.mul_emod, Int.emod_emod_of_dvd _ (Int.dvd_refl _), ← Int.mul_emod]
  have e3 : (m.length : Int) * (L + 65520) = (m.length : Int) * L + 65520 * (m.length : Int) := by rw [Int.mul_add]; omega
  rw [e0]
  rw [e3] at e
  generalize (m.length : Int) * ((L + 65520) % 65521) = z1 at *
  generalize (m.length : Int) * L = z2 at *
  omega
end Go.Proofs.YtconcmobjkpkcaaDoor.SumMath
