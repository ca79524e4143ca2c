/- What script.Acts and the reference's come to: an act for each four bytes. -/
import Derived.Test.YtdpnhjhbdobhjaaDoorG7
import Derived.Test.YtdpnhjhbdobhjaaDoorG13
import Derived.Test.YtdpnhjhbdobhjaaDoorG15
import Derived.Test.YtdpnhjhbdobhjaaDoorG4
namespace Go.Proofs.YtdpnhjhbdobhjaaDoor.ActMath
open Go Go.RowKit Go.Proofs.YtdpnhjhbdobhjaaDoor.G Go.Proofs.YtdpnhjhbdobhjaaDoorW.PrintWords Go.Proofs.YtdpnhjhbdobhjaaDoorW.PrintLast Go.Proofs.YtdpnhjhbdobhjaaDoorW.PrintMore
set_option maxRecDepth 100000
theorem paths : ∀ i : Fin 256, script_Path.f (i.val : Int) = flintref25_Path.f (i.val : Int) ∧ (script_Path.f (i.val : Int)).isSome = true ∧ ((script_Path.f (i.val : Int)).getD ByteArray.empty).size ≤ 6 := by decide +kernel
/-- A byte's path. -/
def pth (x : Int) : ByteArray := (script_Path.f x).getD ByteArray.empty
theorem path_is (x : Int) (h : 0 ≤ x ∧ x ≤ 255) : script_Path.f x = some (pth x) ∧ flintref25_Path.f x = some (pth x) ∧ (pth x).size ≤ 6 := by
  obtain ⟨n, rfl⟩ := Int.eq_ofNat_of_zero_le h.1
  obtain ⟨h1, h2, h3⟩ := paths ⟨n, by omega⟩
  have e : script_Path.f (n : Int) = some (pth n) := by
    unfold pth
    revert h2
    cases script_Path.f (n : Int) with
    | none => intro h; simp at h
    | some v => intro _; rfl
  exact ⟨e, by rw [← e]; exact h1.symm, h3⟩
theorem fixed25 : flintlaw25_fixed.f = some true := by decide +kernel
def knd (k : Int) : Int := rd tabKinds (k % 32)
def fate (k : Int) : Int := rd tabFates (k / 32)
theorem kinds : ∀ i : Fin 256, flintref25_kind.f 40 (i.val : Int) = some (knd i.val) ∧ 0 ≤ knd i.val ∧ knd i.val ≤ 16 := by decide +kernel
/-- The bytes that are written. -/
def dat (x : Int) (n : Nat) : List Int := (List.range n).map fun (i : Nat) => (x + i) % 256
theorem dat_succ (x : Int) (n : Nat) : dat x (n + 1) = dat x n ++ [(x + n) % 256] := by simp [dat, List.range_succ]
theorem dat_length (x : Int) (n : Nat) : (dat x n).length = n := by simp [dat]
def e0 : ByteArray := ⟨#[]⟩
/-- An operation. -/
def opS (K x y : Int) : Int × ByteArray × ByteArray × Int × Int × Int × List Int :=
  if K ≤ 3 then (K, e0, e0, 0, 0, 0, [])
  else if K = 7 then (K, e0, e0, y % 4, 0, 0, [])
  else if K = 8 then (K, e0, e0, y % 4, x, y, [])
  else if K = 9 then (K, e0, e0, y % 4, x, 0, dat x ((y % 70).toNat + 1))
  else if K = 10 then (K, e0, e0, y % 4, 0, 2 * x, [])
  else if K = 11 ∨ K = 12 then (K, pth x, pth y, 0, 0, 0, [])
  else (K, pth x, e0, 0, 0, 0, [])
theorem op_l0 (x : Int) (_hx : 0 ≤ x ∧ x ≤ 255) (n : Nat) (hn : n ≤ 70) (a : Int) (b c : ByteArray) (d f g : Int) (r : Nat) : ∀ (k i : Nat), i + r = n → r < k → script_op.l0 k x (n : Int) (i : Int) a b c d f g (dat x i) = some (a, b, c, d, f, g, dat x n) := by
  induction r with
  | zero =>
    intro k i hi hk
    obtain ⟨k, rfl⟩ : ∃ m, k = m + 1 := ⟨k - 1, by omega⟩
    obtain rfl : i = n := by omega
    rw [script_op.l0, if_neg (by omega)]
  | succ r ih =>
    intro k i hi hk
    obtain ⟨k, rfl⟩ : ∃ m, k = m + 1 := ⟨k - 1, by omega⟩
    have hlen : (dat x i).length < 140737488355328 := Nat.lt_of_le_of_lt (Nat.le_of_eq (dat_length x i)) (by omega)
    rewrite [script_op.l0, if_pos (by omega), if_pos hlen, ← dat_succ, show ((i : Int) + 1) % 256 = ((i + 1 : Nat) : Int) by omega]
    exact ih k (i + 1) (by omega) (by omega)
theorem ref_byte (x : Int) (i : Nat) (hx : 0 ≤ x ∧ x ≤ 255) (hi : i ≤ 70) : (Int.tmod (wrap64 (x + i)) 256) % 256 = (x + i) % 256 := by
  have e1 : wrap64 (x + i) = x + i := by unfold wrap64; omega
  rw [e1, Int.tmod_eq_emod_of_nonneg (by omega)]
  omega
theorem succ_wrap (i : Nat) (hi : i ≤ 100000) : wrap64 ((i : Int) + 1) = ((i + 1 : Nat) : Int) := by unfold wrap64; omega
theorem refOp_l0 (x y : Int) (hx : 0 ≤ x ∧ x ≤ 255) (hy : 0 ≤ y) (n : Nat) (hn : (n : Int) = y % 70 + 1) (a : Int) (b c : ByteArray) (d f g : Int) (r : Nat) : ∀ (k i : Nat), i + r = n → r < k → flintref25_op.l0 k x y (i : Int) a b c d f g (dat x i) = some (a, b, c, d, f, g, dat x n) := by
  induction r with
  | zero =>
    intro k i hi hk
    obtain ⟨k, rfl⟩ : ∃ m, k = m + 1 := ⟨k - 1, by omega⟩
    obtain rfl : i = n := by omega
    rw [flintref25_op.l0, Int.tmod_eq_emod_of_nonneg hy, if_neg (by omega)]
  | succ r ih =>
    intro k i hi hk
    obtain ⟨k, rfl⟩ : ∃ m, k = m + 1 := ⟨k - 1, by omega⟩
    have hlen : (dat x i).length < 140737488355328 := Nat.lt_of_le_of_lt (Nat.le_of_eq (dat_length x i)) (by omega)
    have hle : (i : Int) ≤ y % 70 := by omega
    have e := ref_byte x i hx (by omega)
    have e2 := succ_wrap i (by omega)
    rewrite [flintref25_op.l0, Int.tmod_eq_emod_of_nonneg hy, if_pos hle, if_pos hlen, e, ← dat_succ, e2]
    clear e e2 hlen
    exact ih k (i + 1) (by omega) (by omega)
theorem op_is (K x y : Int) (hK : 1 ≤ K ∧ K ≤ 16) (hx : 0 ≤ x ∧ x ≤ 255) (hy : 0 ≤ y ∧ y ≤ 255) (m : Nat) : script_op.f (m + 100) K x y = some (opS K x y) := by
  obtain ⟨px, _, _⟩ := path_is x hx
  obtain ⟨py, _, _⟩ := path_is y hy
  have t4 : wrap64 (Int.tmod y 4) = y % 4 := by rw [Int.tmod_eq_emod_of_nonneg hy.1]; unfold wrap64; omega
  have wx : wrap64 x = x := by unfold wrap64; omega
  have wy : wrap64 y = y := by unfold wrap64; omega
  have w2 : wrap64 (2 * x) = 2 * x := by unfold wrap64; omega
  have hn : (1 + Int.tmod y 70) % 256 = (((y % 70).toNat + 1 : Nat) : Int) := by rw [Int.tmod_eq_emod_of_nonneg hy.1]; omega
  have hl := op_l0 x hx ((y % 70).toNat + 1) (by omega) 9 e0 e0 (y % 4) x 0 ((y % 70).toNat + 1) (m + 97) 0 (by omega) (by omega)
  have hz : dat x 0 = [] := rfl
  rw [hz] at hl
  have hl : script_op.l0 (m + 97) x (((y % 70).toNat + 1 : Nat) : Int) 0 9 e0 e0 (y % 4) x 0 [] = some (9, e0, e0, y % 4, x, 0, dat x ((y % 70).toNat + 1)) := hl
  unfold opS
  generalize (y % 70).toNat + 1 = N at hl hn ⊢
  simp only [e0] at hl
  have hc : K = 1 ∨ K = 2 ∨ K = 3 ∨ K = 4 ∨ K = 5 ∨ K = 6 ∨ K = 7 ∨ K = 8 ∨ K = 9 ∨ K = 10 ∨ K = 11 ∨ K = 12 ∨ K = 13 ∨ K = 14 ∨ K = 15 ∨ K = 16 := by omega
  rw [show m + 100 = m + 97 + 1 + 1 + 1 from rfl]
  rcases hc with rfl | rfl | rfl | rfl | rfl | rfl | rfl | rfl | rfl | rfl | rfl | rfl | rfl | rfl | rfl | rfl <;> (try simp only [show ¬ ((4 : Int) ≤ 3) by decide]) <;> simp [script_op.f, script_op.j0, script_op.j1, script_op.j2, px, py, t4, wx, wy, w2, hn, e0] <;> exact hl
theorem refOp_is (K x y : Int) (hK : 1 ≤ K ∧ K ≤ 16) (hx : 0 ≤ x ∧ x ≤ 255) (hy : 0 ≤ y ∧ y ≤ 255) (m : Nat) : flintref25_op.f (m + 100) K x y = some (opS K x y) := by
  obtain ⟨_, px, _⟩ := path_is x hx
  obtain ⟨_, py, _⟩ := path_is y hy
  have t4 : Int.tmod y 4 = y % 4 := by rw [Int.tmod_eq_emod_of_nonneg hy.1]
  have w2 : wrap64 (x + x) = 2 * x := by unfold wrap64; omega
  have hN : (((y % 70).toNat + 1 : Nat) : Int) = y % 70 + 1 := by omega
  have hl := refOp_l0 x y hx hy.1 ((y % 70).toNat + 1) hN 9 e0 e0 (y % 4) x 0 ((y % 70).toNat + 1) (m + 92) 0 (by omega) (by omega)
  have hz : dat x 0 = [] := rfl
  rw [hz] at hl
  have hl : flintref25_op.l0 (m + 92) x y 0 9 e0 e0 (y % 4) x 0 [] = some (9, e0, e0, y % 4, x, 0, dat x ((y % 70).toNat + 1)) := hl
  unfold opS
  generalize (y % 70).toNat + 1 = N at hl ⊢
  simp only [e0] at hl
  have hc : K = 1 ∨ K = 2 ∨ K = 3 ∨ K = 4 ∨ K = 5 ∨ K = 6 ∨ K = 7 ∨ K = 8 ∨ K = 9 ∨ K = 10 ∨ K = 11 ∨ K = 12 ∨ K = 13 ∨ K = 14 ∨ K = 15 ∨ K = 16 := by omega
  rw [show m + 100 = m + 92 + 1 + 1 + 1 + 1 + 1 + 1 + 1 + 1 from rfl]
  rcases hc with rfl | rfl | rfl | rfl | rfl | rfl | rfl | rfl | rfl | rfl | rfl | rfl | rfl | rfl | rfl | rfl <;> (try simp only [show ¬ ((4 : Int) ≤ 3) by decide]) <;> simp [flintref25_op.f, flintref25_op.j0, flintref25_op.j1, flintref25_op.j2, flintref25_op.j3, flintref25_op.j4, flintref25_op.j5, flintref25_op.j6, flintref25_op.j7, px, py, t4, w2, e0] <;> exact hl
end Go.Proofs.YtdpnhjhbdobhjaaDoor.ActMath
