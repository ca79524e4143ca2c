/- The geometry of any bytes is the document's, and may be. No conditions. -/
import Derived.Test.YtdpnhjhbdobhjaaG13
namespace Go.Proofs.Ytdpnhjhbdobhjaa.Pure
open Go Go.RowKit Go.Proofs.Ytdpnhjhbdobhjaa.G Go.Proofs.YtdpnhjhbdobhjaaW.PrintWords Go.Proofs.YtdpnhjhbdobhjaaW.PrintLast
set_option maxRecDepth 100000
theorem fixed25 : flintlaw25_fixed.f = some true := by decide +kernel
theorem octet_is (l : List Int) (i : Nat) (hi : i < 2) : octet l i = l.getD i 0 := by
  unfold octet Kit.cpy
  match l, i, hi with
  | [], 0, _ => rfl
  | [], 1, _ => rfl
  | [x], 0, _ => rfl
  | [x], 1, _ => rfl
  | x :: y :: t, 0, _ => rfl
  | x :: y :: t, 1, _ => rfl
theorem at_is (l : List Int) (hw : ∀ x ∈ l, (Lit.int .u8 x).wf = true) (i : Nat) : flintref25_at.f l (i : Int) = some (l.getD i 0) ∧ 0 ≤ l.getD i 0 ∧ l.getD i 0 ≤ 255 := by
  unfold flintref25_at.f
  rcases Nat.lt_or_ge i l.length with h | h
  · have e : l.getD i 0 = l[i] := by simp [h]
    have hb : 0 ≤ l[i] ∧ l[i] ≤ 255 := by simpa [Lit.wf, IntKind.min, IntKind.max, IntKind.signed, IntKind.bits] using hw _ (List.getElem_mem h)
    have er : rd l (i : Int) = l[i] := by simp [rd, h]
    rw [if_pos (by omega), if_pos (by omega), er, e]
    exact ⟨by unfold wrap64; congr 1; omega, hb⟩
  · have e : l.getD i 0 = 0 := by simp [h]
    rw [if_neg (by omega), e]
    exact ⟨rfl, by omega, by omega⟩
theorem ScriptGeometry : flintlaw25_ScriptGeometry.Pure := by
  intro l hl1 hl2 hw
  obtain ⟨a0, b0, c0⟩ := at_is l hw 0
  obtain ⟨a1, b1, c1⟩ := at_is l hw 1
  unfold flintlaw25_ScriptGeometry.f script_Geometry.f flintref25_Geometry.f
  rw [octet_is l 0 (by omega), octet_is l 1 (by omega)]
  have a0' : flintref25_at.f l 0 = some (l.getD 0 0) := a0
  have a1' : flintref25_at.f l 1 = some (l.getD 1 0) := a1
  rw [a0', a1', fixed25]
  generalize l.getD 0 0 = x at b0 c0
  generalize l.getD 1 0 = y at b1 c1
  have t0 : Int.tmod x 7 = x % 7 := Int.tmod_eq_emod_of_nonneg b0
  have t1 : Int.tmod y 9 = y % 9 := Int.tmod_eq_emod_of_nonneg b1
  have e1 : wrap64 (x % 7) = x % 7 := by unfold wrap64; omega
  have e2 : wrap64 (y % 9) = y % 9 := by unfold wrap64; omega
  have e3 : wrap64 (6 + x % 7) = 6 + x % 7 := by unfold wrap64; omega
  have e4 : wrap64 (64 * (y % 9)) = 64 * (y % 9) := by unfold wrap64; omega
  have e5 : wrap64 (y % 9 * 64) = 64 * (y % 9) := by unfold wrap64; omega
  have e6 : wrap64 (512 + 64 * (y % 9)) = 512 + 64 * (y % 9) := by unfold wrap64; omega
  simp only [Option.bind_some, t0, t1, e1, e2, e3, e4, e5, e6, beq_self_eq_true, Bool.and_self, ↓reduceIte]
  unfold flintref02_May.f
  have c1 : 6 + x % 7 ≥ 6 := by omega
  have c2 : 6 + x % 7 ≤ 64 := by omega
  have c3 : 512 + 64 * (y % 9) ≥ 512 := by omega
  have c4 : 512 + 64 * (y % 9) ≤ 4096 := by omega
  rw [if_pos c1, if_pos c2, if_pos c3, decide_eq_true c4]
  rfl
end Go.Proofs.Ytdpnhjhbdobhjaa.Pure
