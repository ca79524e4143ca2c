-- Written by wip/gen.py: the kit's print.py, with this session's own texts where it takes a function not. Not trusted: Lean checks it.
import Derived.Test.YtconcmobjkpkcaaG0
namespace Go.Proofs.Ytconcmobjkpkcaa.G
open Go.RowKit Go.Proofs.YtconcmobjkpkcaaW.PrintWords Go.Proofs.YtconcmobjkpkcaaW.PrintLast Go.Proofs.YtconcmobjkpkcaaW.PrintMore
attribute [local go_sem] max2_int min2_int max_two min_two max_three min_three max_four min_four   -- for this text's walks alone
set_option linter.unusedVariables false
set_option linter.unusedSimpArgs false

/-! ### rec_blank: function 30 -/
def rec_blank.f (l0 : List Int) : Option (Bool) := some (l0.all fun c => c == 255)
theorem rec_blank.step {l : List Int} {m : Nat} (h : m < l.length) : ((l.drop m).all fun c => c == 255) = ((rd l m == 255) && ((l.drop (m + 1)).all fun c => c == 255)) := by
  have e : l.drop m = rd l m :: l.drop (m + 1) := by
    have e : rd l m = l[m] := by simp [rd, h]
    rw [e]; exact List.drop_eq_getElem_cons h
  rw [e]; rfl
set_option maxHeartbeats 1000000 in
set_option maxRecDepth 100000 in
theorem rec_blank.calls (A0 : Option Addr) (c0 : Nat) (l0 : List Int) (r : Bool) (w : World) (hr0 : Kd.C (Kd.int .u8) w A0 l0.length l0) (hc0 : l0.length ≤ c0) (h : rec_blank.f l0 = some r) :
    Calls Try.prog 30 #[.slice A0 l0.length c0] w fun e w' => e = .returned (.bool r) ∧ Drawn0 w w' := by
  have HR := Aside0.mk hr0
  have hmax : l0.length ≤ 9223372036854775807 := Kd.C_max hr0
  have HF := Aside0.mk (Option.some.inj h)
  clear h hr0
  go_enter Try.func30, Try.ntmps30
  go_wp2
  refine wp_scope_jumps 0 (fun a' w' => w' = w ∧ ∃ (m : Nat) (u4 u5 u6 u7 u8 u9 u10 u11 u12 u13 u14 : Value), a' = { tmps := #[.slice A0 l0.length c0, undef, .bool false, .int .i64 m, u4, u5, u6, u7, u8, u9, u10, u11, u12, u13, u14], defers := [] } ∧ m ≤ l0.length ∧ Aside0 (((l0.drop m).all fun c => c == 255) = r)) (fun a' _ => l0.length - (Kit.numOf (a'.tmps.getD 3 undef)).toNat) rfl ?_ ?_
  · go_wp2
    go_step3
    by_cases hz : l0.length = 0
    · have hz1 : ((0 : Int) == (l0.length : Int)) = true := beq_iff_eq.mpr (by omega)
      have hr : r = true := by rw [← HF.out, List.length_eq_zero_iff.mp hz]; rfl
      clear hz
      go_wp2
      simp only [Exit.jump]
      go_ret
      exact ⟨by rw [hr]; rfl, Drawn0.refl _⟩
    · have hz1 : ((0 : Int) == (l0.length : Int)) = false := beq_eq_false_iff_ne.mpr (by omega)
      obtain ⟨ad, rfl, hx0⟩ := Kd.at_int HR.out 0 (by omega) (by omega)
      have hx : w.cell? ad = some (.int .u8 (rd l0 0)) := by simpa [Addr.add] using hx0
      clear hx0
      have hst := rec_blank.step (l := l0) (m := 0) (by omega)
      have q := eq_true (show 0 < l0.length by omega)
      have H0 : ((l0.drop 0).all fun c => c == 255) = r := HF.out
      rw [hst] at H0
      clear hst hz
      by_cases h255 : rd l0 0 = 255
      · have hb : (rd l0 0 == 255) = true := beq_iff_eq.mpr h255
        have HF1 := Aside0.mk (show ((l0.drop 1).all fun c => c == 255) = r by rw [← H0]; simp [h255])
        have HL := Aside0.mk (show 1 ≤ l0.length by have := of_eq_true q; omega)
        clear h255 H0
        go_wp2
        go_step3
        exact ⟨rfl, rfl, 1, _, _, _, _, _, _, _, _, _, _, _, rfl, HL.out, HF1⟩
      · have hb : (rd l0 0 == 255) = false := beq_eq_false_iff_ne.mpr h255
        have hr : r = false := by rw [← H0]; simp [h255]
        clear h255 H0
        go_wp2
        simp only [Exit.jump]
        go_ret
        exact ⟨by rw [hr]; rfl, Drawn0.refl _⟩
  · rintro a' w' ⟨rfl, m, u4, u5, u6, u7, u8, u9, u10, u11, u12, u13, u14, rfl, hm, HM⟩
    by_cases hz : m = l0.length
    · have hz1 : ((m : Int) == (l0.length : Int)) = true := beq_iff_eq.mpr (by omega)
      have hr : r = true := by rw [← HM.out, hz, List.drop_length]; rfl
      clear hz
      go_wp2
      simp only [Exit.jump]
      go_ret
      exact ⟨by rw [hr]; rfl, Drawn0.refl _⟩
    · have hz1 : ((m : Int) == (l0.length : Int)) = false := beq_eq_false_iff_ne.mpr (by omega)
      obtain ⟨ad, rfl, hx⟩ := Kd.at_int HR.out (m : Int) (by omega) (by omega)
      rw [Int.toNat_natCast] at hx
      have hst := rec_blank.step (l := l0) (m := m) (by omega)
      have q : (m : Int) < (l0.length : Int) := by omega
      have H0 := HM.out
      rw [hst] at H0
      clear hst hz
      by_cases h255 : rd l0 m = 255
      · have hb : (rd l0 m == 255) = true := beq_iff_eq.mpr h255
        have HF1 := Aside0.mk (show ((l0.drop (m + 1)).all fun c => c == 255) = r by rw [← H0]; simp [h255])
        have HL := Aside0.mk (show m + 1 ≤ l0.length by omega)
        clear h255 H0
        go_wp2
        go_step3
        refine ⟨rfl, ⟨rfl, m + 1, _, _, _, _, _, _, _, _, _, _, _, rfl, HL.out, HF1⟩, ?_⟩
        simp [Kit.numOf]
        omega
      · have hb : (rd l0 m == 255) = false := beq_eq_false_iff_ne.mpr h255
        have hr : r = false := by rw [← H0]; simp [h255]
        clear h255 H0
        go_wp2
        simp only [Exit.jump]
        go_ret
        exact ⟨by rw [hr]; rfl, Drawn0.refl _⟩

end Go.Proofs.Ytconcmobjkpkcaa.G
