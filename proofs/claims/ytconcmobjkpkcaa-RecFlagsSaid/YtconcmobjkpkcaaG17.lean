-- Written by wip/gen.py: the kit's print.py, with this session's own texts where it takes a function not. Not trusted: Lean checks it.
import Derived.Test.YtconcmobjkpkcaaG0
namespace Go.Proofs.Ytconcmobjkpkcaa.G
open Go.RowKit Go.Proofs.YtconcmobjkpkcaaW.PrintWords Go.Proofs.YtconcmobjkpkcaaW.PrintLast Go.Proofs.YtconcmobjkpkcaaW.PrintMore
attribute [local go_sem] max2_int min2_int max_two min_two max_three min_three max_four min_four   -- for this text's walks alone
set_option linter.unusedVariables false
set_option linter.unusedSimpArgs false

/-! ### rec_state: function 31 -/
def rec_state.f (a0 : Int) : Option (Int) := if a0 = 127 then (some 4) else (if a0 = 63 then (some 5) else (if a0 = 95 then (some 6) else (if a0 = 31 then (some 6) else (some 3))))
set_option maxHeartbeats 8000000 in
set_option maxRecDepth 100000 in
theorem rec_state.calls (a0 : Int) (r : Int) (w : World) (h : rec_state.f a0 = some r) :
    Calls Try.prog 31 #[.int .u8 a0] w fun e w' => e = .returned (.int .i64 r) ∧ Drawn0 w w' := by
  have H : (if a0 = 127 then (some 4) else (if a0 = 63 then (some 5) else (if a0 = 95 then (some 6) else (if a0 = 31 then (some 6) else (some 3))))) = some r := h
  clear h
  by_cases c2 : a0 = 127
  · rw [if_pos c2] at H
    have c2b0 : (a0 == 127) = true := beq_iff_eq.mpr c2
    have c2b1 : (a0 != 127) = false := bne_eq_false_iff_eq.mpr c2
    clear c2
    obtain rfl := Option.some.inj H
    go_enter Try.func31, Try.ntmps31
    go_wp2
    go_ret
    exact ⟨by first | rfl | (simp; done) | (simp [*]; done), by repeat (first | exact Drawn0.refl _ | apply Drawn0.step)⟩
  · rw [if_neg c2] at H
    have c2b0 : (a0 == 127) = false := beq_eq_false_iff_ne.mpr c2
    have c2b1 : (a0 != 127) = true := bne_iff_ne.mpr c2
    by_cases c3 : a0 = 63
    · rw [if_pos c3] at H
      have c3b0 : (a0 == 63) = true := beq_iff_eq.mpr c3
      have c3b1 : (a0 != 63) = false := bne_eq_false_iff_eq.mpr c3
      clear c3
      obtain rfl := Option.some.inj H
      go_enter Try.func31, Try.ntmps31
      go_wp2
      go_ret
      exact ⟨by first | rfl | (simp; done) | (simp [*]; done), by repeat (first | exact Drawn0.refl _ | apply Drawn0.step)⟩
    · rw [if_neg c3] at H
      have c3b0 : (a0 == 63) = false := beq_eq_false_iff_ne.mpr c3
      have c3b1 : (a0 != 63) = true := bne_iff_ne.mpr c3
      by_cases c4 : a0 = 95
      · rw [if_pos c4] at H
        have c4b0 : (a0 == 95) = true := beq_iff_eq.mpr c4
        have c4b1 : (a0 != 95) = false := bne_eq_false_iff_eq.mpr c4
        clear c4
        obtain rfl := Option.some.inj H
        go_enter Try.func31, Try.ntmps31
        go_wp2
        go_ret
        exact ⟨by first | rfl | (simp; done) | (simp [*]; done), by repeat (first | exact Drawn0.refl _ | apply Drawn0.step)⟩
      · rw [if_neg c4] at H
        have c4b0 : (a0 == 95) = false := beq_eq_false_iff_ne.mpr c4
        have c4b1 : (a0 != 95) = true := bne_iff_ne.mpr c4
        by_cases c5 : a0 = 31
        · rw [if_pos c5] at H
          have c5b0 : (a0 == 31) = true := beq_iff_eq.mpr c5
          have c5b1 : (a0 != 31) = false := bne_eq_false_iff_eq.mpr c5
          clear c5
          obtain rfl := Option.some.inj H
          go_enter Try.func31, Try.ntmps31
          go_wp2
          go_ret
          exact ⟨by first | rfl | (simp; done) | (simp [*]; done), by repeat (first | exact Drawn0.refl _ | apply Drawn0.step)⟩
        · rw [if_neg c5] at H
          have c5b0 : (a0 == 31) = false := beq_eq_false_iff_ne.mpr c5
          have c5b1 : (a0 != 31) = true := bne_iff_ne.mpr c5
          obtain rfl := Option.some.inj H
          go_enter Try.func31, Try.ntmps31
          go_wp2
          go_ret
          exact ⟨by first | rfl | (simp; done) | (simp [*]; done), by repeat (first | exact Drawn0.refl _ | apply Drawn0.step)⟩

end Go.Proofs.Ytconcmobjkpkcaa.G
