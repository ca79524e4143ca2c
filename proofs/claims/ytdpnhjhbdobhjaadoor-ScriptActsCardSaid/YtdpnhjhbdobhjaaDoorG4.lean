-- Written by wip/gen.py: the kit's print.py, with this session's own texts where it takes a function not. Not trusted: Lean checks it.
import Derived.Test.YtdpnhjhbdobhjaaDoorG0
import Derived.Test.YtdpnhjhbdobhjaaDoorG3
namespace Go.Proofs.YtdpnhjhbdobhjaaDoor.G
open Go.RowKit Go.Proofs.YtdpnhjhbdobhjaaDoorW.PrintWords Go.Proofs.YtdpnhjhbdobhjaaDoorW.PrintLast Go.Proofs.YtdpnhjhbdobhjaaDoorW.PrintMore
attribute [local go_sem] max2_int min2_int max_two min_two max_three min_three max_four min_four   -- for this text's walks alone
set_option linter.unusedVariables false
set_option linter.unusedSimpArgs false

/-! ### flintlaw25_fixed: function 5 -/
def flintlaw25_fixed.f  : Option (Bool) := (script_Path.f 6).bind fun t101 => (if t101.toList = ([47, 99, 47, 97] : List UInt8) then ((script_Path.f 255).bind fun t102 => (some (t102.toList == ([47] : List UInt8)))) else (some false))
set_option maxHeartbeats 8000000 in
set_option maxRecDepth 100000 in
theorem flintlaw25_fixed.calls  (r : Bool) (w : World) (h : flintlaw25_fixed.f  = some r) :
    Calls Tryd.prog 5 #[] w fun e w' => e = .returned (.bool r) ∧ Drawn0 w w' := by
  have H : ((script_Path.f 6).bind fun t101 => (if t101.toList = ([47, 99, 47, 97] : List UInt8) then ((script_Path.f 255).bind fun t102 => (some (t102.toList == ([47] : List UInt8)))) else (some false))) = some r := h
  clear h
  replace H := Option.bind_eq_some_iff.mp H
  obtain ⟨t101, A10, H⟩ := H
  replace H : (if t101.toList = ([47, 99, 47, 97] : List UInt8) then ((script_Path.f 255).bind fun t102 => (some (t102.toList == ([47] : List UInt8)))) else (some false)) = some r := H
  have A1 := Aside0.mk A10
  clear A10
  by_cases c2 : t101.toList = ([47, 99, 47, 97] : List UInt8)
  · rw [if_pos c2] at H
    have c2b0 : (t101.toList == ([47, 99, 47, 97] : List UInt8)) = true := beq_iff_eq.mpr c2
    have c2b1 : (t101.toList != ([47, 99, 47, 97] : List UInt8)) = false := bne_eq_false_iff_eq.mpr c2
    clear c2
    replace H := Option.bind_eq_some_iff.mp H
    obtain ⟨t102, A30, H⟩ := H
    replace H : (some (t102.toList == ([47] : List UInt8))) = some r := H
    have A3 := Aside0.mk A30
    clear A30
    obtain rfl := Option.some.inj H
    go_enter Tryd.func5, Tryd.ntmps5
    go_wp2_with (first | ((with_reducible refine gate_callee (f := 9) rfl ?_); refine goesL_ (some 1) rfl rfl Tryd.func9 (by kernel_rfl) rfl #[.int .u8 6] rfl (by (try simp only [List.map_toArray, List.map_cons, List.map_nil]); first | done | rfl | (simp only [List.length_drop, List.length_take]; rfl)) ?_; (with_reducible refine (script_Path.calls 6 t101 _ A1.out).mono ?_); rintro e w' ⟨rfl, ⟨nd, rfl⟩⟩; refine ⟨_, rfl, ?_⟩) | (go_at_call 9; (with_reducible refine (script_Path.calls 255 t102 _ A3.out).mono ?_); rintro e w' ⟨rfl, ⟨nd, rfl⟩⟩))
    go_ret
    exact ⟨by first | rfl | (simp; done) | (simp [*]; done), by repeat (first | exact Drawn0.refl _ | apply Drawn0.step)⟩
  · rw [if_neg c2] at H
    have c2b0 : (t101.toList == ([47, 99, 47, 97] : List UInt8)) = false := beq_eq_false_iff_ne.mpr c2
    have c2b1 : (t101.toList != ([47, 99, 47, 97] : List UInt8)) = true := bne_iff_ne.mpr c2
    obtain rfl := Option.some.inj H
    go_enter Tryd.func5, Tryd.ntmps5
    go_wp2_with (first | ((with_reducible refine gate_callee (f := 9) rfl ?_); refine goesL_ (some 1) rfl rfl Tryd.func9 (by kernel_rfl) rfl #[.int .u8 6] rfl (by (try simp only [List.map_toArray, List.map_cons, List.map_nil]); first | done | rfl | (simp only [List.length_drop, List.length_take]; rfl)) ?_; (with_reducible refine (script_Path.calls 6 t101 _ A1.out).mono ?_); rintro e w' ⟨rfl, ⟨nd, rfl⟩⟩; refine ⟨_, rfl, ?_⟩))
    go_ret
    exact ⟨by first | rfl | (simp; done) | (simp [*]; done), by repeat (first | exact Drawn0.refl _ | apply Drawn0.step)⟩

end Go.Proofs.YtdpnhjhbdobhjaaDoor.G
