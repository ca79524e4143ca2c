-- Written by wip/gen.py: the kit's print.py, with this session's own texts where it takes a function not. Not trusted: Lean checks it.
import Derived.Test.YtconcmobjkpkcaaG0
import Derived.Test.YtconcmobjkpkcaaG4
namespace Go.Proofs.Ytconcmobjkpkcaa.G
open Go.RowKit Go.Proofs.YtconcmobjkpkcaaW.PrintWords Go.Proofs.YtconcmobjkpkcaaW.PrintLast Go.Proofs.YtconcmobjkpkcaaW.PrintMore
attribute [local go_sem] max2_int min2_int max_two min_two max_three min_three max_four min_four   -- for this text's walks alone
set_option linter.unusedVariables false
set_option linter.unusedSimpArgs false

/-! ### flintlaw01_fixed: function 11 -/
def flintlaw01_fixed.f (k : Nat)  : Option (Bool) := (sum_Sum.f k (([49, 50, 51, 52, 53, 54, 55, 56, 57] : List Int))).bind fun t121 => (if t121 = 152961502 then ((sum_Sum.f k ([] : List Int)).bind fun t122 => (some (t122 == 1))) else (some false))
theorem flintlaw01_fixed.mono : ∀ k, LeO (flintlaw01_fixed.f k ) (flintlaw01_fixed.f (k + 1) ) := by
  intro k
  unfold flintlaw01_fixed.f
  refine LeO.bind (sum_Sum.mono _ _) (fun _ => LeO.ite (LeO.bind (sum_Sum.mono _ _) fun _ => LeO.refl _) (LeO.refl _))
set_option maxHeartbeats 800000 in
theorem flintlaw01_fixed.calls (k : Nat)  (r : Bool) (w : World) (h : flintlaw01_fixed.f k  = some r) :
    Calls Try.prog 11 #[] w fun e w' => e = .returned (.bool r) ∧ Below w.heap.size w w' := by
  have kc := fun (w : World) (C : Array Value) (n c : Nat) => Lib.run_convert_bytes_const (P := Try.prog) w 22 5 C n c Try.underlying22 Try.underlying5
  have H : ((sum_Sum.f k (([49, 50, 51, 52, 53, 54, 55, 56, 57] : List Int))).bind fun t121 => (if t121 = 152961502 then ((sum_Sum.f k ([] : List Int)).bind fun t122 => (some (t122 == 1))) else (some false))) = some r := h
  clear h
  replace H := Option.bind_eq_some_iff.mp H
  obtain ⟨t1, A10, H⟩ := H
  have A1 := Aside0.mk A10
  clear A10
  by_cases c : t1 = 152961502
  · rw [if_pos c] at H
    have c2b0 : (t1 == 152961502) = true := beq_iff_eq.mpr c
    clear c
    replace H := Option.bind_eq_some_iff.mp H
    obtain ⟨t2, A20, H⟩ := H
    have A2 := Aside0.mk A20
    clear A20
    obtain rfl := Option.some.inj H
    clear H
    go_enter Try.func11, Try.ntmps11
    go_wp2_with fail
    refine (sum_Sum.calls k _ _ [49, 50, 51, 52, 53, 54, 55, 56, 57] t1 _ ?s1 ?s2 A1.out).mono ?_
    case s1 => exact Kit.C_blk (blk_new _ _) (by rfl) (by simp)
    case s2 => exact Nat.le_refl _
    rintro e w1 ⟨rfl, hb⟩
    have HB := Aside0.mk (below_step (below_alloc (Below.refl _ _) _) hb)
    clear hb
    go_wp2_with fail
    refine (sum_Sum.calls k _ _ [] t2 _ ?s1 ?s2 A2.out).mono ?_
    case s1 => exact Kd.C_nil _ _
    case s2 => exact Nat.le_refl _
    rintro e w2 ⟨rfl, hb⟩
    replace HB := Aside0.mk (below_step HB.out hb)
    clear hb
    go_wp2_with fail
    go_ret
    exact ⟨rfl, HB.out⟩
  · rw [if_neg c] at H
    have c2b0 : (t1 == 152961502) = false := beq_eq_false_iff_ne.mpr c
    clear c
    obtain rfl := Option.some.inj H
    clear H
    go_enter Try.func11, Try.ntmps11
    go_wp2_with fail
    refine (sum_Sum.calls k _ _ [49, 50, 51, 52, 53, 54, 55, 56, 57] t1 _ ?s1 ?s2 A1.out).mono ?_
    case s1 => exact Kit.C_blk (blk_new _ _) (by rfl) (by simp)
    case s2 => exact Nat.le_refl _
    rintro e w1 ⟨rfl, hb⟩
    have HB := Aside0.mk (below_step (below_alloc (Below.refl _ _) _) hb)
    clear hb
    go_wp2_with fail
    go_ret
    exact ⟨rfl, HB.out⟩

end Go.Proofs.Ytconcmobjkpkcaa.G
