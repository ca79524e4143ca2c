-- Written by wip/gen.py: the kit's print.py, with this session's own texts where it takes a function not. Not trusted: Lean checks it.
import Derived.Test.YtdpnhjhbdobhjaaDoorG0
namespace Go.Proofs.YtdpnhjhbdobhjaaDoor.G
open Go.RowKit Go.Proofs.YtdpnhjhbdobhjaaDoorW.PrintWords Go.Proofs.YtdpnhjhbdobhjaaDoorW.PrintLast Go.Proofs.YtdpnhjhbdobhjaaDoorW.PrintMore
attribute [local go_sem] max2_int min2_int max_two min_two max_three min_three max_four min_four   -- for this text's walks alone
set_option linter.unusedVariables false
set_option linter.unusedSimpArgs false

/-! ### script_Path: function 9 -/
theorem idx0 (a b : Value) (w : World) : (Instr.index 41 (.agg #[a, b]) (.int .i64 0)).run Tryd.prog w = .ok a w := by
  simp [Instr.index, run_underlying Tryd.underlying41, asIntOf, go_sem]
theorem idx1 (a b : Value) (w : World) : (Instr.index 41 (.agg #[a, b]) (.int .i64 1)).run Tryd.prog w = .ok b w := by
  simp [Instr.index, run_underlying Tryd.underlying41, asIntOf, go_sem]
attribute [local go_sem] idx0 idx1
/-- A further name: none at 0. -/
def more1 (s : ByteArray) (q : Int) : ByteArray := if q = 0 then s else s ++ (⟨#[47]⟩ ++ (⟨#[97, 98, 99, 100]⟩ : ByteArray).extract (q - 1).toNat q.toNat)
def script_Path.f (a0 : Int) : Option ByteArray := if a0 = 255 then some ⟨#[47]⟩ else if 0 ≤ a0 ∧ a0 ≤ 255 then some (more1 (more1 (⟨#[47]⟩ ++ (⟨#[97, 98, 99, 100]⟩ : ByteArray).extract (a0 % 4).toNat (a0 % 4 + 1).toNat) (a0 / 4 % 4)) (a0 / 16 % 4)) else none
set_option maxHeartbeats 16000000 in
set_option maxRecDepth 100000 in
theorem script_Path.calls (a0 : Int) (r : ByteArray) (w : World) (h : script_Path.f a0 = some r) : Calls Tryd.prog 9 #[.int .u8 a0] w fun e w' => e = .returned (.string r) ∧ Drawn0 w w' := by
  unfold script_Path.f at h
  by_cases c0 : a0 = 255
  · rw [if_pos c0] at h
    obtain rfl := Option.some.inj h
    subst c0
    go_enter Tryd.func9, Tryd.ntmps9
    go_wp2
    go_ret
    exact ⟨rfl, Drawn0.refl _⟩
  rw [if_neg c0] at h
  by_cases c1 : 0 ≤ a0 ∧ a0 ≤ 255
  rotate_left
  · rw [if_neg c1] at h; cases h
  rw [if_pos c1] at h
  have h := Option.some.inj h
  have hp : a0.tmod 4 = a0 % 4 := Int.tmod_eq_emod_of_nonneg c1.1
  have hq : a0.tdiv 4 % 256 % 4 = a0 / 4 % 4 := by rw [Int.tdiv_eq_ediv_of_nonneg c1.1]; omega
  have hq2 : a0.tdiv 4 % 4 = a0 / 4 % 4 := by rw [Int.tdiv_eq_ediv_of_nonneg c1.1]
  have hr : a0.tdiv 16 % 256 % 4 = a0 / 16 % 4 := by rw [Int.tdiv_eq_ediv_of_nonneg c1.1]; omega
  have hr2 : a0.tdiv 16 % 4 = a0 / 16 % 4 := by rw [Int.tdiv_eq_ediv_of_nonneg c1.1]
  have c00 : (a0 == 255) = false := by simpa using c0
  have bp : a0 % 4 = 0 ∨ a0 % 4 = 1 ∨ a0 % 4 = 2 ∨ a0 % 4 = 3 := by omega
  have bq : a0 / 4 % 4 = 0 ∨ a0 / 4 % 4 = 1 ∨ a0 / 4 % 4 = 2 ∨ a0 / 4 % 4 = 3 := by omega
  have br : a0 / 16 % 4 = 0 ∨ a0 / 16 % 4 = 1 ∨ a0 / 16 % 4 = 2 ∨ a0 / 16 % 4 = 3 := by omega
  generalize a0 % 4 = p at h hp bp
  generalize a0 / 4 % 4 = q at h hq hq2 bq
  generalize a0 / 16 % 4 = s at h hr hr2 br
  subst h
  clear c1
  clear h
  rcases bp with rfl | rfl | rfl | rfl <;> rcases bq with rfl | rfl | rfl | rfl <;> rcases br with rfl | rfl | rfl | rfl
  all_goals
    go_enter Tryd.func9, Tryd.ntmps9
    go_wp2
    refine wp_loop_rounds 3 ?_
    rw [rounds_succ]; go_wp2
    rw [rounds_succ]; go_wp2
    rw [rounds_succ]; go_wp2
    go_ret
    refine ⟨?_, by repeat (first | exact Drawn0.refl _ | apply Drawn0.step)⟩
    rfl

end Go.Proofs.YtdpnhjhbdobhjaaDoor.G
