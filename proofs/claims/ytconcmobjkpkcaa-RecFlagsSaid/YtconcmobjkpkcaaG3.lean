-- Written by wip/gen.py: the kit's print.py, with this session's own texts where it takes a function not. Not trusted: Lean checks it.
import Derived.Test.YtconcmobjkpkcaaG0
import Derived.Test.YtconcmobjkpkcaaG2
namespace Go.Proofs.Ytconcmobjkpkcaa.G
open Go.RowKit Go.Proofs.YtconcmobjkpkcaaW.PrintWords Go.Proofs.YtconcmobjkpkcaaW.PrintLast Go.Proofs.YtconcmobjkpkcaaW.PrintMore
attribute [local go_sem] max2_int min2_int max_two min_two max_three min_three max_four min_four   -- for this text's walks alone
set_option linter.unusedVariables false
set_option linter.unusedSimpArgs false

/-! ### sum_Sum: function 12 -/
def sum_Sum.f (k : Nat) (l0 : List Int) : Option (Int) := (sum_More.f k 1 l0).bind fun t117 => (some t117)
theorem sum_Sum.mono : ∀ a0 k, LeO (sum_Sum.f k a0) (sum_Sum.f (k + 1) a0) := by
  intro a0 k
  unfold sum_Sum.f
  repeat' first
      | (with_reducible exact sum_More.mono _ _ _)
      | (with_reducible exact LeO.refl _)
      | (with_reducible exact LeO.none _)
      | (with_reducible refine LeO.ite ?_ ?_)
      | (with_reducible refine LeO.bind ?_ (fun _ => ?_))
      | exact sum_More.mono _ _ _
      | exact LeO.none _
      | refine LeO.ite ?_ ?_
      | refine LeO.bind ?_ (fun _ => ?_)
set_option maxHeartbeats 8000000 in
set_option maxRecDepth 100000 in
theorem sum_Sum.calls (k : Nat) (A0 : Option Addr) (c0 : Nat) (l0 : List Int) (r : Int) (w : World) (hr0 : Kd.C (Kd.int .u8) w A0 l0.length l0) (hc0 : l0.length ≤ c0) (h : sum_Sum.f k l0 = some r) :
    Calls Try.prog 12 #[.slice A0 l0.length c0] w fun e w' => e = .returned (.int .u32 r) ∧ Below w.heap.size w w' := by
  have HR0 := Aside0.mk hr0
  have HC0 := Aside0.mk hc0
  clear hr0 hc0
  have HB := Aside0.mk (Below.refl w.heap.size w)
  have H : ((sum_More.f k 1 l0).bind fun t117 => (some t117)) = some r := h
  clear h
  replace H := Option.bind_eq_some_iff.mp H
  obtain ⟨t117, A20, H⟩ := H
  replace H : (some t117) = some r := H
  have A2 := Aside0.mk A20
  clear A20
  obtain rfl := Option.some.inj H
  go_enter Try.func12, Try.ntmps12
  go_wp2_with (first | ((with_reducible refine gate_callee (f := 14) rfl ?_); refine goesL_ (some 4) rfl rfl Try.func14 (by kernel_rfl) rfl #[.int .u32 1, .slice A0 l0.length c0] rfl (by (try simp only [List.map_toArray, List.map_cons, List.map_nil]); first | done | rfl | (simp only [List.length_drop, List.length_take]; rfl)) ?_; (with_reducible refine (sum_More.calls k 1 (fun k_ => k_ < w.heap.size) _ _ l0 t117 _ ?side1 A2.out).mono ?_); (case side1 => exact Kd.V_mk HC0.out (Kd.F_below (Kd.C_F (Kd.heap_int .u8) HR0.out) (by repeat (first | (with_reducible first | exact HB.out | apply below_alloc | apply pw_below_drewN | apply below_drew1) | exact HB.out)))); rintro e w3 ⟨rfl, hb⟩; refine ⟨_, rfl, ?_⟩; have n0_ := Aside0.mk (below_step (by repeat (first | (with_reducible first | exact HB.out | apply below_alloc | apply pw_below_drewN | apply below_drew1) | exact HB.out)) hb); clear HB; have HB := n0_; clear n0_; (try clear hb); (try clear hb2); (try clear hk); (try clear hi)))
  go_ret
  exact ⟨by first | rfl | (simp [errW_none, errW_some] <;> rfl) | (simp [*, errW_none, errW_some] <;> rfl), by repeat (first | (with_reducible first | exact HB.out | apply below_alloc | apply pw_below_drewN | apply below_drew1) | exact HB.out)⟩

/-! ### flintlaw01_fixed: function 11 -/
def flintlaw01_fixed.f (k : Nat)  : Option (Bool) := (sum_Sum.f k (([49, 50, 51, 52, 53, 54, 55, 56, 57] : List Int))).bind fun t121 => (if t121 = 152961502 then ((sum_Sum.f k ([] : List Int)).bind fun t122 => (some (t122 == 1))) else (some false))
theorem flintlaw01_fixed.mono : ∀ k, LeO (flintlaw01_fixed.f k ) (flintlaw01_fixed.f (k + 1) ) := by
  intro k
  unfold flintlaw01_fixed.f
  refine LeO.bind (sum_Sum.mono _ _) (fun _ => LeO.ite (LeO.bind (sum_Sum.mono _ _) fun _ => LeO.refl _) (LeO.refl _))
set_option maxHeartbeats 800000 in
theorem flintlaw01_fixed.calls (k : Nat)  (r : Bool) (w : World) (h : flintlaw01_fixed.f k  = some r) :
    Calls Try.prog 11 #[] w fun e w' => e = .returned (.bool r) ∧ Below w.heap.size w w' := by
  have kc := fun (w : World) (C : Array Value) (n c : Nat) => Lib.run_convert_bytes_const (P := Try.prog) w 22 5 C n c Try.underlying22 Try.underlying5
  have H : ((sum_Sum.f k (([49, 50, 51, 52, 53, 54, 55, 56, 57] : List Int))).bind fun t121 => (if t121 = 152961502 then ((sum_Sum.f k ([] : List Int)).bind fun t122 => (some (t122 == 1))) else (some false))) = some r := h
  clear h
  replace H := Option.bind_eq_some_iff.mp H
  obtain ⟨t1, A10, H⟩ := H
  have A1 := Aside0.mk A10
  clear A10
  by_cases c : t1 = 152961502
  · rw [if_pos c] at H
    have c2b0 : (t1 == 152961502) = true := beq_iff_eq.mpr c
    clear c
    replace H := Option.bind_eq_some_iff.mp H
    obtain ⟨t2, A20, H⟩ := H
    have A2 := Aside0.mk A20
    clear A20
    obtain rfl := Option.some.inj H
    clear H
    go_enter Try.func11, Try.ntmps11
    go_wp2_with fail
    refine (sum_Sum.calls k _ _ [49, 50, 51, 52, 53, 54, 55, 56, 57] t1 _ ?s1 ?s2 A1.out).mono ?_
    case s1 => exact Kit.C_blk (blk_new _ _) (by rfl) (by simp)
    case s2 => exact Nat.le_refl _
    rintro e w1 ⟨rfl, hb⟩
    have HB := Aside0.mk (below_step (below_alloc (Below.refl _ _) _) hb)
    clear hb
    go_wp2_with fail
    refine (sum_Sum.calls k _ _ [] t2 _ ?s1 ?s2 A2.out).mono ?_
    case s1 => exact Kd.C_nil _ _
    case s2 => exact Nat.le_refl _
    rintro e w2 ⟨rfl, hb⟩
    replace HB := Aside0.mk (below_step HB.out hb)
    clear hb
    go_wp2_with fail
    go_ret
    exact ⟨rfl, HB.out⟩
  · rw [if_neg c] at H
    have c2b0 : (t1 == 152961502) = false := beq_eq_false_iff_ne.mpr c
    clear c
    obtain rfl := Option.some.inj H
    clear H
    go_enter Try.func11, Try.ntmps11
    go_wp2_with fail
    refine (sum_Sum.calls k _ _ [49, 50, 51, 52, 53, 54, 55, 56, 57] t1 _ ?s1 ?s2 A1.out).mono ?_
    case s1 => exact Kit.C_blk (blk_new _ _) (by rfl) (by simp)
    case s2 => exact Nat.le_refl _
    rintro e w1 ⟨rfl, hb⟩
    have HB := Aside0.mk (below_step (below_alloc (Below.refl _ _) _) hb)
    clear hb
    go_wp2_with fail
    go_ret
    exact ⟨rfl, HB.out⟩

/-! ### flintref01_May: function 17 -/
def flintref01_May.f (a0 : Int) : Option (Bool) := if ((Int.tdiv a0 65536) % 4294967296) < 65521 then (some (decide ((Int.tmod a0 65536) < 65521))) else (some false)
set_option maxHeartbeats 8000000 in
set_option maxRecDepth 100000 in
theorem flintref01_May.calls (a0 : Int) (r : Bool) (w : World) (h : flintref01_May.f a0 = some r) :
    Calls Try.prog 17 #[.int .u32 a0] w fun e w' => e = .returned (.bool r) ∧ Drawn0 w w' := by
  have H : (if ((Int.tdiv a0 65536) % 4294967296) < 65521 then (some (decide ((Int.tmod a0 65536) < 65521))) else (some false)) = some r := h
  clear h
  by_cases c2 : ((Int.tdiv a0 65536) % 4294967296) < 65521
  · rw [if_pos c2] at H
    have c2b0 : decide (((Int.tdiv a0 65536) % 4294967296) < 65521) = true := decide_eq_true c2
    clear c2
    obtain rfl := Option.some.inj H
    go_enter Try.func17, Try.ntmps17
    go_wp2
    go_ret
    exact ⟨by first | rfl | (simp; done) | (simp [*]; done), by repeat (first | exact Drawn0.refl _ | apply Drawn0.step)⟩
  · rw [if_neg c2] at H
    have c2b0 : decide (((Int.tdiv a0 65536) % 4294967296) < 65521) = false := decide_eq_false c2
    clear c2
    obtain rfl := Option.some.inj H
    go_enter Try.func17, Try.ntmps17
    go_wp2
    go_ret
    exact ⟨by first | rfl | (simp; done) | (simp [*]; done), by repeat (first | exact Drawn0.refl _ | apply Drawn0.step)⟩

end Go.Proofs.Ytconcmobjkpkcaa.G
