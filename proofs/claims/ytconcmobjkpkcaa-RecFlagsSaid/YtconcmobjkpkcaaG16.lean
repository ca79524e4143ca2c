-- Written by wip/gen.py: the kit's print.py, with this session's own texts where it takes a function not. Not trusted: Lean checks it.
import Derived.Test.YtconcmobjkpkcaaG0
import Derived.Test.YtconcmobjkpkcaaG10
import Derived.Test.YtconcmobjkpkcaaG11
import Derived.Test.YtconcmobjkpkcaaG13
namespace Go.Proofs.Ytconcmobjkpkcaa.G
open Go.RowKit Go.Proofs.YtconcmobjkpkcaaW.PrintWords Go.Proofs.YtconcmobjkpkcaaW.PrintLast Go.Proofs.YtconcmobjkpkcaaW.PrintMore
attribute [local go_sem] max2_int min2_int max_two min_two max_three min_three max_four min_four   -- for this text's walks alone
set_option linter.unusedVariables false
set_option linter.unusedSimpArgs false

/-! ### flintlaw06_RecFrames: function 7 -/
def flintlaw06_RecFrames.f (k : Nat) (l0 : List Int) : Option (Bool) := if (l0.length : Int) > 3000 then ((flintlaw06_fixed.f k).bind fun t324 => (some t324)) else ((rec_Put.f k l0).bind fun bt325 => ((flintref06_Put.f k l0).bind fun bt329 => ((flintlaw06_fixed.f k).bind fun t333 => (if t333 = true then (some ((strOfNums bt325.1).toList == (strOfNums bt329.1).toList)) else (some false)))))
theorem flintlaw06_RecFrames.mono : ∀ a0 k, LeO (flintlaw06_RecFrames.f k a0) (flintlaw06_RecFrames.f (k + 1) a0) := by
  intro a0 k
  unfold flintlaw06_RecFrames.f
  repeat' first
      | (with_reducible exact flintlaw06_fixed.mono _)
      | (with_reducible exact flintref06_Put.mono _ _)
      | (with_reducible exact rec_Put.mono _ _)
      | (with_reducible exact LeO.refl _)
      | (with_reducible exact LeO.none _)
      | (with_reducible refine LeO.ite ?_ ?_)
      | (with_reducible refine LeO.bind ?_ (fun _ => ?_))
      | exact flintlaw06_fixed.mono _
      | exact flintref06_Put.mono _ _
      | exact rec_Put.mono _ _
      | exact LeO.none _
      | refine LeO.ite ?_ ?_
      | refine LeO.bind ?_ (fun _ => ?_)
set_option maxHeartbeats 8000000 in
set_option maxRecDepth 100000 in
theorem flintlaw06_RecFrames.calls (k : Nat) (A0 : Option Addr) (c0 : Nat) (l0 : List Int) (r : Bool) (w : World) (hr0 : Kd.C (Kd.int .u8) w A0 l0.length l0) (hc0 : l0.length ≤ c0) (h : flintlaw06_RecFrames.f k l0 = some r) :
    Calls Try.prog 7 #[.slice A0 l0.length c0] w fun e w' => e = .returned (.bool r) ∧ Below w.heap.size w w' := by
  have HR0 := Aside0.mk hr0
  have HC0 := Aside0.mk hc0
  clear hr0 hc0
  have HB := Aside0.mk (Below.refl w.heap.size w)
  have H : (if (l0.length : Int) > 3000 then ((flintlaw06_fixed.f k).bind fun t324 => (some t324)) else ((rec_Put.f k l0).bind fun bt325 => ((flintref06_Put.f k l0).bind fun bt329 => ((flintlaw06_fixed.f k).bind fun t333 => (if t333 = true then (some ((strOfNums bt325.1).toList == (strOfNums bt329.1).toList)) else (some false)))))) = some r := h
  clear h
  by_cases c2 : (l0.length : Int) > 3000
  · rw [if_pos c2] at H
    have c2b0 : decide (3000 < (l0.length : Int)) = true := decide_eq_true c2
    have c2b1 : decide (3000 < l0.length) = true := decide_eq_true (by omega)
    clear c2
    replace H := Option.bind_eq_some_iff.mp H
    obtain ⟨t324, A30, H⟩ := H
    replace H : (some t324) = some r := H
    have A3 := Aside0.mk A30
    clear A30
    obtain rfl := Option.some.inj H
    go_enter Try.func7, Try.ntmps7
    go_wp2_with (first | ((with_reducible refine gate_callee (f := 19) rfl ?_); refine goesL_ (some 10) rfl rfl Try.func19 (by kernel_rfl) rfl #[] rfl (by (try simp only [List.map_toArray, List.map_cons, List.map_nil]); first | done | rfl | (simp only [List.length_drop, List.length_take]; rfl)) ?_; (with_reducible refine (flintlaw06_fixed.calls k  t324 _ A3.out).mono ?_); rintro e w4 ⟨rfl, hb⟩; refine ⟨_, rfl, ?_⟩; have n0_ := Aside0.mk (below_step (by repeat (first | (with_reducible first | exact HB.out | apply below_alloc | apply pw_below_drewN | apply below_drew1) | exact HB.out)) hb); clear HB; have HB := n0_; clear n0_; (try clear hb); (try clear hb2); (try clear hk); (try clear hi)))
    go_ret
    exact ⟨by first | rfl | (simp [errW_none, errW_some] <;> rfl) | (simp [*, errW_none, errW_some] <;> rfl), by repeat (first | (with_reducible first | exact HB.out | apply below_alloc | apply pw_below_drewN | apply below_drew1) | exact HB.out)⟩
  · rw [if_neg c2] at H
    have c2b0 : decide (3000 < (l0.length : Int)) = false := decide_eq_false c2
    have c2b1 : decide (3000 < l0.length) = false := decide_eq_false (by omega)
    clear c2
    replace H := Option.bind_eq_some_iff.mp H
    obtain ⟨⟨t325, t326⟩, A50, H⟩ := H
    replace H : ((flintref06_Put.f k l0).bind fun bt329 => ((flintlaw06_fixed.f k).bind fun t333 => (if t333 = true then (some ((strOfNums t325).toList == (strOfNums bt329.1).toList)) else (some false)))) = some r := H
    have A5 := Aside0.mk A50
    clear A50
    replace H := Option.bind_eq_some_iff.mp H
    obtain ⟨⟨t329, t330⟩, A60, H⟩ := H
    replace H : ((flintlaw06_fixed.f k).bind fun t333 => (if t333 = true then (some ((strOfNums t325).toList == (strOfNums t329).toList)) else (some false))) = some r := H
    have A6 := Aside0.mk A60
    clear A60
    replace H := Option.bind_eq_some_iff.mp H
    obtain ⟨t333, A70, H⟩ := H
    replace H : (if t333 = true then (some ((strOfNums t325).toList == (strOfNums t329).toList)) else (some false)) = some r := H
    have A7 := Aside0.mk A70
    clear A70
    by_cases c8 : t333 = true
    · subst c8
      have H1 : (some ((strOfNums t325).toList == (strOfNums t329).toList)) = some r := by rw [if_pos rfl] at H; exact H
      clear H
      have H := H1
      clear H1
      obtain rfl := Option.some.inj H
      go_enter Try.func7, Try.ntmps7
      go_wp2_with (first | ((with_reducible refine gate_callee (f := 20) rfl ?_); refine goesL_ (some 13) rfl rfl Try.func20 (by kernel_rfl) rfl #[.slice A0 l0.length c0] rfl (by (try simp only [List.map_toArray, List.map_cons, List.map_nil]); first | done | rfl | (simp only [List.length_drop, List.length_take]; rfl)) ?_; (with_reducible refine (rec_Put.calls k _ _ l0 t325 t326 _ ?side1 ?side2 A5.out).mono ?_); (case side1 => repeat (first | exact HR0.out | (with_reducible refine Kd.C_alloc ?_ _) | (with_reducible refine Kd.C_drewN ?_ _) | (with_reducible refine Kd.C_drew ?_))); (case side2 => exact HC0.out); rintro e w9 ⟨v327, rfl, ho0, hb⟩; refine ⟨_, rfl, ?_⟩; have n0_ := Aside0.mk (Kd.R_lower ho0 (below_size (by repeat (first | (with_reducible first | exact HB.out | apply below_alloc | apply pw_below_drewN | apply below_drew1) | exact HB.out)))); have n1_ := Aside0.mk (below_step (by repeat (first | (with_reducible first | exact HB.out | apply below_alloc | apply pw_below_drewN | apply below_drew1) | exact HB.out)) hb); clear HB; have HO328 := n0_; have HB := n1_; clear n0_ n1_; (try clear hb); (try clear hb2); (try clear hk); (try clear hi); (try clear ho0)) | ((with_reducible refine gate_callee (f := 21) rfl ?_); refine goesL_ (some 18) rfl rfl Try.func21 (by kernel_rfl) rfl #[.slice A0 l0.length c0] rfl (by (try simp only [List.map_toArray, List.map_cons, List.map_nil]); first | done | rfl | (simp only [List.length_drop, List.length_take]; rfl)) ?_; (with_reducible refine (flintref06_Put.calls k _ _ l0 t329 t330 _ ?side1 ?side2 A6.out).mono ?_); (case side1 => repeat (first | exact (Kd.C_below HR0.out HB.out) | (with_reducible refine Kd.C_alloc ?_ _) | (with_reducible refine Kd.C_drewN ?_ _) | (with_reducible refine Kd.C_drew ?_))); (case side2 => exact HC0.out); rintro e w10 ⟨v331, rfl, ho0, hb⟩; refine ⟨_, rfl, ?_⟩; have n0_ := Aside0.mk (Kd.R_elder' (by (with_reducible repeat (first | apply Kd.R_alloc | apply Kd.R_drewN | apply Kd.R_drew)); exact HO328.out) (Kd.R_base ho0) hb); have n1_ := Aside0.mk (Kd.R_lower (Kd.R_new' ho0 (Kd.R_lt (by (with_reducible repeat (first | apply Kd.R_alloc | apply Kd.R_drewN | apply Kd.R_drew)); exact HO328.out))) (below_size (by repeat (first | (with_reducible first | exact HB.out | apply below_alloc | apply pw_below_drewN | apply below_drew1) | exact HB.out)))); have n2_ := Aside0.mk (below_step (by repeat (first | (with_reducible first | exact HB.out | apply below_alloc | apply pw_below_drewN | apply below_drew1) | exact HB.out)) hb); clear HO328; clear HB; have HO328 := n0_; have HO332 := n1_; have HB := n2_; clear n0_ n1_ n2_; (try clear hb); (try clear hb2); (try clear hk); (try clear hi); (try clear ho0)) | ((with_reducible refine gate_callee (f := 19) rfl ?_); refine goesL_ (some 21) rfl rfl Try.func19 (by kernel_rfl) rfl #[] rfl (by (try simp only [List.map_toArray, List.map_cons, List.map_nil]); first | done | rfl | (simp only [List.length_drop, List.length_take]; rfl)) ?_; (with_reducible refine (flintlaw06_fixed.calls k  true _ A7.out).mono ?_); rintro e w11 ⟨rfl, hb⟩; refine ⟨_, rfl, ?_⟩; have n0_ := Aside0.mk (Kd.R_below (by (with_reducible repeat (first | apply Kd.R_alloc | apply Kd.R_drewN | apply Kd.R_drew)); exact HO328.out) hb); have n1_ := Aside0.mk (Kd.R_below (by (with_reducible repeat (first | apply Kd.R_alloc | apply Kd.R_drewN | apply Kd.R_drew)); exact HO332.out) hb); have n2_ := Aside0.mk (below_step (by repeat (first | (with_reducible first | exact HB.out | apply below_alloc | apply pw_below_drewN | apply below_drew1) | exact HB.out)) hb); clear HO328; clear HO332; clear HB; have HO328 := n0_; have HO332 := n1_; have HB := n2_; clear n0_ n1_ n2_; (try clear hb); (try clear hb2); (try clear hk); (try clear hi); have hcv12 := own_string (P := Try.prog) Try.underlying22 Try.underlying5 Try.underlying9 (Kd.own_of_R HO328.out); have hcv13 := own_string (P := Try.prog) Try.underlying22 Try.underlying5 Try.underlying9 (Kd.own_of_R HO332.out)))
      go_ret
      exact ⟨by first | rfl | (simp [errW_none, errW_some] <;> rfl) | (simp [*, errW_none, errW_some] <;> rfl), by repeat (first | (with_reducible first | exact HB.out | apply below_alloc | apply pw_below_drewN | apply below_drew1) | exact HB.out)⟩
    · replace c8 := Bool.eq_false_iff.mpr c8
      subst c8
      have H1 : (some false) = some r := by rw [if_neg (show ¬ (false = true) by decide)] at H; exact H
      clear H
      have H := H1
      clear H1
      obtain rfl := Option.some.inj H
      go_enter Try.func7, Try.ntmps7
      go_wp2_with (first | ((with_reducible refine gate_callee (f := 20) rfl ?_); refine goesL_ (some 13) rfl rfl Try.func20 (by kernel_rfl) rfl #[.slice A0 l0.length c0] rfl (by (try simp only [List.map_toArray, List.map_cons, List.map_nil]); first | done | rfl | (simp only [List.length_drop, List.length_take]; rfl)) ?_; (with_reducible refine (rec_Put.calls k _ _ l0 t325 t326 _ ?side1 ?side2 A5.out).mono ?_); (case side1 => repeat (first | exact HR0.out | (with_reducible refine Kd.C_alloc ?_ _) | (with_reducible refine Kd.C_drewN ?_ _) | (with_reducible refine Kd.C_drew ?_))); (case side2 => exact HC0.out); rintro e w14 ⟨v327, rfl, ho0, hb⟩; refine ⟨_, rfl, ?_⟩; have n0_ := Aside0.mk (Kd.R_lower ho0 (below_size (by repeat (first | (with_reducible first | exact HB.out | apply below_alloc | apply pw_below_drewN | apply below_drew1) | exact HB.out)))); have n1_ := Aside0.mk (below_step (by repeat (first | (with_reducible first | exact HB.out | apply below_alloc | apply pw_below_drewN | apply below_drew1) | exact HB.out)) hb); clear HB; have HO328 := n0_; have HB := n1_; clear n0_ n1_; (try clear hb); (try clear hb2); (try clear hk); (try clear hi); (try clear ho0)) | ((with_reducible refine gate_callee (f := 21) rfl ?_); refine goesL_ (some 18) rfl rfl Try.func21 (by kernel_rfl) rfl #[.slice A0 l0.length c0] rfl (by (try simp only [List.map_toArray, List.map_cons, List.map_nil]); first | done | rfl | (simp only [List.length_drop, List.length_take]; rfl)) ?_; (with_reducible refine (flintref06_Put.calls k _ _ l0 t329 t330 _ ?side1 ?side2 A6.out).mono ?_); (case side1 => repeat (first | exact (Kd.C_below HR0.out HB.out) | (with_reducible refine Kd.C_alloc ?_ _) | (with_reducible refine Kd.C_drewN ?_ _) | (with_reducible refine Kd.C_drew ?_))); (case side2 => exact HC0.out); rintro e w15 ⟨v331, rfl, ho0, hb⟩; refine ⟨_, rfl, ?_⟩; have n0_ := Aside0.mk (Kd.R_elder' (by (with_reducible repeat (first | apply Kd.R_alloc | apply Kd.R_drewN | apply Kd.R_drew)); exact HO328.out) (Kd.R_base ho0) hb); have n1_ := Aside0.mk (Kd.R_lower (Kd.R_new' ho0 (Kd.R_lt (by (with_reducible repeat (first | apply Kd.R_alloc | apply Kd.R_drewN | apply Kd.R_drew)); exact HO328.out))) (below_size (by repeat (first | (with_reducible first | exact HB.out | apply below_alloc | apply pw_below_drewN | apply below_drew1) | exact HB.out)))); have n2_ := Aside0.mk (below_step (by repeat (first | (with_reducible first | exact HB.out | apply below_alloc | apply pw_below_drewN | apply below_drew1) | exact HB.out)) hb); clear HO328; clear HB; have HO328 := n0_; have HO332 := n1_; have HB := n2_; clear n0_ n1_ n2_; (try clear hb); (try clear hb2); (try clear hk); (try clear hi); (try clear ho0)) | ((with_reducible refine gate_callee (f := 19) rfl ?_); refine goesL_ (some 21) rfl rfl Try.func19 (by kernel_rfl) rfl #[] rfl (by (try simp only [List.map_toArray, List.map_cons, List.map_nil]); first | done | rfl | (simp only [List.length_drop, List.length_take]; rfl)) ?_; (with_reducible refine (flintlaw06_fixed.calls k  false _ A7.out).mono ?_); rintro e w16 ⟨rfl, hb⟩; refine ⟨_, rfl, ?_⟩; have n0_ := Aside0.mk (Kd.R_below (by (with_reducible repeat (first | apply Kd.R_alloc | apply Kd.R_drewN | apply Kd.R_drew)); exact HO328.out) hb); have n1_ := Aside0.mk (Kd.R_below (by (with_reducible repeat (first | apply Kd.R_alloc | apply Kd.R_drewN | apply Kd.R_drew)); exact HO332.out) hb); have n2_ := Aside0.mk (below_step (by repeat (first | (with_reducible first | exact HB.out | apply below_alloc | apply pw_below_drewN | apply below_drew1) | exact HB.out)) hb); clear HO328; clear HO332; clear HB; have HO328 := n0_; have HO332 := n1_; have HB := n2_; clear n0_ n1_ n2_; (try clear hb); (try clear hb2); (try clear hk); (try clear hi)))
      go_ret
      exact ⟨by first | rfl | (simp [errW_none, errW_some] <;> rfl) | (simp [*, errW_none, errW_some] <;> rfl), by repeat (first | (with_reducible first | exact HB.out | apply below_alloc | apply pw_below_drewN | apply below_drew1) | exact HB.out)⟩

/-- THE ONE PURE STATEMENT of flintlaw06_RecFrames: yours. -/
def flintlaw06_RecFrames.Pure : Prop := ∀ (l0 : List Int), l0.length ≤ maxLen → l0.length * 1 ≤ 140737488351232 → (∀ x ∈ l0, (Lit.int .u8 x).wf = true) → ∃ k, flintlaw06_RecFrames.f k l0 = some true
theorem flintlaw06_RecFrames.walk (P : flintlaw06_RecFrames.Pure) (a0 : Option Addr) (len0 cap0 : Nat) (z0 : List Int) (w : World) (w0 : (a0 = none ∧ len0 = 0 ∧ cap0 = 0 ∧ z0 = []) ∨ ∃ x, a0 = some x ∧ len0 ≤ cap0 ∧ cap0 ≤ maxLen ∧ z0.length = cap0 ∧ (∀ i, i < z0.length → w.cell? (x.add i) = some (.int .u8 (z0.getD i 0))) ∧ ∀ n ∈ z0, (Lit.int .u8 n).wf = true) (y0 : len0 * 1 ≤ 140737488351232) :
    Calls Try.prog 7 #[.slice a0 len0 cap0] w fun e w' => e = .returned (.bool true) ∧ Below w.heap.size w w' := by
  obtain ⟨l0, rfl, hr0, hm0, hw0, hc0⟩ := ReadsInt.ofRowC w0
  obtain ⟨k, h⟩ := P l0 hm0 y0 hw0
  refine (flintlaw06_RecFrames.calls k _ _ l0 true w (Kd.C_of_reads (d := (0 : Int)) (h1 := fun _ => rfl) hr0) hc0 h).mono ?_
  rintro e w' ⟨rfl, hd⟩
  exact ⟨rfl, hd⟩

/-! ### rec_blank: function 30 -/
def rec_blank.f (l0 : List Int) : Option (Bool) := some (l0.all fun c => c == 255)
theorem rec_blank.step {l : List Int} {m : Nat} (h : m < l.length) : ((l.drop m).all fun c => c == 255) = ((rd l m == 255) && ((l.drop (m + 1)).all fun c => c == 255)) := by
  have e : l.drop m = rd l m :: l.drop (m + 1) := by
    have e : rd l m = l[m] := by simp [rd, h]
    rw [e]; exact List.drop_eq_getElem_cons h
  rw [e]; rfl
set_option maxHeartbeats 1000000 in
set_option maxRecDepth 100000 in
theorem rec_blank.calls (A0 : Option Addr) (c0 : Nat) (l0 : List Int) (r : Bool) (w : World) (hr0 : Kd.C (Kd.int .u8) w A0 l0.length l0) (hc0 : l0.length ≤ c0) (h : rec_blank.f l0 = some r) :
    Calls Try.prog 30 #[.slice A0 l0.length c0] w fun e w' => e = .returned (.bool r) ∧ Drawn0 w w' := by
  have HR := Aside0.mk hr0
  have hmax : l0.length ≤ 9223372036854775807 := Kd.C_max hr0
  have HF := Aside0.mk (Option.some.inj h)
  clear h hr0
  go_enter Try.func30, Try.ntmps30
  go_wp2
  refine wp_scope_jumps 0 (fun a' w' => w' = w ∧ ∃ (m : Nat) (u4 u5 u6 u7 u8 u9 u10 u11 u12 u13 u14 : Value), a' = { tmps := #[.slice A0 l0.length c0, undef, .bool false, .int .i64 m, u4, u5, u6, u7, u8, u9, u10, u11, u12, u13, u14], defers := [] } ∧ m ≤ l0.length ∧ Aside0 (((l0.drop m).all fun c => c == 255) = r)) (fun a' _ => l0.length - (Kit.numOf (a'.tmps.getD 3 undef)).toNat) rfl ?_ ?_
  · go_wp2
    go_step3
    by_cases hz : l0.length = 0
    · have hz1 : ((0 : Int) == (l0.length : Int)) = true := beq_iff_eq.mpr (by omega)
      have hr : r = true := by rw [← HF.out, List.length_eq_zero_iff.mp hz]; rfl
      clear hz
      go_wp2
      simp only [Exit.jump]
      go_ret
      exact ⟨by rw [hr]; rfl, Drawn0.refl _⟩
    · have hz1 : ((0 : Int) == (l0.length : Int)) = false := beq_eq_false_iff_ne.mpr (by omega)
      obtain ⟨ad, rfl, hx0⟩ := Kd.at_int HR.out 0 (by omega) (by omega)
      have hx : w.cell? ad = some (.int .u8 (rd l0 0)) := by simpa [Addr.add] using hx0
      clear hx0
      have hst := rec_blank.step (l := l0) (m := 0) (by omega)
      have q := eq_true (show 0 < l0.length by omega)
      have H0 : ((l0.drop 0).all fun c => c == 255) = r := HF.out
      rw [hst] at H0
      clear hst hz
      by_cases h255 : rd l0 0 = 255
      · have hb : (rd l0 0 == 255) = true := beq_iff_eq.mpr h255
        have HF1 := Aside0.mk (show ((l0.drop 1).all fun c => c == 255) = r by rw [← H0]; simp [h255])
        have HL := Aside0.mk (show 1 ≤ l0.length by have := of_eq_true q; omega)
        clear h255 H0
        go_wp2
        go_step3
        exact ⟨rfl, rfl, 1, _, _, _, _, _, _, _, _, _, _, _, rfl, HL.out, HF1⟩
      · have hb : (rd l0 0 == 255) = false := beq_eq_false_iff_ne.mpr h255
        have hr : r = false := by rw [← H0]; simp [h255]
        clear h255 H0
        go_wp2
        simp only [Exit.jump]
        go_ret
        exact ⟨by rw [hr]; rfl, Drawn0.refl _⟩
  · rintro a' w' ⟨rfl, m, u4, u5, u6, u7, u8, u9, u10, u11, u12, u13, u14, rfl, hm, HM⟩
    by_cases hz : m = l0.length
    · have hz1 : ((m : Int) == (l0.length : Int)) = true := beq_iff_eq.mpr (by omega)
      have hr : r = true := by rw [← HM.out, hz, List.drop_length]; rfl
      clear hz
      go_wp2
      simp only [Exit.jump]
      go_ret
      exact ⟨by rw [hr]; rfl, Drawn0.refl _⟩
    · have hz1 : ((m : Int) == (l0.length : Int)) = false := beq_eq_false_iff_ne.mpr (by omega)
      obtain ⟨ad, rfl, hx⟩ := Kd.at_int HR.out (m : Int) (by omega) (by omega)
      rw [Int.toNat_natCast] at hx
      have hst := rec_blank.step (l := l0) (m := m) (by omega)
      have q : (m : Int) < (l0.length : Int) := by omega
      have H0 := HM.out
      rw [hst] at H0
      clear hst hz
      by_cases h255 : rd l0 m = 255
      · have hb : (rd l0 m == 255) = true := beq_iff_eq.mpr h255
        have HF1 := Aside0.mk (show ((l0.drop (m + 1)).all fun c => c == 255) = r by rw [← H0]; simp [h255])
        have HL := Aside0.mk (show m + 1 ≤ l0.length by omega)
        clear h255 H0
        go_wp2
        go_step3
        refine ⟨rfl, ⟨rfl, m + 1, _, _, _, _, _, _, _, _, _, _, _, rfl, HL.out, HF1⟩, ?_⟩
        simp [Kit.numOf]
        omega
      · have hb : (rd l0 m == 255) = false := beq_eq_false_iff_ne.mpr h255
        have hr : r = false := by rw [← H0]; simp [h255]
        clear h255 H0
        go_wp2
        simp only [Exit.jump]
        go_ret
        exact ⟨by rw [hr]; rfl, Drawn0.refl _⟩

end Go.Proofs.Ytconcmobjkpkcaa.G
