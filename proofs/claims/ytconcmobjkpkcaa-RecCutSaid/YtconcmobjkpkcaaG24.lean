-- Written by wip/gen.py: the kit's print.py, with this session's own texts where it takes a function not. Not trusted: Lean checks it.
import Derived.Test.YtconcmobjkpkcaaG0
import Derived.Test.YtconcmobjkpkcaaG10
import Derived.Test.YtconcmobjkpkcaaG11
import Derived.Test.YtconcmobjkpkcaaG20
namespace Go.Proofs.Ytconcmobjkpkcaa.G
open Go.RowKit Go.Proofs.YtconcmobjkpkcaaW.PrintWords Go.Proofs.YtconcmobjkpkcaaW.PrintLast Go.Proofs.YtconcmobjkpkcaaW.PrintMore
attribute [local go_sem] max2_int min2_int max_two min_two max_three min_three max_four min_four   -- for this text's walks alone
set_option linter.unusedVariables false
set_option linter.unusedSimpArgs false

/-! ### flintlaw06_RecCut: function 9 -/
mutual
def flintlaw06_RecCut.j0 : Nat → List Int → Int → Int → List Int → Bool → Option (Bool)
  | 0, _, _, _, _, _ => none
  | k + 1, x0, x1, x2, x7, x34 => if x34 = true then (some false) else (if (x7.length : Int) = 0 then (none) else (if 0 ≤ (wrap64 ((x7.length : Int) + 9)) then (if (wrap64 ((x7.length : Int) + 9) : Int).toNat ≤ 281474976710656 then ((some (List.replicate (wrap64 ((x7.length : Int) + 9) : Int).toNat 0 : List Int)).bind fun y399 => (flintlaw06_RecCut.l0 k x0 x2 x7 (Int.tmod (wrap64 (x1)) (x7.length : Int)) y399 (y399.length : Int) 0)) else (none)) else (none)))
def flintlaw06_RecCut.l0 : Nat → List Int → Int → List Int → Int → List Int → Int → Int → Option (Bool)
  | 0, _, _, _, _, _, _, _ => none
  | k + 1, x0, x2, x7, x9, x10, x45, x46 => if x46 < x45 then (if 0 ≤ x46 then (if x46 < (x10.length : Int) then (flintlaw06_RecCut.l0 k x0 x2 x7 x9 (x10.set (x46 : Int).toNat 255) x45 (wrap64 (x46 + 1))) else (none)) else (none)) else (if 0 ≤ x9 then (if x9 ≤ (x7.length : Int) then ((some (Kit.cpy x10 (x7.take (x9 : Int).toNat) : List Int)).bind fun y407 => (if x9 < (x10.length : Int) then (if x9 < (x7.length : Int) then (flintlaw06_RecCut.l1 k x0 (y407.set (x9 : Int).toNat (Go.bits .and .u8 (rd y407 x9) (Go.bits .or .u8 (rd x7 x9) (Go.bits .xor .u8 255 x2)))) true true x7 (x7.length : Int) 0) else (none)) else (none))) else (none)) else (none))
def flintlaw06_RecCut.l1 : Nat → List Int → List Int → Bool → Bool → List Int → Int → Int → Option (Bool)
  | 0, _, _, _, _, _, _, _ => none
  | k + 1, x0, x10, x12, x13, x71, x72, x73 => if x73 < x72 then (if 0 ≤ x73 then (if x73 < (x71.length : Int) then (if x12 = true then (if x73 < (x10.length : Int) then (if x13 = true then (flintlaw06_RecCut.l1 k x0 x10 ((rd x10 x73) == (rd x71 x73)) ((rd x10 x73) == 255) x71 x72 (wrap64 (x73 + 1))) else (flintlaw06_RecCut.l1 k x0 x10 ((rd x10 x73) == (rd x71 x73)) false x71 x72 (wrap64 (x73 + 1)))) else (none)) else (if x13 = true then (if x73 < (x10.length : Int) then (flintlaw06_RecCut.l1 k x0 x10 false ((rd x10 x73) == 255) x71 x72 (wrap64 (x73 + 1))) else (none)) else (flintlaw06_RecCut.l1 k x0 x10 false false x71 x72 (wrap64 (x73 + 1))))) else (none)) else (none)) else ((rec_Class.f k x10 0).bind fun bt415 => (if x12 = true then ((flintlaw06_fixed.f k).bind fun t420 => (if t420 = true then (if bt415.1 = 4 then (some ((strOfNums bt415.2.1).toList == (strOfNums x0).toList)) else (some false)) else (some false))) else (if x13 = true then ((flintlaw06_fixed.f k).bind fun t421 => (if t421 = true then (if bt415.1 = 0 then (some ((bt415.2.1.length : Int) == 0)) else (some false)) else (some false))) else ((flintlaw06_fixed.f k).bind fun t422 => (if t422 = true then (if bt415.1 = 3 then (some ((bt415.2.1.length : Int) == 0)) else (some false)) else (some false))))))
end
def flintlaw06_RecCut.f (k : Nat) (l0 : List Int) (a1 : Int) (a2 : Int) : Option (Bool) := if (l0.length : Int) > 500 then ((flintlaw06_fixed.f k).bind fun t394 => (some t394)) else ((rec_Put.f k l0).bind fun bt395 => (if bt395.2 = 0 then (flintlaw06_RecCut.j0 k l0 a1 a2 bt395.1 ((bt395.1.length : Int) == 0)) else (flintlaw06_RecCut.j0 k l0 a1 a2 bt395.1 true)))
theorem flintlaw06_RecCut.mono_l : ∀ k, (∀ y0 y1 y2 y3 y4, LeO (flintlaw06_RecCut.j0 k y0 y1 y2 y3 y4) (flintlaw06_RecCut.j0 (k + 1) y0 y1 y2 y3 y4)) ∧ (∀ y0 y1 y2 y3 y4 y5 y6, LeO (flintlaw06_RecCut.l0 k y0 y1 y2 y3 y4 y5 y6) (flintlaw06_RecCut.l0 (k + 1) y0 y1 y2 y3 y4 y5 y6)) ∧ (∀ y0 y1 y2 y3 y4 y5 y6, LeO (flintlaw06_RecCut.l1 k y0 y1 y2 y3 y4 y5 y6) (flintlaw06_RecCut.l1 (k + 1) y0 y1 y2 y3 y4 y5 y6))
  | 0 => ⟨fun _ _ _ _ _ r h => by simp [flintlaw06_RecCut.j0] at h, fun _ _ _ _ _ _ _ r h => by simp [flintlaw06_RecCut.l0] at h, fun _ _ _ _ _ _ _ r h => by simp [flintlaw06_RecCut.l1] at h⟩
  | k + 1 => by
    obtain ⟨ih0, ih1, ih2⟩ := flintlaw06_RecCut.mono_l k
    refine ⟨?_, ?_, ?_⟩
    · intro y0 y1 y2 y3 y4
      unfold flintlaw06_RecCut.j0
      repeat' first
      | (with_reducible exact ih0 _ _ _ _ _)
      | (with_reducible exact ih1 _ _ _ _ _ _ _)
      | (with_reducible exact ih2 _ _ _ _ _ _ _)
      | (with_reducible exact flintlaw06_fixed.mono _)
      | (with_reducible exact rec_Class.mono _ _ _)
      | (with_reducible exact rec_Put.mono _ _)
      | (with_reducible exact LeO.refl _)
      | (with_reducible exact LeO.none _)
      | (with_reducible refine LeO.ite ?_ ?_)
      | (with_reducible refine LeO.bind ?_ (fun _ => ?_))
      | exact ih0 _ _ _ _ _
      | exact ih1 _ _ _ _ _ _ _
      | exact ih2 _ _ _ _ _ _ _
      | exact flintlaw06_fixed.mono _
      | exact rec_Class.mono _ _ _
      | exact rec_Put.mono _ _
      | exact LeO.none _
      | refine LeO.ite ?_ ?_
      | refine LeO.bind ?_ (fun _ => ?_)
    · intro y0 y1 y2 y3 y4 y5 y6
      unfold flintlaw06_RecCut.l0
      repeat' first
      | (with_reducible exact ih0 _ _ _ _ _)
      | (with_reducible exact ih1 _ _ _ _ _ _ _)
      | (with_reducible exact ih2 _ _ _ _ _ _ _)
      | (with_reducible exact flintlaw06_fixed.mono _)
      | (with_reducible exact rec_Class.mono _ _ _)
      | (with_reducible exact rec_Put.mono _ _)
      | (with_reducible exact LeO.refl _)
      | (with_reducible exact LeO.none _)
      | (with_reducible refine LeO.ite ?_ ?_)
      | (with_reducible refine LeO.bind ?_ (fun _ => ?_))
      | exact ih0 _ _ _ _ _
      | exact ih1 _ _ _ _ _ _ _
      | exact ih2 _ _ _ _ _ _ _
      | exact flintlaw06_fixed.mono _
      | exact rec_Class.mono _ _ _
      | exact rec_Put.mono _ _
      | exact LeO.none _
      | refine LeO.ite ?_ ?_
      | refine LeO.bind ?_ (fun _ => ?_)
    · intro y0 y1 y2 y3 y4 y5 y6
      unfold flintlaw06_RecCut.l1
      repeat' first
      | (with_reducible exact ih0 _ _ _ _ _)
      | (with_reducible exact ih1 _ _ _ _ _ _ _)
      | (with_reducible exact ih2 _ _ _ _ _ _ _)
      | (with_reducible exact flintlaw06_fixed.mono _)
      | (with_reducible exact rec_Class.mono _ _ _)
      | (with_reducible exact rec_Put.mono _ _)
      | (with_reducible exact LeO.refl _)
      | (with_reducible exact LeO.none _)
      | (with_reducible refine LeO.ite ?_ ?_)
      | (with_reducible refine LeO.bind ?_ (fun _ => ?_))
      | exact ih0 _ _ _ _ _
      | exact ih1 _ _ _ _ _ _ _
      | exact ih2 _ _ _ _ _ _ _
      | exact flintlaw06_fixed.mono _
      | exact rec_Class.mono _ _ _
      | exact rec_Put.mono _ _
      | exact LeO.none _
      | refine LeO.ite ?_ ?_
      | refine LeO.bind ?_ (fun _ => ?_)
theorem flintlaw06_RecCut.mono : ∀ a0 a1 a2 k, LeO (flintlaw06_RecCut.f k a0 a1 a2) (flintlaw06_RecCut.f (k + 1) a0 a1 a2) := by
  intro a0 a1 a2 k
  obtain ⟨ih0, ih1, ih2⟩ := flintlaw06_RecCut.mono_l k
  unfold flintlaw06_RecCut.f
  repeat' first
      | (with_reducible exact ih0 _ _ _ _ _)
      | (with_reducible exact ih1 _ _ _ _ _ _ _)
      | (with_reducible exact ih2 _ _ _ _ _ _ _)
      | (with_reducible exact flintlaw06_fixed.mono _)
      | (with_reducible exact rec_Class.mono _ _ _)
      | (with_reducible exact rec_Put.mono _ _)
      | (with_reducible exact LeO.refl _)
      | (with_reducible exact LeO.none _)
      | (with_reducible refine LeO.ite ?_ ?_)
      | (with_reducible refine LeO.bind ?_ (fun _ => ?_))
      | exact ih0 _ _ _ _ _
      | exact ih1 _ _ _ _ _ _ _
      | exact ih2 _ _ _ _ _ _ _
      | exact flintlaw06_fixed.mono _
      | exact rec_Class.mono _ _ _
      | exact rec_Put.mono _ _
      | exact LeO.none _
      | refine LeO.ite ?_ ?_
      | refine LeO.bind ?_ (fun _ => ?_)
def flintlaw06_RecCut.T14 : Bool × List (List Nat × List Nat) := (true, [([], []), ([], []), ([0, 1], [0, 1]), ([2], [2]), ([], []), ([], []), ([4, 5], [4, 5]), ([6], [6]), ([], []), ([8], [8]), ([7, 9], [7, 9]), ([3, 10], [3, 10]), ([0, 1, 0, 1, 2, 3, 4, 5, 6, 7, 8, 9, 10, 11], [0, 1]), ([12, 11, 0, 1, 2, 3, 4, 5, 6, 7, 8, 9, 10, 11], [11, 12])])
def flintlaw06_RecCut.B14 : List Nat := [0, 0, 3, 7, 0, 0, 48, 112, 0, 256, 1008, 2047, 4095, 8191]
theorem flintlaw06_RecCut.tab14 : rtab .any (opsOf Try.f9 14) = flintlaw06_RecCut.T14 := by kernel_rfl
theorem flintlaw06_RecCut.bits14 : waitsOk flintlaw06_RecCut.T14.2 flintlaw06_RecCut.B14 = true := by kernel_rfl
set_option maxHeartbeats 8000000 in
set_option maxRecDepth 100000 in
theorem flintlaw06_RecCut.calls (k : Nat) (A0 : Option Addr) (c0 : Nat) (l0 : List Int) (a1 : Int) (a2 : Int) (r : Bool) (w : World) (hr0 : Kd.C (Kd.int .u8) w A0 l0.length l0) (hc0 : l0.length ≤ c0) (h : flintlaw06_RecCut.f k l0 a1 a2 = some r) :
    Calls Try.prog 9 #[.slice A0 l0.length c0, .int .u16 a1, .int .u8 a2] w fun e w' => e = .returned (.bool r) ∧ Below w.heap.size w w' := by
  have HR0 := Aside0.mk hr0
  have HC0 := Aside0.mk hc0
  clear hr0 hc0
  have HB := Aside0.mk (Below.refl w.heap.size w)
  have H : (if (l0.length : Int) > 500 then ((flintlaw06_fixed.f k).bind fun t394 => (some t394)) else ((rec_Put.f k l0).bind fun bt395 => (if bt395.2 = 0 then (flintlaw06_RecCut.j0 k l0 a1 a2 bt395.1 ((bt395.1.length : Int) == 0)) else (flintlaw06_RecCut.j0 k l0 a1 a2 bt395.1 true)))) = some r := h
  clear h
  by_cases c4 : (l0.length : Int) > 500
  · rw [if_pos c4] at H
    have c4b0 : decide (500 < (l0.length : Int)) = true := decide_eq_true c4
    have c4b1 : decide (500 < l0.length) = true := decide_eq_true (by omega)
    clear c4
    replace H := Option.bind_eq_some_iff.mp H
    obtain ⟨t394, A50, H⟩ := H
    replace H : (some t394) = some r := H
    have A5 := Aside0.mk A50
    clear A50
    obtain rfl := Option.some.inj H
    go_enter Try.func9, Try.ntmps9
    go_wp2_with (first | ((with_reducible refine gate_callee (f := 19) rfl ?_); refine goesL_ (some 22) rfl rfl Try.func19 (by kernel_rfl) rfl #[] rfl (by (try simp only [List.map_toArray, List.map_cons, List.map_nil]); first | done | rfl | (simp only [List.length_drop, List.length_take]; rfl)) ?_; (with_reducible refine (flintlaw06_fixed.calls k  t394 _ A5.out).mono ?_); rintro e w6 ⟨rfl, hb⟩; refine ⟨_, rfl, ?_⟩; have n0_ := Aside0.mk (below_step (by repeat (first | (with_reducible first | exact HB.out | apply below_alloc | apply pw_below_drewN | apply below_drew1) | exact HB.out)) hb); clear HB; have HB := n0_; clear n0_; (try clear hb); (try clear hb2); (try clear hk); (try clear hi)))
    go_ret
    exact ⟨by first | rfl | (simp [errW_none, errW_some] <;> rfl) | (simp [*, errW_none, errW_some] <;> rfl), by repeat (first | (with_reducible first | exact HB.out | apply below_alloc | apply pw_below_drewN | apply below_drew1) | exact HB.out)⟩
  · rw [if_neg c4] at H
    have c4b0 : decide (500 < (l0.length : Int)) = false := decide_eq_false c4
    have c4b1 : decide (500 < l0.length) = false := decide_eq_false (by omega)
    clear c4
    replace H := Option.bind_eq_some_iff.mp H
    obtain ⟨⟨t395, t396⟩, A70, H⟩ := H
    replace H : (if t396 = 0 then (flintlaw06_RecCut.j0 k l0 a1 a2 t395 ((t395.length : Int) == 0)) else (flintlaw06_RecCut.j0 k l0 a1 a2 t395 true)) = some r := H
    have A7 := Aside0.mk A70
    clear A70
    have HC8 := Aside0.mk H
    clear H
    go_enter Try.func9, Try.ntmps9
    go_upto_region 4 with (first | ((with_reducible refine gate_callee (f := 20) rfl ?_); refine goesL_ (some 25) rfl rfl Try.func20 (by kernel_rfl) rfl #[.slice A0 l0.length c0] rfl (by (try simp only [List.map_toArray, List.map_cons, List.map_nil]); first | done | rfl | (simp only [List.length_drop, List.length_take]; rfl)) ?_; (with_reducible refine (rec_Put.calls k _ _ l0 t395 t396 _ ?side1 ?side2 A7.out).mono ?_); (case side1 => repeat (first | exact HR0.out | (with_reducible refine Kd.C_alloc ?_ _) | (with_reducible refine Kd.C_drewN ?_ _) | (with_reducible refine Kd.C_drew ?_))); (case side2 => exact HC0.out); rintro e w9 ⟨v397, rfl, ho0, hb⟩; refine ⟨_, rfl, ?_⟩; have n0_ := Aside0.mk (Kd.R_lower ho0 (below_size (by repeat (first | (with_reducible first | exact HB.out | apply below_alloc | apply pw_below_drewN | apply below_drew1) | exact HB.out)))); have n1_ := Aside0.mk (below_step (by repeat (first | (with_reducible first | exact HB.out | apply below_alloc | apply pw_below_drewN | apply below_drew1) | exact HB.out)) hb); clear HB; have HO398 := n0_; have HB := n1_; clear n0_ n1_; (try clear hb); (try clear hb2); (try clear hk); (try clear hi); (try clear ho0)))
    (try simp only [Act.put, List.setIfInBounds_toArray, List.set_cons_zero, List.set_cons_succ])
    go_cut [34] (fun v34 wc => ∃ (kq : Nat) (x34_7 : Bool), v34 = .bool x34_7 ∧ Aside0 (flintlaw06_RecCut.j0 kq l0 a1 a2 t395 x34_7 = some r) ∧ Aside0 (kq ≤ k) ∧ Aside0 (Kd.R (Kd.int .u8) 5 wc w.heap.size (fun _ => True) v397 t395) ∧ Aside0 (Below w.heap.size w wc))
    case first =>
      have H := HC8.out
      clear HC8
      by_cases c10 : t396 = 0
      · rw [if_pos c10] at H
        have c10b0 : (t396 == 0) = true := beq_iff_eq.mpr c10
        have c10b1 : (t396 != 0) = false := bne_eq_false_iff_eq.mpr c10
        clear c10
        (first | rw [c10b0] | (simp only [i64_w, i32_w]; rw [c10b0]) | skip)
        have H' := Aside0.mk H
        clear H
        obtain ⟨Ao11, co11, eo11⟩ := Kd.R_slice HO398.out
        subst eo11
        go_wp2
        go_meet
        case rel => exact ⟨_, (((t395.length : Int) == 0)), (by first | rfl | (simp; done) | (simp [*]; done)), H', ⟨by first | omega | exact Nat.le_refl _⟩, ⟨by (with_reducible repeat (first | apply Kd.R_alloc | apply Kd.R_drewN | apply Kd.R_drew)); exact HO398.out⟩, ⟨by repeat (first | (with_reducible first | exact HB.out | apply below_alloc | apply pw_below_drewN | apply below_drew1) | exact HB.out)⟩⟩
      · rw [if_neg c10] at H
        have c10b0 : (t396 == 0) = false := beq_eq_false_iff_ne.mpr c10
        have c10b1 : (t396 != 0) = true := bne_iff_ne.mpr c10
        (first | rw [c10b0] | (simp only [i64_w, i32_w]; rw [c10b0]) | skip)
        have H' := Aside0.mk H
        clear H
        go_wp2
        go_meet
        case rel => exact ⟨_, (true), (by first | rfl | (simp; done) | (simp [*]; done)), H', ⟨by first | omega | exact Nat.le_refl _⟩, ⟨by (with_reducible repeat (first | apply Kd.R_alloc | apply Kd.R_drewN | apply Kd.R_drew)); exact HO398.out⟩, ⟨by repeat (first | (with_reducible first | exact HB.out | apply below_alloc | apply pw_below_drewN | apply below_drew1) | exact HB.out)⟩⟩
    case rest =>
      clear HC8
      try clear c1
      try clear c2
      try clear p2
      try clear c4
      try clear c4b0
      try clear c4b1
      try clear c9
      try clear c10
      try clear c10b0
      try clear c10b1
      obtain ⟨kq, x34_7, rfl, HA, HJ7, HO_7, HB⟩ := hcut
      cases kq with
      | zero => exact absurd HA.out (by simp [flintlaw06_RecCut.j0])
      | succ kj7 =>
        have H := HA.out
        clear HA
        simp only [flintlaw06_RecCut.j0] at H
        by_cases c12 : x34_7 = true
        · subst c12
          have H1 : (some false) = some r := by rw [if_pos rfl] at H; exact H
          clear H
          have H := H1
          clear H1
          obtain rfl := Option.some.inj H
          go_wp2
          go_ret
          exact ⟨by first | rfl | (simp [errW_none, errW_some] <;> rfl) | (simp [*, errW_none, errW_some] <;> rfl), by repeat (first | (with_reducible first | exact HB.out | apply below_alloc | apply pw_below_drewN | apply below_drew1) | exact HB.out)⟩
        · replace c12 := Bool.eq_false_iff.mpr c12
          subst c12
          have H1 : (if (t395.length : Int) = 0 then (none) else (if 0 ≤ (wrap64 ((t395.length : Int) + 9)) then (if (wrap64 ((t395.length : Int) + 9) : Int).toNat ≤ 281474976710656 then ((some (List.replicate (wrap64 ((t395.length : Int) + 9) : Int).toNat 0 : List Int)).bind fun y399 => (flintlaw06_RecCut.l0 kj7 l0 a2 t395 (Int.tmod (wrap64 (a1)) (t395.length : Int)) y399 (y399.length : Int) 0)) else (none)) else (none))) = some r := by rw [if_neg (show ¬ (false = true) by decide)] at H; exact H
          clear H
          have H := H1
          clear H1
          by_cases c13 : (t395.length : Int) = 0
          · rw [if_pos c13] at H
            exact absurd H (by simp)
          · rw [if_neg c13] at H
            have c13b0 : ((t395.length : Int) == 0) = false := beq_eq_false_iff_ne.mpr c13
            have c13b1 : ((t395.length : Int) != 0) = true := bne_iff_ne.mpr c13
            have c13b2 : ¬ (t395 = []) := fun h_ => c13 (by rw [h_]; rfl)
            obtain ⟨ji14, hji14⟩ : ∃ j_ : Int, (wrap64 ((t395.length : Int) + 9)) = j_ := ⟨_, rfl⟩
            replace H : (if 0 ≤ (ji14) then (if (ji14 : Int).toNat ≤ 281474976710656 then ((some (List.replicate (ji14 : Int).toNat 0 : List Int)).bind fun y399 => (flintlaw06_RecCut.l0 kj7 l0 a2 t395 (Int.tmod (wrap64 (a1)) (t395.length : Int)) y399 (y399.length : Int) 0)) else (none)) else (none)) = some r := by first | (rw [hji14] at H; exact H) | (simp only [hji14] at H ⊢; exact H)
            have hji14w : (IntKind.i64.wrap ((t395.length : Int) + 9)) = ji14 := (i64_w _).trans hji14
            by_cases c15 : 0 ≤ (ji14)
            · rw [if_pos c15] at H
              have c15b0 := eq_true c15
              have c15b1 : decide (0 ≤ (ji14)) = true := decide_eq_true c15
              clear c15
              by_cases c16 : (ji14 : Int).toNat ≤ 281474976710656
              · rw [if_pos c16] at H
                have c16b0 := eq_true c16
                have c16b1 : decide ((ji14 : Int).toNat ≤ 281474976710656) = true := decide_eq_true c16
                clear c16
                obtain ⟨y399, hy399⟩ : ∃ y_ : List Int, y_ = (List.replicate (ji14 : Int).toNat 0) := ⟨_, rfl⟩
                replace H : (flintlaw06_RecCut.l0 kj7 l0 a2 t395 (Int.tmod (wrap64 (a1)) (t395.length : Int)) y399 (y399.length : Int) 0) = some r := by first | (rw [hy399]; with_reducible exact H) | (have H2_ := (Option.bind_some _ _).symm.trans H; rw [hy399]; with_reducible exact H2_) | (have H2_ := (Option.bind_some _ _).symm.trans H; with_reducible exact H2_) | with_reducible exact H | (rw [hy399]; exact H) | exact H
                have Ny399 := Aside0.mk hy399
                clear hy399
                have H' := Aside0.mk H
                clear H
                obtain ⟨Ao17, co17, eo17⟩ := Kd.R_slice HO_7.out
                subst eo17
                go_wp2_with (first | ((with_reducible refine gate_dst (N := 43) rfl ?_); (try (refine gate_guard (by rfl) ?_; dsimp only)); refine Kd.R_make (Kd.int .u8) _ 5 rfl (N := 43) rfl 22 _ _ rfl ji14 rfl rfl Try.underlying22 (.int .u8 0) 1 info5 rfl (by decide) (by omega) 0 (ok := fun _ => True) (okp := fun _ => True) rfl (fun _ hk => hk) trivial (of_decide_eq_true (by first | (with_reducible assumption) | assumption)) (Nat.le_trans (Nat.mul_le_mul_right _ (of_decide_eq_true (by first | (with_reducible assumption) | assumption) : ji14.toNat ≤ 281474976710656)) (by omega)) (Below.refl _ _) (Nat.le_refl _) ?_; intro v400 w18 ho19 hb hg_ hnew_; clear hg_ hnew_; (first | rw [← Ny399.out] at ho19 | (simp only [Int.reduceToNat] at ho19; rw [← Ny399.out] at ho19)); have n0_ := Aside0.mk (Kd.R_elder' (by (with_reducible repeat (first | apply Kd.R_alloc | apply Kd.R_drewN | apply Kd.R_drew)); exact HO_7.out) (Kd.R_base ho19) hb); have n1_ := Aside0.mk (Kd.R_lower (Kd.R_new' ho19 (Kd.R_lt (by (with_reducible repeat (first | apply Kd.R_alloc | apply Kd.R_drewN | apply Kd.R_drew)); exact HO_7.out))) (below_size (by repeat (first | (with_reducible first | exact HB.out | apply below_alloc | apply pw_below_drewN | apply below_drew1) | exact HB.out)))); have n2_ := Aside0.mk (below_step (by repeat (first | (with_reducible first | exact HB.out | apply below_alloc | apply pw_below_drewN | apply below_drew1) | exact HB.out)) hb); clear HO_7; clear HB; have HO_7 := n0_; have HO401 := n1_; have HB := n2_; clear n0_ n1_ n2_; clear hb ho19; obtain ⟨Ao20, co20, eo20⟩ := Kd.R_slice HO401.out; subst eo20))
                go_loopg [46] kj7 (fun kq v46 w' => ∃ (x10_2 : List Int) (x46_2 : Int), v46 = .int .i64 x46_2 ∧ Aside0 (flintlaw06_RecCut.l0 kq l0 a2 t395 (Int.tmod (wrap64 (a1)) (t395.length : Int)) x10_2 (y399.length : Int) x46_2 = some r) ∧ Aside0 (kq ≤ kj7) ∧ Aside0 (Kd.R (Kd.int .u8) 5 w' w.heap.size (fun k_ => some k_ ≠ ((.slice Ao20 y399.length co20) : Value).ownBlock) (.slice Ao17 t395.length co17) t395) ∧ Aside0 (Kd.R (Kd.int .u8) 5 w' w.heap.size (fun k_ => some k_ ≠ ((.slice Ao17 t395.length co17) : Value).ownBlock) (.slice Ao20 y399.length co20) x10_2) ∧ Aside0 (Below w.heap.size w w'))
                case atStart => exact ⟨(y399), (0), (by first | rfl | (simp; done) | (simp [*]; done)), H', ⟨Nat.le_refl _⟩, ⟨by (with_reducible repeat (first | apply Kd.R_alloc | apply Kd.R_drewN | apply Kd.R_drew)); exact Kd.R_mono HO_7.out (fun _ hk => hk.2)⟩, ⟨by (with_reducible repeat (first | apply Kd.R_alloc | apply Kd.R_drewN | apply Kd.R_drew)); exact Kd.R_mono HO401.out (fun _ hk => hk.2)⟩, ⟨by repeat (first | (with_reducible first | exact HB.out | apply below_alloc | apply pw_below_drewN | apply below_drew1) | exact HB.out)⟩⟩
                case round =>
                  clear H'
                  try clear c1
                  try clear c2
                  try clear p2
                  try clear c4
                  try clear c4b0
                  try clear c4b1
                  try clear p6
                  try clear c9
                  try clear c10
                  try clear c10b0
                  try clear c10b1
                  try clear c12
                  try clear c13
                  try clear c13b0
                  try clear c13b1
                  try clear c13b2
                  try clear c15
                  try clear c15b0
                  try clear c15b1
                  try clear c16
                  try clear c16b0
                  try clear c16b1
                  try clear c19
                  try clear c20
                  try clear p2
                  obtain ⟨x10_2, x46_2, rfl, HA, HK2, HO_7, HO_10, HB⟩ := hrel
                  have hl10_2 := (Kd.R_reads' HO_10.out).1
                  rw [hl10_2] at HO_10
                  (try simp only [hl10_2])
                  (try simp only [hl10_2] at HO_7)
                  cases gk with
                  | zero => exact absurd HA.out (by simp [flintlaw06_RecCut.l0])
                  | succ k2 =>
                    have H := HA.out
                    clear HA
                    simp only [flintlaw06_RecCut.l0] at H
                    by_cases c21 : x46_2 < (y399.length : Int)
                    · rw [if_pos c21] at H
                      have c21b0 : decide (x46_2 < (y399.length : Int)) = true := decide_eq_true c21
                      clear c21
                      by_cases c22 : 0 ≤ x46_2
                      · rw [if_pos c22] at H
                        have c22b0 : decide (0 ≤ x46_2) = true := decide_eq_true c22
                        clear c22
                        by_cases c23 : x46_2 < (x10_2.length : Int)
                        · rw [if_pos c23] at H
                          have c23b0 : decide (x46_2 < (x10_2.length : Int)) = true := decide_eq_true c23
                          clear c23
                          obtain ⟨y402, hy402⟩ : ∃ y_ : List Int, y_ = (x10_2.set (x46_2 : Int).toNat 255) := ⟨_, rfl⟩
                          replace H : (flintlaw06_RecCut.l0 k2 l0 a2 t395 (Int.tmod (wrap64 (a1)) (t395.length : Int)) y402 (y399.length : Int) (wrap64 (x46_2 + 1))) = some r := by first | (rw [hy402]; with_reducible exact H) | (have H2_ := (Option.bind_some _ _).symm.trans H; rw [hy402]; with_reducible exact H2_) | (have H2_ := (Option.bind_some _ _).symm.trans H; with_reducible exact H2_) | with_reducible exact H | (rw [hy402]; exact H) | exact H
                          have Ny402 := Aside0.mk hy402
                          clear hy402
                          have H' := Aside0.mk H
                          clear H
                          have p24 : 0 ≤ (x46_2 : Int) := of_decide_eq_true (by first | (with_reducible assumption) | assumption)
                          have q24 : (x46_2 : Int) < ((x10_2.length : Int) : Int) := of_decide_eq_true (by first | (with_reducible assumption) | assumption)
                          obtain ⟨go24, co24, eo24, gb24, gl24, cl24, HG24⟩ := Kd.R_form HO_10.out (by omega)
                          (first | cases eo24 | (injection eo24 with ea_ en_ ec_; (first | subst ea_ | (injection ea_ with ea_; subst ea_)); subst ec_; clear en_))
                          have GB24 := Aside0.mk gb24
                          have GG24 := Aside0.mk HG24
                          clear gb24 gl24 HG24
                          obtain ⟨hx24_0, hf24_0⟩ := Kd.R_celln 0 HO_10.out (x46_2 : Int) p24 q24
                          replace p24 := eq_true p24
                          replace q24 := eq_true q24
                          have HP25 := Kd.R_putg HO_10.out (x46_2 : Int) 255
                          go_wp2_with (first | ((with_reducible refine gate_store (t := 5) (p := 51) rfl ?_); refine store_event (t := 5) (p := 51) (v := ?vo_w26) (w1 := (wr.setCell ⟨go24, (x46_2 : Int).toNat, none⟩ (.int .u8 255))) ?hg ?ho ?hn ?hr ?_; (case ho => rfl); (case hg => rfl); (case hn => rfl); (case hr => first | (go_simp; done) | (go_simp; rfl)); intro w26 hw; have hg : wr.grownBy w26 (some go24) := (by rw [hw]; exact HP25.2); have hp_ : Kd.R (Kd.int .u8) 5 w26 w.heap.size (fun k_ => some k_ ≠ (.slice Ao17 t395.length co17 : Value).ownBlock) (.slice (some ⟨go24, 0, none⟩) x10_2.length co20) y402 := (by rw [hw, Ny402.out]; exact HP25.1); clear HP25; have n0_ := Aside0.mk (Kd.R_after (v := (.slice (some ⟨go24, 0, none⟩) x10_2.length co20)) (v1 := (.slice (some ⟨go24, 0, none⟩) x10_2.length co20)) (ok := (fun _ => True)) (by (with_reducible repeat (first | apply Kd.R_alloc | apply Kd.R_drewN | apply Kd.R_drew)); exact Kd.R_mono HO_7.out (fun _ hk => ⟨trivial, hk⟩)) hg (.inl rfl)); have n1_ := Aside0.mk (hp_); have n2_ := Aside0.mk ((by rw [hw]; exact below_set (HB.out) GB24.out : Below w.heap.size w w26)); clear HO_7; clear HO_10; clear HB; have HO_7 := n0_; have HO_10 := n1_; have HB := n2_; clear n0_ n1_ n2_; clear hg hw hp_))
                          (try simp only [← hl10_2])
                          go_roundg k2
                          case measure => have := HJ7.out; have := HK2.out; omega
                          case rel => exact ⟨(y402), (wrap64 (x46_2 + 1)), (by first | rfl | (simp; done) | (simp [*]; done)), H', ⟨by have := HJ7.out; have := HK2.out; omega⟩, ⟨by (try simp only [hl10_2]); (with_reducible repeat (first | apply Kd.R_alloc | apply Kd.R_drewN | apply Kd.R_drew)); exact Kd.R_mono HO_7.out (fun _ hk => hk.2)⟩, ⟨by (try simp only [hl10_2]); (with_reducible repeat (first | apply Kd.R_alloc | apply Kd.R_drewN | apply Kd.R_drew)); exact HO_10.out⟩, ⟨by repeat (first | (with_reducible first | exact HB.out | apply below_alloc | apply pw_below_drewN | apply below_drew1) | exact HB.out)⟩⟩
                        · rw [if_neg c23] at H
                          exact absurd H (by simp)
                      · rw [if_neg c22] at H
                        exact absurd H (by simp)
                    · rw [if_neg c21] at H
                      have c21b0 : decide (x46_2 < (y399.length : Int)) = false := decide_eq_false c21
                      have c21x : decide (x46_2 < (x10_2.length : Int)) = false := by first | (rw [hl10_2]; exact c21b0) | (rw [← hl10_2]; exact c21b0)
                      clear c21
                      obtain ⟨ji27, hji27⟩ : ∃ j_ : Int, (Int.tmod (wrap64 (a1)) (t395.length : Int)) = j_ := ⟨_, rfl⟩
                      replace H : (if 0 ≤ (ji27) then (if (ji27) ≤ (t395.length : Int) then ((some (Kit.cpy x10_2 (t395.take ((ji27) : Int).toNat) : List Int)).bind fun y407 => (if (ji27) < (x10_2.length : Int) then (if (ji27) < (t395.length : Int) then (flintlaw06_RecCut.l1 k2 l0 (y407.set ((ji27) : Int).toNat (Go.bits .and .u8 (rd y407 (ji27)) (Go.bits .or .u8 (rd t395 (ji27)) (Go.bits .xor .u8 255 a2)))) true true t395 (t395.length : Int) 0) else (none)) else (none))) else (none)) else (none)) = some r := by first | (rw [hji27] at H; exact H) | (simp only [hji27] at H ⊢; exact H)
                      by_cases c28 : 0 ≤ (ji27)
                      · rw [if_pos c28] at H
                        have c28b0 := eq_true c28
                        have c28b1 : decide (0 ≤ (ji27)) = true := decide_eq_true c28
                        clear c28
                        by_cases c29 : (ji27) ≤ (t395.length : Int)
                        · rw [if_pos c29] at H
                          have c29b0 := eq_true c29
                          have c29b1 : decide ((ji27) ≤ (t395.length : Int)) = true := decide_eq_true c29
                          clear c29
                          obtain ⟨y403, hy403⟩ : ∃ y_ : List Int, y_ = (t395.take ((ji27) : Int).toNat) := ⟨_, rfl⟩
                          replace H : ((some (Kit.cpy x10_2 y403 : List Int)).bind fun y407 => (if (ji27) < (x10_2.length : Int) then (if (ji27) < (t395.length : Int) then (flintlaw06_RecCut.l1 k2 l0 (y407.set ((ji27) : Int).toNat (Go.bits .and .u8 (rd y407 (ji27)) (Go.bits .or .u8 (rd t395 (ji27)) (Go.bits .xor .u8 255 a2)))) true true t395 (t395.length : Int) 0) else (none)) else (none))) = some r := by first | (rw [hy403]; with_reducible exact H) | (have H2_ := (Option.bind_some _ _).symm.trans H; rw [hy403]; with_reducible exact H2_) | (have H2_ := (Option.bind_some _ _).symm.trans H; with_reducible exact H2_) | with_reducible exact H | (rw [hy403]; exact H) | exact H
                          have Ny403 := Aside0.mk hy403
                          clear hy403
                          obtain ⟨y407, hy407⟩ : ∃ y_ : List Int, y_ = (Kit.cpy x10_2 y403) := ⟨_, rfl⟩
                          replace H : (if (ji27) < (x10_2.length : Int) then (if (ji27) < (t395.length : Int) then (flintlaw06_RecCut.l1 k2 l0 (y407.set ((ji27) : Int).toNat (Go.bits .and .u8 (rd y407 (ji27)) (Go.bits .or .u8 (rd t395 (ji27)) (Go.bits .xor .u8 255 a2)))) true true t395 (t395.length : Int) 0) else (none)) else (none)) = some r := by first | (rw [hy407]; with_reducible exact H) | (have H2_ := (Option.bind_some _ _).symm.trans H; rw [hy407]; with_reducible exact H2_) | (have H2_ := (Option.bind_some _ _).symm.trans H; with_reducible exact H2_) | with_reducible exact H | (rw [hy407]; exact H) | exact H
                          have Ny407 := Aside0.mk hy407
                          clear hy407
                          by_cases c30 : (ji27) < (x10_2.length : Int)
                          · rw [if_pos c30] at H
                            have c30b0 : decide ((ji27) < (x10_2.length : Int)) = true := decide_eq_true c30
                            clear c30
                            by_cases c31 : (ji27) < (t395.length : Int)
                            · rw [if_pos c31] at H
                              have c31b0 : decide ((ji27) < (t395.length : Int)) = true := decide_eq_true c31
                              clear c31
                              obtain ⟨y410, hy410⟩ : ∃ y_ : List Int, y_ = (y407.set ((ji27) : Int).toNat (Go.bits .and .u8 (rd y407 (ji27)) (Go.bits .or .u8 (rd t395 (ji27)) (Go.bits .xor .u8 255 a2)))) := ⟨_, rfl⟩
                              replace H : (flintlaw06_RecCut.l1 k2 l0 y410 true true t395 (t395.length : Int) 0) = some r := by first | (rw [hy410]; with_reducible exact H) | (have H2_ := (Option.bind_some _ _).symm.trans H; rw [hy410]; with_reducible exact H2_) | (have H2_ := (Option.bind_some _ _).symm.trans H; with_reducible exact H2_) | with_reducible exact H | (rw [hy410]; exact H) | exact H
                              have Ny410 := Aside0.mk hy410
                              clear hy410
                              have H' := Aside0.mk H
                              clear H
                              have q33 : ((ji27) : Int) ≤ ((t395.length : Int) : Int) := of_decide_eq_true (by first | (with_reducible assumption) | assumption)
                              obtain ⟨i033, hi033, _, hsz33, _⟩ := info_parts info5
                              have hroom33 : t395.length ≤ co17 := (Kd.R_reads' HO_7.out).2.1
                              have hC33 : Kd.C (Kd.int .u8) _ Ao17 t395.length t395 := (Kd.R_reads' HO_7.out).2.2
                              have hcut33 := cut_to (P := Try.prog) 22 5 .i64 Try.underlying22 hi033 Ao17 t395.length co17 (ji27) (of_decide_eq_true (by first | (with_reducible assumption) | assumption)) q33 hroom33
                              have hr33 := Kd.C_take (m := ((ji27) : Int).toNat) hC33 (by omega)
                              have hy33 : y403.length = ((ji27) : Int).toNat := (by rw [Ny403.out, List.length_take]; omega)
                              rw [← Ny403.out] at hr33
                              rw [← hy33] at hcut33
                              have HR406 := Aside0.mk hr33
                              have HC406 := Aside0.mk (show y403.length ≤ co17 from by omega)
                              clear hr33 hC33 hroom33 hi033 hsz33
                              have KY33 := Aside0.mk hy33
                              clear hy33
                              have KL33 := Aside0.mk (show ((ji27) : Int).toNat ≤ t395.length from by omega)
                              replace q33 := eq_true q33
                              try go_wp2_with (first | ((with_reducible refine gate_builtin (b := .copy) (xs := #[.tmp 53, .tmp 56]) rfl ?_); (try (refine gate_guard (by rfl) ?_; dsimp only)); refine Kit.R_copy (P := Try.prog) (w0 := w) .u8 w.heap.size rfl (.tmp 53) (.tmp 56) 22 22 5 rfl Try.underlying22 (by kernel_rfl) (ok := (fun k_ => some k_ ≠ (.slice Ao17 t395.length co17 : Value).ownBlock)) (A := Ao20) (n := x10_2.length) (c := co20) (xs := x10_2) (ys := y403) rfl rfl ?aO ?aR ?aB ?aS ?_; (case aR => repeat (first | exact (by repeat (first | (with_reducible exact HR406.out) | (with_reducible refine Kd.C_alloc ?_ _) | (with_reducible refine Kd.C_drewN ?_ _) | (with_reducible refine Kd.C_drew ?_) | exact HR406.out)) | (with_reducible refine Kd.C_alloc ?_ _) | (with_reducible refine Kd.C_drewN ?_ _) | (with_reducible refine Kd.C_drew ?_))); (case aO => exact (by (with_reducible repeat (first | apply Kd.R_alloc | apply Kd.R_drewN | apply Kd.R_drew)); exact HO_10.out)); (case aB => exact (by repeat (first | (with_reducible first | exact HB.out | apply below_alloc | apply pw_below_drewN | apply below_drew1) | exact HB.out))); (case aS => exact (below_size (by repeat (first | (with_reducible first | exact HB.out | apply below_alloc | apply pw_below_drewN | apply below_drew1) | exact HB.out)))); intro z_ w34 ho hb hg; rw [← Ny407.out] at ho; have n0_ := Aside0.mk (Kd.R_after (v := (.slice Ao20 x10_2.length co20)) (v1 := (.slice Ao20 x10_2.length co20)) (ok := (fun _ => True)) (by (with_reducible repeat (first | apply Kd.R_alloc | apply Kd.R_drewN | apply Kd.R_drew)); exact Kd.R_mono HO_7.out (fun _ hk => ⟨trivial, hk⟩)) hg (.inl rfl)); have n1_ := Aside0.mk (ho); have n2_ := Aside0.mk (hb); clear HO_7; clear HO_10; clear HB; have HO_7 := n0_; have HO_10 := n1_; have HB := n2_; clear n0_ n1_ n2_; clear ho hb hg))
                              have n0_ := Aside0.mk (Kd.R_drew HO_7.out)
                              have n1_ := Aside0.mk (Kd.R_drew HO_10.out)
                              have n2_ := Aside0.mk (below_drew1 HB.out)
                              clear HO_7
                              clear HO_10
                              clear HB
                              have HO_7 := n0_
                              have HO_10 := n1_
                              have HB := n2_
                              clear n0_ n1_ n2_
                              have p408 : 0 ≤ ((ji27) : Int) := of_decide_eq_true (by first | (with_reducible assumption) | assumption)
                              have q408 : (ji27) < (y407.length : Int) := (by have h_ : ((ji27) : Int) < ((x10_2.length : Int) : Int) := of_decide_eq_true (by first | (with_reducible assumption) | assumption); first | (have e_ := (Kd.R_reads' HO_10.out).1; omega) | simpa only [Ny407.out, List.length_set] using h_)
                              have ql408 : (((ji27) : Int) < ((x10_2.length : Int) : Int)) = True := eq_true (of_decide_eq_true (by first | (with_reducible assumption) | assumption))
                              obtain ⟨ad408, e408, hx408_0⟩ := Kd.at_int (Kd.R_reads' HO_10.out).2.2 (ji27) p408 q408
                              cases e408
                              replace p408 := eq_true p408
                              replace q408 := eq_true q408
                              have p409 : 0 ≤ ((ji27) : Int) := of_decide_eq_true (by first | (with_reducible assumption) | assumption)
                              have q409 : (ji27) < (t395.length : Int) := of_decide_eq_true (by first | (with_reducible assumption) | assumption)
                              obtain ⟨ad409, e409, hx409_0⟩ := Kd.at_int (Kd.R_reads' HO_7.out).2.2 (ji27) p409 q409
                              cases e409
                              replace p409 := eq_true p409
                              replace q409 := eq_true q409
                              have p32 : 0 ≤ ((ji27) : Int) := of_decide_eq_true (by first | (with_reducible assumption) | assumption)
                              have q32 : ((ji27) : Int) < ((x10_2.length : Int) : Int) := of_decide_eq_true (by first | (with_reducible assumption) | assumption)
                              obtain ⟨go32, co32, eo32, gb32, gl32, cl32, HG32⟩ := Kd.R_form HO_10.out (by first | omega | (have e_ := (Kd.R_reads' HO_10.out).1; omega) | (simp only [Ny407.out, List.length_set]; omega))
                              (first | cases eo32 | (injection eo32 with ea_ en_ ec_; (first | subst ea_ | (injection ea_ with ea_; subst ea_)); subst ec_; clear en_))
                              have GB32 := Aside0.mk gb32
                              have GG32 := Aside0.mk HG32
                              clear gb32 gl32 HG32
                              (first | simp only [add_plain] at hx408_0 | skip)
                              obtain ⟨hx32_0, hf32_0⟩ := Kd.R_celln 0 HO_10.out ((ji27) : Int) p32 q32
                              replace p32 := eq_true p32
                              replace q32 := eq_true q32
                              have HP36 := Kd.R_putn HO_10.out ((ji27) : Int) (Go.bits .and .u8 (rd y407 (ji27)) (Go.bits .or .u8 (rd t395 (ji27)) (Go.bits .xor .u8 255 a2)))
                              rw [← Ny410.out] at HP36
                              have HQ36 := Aside0.mk HP36
                              clear HP36
                              refine start_ (n := 14) (S := fun w' => w'.cell? ⟨go32, ((ji27)).toNat, none⟩ = some (.int .u8 (rd y407 (ji27))) ∧ w'.cell? (ad409.add ((ji27)).toNat) = some (.int .u8 (rd t395 (ji27)))) (ds := [13]) #[false, false, false, false, false, false, false, false, false, false, false, false, false, false] (by kernel_rfl) rfl rfl ⟨hx408_0, hx409_0⟩ (fun hHeld => ?_); refine with_tabW flintlaw06_RecCut.tab14 flintlaw06_RecCut.bits14 (fun HT_ HW_ => ?_)
                              generalize w34.drew = w35 at HO_7 HO_10 HB GG32 HQ36 hf32_0 hx32_0 hx408_0 hx409_0 hHeld ⊢
                              refine pure_ (i := 0) (N := some 58) (v := ?_) (a' := ?_) #[true, false, false, false, false, false, false, false, false, false, false, false, false, false] rfl rfl (any_of HT_.out (by kernel_rfl)) (fun _ _ _ h => h) (Or.inl ⟨by rfl, ?_⟩) ?_ ?_
                              rotate_left
                              · intro w'
                                go_simp
                                with_reducible rfl
                              rotate_left
                              · simp only [Act.put, List.setIfInBounds_toArray, List.set_cons_zero, List.set_cons_succ, i64_w, i32_w]
                                rfl
                              refine pure_ (i := 1) (N := some 59) (v := ?_) (a' := ?_) #[true, true, false, false, false, false, false, false, false, false, false, false, false, false] rfl rfl (any_of HT_.out (by kernel_rfl)) (fun _ _ _ h => h) (Or.inl ⟨by rfl, ?_⟩) ?_ ?_
                              rotate_left
                              · intro w'
                                go_simp
                                with_reducible rfl
                              rotate_left
                              · simp only [Act.put, List.setIfInBounds_toArray, List.set_cons_zero, List.set_cons_succ, i64_w, i32_w]
                                rfl
                              refine pure_ (i := 2) (N := some 60) (v := ?_) (a' := ?_) #[true, true, true, false, false, false, false, false, false, false, false, false, false, false] rfl rfl (any_of HT_.out (by kernel_rfl)) (fun _ _ _ h => h) (Or.inl ⟨by rfl, ?_⟩) ?_ ?_
                              rotate_left
                              · intro w'
                                go_simp
                                with_reducible rfl
                              rotate_left
                              · simp only [Act.put, List.setIfInBounds_toArray, List.set_cons_zero, List.set_cons_succ, i64_w, i32_w]
                                rfl
                              refine pure_ (i := 4) (N := some 62) (v := ?_) (a' := ?_) #[true, true, true, false, true, false, false, false, false, false, false, false, false, false] rfl rfl (any_of HT_.out (by kernel_rfl)) (fun _ _ _ h => h) (Or.inl ⟨by rfl, ?_⟩) ?_ ?_
                              rotate_left
                              · intro w'
                                go_simp
                                with_reducible rfl
                              rotate_left
                              · simp only [Act.put, List.setIfInBounds_toArray, List.set_cons_zero, List.set_cons_succ, i64_w, i32_w]
                                rfl
                              refine pure_ (i := 5) (N := some 63) (v := ?_) (a' := ?_) #[true, true, true, false, true, true, false, false, false, false, false, false, false, false] rfl rfl (any_of HT_.out (by kernel_rfl)) (fun _ _ _ h => h) (Or.inl ⟨by rfl, ?_⟩) ?_ ?_
                              rotate_left
                              · intro w'
                                go_simp
                                with_reducible rfl
                              rotate_left
                              · simp only [Act.put, List.setIfInBounds_toArray, List.set_cons_zero, List.set_cons_succ, i64_w, i32_w]
                                rfl
                              refine pure_ (i := 6) (N := some 64) (v := ?_) (a' := ?_) #[true, true, true, false, true, true, true, false, false, false, false, false, false, false] rfl rfl (any_of HT_.out (by kernel_rfl)) (fun _ _ _ h => h) (Or.inl ⟨by rfl, ?_⟩) ?_ ?_
                              rotate_left
                              · intro w'
                                go_simp
                                with_reducible rfl
                              rotate_left
                              · simp only [Act.put, List.setIfInBounds_toArray, List.set_cons_zero, List.set_cons_succ, i64_w, i32_w]
                                rfl
                              refine pure_ (i := 8) (N := some 66) (v := ?_) (a' := ?_) #[true, true, true, false, true, true, true, false, true, false, false, false, false, false] rfl rfl (any_of HT_.out (by kernel_rfl)) (fun _ _ _ h => h) (Or.inl ⟨by rfl, ?_⟩) ?_ ?_
                              rotate_left
                              · intro w'
                                go_simp
                                with_reducible rfl
                              rotate_left
                              · simp only [Act.put, List.setIfInBounds_toArray, List.set_cons_zero, List.set_cons_succ, i64_w, i32_w]
                                rfl
                              refine pure_ (i := 9) (N := some 67) (v := ?_) (a' := ?_) #[true, true, true, false, true, true, true, false, true, true, false, false, false, false] rfl rfl (any_of HT_.out (by kernel_rfl)) (fun _ _ _ h => h) (Or.inl ⟨by rfl, ?_⟩) ?_ ?_
                              rotate_left
                              · intro w'
                                go_simp
                                with_reducible rfl
                              rotate_left
                              · simp only [Act.put, List.setIfInBounds_toArray, List.set_cons_zero, List.set_cons_succ, i64_w, i32_w]
                                rfl
                              refine take_ (i := 3) (N := some 61) (v := ?_) (a' := ?_) #[true, true, true, true, true, true, true, false, true, true, false, false, false, false] rfl rfl (take_ofW HT_.out HW_.out (by kernel_rfl)) (fun _ _ _ h => h) (Or.inl ⟨by rfl, ?_⟩) hHeld ?_ ?_
                              rotate_left
                              · rintro w' ⟨s0, s1⟩
                                go_simp
                                with_reducible rfl
                              rotate_left
                              · simp only [Act.put, List.setIfInBounds_toArray, List.set_cons_zero, List.set_cons_succ, i64_w, i32_w]
                                rfl
                              refine take_ (i := 7) (N := some 65) (v := ?_) (a' := ?_) #[true, true, true, true, true, true, true, true, true, true, false, false, false, false] rfl rfl (take_ofW HT_.out HW_.out (by kernel_rfl)) (fun _ _ _ h => h) (Or.inl ⟨by rfl, ?_⟩) hHeld ?_ ?_
                              rotate_left
                              · rintro w' ⟨s0, s1⟩
                                go_simp
                                with_reducible rfl
                              rotate_left
                              · simp only [Act.put, List.setIfInBounds_toArray, List.set_cons_zero, List.set_cons_succ, i64_w, i32_w]
                                rfl
                              refine pure_ (i := 10) (N := some 68) (v := ?_) (a' := ?_) #[true, true, true, true, true, true, true, true, true, true, true, false, false, false] rfl rfl (any_of HT_.out (by kernel_rfl)) (fun _ _ _ h => h) (Or.inl ⟨by rfl, ?_⟩) ?_ ?_
                              rotate_left
                              · intro w'
                                go_simp
                                with_reducible rfl
                              rotate_left
                              · simp only [Act.put, List.setIfInBounds_toArray, List.set_cons_zero, List.set_cons_succ, i64_w, i32_w]
                                rfl
                              refine pure_ (i := 11) (N := some 69) (v := ?_) (a' := ?_) #[true, true, true, true, true, true, true, true, true, true, true, true, false, false] rfl rfl (any_of HT_.out (by kernel_rfl)) (fun _ _ _ h => h) (Or.inl ⟨by rfl, ?_⟩) ?_ ?_
                              rotate_left
                              · intro w'
                                go_simp
                                with_reducible rfl
                              rotate_left
                              · simp only [Act.put, List.setIfInBounds_toArray, List.set_cons_zero, List.set_cons_succ, i64_w, i32_w]
                                rfl
                              refine pure_ (i := 12) (N := some 70) (v := ?_) (a' := ?_) #[true, true, true, true, true, true, true, true, true, true, true, true, true, false] rfl rfl (any_of HT_.out (by kernel_rfl)) (fun _ _ _ h => h) (Or.inl ⟨by rfl, ?_⟩) ?_ ?_
                              rotate_left
                              · intro w'
                                go_simp
                                with_reducible rfl
                              rotate_left
                              · simp only [Act.put, List.setIfInBounds_toArray, List.set_cons_zero, List.set_cons_succ, i64_w, i32_w]
                                rfl
                              refine last_ (i := 13) (N := none) #[true, true, true, true, true, true, true, true, true, true, true, true, true, true] rfl rfl (one_of HT_.out (by kernel_rfl)) (by decide) (fun K hK => ?_)
                              refine skip_ (w1 := ?_) (by rfl) rfl ?_ ?_
                              rotate_left
                              · go_simp
                                rfl
                              refine hK.out _ _ ?_
                              clear hK K
                              refine done_ (done_of HT_.out (by kernel_rfl)) ?_
                              try go_wp2
                              go_loopg [12, 13, 73] k2 (fun kq v12 v13 v73 w' => ∃ (x12_3 : Bool) (x13_3 : Bool) (x73_3 : Int), v12 = .bool x12_3 ∧ v13 = .bool x13_3 ∧ v73 = .int .i64 x73_3 ∧ Aside0 (flintlaw06_RecCut.l1 kq l0 y410 x12_3 x13_3 t395 (t395.length : Int) x73_3 = some r) ∧ Aside0 (kq ≤ k2) ∧ Aside0 (Kd.R (Kd.int .u8) 5 w' w.heap.size (fun k_ => some k_ ≠ ((.slice (some ad409) t395.length co17) : Value).ownBlock) (.slice (some ⟨go32, 0, none⟩) x10_2.length co20) y410) ∧ Aside0 (Kd.R (Kd.int .u8) 5 w' w.heap.size (fun k_ => some k_ ≠ ((.slice (some ⟨go32, 0, none⟩) x10_2.length co20) : Value).ownBlock) (.slice (some ad409) t395.length co17) t395) ∧ Aside0 (Below w.heap.size w w'))
                              case atStart => exact ⟨(true), (true), (0), (by first | rfl | (simp; done) | (simp [*]; done)), (by first | rfl | (simp; done) | (simp [*]; done)), (by first | rfl | (simp; done) | (simp [*]; done)), H', ⟨Nat.le_refl _⟩, ⟨by (try simp only [hl10_2]); (with_reducible repeat (first | apply Kd.R_alloc | apply Kd.R_drewN | apply Kd.R_drew)); exact HQ36.out⟩, ⟨by (try simp only [hl10_2]); (with_reducible repeat (first | apply Kd.R_alloc | apply Kd.R_drewN | apply Kd.R_drew)); exact Kd.R_mono (Kd.R_far (p := ⟨go32, ((ji27) : Int).toNat, none⟩) (Kd.R_mono HO_7.out (fun k_ hk => (⟨hk, fun e_ => hk.2 (by rw [e_]; rfl)⟩ : _ ∧ k_ ≠ go32))) (fun _ hk => hk.2) (.int .u8 (Go.bits .and .u8 (rd y407 (ji27)) (Go.bits .or .u8 (rd t395 (ji27)) (Go.bits .xor .u8 255 a2))))) (fun _ hk => hk.1.2)⟩, ⟨by repeat (first | (with_reducible first | exact HB.out | apply below_alloc | apply pw_below_drewN | apply below_drew1 | refine below_set ?_ GB32.out) | exact HB.out)⟩⟩
                              case round =>
                                clear H'
                                try clear c1
                                try clear c2
                                try clear p2
                                try clear q2
                                try clear hx2
                                try clear c3
                                try clear p3
                                try clear q3
                                try clear hx3
                                try clear hf3
                                try clear c4
                                try clear c4b0
                                try clear c4b1
                                try clear p4
                                try clear q4
                                try clear hx4
                                try clear p6
                                try clear c9
                                try clear c10
                                try clear c10b0
                                try clear c10b1
                                try clear c12
                                try clear c13
                                try clear c13b0
                                try clear c13b1
                                try clear c13b2
                                try clear c15
                                try clear c15b0
                                try clear c15b1
                                try clear c16
                                try clear c16b0
                                try clear c16b1
                                try clear c19
                                try clear c20
                                try clear c21
                                try clear c21b0
                                try clear c22
                                try clear c22b0
                                try clear c23
                                try clear c23b0
                                try clear p24
                                try clear q24
                                try clear hx24
                                try clear hf24
                                try clear c28
                                try clear c28b0
                                try clear c28b1
                                try clear c29
                                try clear c29b0
                                try clear c29b1
                                try clear c30
                                try clear c30b0
                                try clear c31
                                try clear c31b0
                                try clear p32
                                try clear q32
                                try clear hx32
                                try clear hf32
                                try clear q33
                                try clear hx24_0
                                try clear hx32_0
                                try clear hx408_0
                                try clear hx409_0
                                try clear p2
                                try clear p24
                                try clear p32
                                try clear p408
                                try clear p409
                                try clear p6
                                try clear q24
                                try clear q32
                                try clear q33
                                try clear q408
                                try clear q409
                                obtain ⟨x12_3, x13_3, x73_3, rfl, rfl, rfl, HA, HK3, HO_10, HO_71, HB⟩ := hrel
                                have hl10_3 := (Kd.R_reads' HO_10.out).1
                                rw [hl10_3] at HO_10
                                (try simp only [hl10_3])
                                (try simp only [hl10_3] at HO_71)
                                cases gk with
                                | zero => exact absurd HA.out (by simp [flintlaw06_RecCut.l1])
                                | succ k3 =>
                                  have H := HA.out
                                  clear HA
                                  simp only [flintlaw06_RecCut.l1] at H
                                  by_cases c37 : x73_3 < (t395.length : Int)
                                  · rw [if_pos c37] at H
                                    have c37b0 : decide (x73_3 < (t395.length : Int)) = true := decide_eq_true c37
                                    clear c37
                                    by_cases c38 : 0 ≤ x73_3
                                    · rw [if_pos c38] at H
                                      have c38b0 : decide (0 ≤ x73_3) = true := decide_eq_true c38
                                      clear c38
                                      by_cases c39 : x73_3 < (t395.length : Int)
                                      · rw [if_pos c39] at H
                                        have c39b0 : decide (x73_3 < (t395.length : Int)) = true := decide_eq_true c39
                                        clear c39
                                        by_cases c40 : x12_3 = true
                                        · subst c40
                                          have H1 : (if x73_3 < (y410.length : Int) then (if x13_3 = true then (flintlaw06_RecCut.l1 k3 l0 y410 ((rd y410 x73_3) == (rd t395 x73_3)) ((rd y410 x73_3) == 255) t395 (t395.length : Int) (wrap64 (x73_3 + 1))) else (flintlaw06_RecCut.l1 k3 l0 y410 ((rd y410 x73_3) == (rd t395 x73_3)) false t395 (t395.length : Int) (wrap64 (x73_3 + 1)))) else (none)) = some r := by rw [if_pos rfl] at H; exact H
                                          clear H
                                          have H := H1
                                          clear H1
                                          by_cases c41 : x73_3 < (y410.length : Int)
                                          · rw [if_pos c41] at H
                                            have c41b0 : decide (x73_3 < (y410.length : Int)) = true := decide_eq_true c41
                                            clear c41
                                            by_cases c42 : x13_3 = true
                                            · subst c42
                                              have H1 : (flintlaw06_RecCut.l1 k3 l0 y410 ((rd y410 x73_3) == (rd t395 x73_3)) ((rd y410 x73_3) == 255) t395 (t395.length : Int) (wrap64 (x73_3 + 1))) = some r := by rw [if_pos rfl] at H; exact H
                                              clear H
                                              have H := H1
                                              clear H1
                                              have H' := Aside0.mk H
                                              clear H
                                              have p411 : 0 ≤ (x73_3 : Int) := of_decide_eq_true (by first | (with_reducible assumption) | assumption)
                                              have q411 : x73_3 < (t395.length : Int) := of_decide_eq_true (by first | (with_reducible assumption) | assumption)
                                              obtain ⟨ad411, e411, hx411_0⟩ := Kd.at_int (Kd.R_reads' HO_71.out).2.2 x73_3 p411 q411
                                              obtain rfl : ad409 = ad411 := (by injection e411)
                                              replace p411 := eq_true p411
                                              replace q411 := eq_true q411
                                              have p412 : 0 ≤ (x73_3 : Int) := of_decide_eq_true (by first | (with_reducible assumption) | assumption)
                                              have q412 : x73_3 < (y410.length : Int) := of_decide_eq_true (by first | (with_reducible assumption) | assumption)
                                              obtain ⟨ad412, e412, hx412_0⟩ := Kd.at_int (Kd.R_reads' HO_10.out).2.2 x73_3 p412 q412
                                              obtain rfl : (⟨go32, 0, none⟩ : Addr) = ad412 := (by injection e412)
                                              (first | simp only [add_plain] at hx412_0 | simp only [add_at] at hx412_0 | simp only [Addr.add, Nat.zero_add] at hx412_0 | skip)
                                              replace p412 := eq_true p412
                                              replace q412 := eq_true q412
                                              have p413 : 0 ≤ (x73_3 : Int) := of_decide_eq_true (by first | (with_reducible assumption) | assumption)
                                              have q413 : x73_3 < (y410.length : Int) := of_decide_eq_true (by first | (with_reducible assumption) | assumption)
                                              obtain ⟨ad413, e413, hx413_0⟩ := Kd.at_int (Kd.R_reads' HO_10.out).2.2 x73_3 p413 q413
                                              obtain rfl : (⟨go32, 0, none⟩ : Addr) = ad413 := (by injection e413)
                                              (first | simp only [add_plain] at hx413_0 | simp only [add_at] at hx413_0 | simp only [Addr.add, Nat.zero_add] at hx413_0 | skip)
                                              replace p413 := eq_true p413
                                              replace q413 := eq_true q413
                                              go_wp2
                                              (try simp only [← hl10_3])
                                              go_roundg k3
                                              case measure => have := HJ7.out; have := HK2.out; have := HK3.out; omega
                                              case rel => exact ⟨(((rd y410 x73_3) == (rd t395 x73_3))), (((rd y410 x73_3) == 255)), (wrap64 (x73_3 + 1)), (by first | rfl | (simp; done) | (simp [*]; done)), (by first | rfl | (simp; done) | (simp [*]; done)), (by first | rfl | (simp; done) | (simp [*]; done)), H', ⟨by have := HJ7.out; have := HK2.out; have := HK3.out; omega⟩, ⟨by (try simp only [hl10_2]); (try simp only [hl10_3]); (with_reducible repeat (first | apply Kd.R_alloc | apply Kd.R_drewN | apply Kd.R_drew)); exact HO_10.out⟩, ⟨by (try simp only [hl10_2]); (try simp only [hl10_3]); (with_reducible repeat (first | apply Kd.R_alloc | apply Kd.R_drewN | apply Kd.R_drew)); exact HO_71.out⟩, ⟨by repeat (first | (with_reducible first | exact HB.out | apply below_alloc | apply pw_below_drewN | apply below_drew1) | exact HB.out)⟩⟩
                                            · replace c42 := Bool.eq_false_iff.mpr c42
                                              subst c42
                                              have H1 : (flintlaw06_RecCut.l1 k3 l0 y410 ((rd y410 x73_3) == (rd t395 x73_3)) false t395 (t395.length : Int) (wrap64 (x73_3 + 1))) = some r := by rw [if_neg (show ¬ (false = true) by decide)] at H; exact H
                                              clear H
                                              have H := H1
                                              clear H1
                                              have H' := Aside0.mk H
                                              clear H
                                              have p411 : 0 ≤ (x73_3 : Int) := of_decide_eq_true (by first | (with_reducible assumption) | assumption)
                                              have q411 : x73_3 < (t395.length : Int) := of_decide_eq_true (by first | (with_reducible assumption) | assumption)
                                              obtain ⟨ad411, e411, hx411_0⟩ := Kd.at_int (Kd.R_reads' HO_71.out).2.2 x73_3 p411 q411
                                              obtain rfl : ad409 = ad411 := (by injection e411)
                                              replace p411 := eq_true p411
                                              replace q411 := eq_true q411
                                              have p412 : 0 ≤ (x73_3 : Int) := of_decide_eq_true (by first | (with_reducible assumption) | assumption)
                                              have q412 : x73_3 < (y410.length : Int) := of_decide_eq_true (by first | (with_reducible assumption) | assumption)
                                              obtain ⟨ad412, e412, hx412_0⟩ := Kd.at_int (Kd.R_reads' HO_10.out).2.2 x73_3 p412 q412
                                              obtain rfl : (⟨go32, 0, none⟩ : Addr) = ad412 := (by injection e412)
                                              (first | simp only [add_plain] at hx412_0 | simp only [add_at] at hx412_0 | simp only [Addr.add, Nat.zero_add] at hx412_0 | skip)
                                              replace p412 := eq_true p412
                                              replace q412 := eq_true q412
                                              go_wp2
                                              (try simp only [← hl10_3])
                                              go_roundg k3
                                              case measure => have := HJ7.out; have := HK2.out; have := HK3.out; omega
                                              case rel => exact ⟨(((rd y410 x73_3) == (rd t395 x73_3))), (false), (wrap64 (x73_3 + 1)), (by first | rfl | (simp; done) | (simp [*]; done)), (by first | rfl | (simp; done) | (simp [*]; done)), (by first | rfl | (simp; done) | (simp [*]; done)), H', ⟨by have := HJ7.out; have := HK2.out; have := HK3.out; omega⟩, ⟨by (try simp only [hl10_2]); (try simp only [hl10_3]); (with_reducible repeat (first | apply Kd.R_alloc | apply Kd.R_drewN | apply Kd.R_drew)); exact HO_10.out⟩, ⟨by (try simp only [hl10_2]); (try simp only [hl10_3]); (with_reducible repeat (first | apply Kd.R_alloc | apply Kd.R_drewN | apply Kd.R_drew)); exact HO_71.out⟩, ⟨by repeat (first | (with_reducible first | exact HB.out | apply below_alloc | apply pw_below_drewN | apply below_drew1) | exact HB.out)⟩⟩
                                          · rw [if_neg c41] at H
                                            exact absurd H (by simp)
                                        · replace c40 := Bool.eq_false_iff.mpr c40
                                          subst c40
                                          have H1 : (if x13_3 = true then (if x73_3 < (y410.length : Int) then (flintlaw06_RecCut.l1 k3 l0 y410 false ((rd y410 x73_3) == 255) t395 (t395.length : Int) (wrap64 (x73_3 + 1))) else (none)) else (flintlaw06_RecCut.l1 k3 l0 y410 false false t395 (t395.length : Int) (wrap64 (x73_3 + 1)))) = some r := by rw [if_neg (show ¬ (false = true) by decide)] at H; exact H
                                          clear H
                                          have H := H1
                                          clear H1
                                          by_cases c43 : x13_3 = true
                                          · subst c43
                                            have H1 : (if x73_3 < (y410.length : Int) then (flintlaw06_RecCut.l1 k3 l0 y410 false ((rd y410 x73_3) == 255) t395 (t395.length : Int) (wrap64 (x73_3 + 1))) else (none)) = some r := by rw [if_pos rfl] at H; exact H
                                            clear H
                                            have H := H1
                                            clear H1
                                            by_cases c44 : x73_3 < (y410.length : Int)
                                            · rw [if_pos c44] at H
                                              have c44b0 : decide (x73_3 < (y410.length : Int)) = true := decide_eq_true c44
                                              clear c44
                                              have H' := Aside0.mk H
                                              clear H
                                              have p411 : 0 ≤ (x73_3 : Int) := of_decide_eq_true (by first | (with_reducible assumption) | assumption)
                                              have q411 : x73_3 < (t395.length : Int) := of_decide_eq_true (by first | (with_reducible assumption) | assumption)
                                              obtain ⟨ad411, e411, hx411_0⟩ := Kd.at_int (Kd.R_reads' HO_71.out).2.2 x73_3 p411 q411
                                              obtain rfl : ad409 = ad411 := (by injection e411)
                                              replace p411 := eq_true p411
                                              replace q411 := eq_true q411
                                              have p414 : 0 ≤ (x73_3 : Int) := of_decide_eq_true (by first | (with_reducible assumption) | assumption)
                                              have q414 : x73_3 < (y410.length : Int) := of_decide_eq_true (by first | (with_reducible assumption) | assumption)
                                              obtain ⟨ad414, e414, hx414_0⟩ := Kd.at_int (Kd.R_reads' HO_10.out).2.2 x73_3 p414 q414
                                              obtain rfl : (⟨go32, 0, none⟩ : Addr) = ad414 := (by injection e414)
                                              (first | simp only [add_plain] at hx414_0 | simp only [add_at] at hx414_0 | simp only [Addr.add, Nat.zero_add] at hx414_0 | skip)
                                              replace p414 := eq_true p414
                                              replace q414 := eq_true q414
                                              go_wp2
                                              (try simp only [← hl10_3])
                                              go_roundg k3
                                              case measure => have := HJ7.out; have := HK2.out; have := HK3.out; omega
                                              case rel => exact ⟨(false), (((rd y410 x73_3) == 255)), (wrap64 (x73_3 + 1)), (by first | rfl | (simp; done) | (simp [*]; done)), (by first | rfl | (simp; done) | (simp [*]; done)), (by first | rfl | (simp; done) | (simp [*]; done)), H', ⟨by have := HJ7.out; have := HK2.out; have := HK3.out; omega⟩, ⟨by (try simp only [hl10_2]); (try simp only [hl10_3]); (with_reducible repeat (first | apply Kd.R_alloc | apply Kd.R_drewN | apply Kd.R_drew)); exact HO_10.out⟩, ⟨by (try simp only [hl10_2]); (try simp only [hl10_3]); (with_reducible repeat (first | apply Kd.R_alloc | apply Kd.R_drewN | apply Kd.R_drew)); exact HO_71.out⟩, ⟨by repeat (first | (with_reducible first | exact HB.out | apply below_alloc | apply pw_below_drewN | apply below_drew1) | exact HB.out)⟩⟩
                                            · rw [if_neg c44] at H
                                              exact absurd H (by simp)
                                          · replace c43 := Bool.eq_false_iff.mpr c43
                                            subst c43
                                            have H1 : (flintlaw06_RecCut.l1 k3 l0 y410 false false t395 (t395.length : Int) (wrap64 (x73_3 + 1))) = some r := by rw [if_neg (show ¬ (false = true) by decide)] at H; exact H
                                            clear H
                                            have H := H1
                                            clear H1
                                            have H' := Aside0.mk H
                                            clear H
                                            have p411 : 0 ≤ (x73_3 : Int) := of_decide_eq_true (by first | (with_reducible assumption) | assumption)
                                            have q411 : x73_3 < (t395.length : Int) := of_decide_eq_true (by first | (with_reducible assumption) | assumption)
                                            obtain ⟨ad411, e411, hx411_0⟩ := Kd.at_int (Kd.R_reads' HO_71.out).2.2 x73_3 p411 q411
                                            obtain rfl : ad409 = ad411 := (by injection e411)
                                            replace p411 := eq_true p411
                                            replace q411 := eq_true q411
                                            go_wp2
                                            (try simp only [← hl10_3])
                                            go_roundg k3
                                            case measure => have := HJ7.out; have := HK2.out; have := HK3.out; omega
                                            case rel => exact ⟨(false), (false), (wrap64 (x73_3 + 1)), (by first | rfl | (simp; done) | (simp [*]; done)), (by first | rfl | (simp; done) | (simp [*]; done)), (by first | rfl | (simp; done) | (simp [*]; done)), H', ⟨by have := HJ7.out; have := HK2.out; have := HK3.out; omega⟩, ⟨by (try simp only [hl10_2]); (try simp only [hl10_3]); (with_reducible repeat (first | apply Kd.R_alloc | apply Kd.R_drewN | apply Kd.R_drew)); exact HO_10.out⟩, ⟨by (try simp only [hl10_2]); (try simp only [hl10_3]); (with_reducible repeat (first | apply Kd.R_alloc | apply Kd.R_drewN | apply Kd.R_drew)); exact HO_71.out⟩, ⟨by repeat (first | (with_reducible first | exact HB.out | apply below_alloc | apply pw_below_drewN | apply below_drew1) | exact HB.out)⟩⟩
                                      · rw [if_neg c39] at H
                                        exact absurd H (by simp)
                                    · rw [if_neg c38] at H
                                      exact absurd H (by simp)
                                  · rw [if_neg c37] at H
                                    have c37b0 : decide (x73_3 < (t395.length : Int)) = false := decide_eq_false c37
                                    clear c37
                                    replace H := Option.bind_eq_some_iff.mp H
                                    obtain ⟨⟨t415, t416, t417⟩, A450, H⟩ := H
                                    replace H : (if x12_3 = true then ((flintlaw06_fixed.f k3).bind fun t420 => (if t420 = true then (if t415 = 4 then (some ((strOfNums t416).toList == (strOfNums l0).toList)) else (some false)) else (some false))) else (if x13_3 = true then ((flintlaw06_fixed.f k3).bind fun t421 => (if t421 = true then (if t415 = 0 then (some ((t416.length : Int) == 0)) else (some false)) else (some false))) else ((flintlaw06_fixed.f k3).bind fun t422 => (if t422 = true then (if t415 = 3 then (some ((t416.length : Int) == 0)) else (some false)) else (some false))))) = some r := H
                                    have A45 := Aside0.mk A450
                                    clear A450
                                    by_cases c46 : x12_3 = true
                                    · subst c46
                                      have H1 : ((flintlaw06_fixed.f k3).bind fun t420 => (if t420 = true then (if t415 = 4 then (some ((strOfNums t416).toList == (strOfNums l0).toList)) else (some false)) else (some false))) = some r := by rw [if_pos rfl] at H; exact H
                                      clear H
                                      have H := H1
                                      clear H1
                                      replace H := Option.bind_eq_some_iff.mp H
                                      obtain ⟨t420, A470, H⟩ := H
                                      replace H : (if t420 = true then (if t415 = 4 then (some ((strOfNums t416).toList == (strOfNums l0).toList)) else (some false)) else (some false)) = some r := H
                                      have A47 := Aside0.mk A470
                                      clear A470
                                      by_cases c48 : t420 = true
                                      · subst c48
                                        have H1 : (if t415 = 4 then (some ((strOfNums t416).toList == (strOfNums l0).toList)) else (some false)) = some r := by rw [if_pos rfl] at H; exact H
                                        clear H
                                        have H := H1
                                        clear H1
                                        by_cases c49 : t415 = 4
                                        · rw [if_pos c49] at H
                                          have c49b0 : (t415 == 4) = true := beq_iff_eq.mpr c49
                                          have c49b1 : (t415 != 4) = false := bne_eq_false_iff_eq.mpr c49
                                          clear c49
                                          obtain rfl := Option.some.inj H
                                          go_wp2_with (first | ((with_reducible refine gate_callee (f := 23) rfl ?_); refine goesL_ (some 98) rfl rfl Try.func23 (by kernel_rfl) rfl #[.slice (some ⟨go32, 0, none⟩) y410.length co20, .int .i64 0] rfl (by (try simp only [List.map_toArray, List.map_cons, List.map_nil]); first | done | rfl | (simp only [List.length_drop, List.length_take]; rfl)) ?_; (with_reducible refine (rec_Class.calls k3 _ _ y410 0 t415 t416 t417 _ ?side1 ?side2 A45.out).mono ?_); (case side1 => repeat (first | exact (Kd.R_reads' HO_10.out).2.2 | (with_reducible refine Kd.C_alloc ?_ _) | (with_reducible refine Kd.C_drewN ?_ _) | (with_reducible refine Kd.C_drew ?_))); (case side2 => exact (Kd.R_reads' HO_10.out).2.1); rintro e w50 ⟨v418, rfl, ho0, hb⟩; refine ⟨_, rfl, ?_⟩; have n0_ := Aside0.mk (Kd.R_elder' (by (with_reducible repeat (first | apply Kd.R_alloc | apply Kd.R_drewN | apply Kd.R_drew)); exact HO_10.out) (Kd.R_base ho0) hb); have n1_ := Aside0.mk (Kd.R_elder' (by (with_reducible repeat (first | apply Kd.R_alloc | apply Kd.R_drewN | apply Kd.R_drew)); exact HO_71.out) (Kd.R_base ho0) hb); have n2_ := Aside0.mk (Kd.R_lower (Kd.R_new' (Kd.R_new' ho0 (Kd.R_lt (by (with_reducible repeat (first | apply Kd.R_alloc | apply Kd.R_drewN | apply Kd.R_drew)); exact HO_10.out))) (Kd.R_lt (by (with_reducible repeat (first | apply Kd.R_alloc | apply Kd.R_drewN | apply Kd.R_drew)); exact HO_71.out))) (below_size (by repeat (first | (with_reducible first | exact HB.out | apply below_alloc | apply pw_below_drewN | apply below_drew1) | exact HB.out)))); have n3_ := Aside0.mk (below_step (by repeat (first | (with_reducible first | exact HB.out | apply below_alloc | apply pw_below_drewN | apply below_drew1) | exact HB.out)) hb); clear HO_10; clear HO_71; clear HB; have HO_10 := n0_; have HO_71 := n1_; have HO419 := n2_; have HB := n3_; clear n0_ n1_ n2_ n3_; (try clear hb); (try clear hb2); (try clear hk); (try clear hi); (try clear ho0)) | ((with_reducible refine gate_callee (f := 19) rfl ?_); refine goesL_ (some 104) rfl rfl Try.func19 (by kernel_rfl) rfl #[] rfl (by (try simp only [List.map_toArray, List.map_cons, List.map_nil]); first | done | rfl | (simp only [List.length_drop, List.length_take]; rfl)) ?_; (with_reducible refine (flintlaw06_fixed.calls k3  true _ A47.out).mono ?_); rintro e w51 ⟨rfl, hb⟩; refine ⟨_, rfl, ?_⟩; have n0_ := Aside0.mk (Kd.R_below (by (with_reducible repeat (first | apply Kd.R_alloc | apply Kd.R_drewN | apply Kd.R_drew)); exact HO_10.out) hb); have n1_ := Aside0.mk (Kd.R_below (by (with_reducible repeat (first | apply Kd.R_alloc | apply Kd.R_drewN | apply Kd.R_drew)); exact HO_71.out) hb); have n2_ := Aside0.mk (Kd.R_below (by (with_reducible repeat (first | apply Kd.R_alloc | apply Kd.R_drewN | apply Kd.R_drew)); exact HO419.out) hb); have n3_ := Aside0.mk (below_step (by repeat (first | (with_reducible first | exact HB.out | apply below_alloc | apply pw_below_drewN | apply below_drew1) | exact HB.out)) hb); clear HO_10; clear HO_71; clear HO419; clear HB; have HO_10 := n0_; have HO_71 := n1_; have HO419 := n2_; have HB := n3_; clear n0_ n1_ n2_ n3_; (try clear hb); (try clear hb2); (try clear hk); (try clear hi); have hcv52 := own_string (P := Try.prog) Try.underlying22 Try.underlying5 Try.underlying9 (Kd.own_of_R HO419.out); have hcv53 := Kd.C_string (P := Try.prog) (A := A0) (c := c0) Try.underlying22 Try.underlying5 Try.underlying9 (Kd.C_below HR0.out HB.out)))
                                          go_ret
                                          exact ⟨by first | rfl | (simp [errW_none, errW_some] <;> rfl) | (simp only [← hji14, ← hji27]; first | rfl | (simp [errW_none, errW_some] <;> rfl)) | (simp [*, errW_none, errW_some] <;> rfl), by repeat (first | (with_reducible first | exact HB.out | apply below_alloc | apply pw_below_drewN | apply below_drew1) | exact HB.out)⟩
                                        · rw [if_neg c49] at H
                                          have c49b0 : (t415 == 4) = false := beq_eq_false_iff_ne.mpr c49
                                          have c49b1 : (t415 != 4) = true := bne_iff_ne.mpr c49
                                          obtain rfl := Option.some.inj H
                                          go_wp2_with (first | ((with_reducible refine gate_callee (f := 23) rfl ?_); refine goesL_ (some 98) rfl rfl Try.func23 (by kernel_rfl) rfl #[.slice (some ⟨go32, 0, none⟩) y410.length co20, .int .i64 0] rfl (by (try simp only [List.map_toArray, List.map_cons, List.map_nil]); first | done | rfl | (simp only [List.length_drop, List.length_take]; rfl)) ?_; (with_reducible refine (rec_Class.calls k3 _ _ y410 0 t415 t416 t417 _ ?side1 ?side2 A45.out).mono ?_); (case side1 => repeat (first | exact (Kd.R_reads' HO_10.out).2.2 | (with_reducible refine Kd.C_alloc ?_ _) | (with_reducible refine Kd.C_drewN ?_ _) | (with_reducible refine Kd.C_drew ?_))); (case side2 => exact (Kd.R_reads' HO_10.out).2.1); rintro e w54 ⟨v418, rfl, ho0, hb⟩; refine ⟨_, rfl, ?_⟩; have n0_ := Aside0.mk (Kd.R_elder' (by (with_reducible repeat (first | apply Kd.R_alloc | apply Kd.R_drewN | apply Kd.R_drew)); exact HO_10.out) (Kd.R_base ho0) hb); have n1_ := Aside0.mk (Kd.R_elder' (by (with_reducible repeat (first | apply Kd.R_alloc | apply Kd.R_drewN | apply Kd.R_drew)); exact HO_71.out) (Kd.R_base ho0) hb); have n2_ := Aside0.mk (Kd.R_lower (Kd.R_new' (Kd.R_new' ho0 (Kd.R_lt (by (with_reducible repeat (first | apply Kd.R_alloc | apply Kd.R_drewN | apply Kd.R_drew)); exact HO_10.out))) (Kd.R_lt (by (with_reducible repeat (first | apply Kd.R_alloc | apply Kd.R_drewN | apply Kd.R_drew)); exact HO_71.out))) (below_size (by repeat (first | (with_reducible first | exact HB.out | apply below_alloc | apply pw_below_drewN | apply below_drew1) | exact HB.out)))); have n3_ := Aside0.mk (below_step (by repeat (first | (with_reducible first | exact HB.out | apply below_alloc | apply pw_below_drewN | apply below_drew1) | exact HB.out)) hb); clear HO_10; clear HO_71; clear HB; have HO_10 := n0_; have HO_71 := n1_; have HO419 := n2_; have HB := n3_; clear n0_ n1_ n2_ n3_; (try clear hb); (try clear hb2); (try clear hk); (try clear hi); (try clear ho0)) | ((with_reducible refine gate_callee (f := 19) rfl ?_); refine goesL_ (some 104) rfl rfl Try.func19 (by kernel_rfl) rfl #[] rfl (by (try simp only [List.map_toArray, List.map_cons, List.map_nil]); first | done | rfl | (simp only [List.length_drop, List.length_take]; rfl)) ?_; (with_reducible refine (flintlaw06_fixed.calls k3  true _ A47.out).mono ?_); rintro e w55 ⟨rfl, hb⟩; refine ⟨_, rfl, ?_⟩; have n0_ := Aside0.mk (Kd.R_below (by (with_reducible repeat (first | apply Kd.R_alloc | apply Kd.R_drewN | apply Kd.R_drew)); exact HO_10.out) hb); have n1_ := Aside0.mk (Kd.R_below (by (with_reducible repeat (first | apply Kd.R_alloc | apply Kd.R_drewN | apply Kd.R_drew)); exact HO_71.out) hb); have n2_ := Aside0.mk (Kd.R_below (by (with_reducible repeat (first | apply Kd.R_alloc | apply Kd.R_drewN | apply Kd.R_drew)); exact HO419.out) hb); have n3_ := Aside0.mk (below_step (by repeat (first | (with_reducible first | exact HB.out | apply below_alloc | apply pw_below_drewN | apply below_drew1) | exact HB.out)) hb); clear HO_10; clear HO_71; clear HO419; clear HB; have HO_10 := n0_; have HO_71 := n1_; have HO419 := n2_; have HB := n3_; clear n0_ n1_ n2_ n3_; (try clear hb); (try clear hb2); (try clear hk); (try clear hi)))
                                          go_ret
                                          exact ⟨by first | rfl | (simp [errW_none, errW_some] <;> rfl) | (simp only [← hji14, ← hji27]; first | rfl | (simp [errW_none, errW_some] <;> rfl)) | (simp [*, errW_none, errW_some] <;> rfl), by repeat (first | (with_reducible first | exact HB.out | apply below_alloc | apply pw_below_drewN | apply below_drew1) | exact HB.out)⟩
                                      · replace c48 := Bool.eq_false_iff.mpr c48
                                        subst c48
                                        have H1 : (some false) = some r := by rw [if_neg (show ¬ (false = true) by decide)] at H; exact H
                                        clear H
                                        have H := H1
                                        clear H1
                                        obtain rfl := Option.some.inj H
                                        go_wp2_with (first | ((with_reducible refine gate_callee (f := 23) rfl ?_); refine goesL_ (some 98) rfl rfl Try.func23 (by kernel_rfl) rfl #[.slice (some ⟨go32, 0, none⟩) y410.length co20, .int .i64 0] rfl (by (try simp only [List.map_toArray, List.map_cons, List.map_nil]); first | done | rfl | (simp only [List.length_drop, List.length_take]; rfl)) ?_; (with_reducible refine (rec_Class.calls k3 _ _ y410 0 t415 t416 t417 _ ?side1 ?side2 A45.out).mono ?_); (case side1 => repeat (first | exact (Kd.R_reads' HO_10.out).2.2 | (with_reducible refine Kd.C_alloc ?_ _) | (with_reducible refine Kd.C_drewN ?_ _) | (with_reducible refine Kd.C_drew ?_))); (case side2 => exact (Kd.R_reads' HO_10.out).2.1); rintro e w56 ⟨v418, rfl, ho0, hb⟩; refine ⟨_, rfl, ?_⟩; have n0_ := Aside0.mk (Kd.R_elder' (by (with_reducible repeat (first | apply Kd.R_alloc | apply Kd.R_drewN | apply Kd.R_drew)); exact HO_10.out) (Kd.R_base ho0) hb); have n1_ := Aside0.mk (Kd.R_elder' (by (with_reducible repeat (first | apply Kd.R_alloc | apply Kd.R_drewN | apply Kd.R_drew)); exact HO_71.out) (Kd.R_base ho0) hb); have n2_ := Aside0.mk (Kd.R_lower (Kd.R_new' (Kd.R_new' ho0 (Kd.R_lt (by (with_reducible repeat (first | apply Kd.R_alloc | apply Kd.R_drewN | apply Kd.R_drew)); exact HO_10.out))) (Kd.R_lt (by (with_reducible repeat (first | apply Kd.R_alloc | apply Kd.R_drewN | apply Kd.R_drew)); exact HO_71.out))) (below_size (by repeat (first | (with_reducible first | exact HB.out | apply below_alloc | apply pw_below_drewN | apply below_drew1) | exact HB.out)))); have n3_ := Aside0.mk (below_step (by repeat (first | (with_reducible first | exact HB.out | apply below_alloc | apply pw_below_drewN | apply below_drew1) | exact HB.out)) hb); clear HO_10; clear HO_71; clear HB; have HO_10 := n0_; have HO_71 := n1_; have HO419 := n2_; have HB := n3_; clear n0_ n1_ n2_ n3_; (try clear hb); (try clear hb2); (try clear hk); (try clear hi); (try clear ho0)) | ((with_reducible refine gate_callee (f := 19) rfl ?_); refine goesL_ (some 104) rfl rfl Try.func19 (by kernel_rfl) rfl #[] rfl (by (try simp only [List.map_toArray, List.map_cons, List.map_nil]); first | done | rfl | (simp only [List.length_drop, List.length_take]; rfl)) ?_; (with_reducible refine (flintlaw06_fixed.calls k3  false _ A47.out).mono ?_); rintro e w57 ⟨rfl, hb⟩; refine ⟨_, rfl, ?_⟩; have n0_ := Aside0.mk (Kd.R_below (by (with_reducible repeat (first | apply Kd.R_alloc | apply Kd.R_drewN | apply Kd.R_drew)); exact HO_10.out) hb); have n1_ := Aside0.mk (Kd.R_below (by (with_reducible repeat (first | apply Kd.R_alloc | apply Kd.R_drewN | apply Kd.R_drew)); exact HO_71.out) hb); have n2_ := Aside0.mk (Kd.R_below (by (with_reducible repeat (first | apply Kd.R_alloc | apply Kd.R_drewN | apply Kd.R_drew)); exact HO419.out) hb); have n3_ := Aside0.mk (below_step (by repeat (first | (with_reducible first | exact HB.out | apply below_alloc | apply pw_below_drewN | apply below_drew1) | exact HB.out)) hb); clear HO_10; clear HO_71; clear HO419; clear HB; have HO_10 := n0_; have HO_71 := n1_; have HO419 := n2_; have HB := n3_; clear n0_ n1_ n2_ n3_; (try clear hb); (try clear hb2); (try clear hk); (try clear hi)))
                                        go_ret
                                        exact ⟨by first | rfl | (simp [errW_none, errW_some] <;> rfl) | (simp only [← hji14, ← hji27]; first | rfl | (simp [errW_none, errW_some] <;> rfl)) | (simp [*, errW_none, errW_some] <;> rfl), by repeat (first | (with_reducible first | exact HB.out | apply below_alloc | apply pw_below_drewN | apply below_drew1) | exact HB.out)⟩
                                    · replace c46 := Bool.eq_false_iff.mpr c46
                                      subst c46
                                      have H1 : (if x13_3 = true then ((flintlaw06_fixed.f k3).bind fun t421 => (if t421 = true then (if t415 = 0 then (some ((t416.length : Int) == 0)) else (some false)) else (some false))) else ((flintlaw06_fixed.f k3).bind fun t422 => (if t422 = true then (if t415 = 3 then (some ((t416.length : Int) == 0)) else (some false)) else (some false)))) = some r := by rw [if_neg (show ¬ (false = true) by decide)] at H; exact H
                                      clear H
                                      have H := H1
                                      clear H1
                                      by_cases c58 : x13_3 = true
                                      · subst c58
                                        have H1 : ((flintlaw06_fixed.f k3).bind fun t421 => (if t421 = true then (if t415 = 0 then (some ((t416.length : Int) == 0)) else (some false)) else (some false))) = some r := by rw [if_pos rfl] at H; exact H
                                        clear H
                                        have H := H1
                                        clear H1
                                        replace H := Option.bind_eq_some_iff.mp H
                                        obtain ⟨t421, A590, H⟩ := H
                                        replace H : (if t421 = true then (if t415 = 0 then (some ((t416.length : Int) == 0)) else (some false)) else (some false)) = some r := H
                                        have A59 := Aside0.mk A590
                                        clear A590
                                        by_cases c60 : t421 = true
                                        · subst c60
                                          have H1 : (if t415 = 0 then (some ((t416.length : Int) == 0)) else (some false)) = some r := by rw [if_pos rfl] at H; exact H
                                          clear H
                                          have H := H1
                                          clear H1
                                          by_cases c61 : t415 = 0
                                          · rw [if_pos c61] at H
                                            have c61b0 : (t415 == 0) = true := beq_iff_eq.mpr c61
                                            have c61b1 : (t415 != 0) = false := bne_eq_false_iff_eq.mpr c61
                                            clear c61
                                            obtain rfl := Option.some.inj H
                                            go_wp2_with (first | ((with_reducible refine gate_callee (f := 23) rfl ?_); refine goesL_ (some 98) rfl rfl Try.func23 (by kernel_rfl) rfl #[.slice (some ⟨go32, 0, none⟩) y410.length co20, .int .i64 0] rfl (by (try simp only [List.map_toArray, List.map_cons, List.map_nil]); first | done | rfl | (simp only [List.length_drop, List.length_take]; rfl)) ?_; (with_reducible refine (rec_Class.calls k3 _ _ y410 0 t415 t416 t417 _ ?side1 ?side2 A45.out).mono ?_); (case side1 => repeat (first | exact (Kd.R_reads' HO_10.out).2.2 | (with_reducible refine Kd.C_alloc ?_ _) | (with_reducible refine Kd.C_drewN ?_ _) | (with_reducible refine Kd.C_drew ?_))); (case side2 => exact (Kd.R_reads' HO_10.out).2.1); rintro e w62 ⟨v418, rfl, ho0, hb⟩; refine ⟨_, rfl, ?_⟩; have n0_ := Aside0.mk (Kd.R_elder' (by (with_reducible repeat (first | apply Kd.R_alloc | apply Kd.R_drewN | apply Kd.R_drew)); exact HO_10.out) (Kd.R_base ho0) hb); have n1_ := Aside0.mk (Kd.R_elder' (by (with_reducible repeat (first | apply Kd.R_alloc | apply Kd.R_drewN | apply Kd.R_drew)); exact HO_71.out) (Kd.R_base ho0) hb); have n2_ := Aside0.mk (Kd.R_lower (Kd.R_new' (Kd.R_new' ho0 (Kd.R_lt (by (with_reducible repeat (first | apply Kd.R_alloc | apply Kd.R_drewN | apply Kd.R_drew)); exact HO_10.out))) (Kd.R_lt (by (with_reducible repeat (first | apply Kd.R_alloc | apply Kd.R_drewN | apply Kd.R_drew)); exact HO_71.out))) (below_size (by repeat (first | (with_reducible first | exact HB.out | apply below_alloc | apply pw_below_drewN | apply below_drew1) | exact HB.out)))); have n3_ := Aside0.mk (below_step (by repeat (first | (with_reducible first | exact HB.out | apply below_alloc | apply pw_below_drewN | apply below_drew1) | exact HB.out)) hb); clear HO_10; clear HO_71; clear HB; have HO_10 := n0_; have HO_71 := n1_; have HO419 := n2_; have HB := n3_; clear n0_ n1_ n2_ n3_; (try clear hb); (try clear hb2); (try clear hk); (try clear hi); (try clear ho0)) | ((with_reducible refine gate_callee (f := 19) rfl ?_); refine goesL_ (some 118) rfl rfl Try.func19 (by kernel_rfl) rfl #[] rfl (by (try simp only [List.map_toArray, List.map_cons, List.map_nil]); first | done | rfl | (simp only [List.length_drop, List.length_take]; rfl)) ?_; (with_reducible refine (flintlaw06_fixed.calls k3  true _ A59.out).mono ?_); rintro e w63 ⟨rfl, hb⟩; refine ⟨_, rfl, ?_⟩; have n0_ := Aside0.mk (Kd.R_below (by (with_reducible repeat (first | apply Kd.R_alloc | apply Kd.R_drewN | apply Kd.R_drew)); exact HO_10.out) hb); have n1_ := Aside0.mk (Kd.R_below (by (with_reducible repeat (first | apply Kd.R_alloc | apply Kd.R_drewN | apply Kd.R_drew)); exact HO_71.out) hb); have n2_ := Aside0.mk (Kd.R_below (by (with_reducible repeat (first | apply Kd.R_alloc | apply Kd.R_drewN | apply Kd.R_drew)); exact HO419.out) hb); have n3_ := Aside0.mk (below_step (by repeat (first | (with_reducible first | exact HB.out | apply below_alloc | apply pw_below_drewN | apply below_drew1) | exact HB.out)) hb); clear HO_10; clear HO_71; clear HO419; clear HB; have HO_10 := n0_; have HO_71 := n1_; have HO419 := n2_; have HB := n3_; clear n0_ n1_ n2_ n3_; (try clear hb); (try clear hb2); (try clear hk); (try clear hi); obtain ⟨Ao64, co64, eo64⟩ := Kd.R_slice HO419.out; subst eo64))
                                            go_ret
                                            exact ⟨by first | rfl | (simp [errW_none, errW_some] <;> rfl) | (simp only [← hji14, ← hji27]; first | rfl | (simp [errW_none, errW_some] <;> rfl)) | (simp [*, errW_none, errW_some] <;> rfl), by repeat (first | (with_reducible first | exact HB.out | apply below_alloc | apply pw_below_drewN | apply below_drew1) | exact HB.out)⟩
                                          · rw [if_neg c61] at H
                                            have c61b0 : (t415 == 0) = false := beq_eq_false_iff_ne.mpr c61
                                            have c61b1 : (t415 != 0) = true := bne_iff_ne.mpr c61
                                            obtain rfl := Option.some.inj H
                                            go_wp2_with (first | ((with_reducible refine gate_callee (f := 23) rfl ?_); refine goesL_ (some 98) rfl rfl Try.func23 (by kernel_rfl) rfl #[.slice (some ⟨go32, 0, none⟩) y410.length co20, .int .i64 0] rfl (by (try simp only [List.map_toArray, List.map_cons, List.map_nil]); first | done | rfl | (simp only [List.length_drop, List.length_take]; rfl)) ?_; (with_reducible refine (rec_Class.calls k3 _ _ y410 0 t415 t416 t417 _ ?side1 ?side2 A45.out).mono ?_); (case side1 => repeat (first | exact (Kd.R_reads' HO_10.out).2.2 | (with_reducible refine Kd.C_alloc ?_ _) | (with_reducible refine Kd.C_drewN ?_ _) | (with_reducible refine Kd.C_drew ?_))); (case side2 => exact (Kd.R_reads' HO_10.out).2.1); rintro e w65 ⟨v418, rfl, ho0, hb⟩; refine ⟨_, rfl, ?_⟩; have n0_ := Aside0.mk (Kd.R_elder' (by (with_reducible repeat (first | apply Kd.R_alloc | apply Kd.R_drewN | apply Kd.R_drew)); exact HO_10.out) (Kd.R_base ho0) hb); have n1_ := Aside0.mk (Kd.R_elder' (by (with_reducible repeat (first | apply Kd.R_alloc | apply Kd.R_drewN | apply Kd.R_drew)); exact HO_71.out) (Kd.R_base ho0) hb); have n2_ := Aside0.mk (Kd.R_lower (Kd.R_new' (Kd.R_new' ho0 (Kd.R_lt (by (with_reducible repeat (first | apply Kd.R_alloc | apply Kd.R_drewN | apply Kd.R_drew)); exact HO_10.out))) (Kd.R_lt (by (with_reducible repeat (first | apply Kd.R_alloc | apply Kd.R_drewN | apply Kd.R_drew)); exact HO_71.out))) (below_size (by repeat (first | (with_reducible first | exact HB.out | apply below_alloc | apply pw_below_drewN | apply below_drew1) | exact HB.out)))); have n3_ := Aside0.mk (below_step (by repeat (first | (with_reducible first | exact HB.out | apply below_alloc | apply pw_below_drewN | apply below_drew1) | exact HB.out)) hb); clear HO_10; clear HO_71; clear HB; have HO_10 := n0_; have HO_71 := n1_; have HO419 := n2_; have HB := n3_; clear n0_ n1_ n2_ n3_; (try clear hb); (try clear hb2); (try clear hk); (try clear hi); (try clear ho0)) | ((with_reducible refine gate_callee (f := 19) rfl ?_); refine goesL_ (some 118) rfl rfl Try.func19 (by kernel_rfl) rfl #[] rfl (by (try simp only [List.map_toArray, List.map_cons, List.map_nil]); first | done | rfl | (simp only [List.length_drop, List.length_take]; rfl)) ?_; (with_reducible refine (flintlaw06_fixed.calls k3  true _ A59.out).mono ?_); rintro e w66 ⟨rfl, hb⟩; refine ⟨_, rfl, ?_⟩; have n0_ := Aside0.mk (Kd.R_below (by (with_reducible repeat (first | apply Kd.R_alloc | apply Kd.R_drewN | apply Kd.R_drew)); exact HO_10.out) hb); have n1_ := Aside0.mk (Kd.R_below (by (with_reducible repeat (first | apply Kd.R_alloc | apply Kd.R_drewN | apply Kd.R_drew)); exact HO_71.out) hb); have n2_ := Aside0.mk (Kd.R_below (by (with_reducible repeat (first | apply Kd.R_alloc | apply Kd.R_drewN | apply Kd.R_drew)); exact HO419.out) hb); have n3_ := Aside0.mk (below_step (by repeat (first | (with_reducible first | exact HB.out | apply below_alloc | apply pw_below_drewN | apply below_drew1) | exact HB.out)) hb); clear HO_10; clear HO_71; clear HO419; clear HB; have HO_10 := n0_; have HO_71 := n1_; have HO419 := n2_; have HB := n3_; clear n0_ n1_ n2_ n3_; (try clear hb); (try clear hb2); (try clear hk); (try clear hi)))
                                            go_ret
                                            exact ⟨by first | rfl | (simp [errW_none, errW_some] <;> rfl) | (simp only [← hji14, ← hji27]; first | rfl | (simp [errW_none, errW_some] <;> rfl)) | (simp [*, errW_none, errW_some] <;> rfl), by repeat (first | (with_reducible first | exact HB.out | apply below_alloc | apply pw_below_drewN | apply below_drew1) | exact HB.out)⟩
                                        · replace c60 := Bool.eq_false_iff.mpr c60
                                          subst c60
                                          have H1 : (some false) = some r := by rw [if_neg (show ¬ (false = true) by decide)] at H; exact H
                                          clear H
                                          have H := H1
                                          clear H1
                                          obtain rfl := Option.some.inj H
                                          go_wp2_with (first | ((with_reducible refine gate_callee (f := 23) rfl ?_); refine goesL_ (some 98) rfl rfl Try.func23 (by kernel_rfl) rfl #[.slice (some ⟨go32, 0, none⟩) y410.length co20, .int .i64 0] rfl (by (try simp only [List.map_toArray, List.map_cons, List.map_nil]); first | done | rfl | (simp only [List.length_drop, List.length_take]; rfl)) ?_; (with_reducible refine (rec_Class.calls k3 _ _ y410 0 t415 t416 t417 _ ?side1 ?side2 A45.out).mono ?_); (case side1 => repeat (first | exact (Kd.R_reads' HO_10.out).2.2 | (with_reducible refine Kd.C_alloc ?_ _) | (with_reducible refine Kd.C_drewN ?_ _) | (with_reducible refine Kd.C_drew ?_))); (case side2 => exact (Kd.R_reads' HO_10.out).2.1); rintro e w67 ⟨v418, rfl, ho0, hb⟩; refine ⟨_, rfl, ?_⟩; have n0_ := Aside0.mk (Kd.R_elder' (by (with_reducible repeat (first | apply Kd.R_alloc | apply Kd.R_drewN | apply Kd.R_drew)); exact HO_10.out) (Kd.R_base ho0) hb); have n1_ := Aside0.mk (Kd.R_elder' (by (with_reducible repeat (first | apply Kd.R_alloc | apply Kd.R_drewN | apply Kd.R_drew)); exact HO_71.out) (Kd.R_base ho0) hb); have n2_ := Aside0.mk (Kd.R_lower (Kd.R_new' (Kd.R_new' ho0 (Kd.R_lt (by (with_reducible repeat (first | apply Kd.R_alloc | apply Kd.R_drewN | apply Kd.R_drew)); exact HO_10.out))) (Kd.R_lt (by (with_reducible repeat (first | apply Kd.R_alloc | apply Kd.R_drewN | apply Kd.R_drew)); exact HO_71.out))) (below_size (by repeat (first | (with_reducible first | exact HB.out | apply below_alloc | apply pw_below_drewN | apply below_drew1) | exact HB.out)))); have n3_ := Aside0.mk (below_step (by repeat (first | (with_reducible first | exact HB.out | apply below_alloc | apply pw_below_drewN | apply below_drew1) | exact HB.out)) hb); clear HO_10; clear HO_71; clear HB; have HO_10 := n0_; have HO_71 := n1_; have HO419 := n2_; have HB := n3_; clear n0_ n1_ n2_ n3_; (try clear hb); (try clear hb2); (try clear hk); (try clear hi); (try clear ho0)) | ((with_reducible refine gate_callee (f := 19) rfl ?_); refine goesL_ (some 118) rfl rfl Try.func19 (by kernel_rfl) rfl #[] rfl (by (try simp only [List.map_toArray, List.map_cons, List.map_nil]); first | done | rfl | (simp only [List.length_drop, List.length_take]; rfl)) ?_; (with_reducible refine (flintlaw06_fixed.calls k3  false _ A59.out).mono ?_); rintro e w68 ⟨rfl, hb⟩; refine ⟨_, rfl, ?_⟩; have n0_ := Aside0.mk (Kd.R_below (by (with_reducible repeat (first | apply Kd.R_alloc | apply Kd.R_drewN | apply Kd.R_drew)); exact HO_10.out) hb); have n1_ := Aside0.mk (Kd.R_below (by (with_reducible repeat (first | apply Kd.R_alloc | apply Kd.R_drewN | apply Kd.R_drew)); exact HO_71.out) hb); have n2_ := Aside0.mk (Kd.R_below (by (with_reducible repeat (first | apply Kd.R_alloc | apply Kd.R_drewN | apply Kd.R_drew)); exact HO419.out) hb); have n3_ := Aside0.mk (below_step (by repeat (first | (with_reducible first | exact HB.out | apply below_alloc | apply pw_below_drewN | apply below_drew1) | exact HB.out)) hb); clear HO_10; clear HO_71; clear HO419; clear HB; have HO_10 := n0_; have HO_71 := n1_; have HO419 := n2_; have HB := n3_; clear n0_ n1_ n2_ n3_; (try clear hb); (try clear hb2); (try clear hk); (try clear hi)))
                                          go_ret
                                          exact ⟨by first | rfl | (simp [errW_none, errW_some] <;> rfl) | (simp only [← hji14, ← hji27]; first | rfl | (simp [errW_none, errW_some] <;> rfl)) | (simp [*, errW_none, errW_some] <;> rfl), by repeat (first | (with_reducible first | exact HB.out | apply below_alloc | apply pw_below_drewN | apply below_drew1) | exact HB.out)⟩
                                      · replace c58 := Bool.eq_false_iff.mpr c58
                                        subst c58
                                        have H1 : ((flintlaw06_fixed.f k3).bind fun t422 => (if t422 = true then (if t415 = 3 then (some ((t416.length : Int) == 0)) else (some false)) else (some false))) = some r := by rw [if_neg (show ¬ (false = true) by decide)] at H; exact H
                                        clear H
                                        have H := H1
                                        clear H1
                                        replace H := Option.bind_eq_some_iff.mp H
                                        obtain ⟨t422, A690, H⟩ := H
                                        replace H : (if t422 = true then (if t415 = 3 then (some ((t416.length : Int) == 0)) else (some false)) else (some false)) = some r := H
                                        have A69 := Aside0.mk A690
                                        clear A690
                                        by_cases c70 : t422 = true
                                        · subst c70
                                          have H1 : (if t415 = 3 then (some ((t416.length : Int) == 0)) else (some false)) = some r := by rw [if_pos rfl] at H; exact H
                                          clear H
                                          have H := H1
                                          clear H1
                                          by_cases c71 : t415 = 3
                                          · rw [if_pos c71] at H
                                            have c71b0 : (t415 == 3) = true := beq_iff_eq.mpr c71
                                            have c71b1 : (t415 != 3) = false := bne_eq_false_iff_eq.mpr c71
                                            clear c71
                                            obtain rfl := Option.some.inj H
                                            go_wp2_with (first | ((with_reducible refine gate_callee (f := 23) rfl ?_); refine goesL_ (some 98) rfl rfl Try.func23 (by kernel_rfl) rfl #[.slice (some ⟨go32, 0, none⟩) y410.length co20, .int .i64 0] rfl (by (try simp only [List.map_toArray, List.map_cons, List.map_nil]); first | done | rfl | (simp only [List.length_drop, List.length_take]; rfl)) ?_; (with_reducible refine (rec_Class.calls k3 _ _ y410 0 t415 t416 t417 _ ?side1 ?side2 A45.out).mono ?_); (case side1 => repeat (first | exact (Kd.R_reads' HO_10.out).2.2 | (with_reducible refine Kd.C_alloc ?_ _) | (with_reducible refine Kd.C_drewN ?_ _) | (with_reducible refine Kd.C_drew ?_))); (case side2 => exact (Kd.R_reads' HO_10.out).2.1); rintro e w72 ⟨v418, rfl, ho0, hb⟩; refine ⟨_, rfl, ?_⟩; have n0_ := Aside0.mk (Kd.R_elder' (by (with_reducible repeat (first | apply Kd.R_alloc | apply Kd.R_drewN | apply Kd.R_drew)); exact HO_10.out) (Kd.R_base ho0) hb); have n1_ := Aside0.mk (Kd.R_elder' (by (with_reducible repeat (first | apply Kd.R_alloc | apply Kd.R_drewN | apply Kd.R_drew)); exact HO_71.out) (Kd.R_base ho0) hb); have n2_ := Aside0.mk (Kd.R_lower (Kd.R_new' (Kd.R_new' ho0 (Kd.R_lt (by (with_reducible repeat (first | apply Kd.R_alloc | apply Kd.R_drewN | apply Kd.R_drew)); exact HO_10.out))) (Kd.R_lt (by (with_reducible repeat (first | apply Kd.R_alloc | apply Kd.R_drewN | apply Kd.R_drew)); exact HO_71.out))) (below_size (by repeat (first | (with_reducible first | exact HB.out | apply below_alloc | apply pw_below_drewN | apply below_drew1) | exact HB.out)))); have n3_ := Aside0.mk (below_step (by repeat (first | (with_reducible first | exact HB.out | apply below_alloc | apply pw_below_drewN | apply below_drew1) | exact HB.out)) hb); clear HO_10; clear HO_71; clear HB; have HO_10 := n0_; have HO_71 := n1_; have HO419 := n2_; have HB := n3_; clear n0_ n1_ n2_ n3_; (try clear hb); (try clear hb2); (try clear hk); (try clear hi); (try clear ho0)) | ((with_reducible refine gate_callee (f := 19) rfl ?_); refine goesL_ (some 128) rfl rfl Try.func19 (by kernel_rfl) rfl #[] rfl (by (try simp only [List.map_toArray, List.map_cons, List.map_nil]); first | done | rfl | (simp only [List.length_drop, List.length_take]; rfl)) ?_; (with_reducible refine (flintlaw06_fixed.calls k3  true _ A69.out).mono ?_); rintro e w73 ⟨rfl, hb⟩; refine ⟨_, rfl, ?_⟩; have n0_ := Aside0.mk (Kd.R_below (by (with_reducible repeat (first | apply Kd.R_alloc | apply Kd.R_drewN | apply Kd.R_drew)); exact HO_10.out) hb); have n1_ := Aside0.mk (Kd.R_below (by (with_reducible repeat (first | apply Kd.R_alloc | apply Kd.R_drewN | apply Kd.R_drew)); exact HO_71.out) hb); have n2_ := Aside0.mk (Kd.R_below (by (with_reducible repeat (first | apply Kd.R_alloc | apply Kd.R_drewN | apply Kd.R_drew)); exact HO419.out) hb); have n3_ := Aside0.mk (below_step (by repeat (first | (with_reducible first | exact HB.out | apply below_alloc | apply pw_below_drewN | apply below_drew1) | exact HB.out)) hb); clear HO_10; clear HO_71; clear HO419; clear HB; have HO_10 := n0_; have HO_71 := n1_; have HO419 := n2_; have HB := n3_; clear n0_ n1_ n2_ n3_; (try clear hb); (try clear hb2); (try clear hk); (try clear hi); obtain ⟨Ao74, co74, eo74⟩ := Kd.R_slice HO419.out; subst eo74))
                                            go_ret
                                            exact ⟨by first | rfl | (simp [errW_none, errW_some] <;> rfl) | (simp only [← hji14, ← hji27]; first | rfl | (simp [errW_none, errW_some] <;> rfl)) | (simp [*, errW_none, errW_some] <;> rfl), by repeat (first | (with_reducible first | exact HB.out | apply below_alloc | apply pw_below_drewN | apply below_drew1) | exact HB.out)⟩
                                          · rw [if_neg c71] at H
                                            have c71b0 : (t415 == 3) = false := beq_eq_false_iff_ne.mpr c71
                                            have c71b1 : (t415 != 3) = true := bne_iff_ne.mpr c71
                                            obtain rfl := Option.some.inj H
                                            go_wp2_with (first | ((with_reducible refine gate_callee (f := 23) rfl ?_); refine goesL_ (some 98) rfl rfl Try.func23 (by kernel_rfl) rfl #[.slice (some ⟨go32, 0, none⟩) y410.length co20, .int .i64 0] rfl (by (try simp only [List.map_toArray, List.map_cons, List.map_nil]); first | done | rfl | (simp only [List.length_drop, List.length_take]; rfl)) ?_; (with_reducible refine (rec_Class.calls k3 _ _ y410 0 t415 t416 t417 _ ?side1 ?side2 A45.out).mono ?_); (case side1 => repeat (first | exact (Kd.R_reads' HO_10.out).2.2 | (with_reducible refine Kd.C_alloc ?_ _) | (with_reducible refine Kd.C_drewN ?_ _) | (with_reducible refine Kd.C_drew ?_))); (case side2 => exact (Kd.R_reads' HO_10.out).2.1); rintro e w75 ⟨v418, rfl, ho0, hb⟩; refine ⟨_, rfl, ?_⟩; have n0_ := Aside0.mk (Kd.R_elder' (by (with_reducible repeat (first | apply Kd.R_alloc | apply Kd.R_drewN | apply Kd.R_drew)); exact HO_10.out) (Kd.R_base ho0) hb); have n1_ := Aside0.mk (Kd.R_elder' (by (with_reducible repeat (first | apply Kd.R_alloc | apply Kd.R_drewN | apply Kd.R_drew)); exact HO_71.out) (Kd.R_base ho0) hb); have n2_ := Aside0.mk (Kd.R_lower (Kd.R_new' (Kd.R_new' ho0 (Kd.R_lt (by (with_reducible repeat (first | apply Kd.R_alloc | apply Kd.R_drewN | apply Kd.R_drew)); exact HO_10.out))) (Kd.R_lt (by (with_reducible repeat (first | apply Kd.R_alloc | apply Kd.R_drewN | apply Kd.R_drew)); exact HO_71.out))) (below_size (by repeat (first | (with_reducible first | exact HB.out | apply below_alloc | apply pw_below_drewN | apply below_drew1) | exact HB.out)))); have n3_ := Aside0.mk (below_step (by repeat (first | (with_reducible first | exact HB.out | apply below_alloc | apply pw_below_drewN | apply below_drew1) | exact HB.out)) hb); clear HO_10; clear HO_71; clear HB; have HO_10 := n0_; have HO_71 := n1_; have HO419 := n2_; have HB := n3_; clear n0_ n1_ n2_ n3_; (try clear hb); (try clear hb2); (try clear hk); (try clear hi); (try clear ho0)) | ((with_reducible refine gate_callee (f := 19) rfl ?_); refine goesL_ (some 128) rfl rfl Try.func19 (by kernel_rfl) rfl #[] rfl (by (try simp only [List.map_toArray, List.map_cons, List.map_nil]); first | done | rfl | (simp only [List.length_drop, List.length_take]; rfl)) ?_; (with_reducible refine (flintlaw06_fixed.calls k3  true _ A69.out).mono ?_); rintro e w76 ⟨rfl, hb⟩; refine ⟨_, rfl, ?_⟩; have n0_ := Aside0.mk (Kd.R_below (by (with_reducible repeat (first | apply Kd.R_alloc | apply Kd.R_drewN | apply Kd.R_drew)); exact HO_10.out) hb); have n1_ := Aside0.mk (Kd.R_below (by (with_reducible repeat (first | apply Kd.R_alloc | apply Kd.R_drewN | apply Kd.R_drew)); exact HO_71.out) hb); have n2_ := Aside0.mk (Kd.R_below (by (with_reducible repeat (first | apply Kd.R_alloc | apply Kd.R_drewN | apply Kd.R_drew)); exact HO419.out) hb); have n3_ := Aside0.mk (below_step (by repeat (first | (with_reducible first | exact HB.out | apply below_alloc | apply pw_below_drewN | apply below_drew1) | exact HB.out)) hb); clear HO_10; clear HO_71; clear HO419; clear HB; have HO_10 := n0_; have HO_71 := n1_; have HO419 := n2_; have HB := n3_; clear n0_ n1_ n2_ n3_; (try clear hb); (try clear hb2); (try clear hk); (try clear hi)))
                                            go_ret
                                            exact ⟨by first | rfl | (simp [errW_none, errW_some] <;> rfl) | (simp only [← hji14, ← hji27]; first | rfl | (simp [errW_none, errW_some] <;> rfl)) | (simp [*, errW_none, errW_some] <;> rfl), by repeat (first | (with_reducible first | exact HB.out | apply below_alloc | apply pw_below_drewN | apply below_drew1) | exact HB.out)⟩
                                        · replace c70 := Bool.eq_false_iff.mpr c70
                                          subst c70
                                          have H1 : (some false) = some r := by rw [if_neg (show ¬ (false = true) by decide)] at H; exact H
                                          clear H
                                          have H := H1
                                          clear H1
                                          obtain rfl := Option.some.inj H
                                          go_wp2_with (first | ((with_reducible refine gate_callee (f := 23) rfl ?_); refine goesL_ (some 98) rfl rfl Try.func23 (by kernel_rfl) rfl #[.slice (some ⟨go32, 0, none⟩) y410.length co20, .int .i64 0] rfl (by (try simp only [List.map_toArray, List.map_cons, List.map_nil]); first | done | rfl | (simp only [List.length_drop, List.length_take]; rfl)) ?_; (with_reducible refine (rec_Class.calls k3 _ _ y410 0 t415 t416 t417 _ ?side1 ?side2 A45.out).mono ?_); (case side1 => repeat (first | exact (Kd.R_reads' HO_10.out).2.2 | (with_reducible refine Kd.C_alloc ?_ _) | (with_reducible refine Kd.C_drewN ?_ _) | (with_reducible refine Kd.C_drew ?_))); (case side2 => exact (Kd.R_reads' HO_10.out).2.1); rintro e w77 ⟨v418, rfl, ho0, hb⟩; refine ⟨_, rfl, ?_⟩; have n0_ := Aside0.mk (Kd.R_elder' (by (with_reducible repeat (first | apply Kd.R_alloc | apply Kd.R_drewN | apply Kd.R_drew)); exact HO_10.out) (Kd.R_base ho0) hb); have n1_ := Aside0.mk (Kd.R_elder' (by (with_reducible repeat (first | apply Kd.R_alloc | apply Kd.R_drewN | apply Kd.R_drew)); exact HO_71.out) (Kd.R_base ho0) hb); have n2_ := Aside0.mk (Kd.R_lower (Kd.R_new' (Kd.R_new' ho0 (Kd.R_lt (by (with_reducible repeat (first | apply Kd.R_alloc | apply Kd.R_drewN | apply Kd.R_drew)); exact HO_10.out))) (Kd.R_lt (by (with_reducible repeat (first | apply Kd.R_alloc | apply Kd.R_drewN | apply Kd.R_drew)); exact HO_71.out))) (below_size (by repeat (first | (with_reducible first | exact HB.out | apply below_alloc | apply pw_below_drewN | apply below_drew1) | exact HB.out)))); have n3_ := Aside0.mk (below_step (by repeat (first | (with_reducible first | exact HB.out | apply below_alloc | apply pw_below_drewN | apply below_drew1) | exact HB.out)) hb); clear HO_10; clear HO_71; clear HB; have HO_10 := n0_; have HO_71 := n1_; have HO419 := n2_; have HB := n3_; clear n0_ n1_ n2_ n3_; (try clear hb); (try clear hb2); (try clear hk); (try clear hi); (try clear ho0)) | ((with_reducible refine gate_callee (f := 19) rfl ?_); refine goesL_ (some 128) rfl rfl Try.func19 (by kernel_rfl) rfl #[] rfl (by (try simp only [List.map_toArray, List.map_cons, List.map_nil]); first | done | rfl | (simp only [List.length_drop, List.length_take]; rfl)) ?_; (with_reducible refine (flintlaw06_fixed.calls k3  false _ A69.out).mono ?_); rintro e w78 ⟨rfl, hb⟩; refine ⟨_, rfl, ?_⟩; have n0_ := Aside0.mk (Kd.R_below (by (with_reducible repeat (first | apply Kd.R_alloc | apply Kd.R_drewN | apply Kd.R_drew)); exact HO_10.out) hb); have n1_ := Aside0.mk (Kd.R_below (by (with_reducible repeat (first | apply Kd.R_alloc | apply Kd.R_drewN | apply Kd.R_drew)); exact HO_71.out) hb); have n2_ := Aside0.mk (Kd.R_below (by (with_reducible repeat (first | apply Kd.R_alloc | apply Kd.R_drewN | apply Kd.R_drew)); exact HO419.out) hb); have n3_ := Aside0.mk (below_step (by repeat (first | (with_reducible first | exact HB.out | apply below_alloc | apply pw_below_drewN | apply below_drew1) | exact HB.out)) hb); clear HO_10; clear HO_71; clear HO419; clear HB; have HO_10 := n0_; have HO_71 := n1_; have HO419 := n2_; have HB := n3_; clear n0_ n1_ n2_ n3_; (try clear hb); (try clear hb2); (try clear hk); (try clear hi)))
                                          go_ret
                                          exact ⟨by first | rfl | (simp [errW_none, errW_some] <;> rfl) | (simp only [← hji14, ← hji27]; first | rfl | (simp [errW_none, errW_some] <;> rfl)) | (simp [*, errW_none, errW_some] <;> rfl), by repeat (first | (with_reducible first | exact HB.out | apply below_alloc | apply pw_below_drewN | apply below_drew1) | exact HB.out)⟩
                            · rw [if_neg c31] at H
                              exact absurd H (by simp)
                          · rw [if_neg c30] at H
                            exact absurd H (by simp)
                        · rw [if_neg c29] at H
                          exact absurd H (by simp)
                      · rw [if_neg c28] at H
                        exact absurd H (by simp)
              · rw [if_neg c16] at H
                exact absurd H (by simp)
            · rw [if_neg c15] at H
              exact absurd H (by simp)

/-- THE ONE PURE STATEMENT of flintlaw06_RecCut: yours. -/
def flintlaw06_RecCut.Pure : Prop := ∀ (l0 : List Int) (a1 : Int) (a2 : Int), l0.length ≤ maxLen → l0.length * 1 ≤ 140737488351232 → (∀ x ∈ l0, (Lit.int .u8 x).wf = true) → (Lit.int .u16 a1).wf = true → (Lit.int .u8 a2).wf = true → ∃ k, flintlaw06_RecCut.f k l0 a1 a2 = some true
theorem flintlaw06_RecCut.walk (P : flintlaw06_RecCut.Pure) (a0 : Option Addr) (len0 cap0 : Nat) (z0 : List Int) (a1 : Int) (a2 : Int) (w : World) (w0 : (a0 = none ∧ len0 = 0 ∧ cap0 = 0 ∧ z0 = []) ∨ ∃ x, a0 = some x ∧ len0 ≤ cap0 ∧ cap0 ≤ maxLen ∧ z0.length = cap0 ∧ (∀ i, i < z0.length → w.cell? (x.add i) = some (.int .u8 (z0.getD i 0))) ∧ ∀ n ∈ z0, (Lit.int .u8 n).wf = true) (y0 : len0 * 1 ≤ 140737488351232) (w1 : (Lit.int .u16 a1).wf = true) (w2 : (Lit.int .u8 a2).wf = true) :
    Calls Try.prog 9 #[.slice a0 len0 cap0, .int .u16 a1, .int .u8 a2] w fun e w' => e = .returned (.bool true) ∧ Below w.heap.size w w' := by
  obtain ⟨l0, rfl, hr0, hm0, hw0, hc0⟩ := ReadsInt.ofRowC w0
  obtain ⟨k, h⟩ := P l0 a1 a2 hm0 y0 hw0 w1 w2
  refine (flintlaw06_RecCut.calls k _ _ l0 a1 a2 true w (Kd.C_of_reads (d := (0 : Int)) (h1 := fun _ => rfl) hr0) hc0 h).mono ?_
  rintro e w' ⟨rfl, hd⟩
  exact ⟨rfl, hd⟩

end Go.Proofs.Ytconcmobjkpkcaa.G
