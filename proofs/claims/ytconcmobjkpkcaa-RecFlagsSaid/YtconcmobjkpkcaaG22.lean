-- Written by wip/gen.py: the kit's print.py, with this session's own texts where it takes a function not. Not trusted: Lean checks it.
import Derived.Test.YtconcmobjkpkcaaG0
import Derived.Test.YtconcmobjkpkcaaG4
import Derived.Test.YtconcmobjkpkcaaG21
namespace Go.Proofs.Ytconcmobjkpkcaa.G
open Go.RowKit Go.Proofs.YtconcmobjkpkcaaW.PrintWords Go.Proofs.YtconcmobjkpkcaaW.PrintLast Go.Proofs.YtconcmobjkpkcaaW.PrintMore
attribute [local go_sem] max2_int min2_int max_two min_two max_three min_three max_four min_four   -- for this text's walks alone
set_option linter.unusedVariables false
set_option linter.unusedSimpArgs false

/-! ### flintref06_Class: function 24 -/
mutual
def flintref06_Class.j0 : Nat → List Int → Int → List Int → Bool → Option (Int × List Int × Int)
  | 0, _, _, _, _ => none
  | k + 1, x0, x1, x7, x25 => if x25 = true then (some (3, x7, 0)) else (flintref06_Class.l0 k x0 x1 x7 true x1)
def flintref06_Class.l0 : Nat → List Int → Int → List Int → Bool → Int → Option (Int × List Int × Int)
  | 0, _, _, _, _, _ => none
  | k + 1, x0, x1, x7, x8, x9 => if x9 < (x0.length : Int) then (if x8 = true then (if 0 ≤ x9 then (flintref06_Class.l0 k x0 x1 x7 ((rd x0 x9) == 255) (wrap64 (x9 + 1))) else (none)) else (flintref06_Class.l0 k x0 x1 x7 false (wrap64 (x9 + 1)))) else (if x8 = true then (some (0, x7, 0)) else (if 0 ≤ x1 then (if x1 < (x0.length : Int) then (if (rd x0 x1) = 127 then (flintref06_Class.j2 k x0 x1 x7 4) else (if (rd x0 x1) = 63 then (flintref06_Class.j2 k x0 x1 x7 5) else (if (rd x0 x1) = 95 then (flintref06_Class.j2 k x0 x1 x7 6) else (if (rd x0 x1) = 31 then (flintref06_Class.j2 k x0 x1 x7 6) else (flintref06_Class.j2 k x0 x1 x7 3))))) else (none)) else (none)))
def flintref06_Class.j2 : Nat → List Int → Int → List Int → Int → Option (Int × List Int × Int)
  | 0, _, _, _, _ => none
  | k + 1, x0, x1, x7, x11 => if x11 = 3 then (flintref06_Class.j3 k x0 x1 x7 x11 true) else (flintref06_Class.j3 k x0 x1 x7 x11 (decide ((wrap64 ((x0.length : Int) - x1)) < 8)))
def flintref06_Class.j3 : Nat → List Int → Int → List Int → Int → Bool → Option (Int × List Int × Int)
  | 0, _, _, _, _, _ => none
  | k + 1, x0, x1, x7, x11, x64 => if x64 = true then (some (3, x7, 0)) else (if 0 ≤ (wrap64 (x1 + 1)) then (if (wrap64 (x1 + 1)) < (x0.length : Int) then (if 0 ≤ (wrap64 (x1 + 2)) then (if (wrap64 (x1 + 2)) < (x0.length : Int) then (if (wrap64 ((wrap64 ((x0.length : Int) - x1)) - 8)) < (wrap64 ((wrap64 (256 * (wrap64 (rd x0 (wrap64 (x1 + 1)))))) + (wrap64 (rd x0 (wrap64 (x1 + 2)))))) then (flintref06_Class.j4 k x0 x1 x7 x11 (wrap64 ((wrap64 (256 * (wrap64 (rd x0 (wrap64 (x1 + 1)))))) + (wrap64 (rd x0 (wrap64 (x1 + 2)))))) true) else (if 0 ≤ (wrap64 ((wrap64 (x1 + 7)) + (wrap64 ((wrap64 (256 * (wrap64 (rd x0 (wrap64 (x1 + 1)))))) + (wrap64 (rd x0 (wrap64 (x1 + 2)))))))) then (if (wrap64 ((wrap64 (x1 + 7)) + (wrap64 ((wrap64 (256 * (wrap64 (rd x0 (wrap64 (x1 + 1)))))) + (wrap64 (rd x0 (wrap64 (x1 + 2)))))))) < (x0.length : Int) then (flintref06_Class.j4 k x0 x1 x7 x11 (wrap64 ((wrap64 (256 * (wrap64 (rd x0 (wrap64 (x1 + 1)))))) + (wrap64 (rd x0 (wrap64 (x1 + 2)))))) ((rd x0 (wrap64 ((wrap64 (x1 + 7)) + (wrap64 ((wrap64 (256 * (wrap64 (rd x0 (wrap64 (x1 + 1)))))) + (wrap64 (rd x0 (wrap64 (x1 + 2))))))))) != 0)) else (none)) else (none))) else (none)) else (none)) else (none)) else (none))
def flintref06_Class.j4 : Nat → List Int → Int → List Int → Int → Int → Bool → Option (Int × List Int × Int)
  | 0, _, _, _, _, _, _ => none
  | k + 1, x0, x1, x7, x11, x12, x96 => if x96 = true then (some (3, x7, 0)) else ((some (([] : List Int) : List Int)).bind fun y364 => (if 0 ≤ (wrap64 (x1 + 1)) then (if (wrap64 (x1 + 1)) ≤ (wrap64 (x1 + 3)) then (if (wrap64 (x1 + 3)) ≤ (x0.length : Int) then (if y364.length + ((x0.take ((wrap64 (x1 + 3)) : Int).toNat).drop ((wrap64 (x1 + 1)) : Int).toNat).length < 140737488355328 then ((some (y364 ++ ((x0.take ((wrap64 (x1 + 3)) : Int).toNat).drop ((wrap64 (x1 + 1)) : Int).toNat) : List Int)).bind fun y368 => (if 0 ≤ (wrap64 (x1 + 7)) then (if (wrap64 (x1 + 7)) ≤ (wrap64 ((wrap64 (x1 + 7)) + x12)) then (if (wrap64 ((wrap64 (x1 + 7)) + x12)) ≤ (x0.length : Int) then (if y368.length + ((x0.take ((wrap64 ((wrap64 (x1 + 7)) + x12)) : Int).toNat).drop ((wrap64 (x1 + 7)) : Int).toNat).length < 140737488355328 then ((some (y368 ++ ((x0.take ((wrap64 ((wrap64 (x1 + 7)) + x12)) : Int).toNat).drop ((wrap64 (x1 + 7)) : Int).toNat) : List Int)).bind fun y372 => ((flintref03_Get.f k x0 (wrap64 (x1 + 3)) 4).bind fun bt375 => ((flintref01_Sum.f k y372).bind fun t378 => (if (IntKind.u64.wrap (t378)) = bt375.1 then (if 2 ≤ (y372.length : Int) then (some (x11, (y372.drop (2 : Int).toNat), wrap64 ((wrap64 (x1 + 8)) + x12))) else (none)) else (some (3, x7, 0)))))) else (none)) else (none)) else (none)) else (none))) else (none)) else (none)) else (none)) else (none)))
end
def flintref06_Class.f (k : Nat) (l0 : List Int) (a1 : Int) : Option (Int × List Int × Int) := (some (([] : List Int) : List Int)).bind fun y356 => (if a1 < 0 then (flintref06_Class.j0 k l0 a1 y356 true) else (flintref06_Class.j0 k l0 a1 y356 (decide (a1 > (l0.length : Int)))))
theorem flintref06_Class.mono_l : ∀ k, (∀ y0 y1 y2 y3, LeO (flintref06_Class.j0 k y0 y1 y2 y3) (flintref06_Class.j0 (k + 1) y0 y1 y2 y3)) ∧ (∀ y0 y1 y2 y3 y4, LeO (flintref06_Class.l0 k y0 y1 y2 y3 y4) (flintref06_Class.l0 (k + 1) y0 y1 y2 y3 y4)) ∧ (∀ y0 y1 y2 y3, LeO (flintref06_Class.j2 k y0 y1 y2 y3) (flintref06_Class.j2 (k + 1) y0 y1 y2 y3)) ∧ (∀ y0 y1 y2 y3 y4, LeO (flintref06_Class.j3 k y0 y1 y2 y3 y4) (flintref06_Class.j3 (k + 1) y0 y1 y2 y3 y4)) ∧ (∀ y0 y1 y2 y3 y4 y5, LeO (flintref06_Class.j4 k y0 y1 y2 y3 y4 y5) (flintref06_Class.j4 (k + 1) y0 y1 y2 y3 y4 y5))
  | 0 => ⟨fun _ _ _ _ r h => by simp [flintref06_Class.j0] at h, fun _ _ _ _ _ r h => by simp [flintref06_Class.l0] at h, fun _ _ _ _ r h => by simp [flintref06_Class.j2] at h, fun _ _ _ _ _ r h => by simp [flintref06_Class.j3] at h, fun _ _ _ _ _ _ r h => by simp [flintref06_Class.j4] at h⟩
  | k + 1 => by
    obtain ⟨ih0, ih1, ih2, ih3, ih4⟩ := flintref06_Class.mono_l k
    refine ⟨?_, ?_, ?_, ?_, ?_⟩
    · intro y0 y1 y2 y3
      unfold flintref06_Class.j0
      repeat' first
      | (with_reducible exact ih0 _ _ _ _)
      | (with_reducible exact ih1 _ _ _ _ _)
      | (with_reducible exact ih2 _ _ _ _)
      | (with_reducible exact ih3 _ _ _ _ _)
      | (with_reducible exact ih4 _ _ _ _ _ _)
      | (with_reducible exact flintref01_Sum.mono _ _)
      | (with_reducible exact flintref03_Get.mono _ _ _ _)
      | (with_reducible exact LeO.refl _)
      | (with_reducible exact LeO.none _)
      | (with_reducible refine LeO.ite ?_ ?_)
      | (with_reducible refine LeO.bind ?_ (fun _ => ?_))
      | exact ih0 _ _ _ _
      | exact ih1 _ _ _ _ _
      | exact ih2 _ _ _ _
      | exact ih3 _ _ _ _ _
      | exact ih4 _ _ _ _ _ _
      | exact flintref01_Sum.mono _ _
      | exact flintref03_Get.mono _ _ _ _
      | exact LeO.none _
      | refine LeO.ite ?_ ?_
      | refine LeO.bind ?_ (fun _ => ?_)
    · intro y0 y1 y2 y3 y4
      unfold flintref06_Class.l0
      repeat' first
      | (with_reducible exact ih0 _ _ _ _)
      | (with_reducible exact ih1 _ _ _ _ _)
      | (with_reducible exact ih2 _ _ _ _)
      | (with_reducible exact ih3 _ _ _ _ _)
      | (with_reducible exact ih4 _ _ _ _ _ _)
      | (with_reducible exact flintref01_Sum.mono _ _)
      | (with_reducible exact flintref03_Get.mono _ _ _ _)
      | (with_reducible exact LeO.refl _)
      | (with_reducible exact LeO.none _)
      | (with_reducible refine LeO.ite ?_ ?_)
      | (with_reducible refine LeO.bind ?_ (fun _ => ?_))
      | exact ih0 _ _ _ _
      | exact ih1 _ _ _ _ _
      | exact ih2 _ _ _ _
      | exact ih3 _ _ _ _ _
      | exact ih4 _ _ _ _ _ _
      | exact flintref01_Sum.mono _ _
      | exact flintref03_Get.mono _ _ _ _
      | exact LeO.none _
      | refine LeO.ite ?_ ?_
      | refine LeO.bind ?_ (fun _ => ?_)
    · intro y0 y1 y2 y3
      unfold flintref06_Class.j2
      repeat' first
      | (with_reducible exact ih0 _ _ _ _)
      | (with_reducible exact ih1 _ _ _ _ _)
      | (with_reducible exact ih2 _ _ _ _)
      | (with_reducible exact ih3 _ _ _ _ _)
      | (with_reducible exact ih4 _ _ _ _ _ _)
      | (with_reducible exact flintref01_Sum.mono _ _)
      | (with_reducible exact flintref03_Get.mono _ _ _ _)
      | (with_reducible exact LeO.refl _)
      | (with_reducible exact LeO.none _)
      | (with_reducible refine LeO.ite ?_ ?_)
      | (with_reducible refine LeO.bind ?_ (fun _ => ?_))
      | exact ih0 _ _ _ _
      | exact ih1 _ _ _ _ _
      | exact ih2 _ _ _ _
      | exact ih3 _ _ _ _ _
      | exact ih4 _ _ _ _ _ _
      | exact flintref01_Sum.mono _ _
      | exact flintref03_Get.mono _ _ _ _
      | exact LeO.none _
      | refine LeO.ite ?_ ?_
      | refine LeO.bind ?_ (fun _ => ?_)
    · intro y0 y1 y2 y3 y4
      unfold flintref06_Class.j3
      repeat' first
      | (with_reducible exact ih0 _ _ _ _)
      | (with_reducible exact ih1 _ _ _ _ _)
      | (with_reducible exact ih2 _ _ _ _)
      | (with_reducible exact ih3 _ _ _ _ _)
      | (with_reducible exact ih4 _ _ _ _ _ _)
      | (with_reducible exact flintref01_Sum.mono _ _)
      | (with_reducible exact flintref03_Get.mono _ _ _ _)
      | (with_reducible exact LeO.refl _)
      | (with_reducible exact LeO.none _)
      | (with_reducible refine LeO.ite ?_ ?_)
      | (with_reducible refine LeO.bind ?_ (fun _ => ?_))
      | exact ih0 _ _ _ _
      | exact ih1 _ _ _ _ _
      | exact ih2 _ _ _ _
      | exact ih3 _ _ _ _ _
      | exact ih4 _ _ _ _ _ _
      | exact flintref01_Sum.mono _ _
      | exact flintref03_Get.mono _ _ _ _
      | exact LeO.none _
      | refine LeO.ite ?_ ?_
      | refine LeO.bind ?_ (fun _ => ?_)
    · intro y0 y1 y2 y3 y4 y5
      unfold flintref06_Class.j4
      repeat' first
      | (with_reducible exact ih0 _ _ _ _)
      | (with_reducible exact ih1 _ _ _ _ _)
      | (with_reducible exact ih2 _ _ _ _)
      | (with_reducible exact ih3 _ _ _ _ _)
      | (with_reducible exact ih4 _ _ _ _ _ _)
      | (with_reducible exact flintref01_Sum.mono _ _)
      | (with_reducible exact flintref03_Get.mono _ _ _ _)
      | (with_reducible exact LeO.refl _)
      | (with_reducible exact LeO.none _)
      | (with_reducible refine LeO.ite ?_ ?_)
      | (with_reducible refine LeO.bind ?_ (fun _ => ?_))
      | exact ih0 _ _ _ _
      | exact ih1 _ _ _ _ _
      | exact ih2 _ _ _ _
      | exact ih3 _ _ _ _ _
      | exact ih4 _ _ _ _ _ _
      | exact flintref01_Sum.mono _ _
      | exact flintref03_Get.mono _ _ _ _
      | exact LeO.none _
      | refine LeO.ite ?_ ?_
      | refine LeO.bind ?_ (fun _ => ?_)
theorem flintref06_Class.mono : ∀ a0 a1 k, LeO (flintref06_Class.f k a0 a1) (flintref06_Class.f (k + 1) a0 a1) := by
  intro a0 a1 k
  obtain ⟨ih0, ih1, ih2, ih3, ih4⟩ := flintref06_Class.mono_l k
  unfold flintref06_Class.f
  repeat' first
      | (with_reducible exact ih0 _ _ _ _)
      | (with_reducible exact ih1 _ _ _ _ _)
      | (with_reducible exact ih2 _ _ _ _)
      | (with_reducible exact ih3 _ _ _ _ _)
      | (with_reducible exact ih4 _ _ _ _ _ _)
      | (with_reducible exact flintref01_Sum.mono _ _)
      | (with_reducible exact flintref03_Get.mono _ _ _ _)
      | (with_reducible exact LeO.refl _)
      | (with_reducible exact LeO.none _)
      | (with_reducible refine LeO.ite ?_ ?_)
      | (with_reducible refine LeO.bind ?_ (fun _ => ?_))
      | exact ih0 _ _ _ _
      | exact ih1 _ _ _ _ _
      | exact ih2 _ _ _ _
      | exact ih3 _ _ _ _ _
      | exact ih4 _ _ _ _ _ _
      | exact flintref01_Sum.mono _ _
      | exact flintref03_Get.mono _ _ _ _
      | exact LeO.none _
      | refine LeO.ite ?_ ?_
      | refine LeO.bind ?_ (fun _ => ?_)
set_option maxHeartbeats 8000000 in
set_option maxRecDepth 100000 in
theorem flintref06_Class.calls (k : Nat) (A0 : Option Addr) (c0 : Nat) (l0 : List Int) (a1 : Int) (r1 : Int) (r2 : List Int) (r3 : Int) (w : World) (hr0 : Kd.C (Kd.int .u8) w A0 l0.length l0) (hc0 : l0.length ≤ c0) (h : flintref06_Class.f k l0 a1 = some (r1, r2, r3)) :
    Calls Try.prog 24 #[.slice A0 l0.length c0, .int .i64 a1] w fun e w' => ∃ v1_ : Value, e = .returned (.tuple #[.int .i64 r1, v1_, .int .i64 r3]) ∧ Kd.Q (Kd.int .u8) 5 w' w.heap.size (fun _ => True) v1_ r2 ∧ Below w.heap.size w w' := by
  have HR0 := Aside0.mk hr0
  have HC0 := Aside0.mk hc0
  clear hr0 hc0
  have HB := Aside0.mk (Below.refl w.heap.size w)
  have H : ((some (([] : List Int) : List Int)).bind fun y356 => (if a1 < 0 then (flintref06_Class.j0 k l0 a1 y356 true) else (flintref06_Class.j0 k l0 a1 y356 (decide (a1 > (l0.length : Int)))))) = some (r1, r2, r3) := h
  clear h
  obtain ⟨y356, hy356⟩ : ∃ y_ : List Int, y_ = (([] : List Int)) := ⟨_, rfl⟩
  replace H : (if a1 < 0 then (flintref06_Class.j0 k l0 a1 y356 true) else (flintref06_Class.j0 k l0 a1 y356 (decide (a1 > (l0.length : Int))))) = some (r1, r2, r3) := by first | (rw [hy356]; with_reducible exact H) | (have H2_ := (Option.bind_some _ _).symm.trans H; rw [hy356]; with_reducible exact H2_) | (have H2_ := (Option.bind_some _ _).symm.trans H; with_reducible exact H2_) | with_reducible exact H | (rw [hy356]; exact H) | exact H
  have Ny356 := Aside0.mk hy356
  clear hy356
  have HC3 := Aside0.mk H
  clear H
  go_enter Try.func24, Try.ntmps24
  go_upto_region 2 with (first | ((with_reducible refine gate_dst (N := 17) rfl ?_); (try (refine gate_guard (by rfl) ?_; dsimp only)); refine Kd.R_lit (Kd.int .u8) _ 5 ?hg (N := 17) ?hd (xs := ([] : List Int)) (inner := []) (ok := fun _ => True) (okp := fun _ => True) ?hr ?hp (fun _ hk => hk) trivial (Below.refl _ _) (Nat.le_refl _) (by simp) ?_; (case hd => rfl); (case hg => rfl); (case hr => first | (go_simp; done) | (go_simp; rfl)); (case hp => exact (Reps.none _ _)); intro v357 w4 ho5 hb hg_ hnew_; clear hg_ hnew_; (first | rw [← Ny356.out] at ho5 | (simp only [Int.reduceToNat] at ho5; rw [← Ny356.out] at ho5)); have n0_ := Aside0.mk (Kd.R_lower ho5 (below_size (by repeat (first | (with_reducible first | exact HB.out | apply below_alloc | apply pw_below_drewN | apply below_drew1) | exact HB.out)))); have n1_ := Aside0.mk (below_step (by repeat (first | (with_reducible first | exact HB.out | apply below_alloc | apply pw_below_drewN | apply below_drew1) | exact HB.out)) hb); clear HB; have HO358 := n0_; have HB := n1_; clear n0_ n1_; clear hb ho5))
  repeat (go_quiet (first | ((with_reducible refine gate_dst (N := 17) rfl ?_); (try (refine gate_guard (by rfl) ?_; dsimp only)); refine Kd.R_lit (Kd.int .u8) _ 5 ?hg (N := 17) ?hd (xs := ([] : List Int)) (inner := []) (ok := fun _ => True) (okp := fun _ => True) ?hr ?hp (fun _ hk => hk) trivial (Below.refl _ _) (Nat.le_refl _) (by simp) ?_; (case hd => rfl); (case hg => rfl); (case hr => first | (go_simp; done) | (go_simp; rfl)); (case hp => exact (Reps.none _ _)); intro v357 w4 ho5 hb hg_ hnew_; clear hg_ hnew_; (first | rw [← Ny356.out] at ho5 | (simp only [Int.reduceToNat] at ho5; rw [← Ny356.out] at ho5)); have n0_ := Aside0.mk (Kd.R_lower ho5 (below_size (by repeat (first | (with_reducible first | exact HB.out | apply below_alloc | apply pw_below_drewN | apply below_drew1) | exact HB.out)))); have n1_ := Aside0.mk (below_step (by repeat (first | (with_reducible first | exact HB.out | apply below_alloc | apply pw_below_drewN | apply below_drew1) | exact HB.out)) hb); clear HB; have HO358 := n0_; have HB := n1_; clear n0_ n1_; clear hb ho5)); go_upto_region 2 with (first | ((with_reducible refine gate_dst (N := 17) rfl ?_); (try (refine gate_guard (by rfl) ?_; dsimp only)); refine Kd.R_lit (Kd.int .u8) _ 5 ?hg (N := 17) ?hd (xs := ([] : List Int)) (inner := []) (ok := fun _ => True) (okp := fun _ => True) ?hr ?hp (fun _ hk => hk) trivial (Below.refl _ _) (Nat.le_refl _) (by simp) ?_; (case hd => rfl); (case hg => rfl); (case hr => first | (go_simp; done) | (go_simp; rfl)); (case hp => exact (Reps.none _ _)); intro v357 w4 ho5 hb hg_ hnew_; clear hg_ hnew_; (first | rw [← Ny356.out] at ho5 | (simp only [Int.reduceToNat] at ho5; rw [← Ny356.out] at ho5)); have n0_ := Aside0.mk (Kd.R_lower ho5 (below_size (by repeat (first | (with_reducible first | exact HB.out | apply below_alloc | apply pw_below_drewN | apply below_drew1) | exact HB.out)))); have n1_ := Aside0.mk (below_step (by repeat (first | (with_reducible first | exact HB.out | apply below_alloc | apply pw_below_drewN | apply below_drew1) | exact HB.out)) hb); clear HB; have HO358 := n0_; have HB := n1_; clear n0_ n1_; clear hb ho5)))
  (try simp only [Act.put, List.setIfInBounds_toArray, List.set_cons_zero, List.set_cons_succ])
  go_cut [25] (fun v25 wc => ∃ (kq : Nat) (x25_2 : Bool), v25 = .bool x25_2 ∧ Aside0 (flintref06_Class.j0 kq l0 a1 y356 x25_2 = some (r1, r2, r3)) ∧ Aside0 (kq ≤ k) ∧ Aside0 (Kd.R (Kd.int .u8) 5 wc w.heap.size (fun _ => True) v357 y356) ∧ Aside0 (Below w.heap.size w wc))
  case first =>
    have H := HC3.out
    clear HC3
    by_cases c6 : a1 < 0
    · rw [if_pos c6] at H
      have c6b0 : decide (a1 < 0) = true := decide_eq_true c6
      clear c6
      (first | rw [c6b0] | (simp only [i64_w, i32_w]; rw [c6b0]) | skip)
      have H' := Aside0.mk H
      clear H
      go_wp2
      repeat (go_quiet (fail); try go_wp2)
      go_meet
      case rel => exact ⟨_, (true), (by first | rfl | (simp; done) | (simp [*]; done)), H', ⟨by first | omega | exact Nat.le_refl _⟩, ⟨by (with_reducible repeat (first | apply Kd.R_alloc | apply Kd.R_drewN | apply Kd.R_drew)); exact HO358.out⟩, ⟨by repeat (first | (with_reducible first | exact HB.out | apply below_alloc | apply pw_below_drewN | apply below_drew1) | exact HB.out)⟩⟩
    · rw [if_neg c6] at H
      have c6b0 : decide (a1 < 0) = false := decide_eq_false c6
      clear c6
      (first | rw [c6b0] | (simp only [i64_w, i32_w]; rw [c6b0]) | skip)
      have H' := Aside0.mk H
      clear H
      go_wp2
      repeat (go_quiet (fail); try go_wp2)
      go_meet
      case rel => exact ⟨_, (decide (a1 > (l0.length : Int))), (by first | rfl | (simp; done) | (simp [*]; done)), H', ⟨by first | omega | exact Nat.le_refl _⟩, ⟨by (with_reducible repeat (first | apply Kd.R_alloc | apply Kd.R_drewN | apply Kd.R_drew)); exact HO358.out⟩, ⟨by repeat (first | (with_reducible first | exact HB.out | apply below_alloc | apply pw_below_drewN | apply below_drew1) | exact HB.out)⟩⟩
  case rest =>
    clear HC3
    try clear c2
    try clear p2
    try clear c6
    try clear c6b0
    obtain ⟨kq, x25_2, rfl, HA, HJ2, HO_7, HB⟩ := hcut
    cases kq with
    | zero => exact absurd HA.out (by simp [flintref06_Class.j0])
    | succ kj2 =>
      have H := HA.out
      clear HA
      simp only [flintref06_Class.j0] at H
      by_cases c7 : x25_2 = true
      · subst c7
        have H1 : (some (3, y356, 0)) = some (r1, r2, r3) := by rw [if_pos rfl] at H; exact H
        clear H
        have H := H1
        clear H1
        simp only [Option.some.injEq, Prod.mk.injEq] at H
        obtain ⟨rfl, rfl, rfl⟩ := H
        go_wp2
        repeat (go_quiet (fail); try go_wp2)
        go_ret3
        exact ⟨_, by first | rfl | (simp [errW_none, errW_some] <;> rfl) | (simp [*, errW_none, errW_some] <;> rfl), Kd.Q_of_R (by (with_reducible repeat (first | apply Kd.R_alloc | apply Kd.R_drewN | apply Kd.R_drew)); exact HO_7.out), by repeat (first | (with_reducible first | exact HB.out | apply below_alloc | apply pw_below_drewN | apply below_drew1) | exact HB.out)⟩
      · replace c7 := Bool.eq_false_iff.mpr c7
        subst c7
        have H1 : (flintref06_Class.l0 kj2 l0 a1 y356 true a1) = some (r1, r2, r3) := by rw [if_neg (show ¬ (false = true) by decide)] at H; exact H
        clear H
        have H := H1
        clear H1
        have H' := Aside0.mk H
        clear H
        go_wp2
        repeat (go_quiet (fail); try go_wp2)
        go_loopg [8, 9] kj2 (fun kq v8 v9 w' => ∃ (x8_2 : Bool) (x9_2 : Int), v8 = .bool x8_2 ∧ v9 = .int .i64 x9_2 ∧ Aside0 (flintref06_Class.l0 kq l0 a1 y356 x8_2 x9_2 = some (r1, r2, r3)) ∧ Aside0 (kq ≤ kj2) ∧ Aside0 (Kd.R (Kd.int .u8) 5 w' w.heap.size (fun _ => True) v357 y356) ∧ Aside0 (Below w.heap.size w w'))
        case atStart => exact ⟨(true), (a1), (by first | rfl | (simp; done) | (simp [*]; done)), (by first | rfl | (simp; done) | (simp [*]; done)), H', ⟨Nat.le_refl _⟩, ⟨by (with_reducible repeat (first | apply Kd.R_alloc | apply Kd.R_drewN | apply Kd.R_drew)); exact HO_7.out⟩, ⟨by repeat (first | (with_reducible first | exact HB.out | apply below_alloc | apply pw_below_drewN | apply below_drew1) | exact HB.out)⟩⟩
        case round =>
          clear H'
          try clear c2
          try clear p2
          try clear c6
          try clear c6b0
          try clear c7
          try clear p2
          obtain ⟨x8_2, x9_2, rfl, rfl, HA, HK2, HO_7, HB⟩ := hrel
          cases gk with
          | zero => exact absurd HA.out (by simp [flintref06_Class.l0])
          | succ k2 =>
            have H := HA.out
            clear HA
            simp only [flintref06_Class.l0] at H
            by_cases c8 : x9_2 < (l0.length : Int)
            · rw [if_pos c8] at H
              have c8b0 : decide (x9_2 < (l0.length : Int)) = true := decide_eq_true c8
              clear c8
              by_cases c9 : x8_2 = true
              · subst c9
                have H1 : (if 0 ≤ x9_2 then (flintref06_Class.l0 k2 l0 a1 y356 ((rd l0 x9_2) == 255) (wrap64 (x9_2 + 1))) else (none)) = some (r1, r2, r3) := by rw [if_pos rfl] at H; exact H
                clear H
                have H := H1
                clear H1
                by_cases c10 : 0 ≤ x9_2
                · rw [if_pos c10] at H
                  have c10b0 : decide (0 ≤ x9_2) = true := decide_eq_true c10
                  clear c10
                  have H' := Aside0.mk H
                  clear H
                  have p359 : 0 ≤ (x9_2 : Int) := of_decide_eq_true (by first | (with_reducible assumption) | assumption)
                  have q359 : x9_2 < (l0.length : Int) := of_decide_eq_true (by first | (with_reducible assumption) | assumption)
                  obtain ⟨ad359, e359, hx359_0⟩ := Kd.at_int HR0.out x9_2 p359 q359
                  cases e359
                  replace hx359_0 := (HB.out.cell (World.block_lt_of_cell? w _ hx359_0)).trans hx359_0
                  replace p359 := eq_true p359
                  replace q359 := eq_true q359
                  go_wp2
                  repeat (go_quiet (fail); try go_wp2)
                  go_roundg k2
                  case measure => have := HJ2.out; have := HK2.out; omega
                  case rel => exact ⟨(((rd l0 x9_2) == 255)), (wrap64 (x9_2 + 1)), (by first | rfl | (simp; done) | (simp [*]; done)), (by first | rfl | (simp; done) | (simp [*]; done)), H', ⟨by have := HJ2.out; have := HK2.out; omega⟩, ⟨by (with_reducible repeat (first | apply Kd.R_alloc | apply Kd.R_drewN | apply Kd.R_drew)); exact HO_7.out⟩, ⟨by repeat (first | (with_reducible first | exact HB.out | apply below_alloc | apply pw_below_drewN | apply below_drew1) | exact HB.out)⟩⟩
                · rw [if_neg c10] at H
                  exact absurd H (by simp)
              · replace c9 := Bool.eq_false_iff.mpr c9
                subst c9
                have H1 : (flintref06_Class.l0 k2 l0 a1 y356 false (wrap64 (x9_2 + 1))) = some (r1, r2, r3) := by rw [if_neg (show ¬ (false = true) by decide)] at H; exact H
                clear H
                have H := H1
                clear H1
                have H' := Aside0.mk H
                clear H
                go_wp2
                repeat (go_quiet (fail); try go_wp2)
                go_roundg k2
                case measure => have := HJ2.out; have := HK2.out; omega
                case rel => exact ⟨(false), (wrap64 (x9_2 + 1)), (by first | rfl | (simp; done) | (simp [*]; done)), (by first | rfl | (simp; done) | (simp [*]; done)), H', ⟨by have := HJ2.out; have := HK2.out; omega⟩, ⟨by (with_reducible repeat (first | apply Kd.R_alloc | apply Kd.R_drewN | apply Kd.R_drew)); exact HO_7.out⟩, ⟨by repeat (first | (with_reducible first | exact HB.out | apply below_alloc | apply pw_below_drewN | apply below_drew1) | exact HB.out)⟩⟩
            · rw [if_neg c8] at H
              have c8b0 : decide (x9_2 < (l0.length : Int)) = false := decide_eq_false c8
              clear c8
              by_cases c11 : x8_2 = true
              · subst c11
                have H1 : (some (0, y356, 0)) = some (r1, r2, r3) := by rw [if_pos rfl] at H; exact H
                clear H
                have H := H1
                clear H1
                simp only [Option.some.injEq, Prod.mk.injEq] at H
                obtain ⟨rfl, rfl, rfl⟩ := H
                go_wp2
                repeat (go_quiet (fail); try go_wp2)
                go_ret3
                exact ⟨_, by first | rfl | (simp [errW_none, errW_some] <;> rfl) | (simp [*, errW_none, errW_some] <;> rfl), Kd.Q_of_R (by (with_reducible repeat (first | apply Kd.R_alloc | apply Kd.R_drewN | apply Kd.R_drew)); exact HO_7.out), by repeat (first | (with_reducible first | exact HB.out | apply below_alloc | apply pw_below_drewN | apply below_drew1) | exact HB.out)⟩
              · replace c11 := Bool.eq_false_iff.mpr c11
                subst c11
                have H1 : (if 0 ≤ a1 then (if a1 < (l0.length : Int) then (if (rd l0 a1) = 127 then (flintref06_Class.j2 k2 l0 a1 y356 4) else (if (rd l0 a1) = 63 then (flintref06_Class.j2 k2 l0 a1 y356 5) else (if (rd l0 a1) = 95 then (flintref06_Class.j2 k2 l0 a1 y356 6) else (if (rd l0 a1) = 31 then (flintref06_Class.j2 k2 l0 a1 y356 6) else (flintref06_Class.j2 k2 l0 a1 y356 3))))) else (none)) else (none)) = some (r1, r2, r3) := by rw [if_neg (show ¬ (false = true) by decide)] at H; exact H
                clear H
                have H := H1
                clear H1
                by_cases c12 : 0 ≤ a1
                · rw [if_pos c12] at H
                  have c12b0 : decide (0 ≤ a1) = true := decide_eq_true c12
                  clear c12
                  by_cases c13 : a1 < (l0.length : Int)
                  · rw [if_pos c13] at H
                    have c13b0 : decide (a1 < (l0.length : Int)) = true := decide_eq_true c13
                    clear c13
                    have HC14 := Aside0.mk H
                    clear H
                    have p360 : 0 ≤ (a1 : Int) := of_decide_eq_true (by first | (with_reducible assumption) | assumption)
                    have q360 : a1 < (l0.length : Int) := of_decide_eq_true (by first | (with_reducible assumption) | assumption)
                    obtain ⟨ad360, e360, hx360_0⟩ := Kd.at_int HR0.out a1 p360 q360
                    cases e360
                    replace hx360_0 := (HB.out.cell (World.block_lt_of_cell? w _ hx360_0)).trans hx360_0
                    replace p360 := eq_true p360
                    replace q360 := eq_true q360
                    go_upto_block 2 with (fail)
                    repeat (go_quiet (fail); go_upto_block 2 with (fail))
                    go_cut [11] (fun v11 wc => ∃ (kq : Nat) (x11_13 : Int), v11 = .int .i64 x11_13 ∧ Aside0 (flintref06_Class.j2 kq l0 a1 y356 x11_13 = some (r1, r2, r3)) ∧ Aside0 (kq ≤ k2) ∧ Aside0 (Kd.R (Kd.int .u8) 5 wc w.heap.size (fun _ => True) v357 y356) ∧ Aside0 (Below w.heap.size w wc))
                    case first =>
                      have H := HC14.out
                      clear HC14
                      by_cases c15 : (rd l0 a1) = 127
                      · rw [if_pos c15] at H
                        have c15b0 : ((rd l0 a1) == 127) = true := beq_iff_eq.mpr c15
                        have c15b1 : ((rd l0 a1) != 127) = false := bne_eq_false_iff_eq.mpr c15
                        clear c15
                        (first | rw [c15b0] | (simp only [i64_w, i32_w]; rw [c15b0]) | skip)
                        have H' := Aside0.mk H
                        clear H
                        go_wp2
                        repeat (go_quiet (fail); try go_wp2)
                        go_meet
                        case rel => exact ⟨_, (4), (by first | rfl | (simp; done) | (simp [*]; done)), H', ⟨by have := HJ2.out; have := HK2.out; first | omega | exact Nat.le_refl _⟩, ⟨by (with_reducible repeat (first | apply Kd.R_alloc | apply Kd.R_drewN | apply Kd.R_drew)); exact HO_7.out⟩, ⟨by repeat (first | (with_reducible first | exact HB.out | apply below_alloc | apply pw_below_drewN | apply below_drew1) | exact HB.out)⟩⟩
                      · rw [if_neg c15] at H
                        have c15b0 : ((rd l0 a1) == 127) = false := beq_eq_false_iff_ne.mpr c15
                        have c15b1 : ((rd l0 a1) != 127) = true := bne_iff_ne.mpr c15
                        (first | rw [c15b0] | (simp only [i64_w, i32_w]; rw [c15b0]) | skip)
                        by_cases c16 : (rd l0 a1) = 63
                        · rw [if_pos c16] at H
                          have c16b0 : ((rd l0 a1) == 63) = true := beq_iff_eq.mpr c16
                          have c16b1 : ((rd l0 a1) != 63) = false := bne_eq_false_iff_eq.mpr c16
                          clear c16
                          have H' := Aside0.mk H
                          clear H
                          go_wp2
                          repeat (go_quiet (fail); try go_wp2)
                          go_meet
                          case rel => exact ⟨_, (5), (by first | rfl | (simp; done) | (simp [*]; done)), H', ⟨by have := HJ2.out; have := HK2.out; first | omega | exact Nat.le_refl _⟩, ⟨by (with_reducible repeat (first | apply Kd.R_alloc | apply Kd.R_drewN | apply Kd.R_drew)); exact HO_7.out⟩, ⟨by repeat (first | (with_reducible first | exact HB.out | apply below_alloc | apply pw_below_drewN | apply below_drew1) | exact HB.out)⟩⟩
                        · rw [if_neg c16] at H
                          have c16b0 : ((rd l0 a1) == 63) = false := beq_eq_false_iff_ne.mpr c16
                          have c16b1 : ((rd l0 a1) != 63) = true := bne_iff_ne.mpr c16
                          by_cases c17 : (rd l0 a1) = 95
                          · rw [if_pos c17] at H
                            have c17b0 : ((rd l0 a1) == 95) = true := beq_iff_eq.mpr c17
                            have c17b1 : ((rd l0 a1) != 95) = false := bne_eq_false_iff_eq.mpr c17
                            clear c17
                            have H' := Aside0.mk H
                            clear H
                            go_wp2
                            repeat (go_quiet (fail); try go_wp2)
                            go_meet
                            case rel => exact ⟨_, (6), (by first | rfl | (simp; done) | (simp [*]; done)), H', ⟨by have := HJ2.out; have := HK2.out; first | omega | exact Nat.le_refl _⟩, ⟨by (with_reducible repeat (first | apply Kd.R_alloc | apply Kd.R_drewN | apply Kd.R_drew)); exact HO_7.out⟩, ⟨by repeat (first | (with_reducible first | exact HB.out | apply below_alloc | apply pw_below_drewN | apply below_drew1) | exact HB.out)⟩⟩
                          · rw [if_neg c17] at H
                            have c17b0 : ((rd l0 a1) == 95) = false := beq_eq_false_iff_ne.mpr c17
                            have c17b1 : ((rd l0 a1) != 95) = true := bne_iff_ne.mpr c17
                            by_cases c18 : (rd l0 a1) = 31
                            · rw [if_pos c18] at H
                              have c18b0 : ((rd l0 a1) == 31) = true := beq_iff_eq.mpr c18
                              have c18b1 : ((rd l0 a1) != 31) = false := bne_eq_false_iff_eq.mpr c18
                              clear c18
                              have H' := Aside0.mk H
                              clear H
                              go_wp2
                              repeat (go_quiet (fail); try go_wp2)
                              go_meet
                              case rel => exact ⟨_, (6), (by first | rfl | (simp; done) | (simp [*]; done)), H', ⟨by have := HJ2.out; have := HK2.out; first | omega | exact Nat.le_refl _⟩, ⟨by (with_reducible repeat (first | apply Kd.R_alloc | apply Kd.R_drewN | apply Kd.R_drew)); exact HO_7.out⟩, ⟨by repeat (first | (with_reducible first | exact HB.out | apply below_alloc | apply pw_below_drewN | apply below_drew1) | exact HB.out)⟩⟩
                            · rw [if_neg c18] at H
                              have c18b0 : ((rd l0 a1) == 31) = false := beq_eq_false_iff_ne.mpr c18
                              have c18b1 : ((rd l0 a1) != 31) = true := bne_iff_ne.mpr c18
                              have H' := Aside0.mk H
                              clear H
                              go_wp2
                              repeat (go_quiet (fail); try go_wp2)
                              go_meet
                              case rel => exact ⟨_, (3), (by first | rfl | (simp; done) | (simp [*]; done)), H', ⟨by have := HJ2.out; have := HK2.out; first | omega | exact Nat.le_refl _⟩, ⟨by (with_reducible repeat (first | apply Kd.R_alloc | apply Kd.R_drewN | apply Kd.R_drew)); exact HO_7.out⟩, ⟨by repeat (first | (with_reducible first | exact HB.out | apply below_alloc | apply pw_below_drewN | apply below_drew1) | exact HB.out)⟩⟩
                    case rest =>
                      clear HC14
                      try clear c1
                      try clear c2
                      try clear p2
                      try clear p3
                      try clear q3
                      try clear hx3
                      try clear c6
                      try clear c6b0
                      try clear p6
                      try clear c7
                      try clear c8
                      try clear c8b0
                      try clear c9
                      try clear c10
                      try clear c10b0
                      try clear c11
                      try clear c12
                      try clear c12b0
                      try clear c13
                      try clear c13b0
                      try clear c15
                      try clear c15b0
                      try clear c15b1
                      try clear c16
                      try clear c16b0
                      try clear c16b1
                      try clear c17
                      try clear c17b0
                      try clear c17b1
                      try clear c18
                      try clear c18b0
                      try clear c18b1
                      try clear hx359_0
                      try clear hx360_0
                      try clear p2
                      try clear p359
                      try clear p360
                      try clear q359
                      try clear q360
                      obtain ⟨kq, x11_13, rfl, HA, HJ13, HO_7, HB⟩ := hcut
                      cases kq with
                      | zero => exact absurd HA.out (by simp [flintref06_Class.j2])
                      | succ kj13 =>
                        have H := HA.out
                        clear HA
                        simp only [flintref06_Class.j2] at H
                        have HC19 := Aside0.mk H
                        clear H
                        go_upto_region 21 with (fail)
                        repeat (go_quiet (fail); go_upto_region 21 with (fail))
                        go_cut [64] (fun v64 wc => ∃ (kq : Nat) (x64_18 : Bool), v64 = .bool x64_18 ∧ Aside0 (flintref06_Class.j3 kq l0 a1 y356 x11_13 x64_18 = some (r1, r2, r3)) ∧ Aside0 (kq ≤ kj13) ∧ Aside0 (Kd.R (Kd.int .u8) 5 wc w.heap.size (fun _ => True) v357 y356) ∧ Aside0 (Below w.heap.size w wc))
                        case first =>
                          have H := HC19.out
                          clear HC19
                          by_cases c20 : x11_13 = 3
                          · rw [if_pos c20] at H
                            have c20b0 : (x11_13 == 3) = true := beq_iff_eq.mpr c20
                            have c20b1 : (x11_13 != 3) = false := bne_eq_false_iff_eq.mpr c20
                            clear c20
                            (first | rw [c20b0] | (simp only [i64_w, i32_w]; rw [c20b0]) | skip)
                            have H' := Aside0.mk H
                            clear H
                            go_wp2
                            repeat (go_quiet (fail); try go_wp2)
                            go_meet
                            case rel => exact ⟨_, (true), (by first | rfl | (simp; done) | (simp [*]; done)), H', ⟨by have := HJ2.out; have := HK2.out; have := HJ13.out; first | omega | exact Nat.le_refl _⟩, ⟨by (with_reducible repeat (first | apply Kd.R_alloc | apply Kd.R_drewN | apply Kd.R_drew)); exact HO_7.out⟩, ⟨by repeat (first | (with_reducible first | exact HB.out | apply below_alloc | apply pw_below_drewN | apply below_drew1) | exact HB.out)⟩⟩
                          · rw [if_neg c20] at H
                            have c20b0 : (x11_13 == 3) = false := beq_eq_false_iff_ne.mpr c20
                            have c20b1 : (x11_13 != 3) = true := bne_iff_ne.mpr c20
                            (first | rw [c20b0] | (simp only [i64_w, i32_w]; rw [c20b0]) | skip)
                            have H' := Aside0.mk H
                            clear H
                            go_wp2
                            repeat (go_quiet (fail); try go_wp2)
                            go_meet
                            case rel => exact ⟨_, (decide ((wrap64 ((l0.length : Int) - a1)) < 8)), (by first | rfl | (simp; done) | (simp [*]; done)), H', ⟨by have := HJ2.out; have := HK2.out; have := HJ13.out; first | omega | exact Nat.le_refl _⟩, ⟨by (with_reducible repeat (first | apply Kd.R_alloc | apply Kd.R_drewN | apply Kd.R_drew)); exact HO_7.out⟩, ⟨by repeat (first | (with_reducible first | exact HB.out | apply below_alloc | apply pw_below_drewN | apply below_drew1) | exact HB.out)⟩⟩
                        case rest =>
                          clear HC19
                          try clear c1
                          try clear c2
                          try clear p2
                          try clear p3
                          try clear q3
                          try clear hx3
                          try clear c6
                          try clear c6b0
                          try clear p6
                          try clear c7
                          try clear c8
                          try clear c8b0
                          try clear c9
                          try clear c10
                          try clear c10b0
                          try clear c11
                          try clear c12
                          try clear c12b0
                          try clear c13
                          try clear c13b0
                          try clear c15
                          try clear c15b0
                          try clear c15b1
                          try clear c16
                          try clear c16b0
                          try clear c16b1
                          try clear c17
                          try clear c17b0
                          try clear c17b1
                          try clear c18
                          try clear c18b0
                          try clear c18b1
                          try clear c20
                          try clear c20b0
                          try clear c20b1
                          try clear hx359_0
                          try clear hx360_0
                          try clear p2
                          try clear p3
                          try clear p359
                          try clear p360
                          try clear p6
                          try clear q3
                          try clear q359
                          try clear q360
                          obtain ⟨kq, x64_18, rfl, HA, HJ18, HO_7, HB⟩ := hcut
                          cases kq with
                          | zero => exact absurd HA.out (by simp [flintref06_Class.j3])
                          | succ kj18 =>
                            have H := HA.out
                            clear HA
                            simp only [flintref06_Class.j3] at H
                            by_cases c21 : x64_18 = true
                            · subst c21
                              have H1 : (some (3, y356, 0)) = some (r1, r2, r3) := by rw [if_pos rfl] at H; exact H
                              clear H
                              have H := H1
                              clear H1
                              simp only [Option.some.injEq, Prod.mk.injEq] at H
                              obtain ⟨rfl, rfl, rfl⟩ := H
                              go_wp2
                              repeat (go_quiet (fail); try go_wp2)
                              go_ret3
                              exact ⟨_, by first | rfl | (simp [errW_none, errW_some] <;> rfl) | (simp [*, errW_none, errW_some] <;> rfl), Kd.Q_of_R (by (with_reducible repeat (first | apply Kd.R_alloc | apply Kd.R_drewN | apply Kd.R_drew)); exact HO_7.out), by repeat (first | (with_reducible first | exact HB.out | apply below_alloc | apply pw_below_drewN | apply below_drew1) | exact HB.out)⟩
                            · replace c21 := Bool.eq_false_iff.mpr c21
                              subst c21
                              have H1 : (if 0 ≤ (wrap64 (a1 + 1)) then (if (wrap64 (a1 + 1)) < (l0.length : Int) then (if 0 ≤ (wrap64 (a1 + 2)) then (if (wrap64 (a1 + 2)) < (l0.length : Int) then (if (wrap64 ((wrap64 ((l0.length : Int) - a1)) - 8)) < (wrap64 ((wrap64 (256 * (wrap64 (rd l0 (wrap64 (a1 + 1)))))) + (wrap64 (rd l0 (wrap64 (a1 + 2)))))) then (flintref06_Class.j4 kj18 l0 a1 y356 x11_13 (wrap64 ((wrap64 (256 * (wrap64 (rd l0 (wrap64 (a1 + 1)))))) + (wrap64 (rd l0 (wrap64 (a1 + 2)))))) true) else (if 0 ≤ (wrap64 ((wrap64 (a1 + 7)) + (wrap64 ((wrap64 (256 * (wrap64 (rd l0 (wrap64 (a1 + 1)))))) + (wrap64 (rd l0 (wrap64 (a1 + 2)))))))) then (if (wrap64 ((wrap64 (a1 + 7)) + (wrap64 ((wrap64 (256 * (wrap64 (rd l0 (wrap64 (a1 + 1)))))) + (wrap64 (rd l0 (wrap64 (a1 + 2)))))))) < (l0.length : Int) then (flintref06_Class.j4 kj18 l0 a1 y356 x11_13 (wrap64 ((wrap64 (256 * (wrap64 (rd l0 (wrap64 (a1 + 1)))))) + (wrap64 (rd l0 (wrap64 (a1 + 2)))))) ((rd l0 (wrap64 ((wrap64 (a1 + 7)) + (wrap64 ((wrap64 (256 * (wrap64 (rd l0 (wrap64 (a1 + 1)))))) + (wrap64 (rd l0 (wrap64 (a1 + 2))))))))) != 0)) else (none)) else (none))) else (none)) else (none)) else (none)) else (none)) = some (r1, r2, r3) := by rw [if_neg (show ¬ (false = true) by decide)] at H; exact H
                              clear H
                              have H := H1
                              clear H1
                              obtain ⟨ji22, hji22⟩ : ∃ j_ : Int, (wrap64 (a1 + 1)) = j_ := ⟨_, rfl⟩
                              replace H : (if 0 ≤ (ji22) then (if (ji22) < (l0.length : Int) then (if 0 ≤ (wrap64 (a1 + 2)) then (if (wrap64 (a1 + 2)) < (l0.length : Int) then (if (wrap64 ((wrap64 ((l0.length : Int) - a1)) - 8)) < (wrap64 ((wrap64 (256 * (wrap64 (rd l0 (ji22))))) + (wrap64 (rd l0 (wrap64 (a1 + 2)))))) then (flintref06_Class.j4 kj18 l0 a1 y356 x11_13 (wrap64 ((wrap64 (256 * (wrap64 (rd l0 (ji22))))) + (wrap64 (rd l0 (wrap64 (a1 + 2)))))) true) else (if 0 ≤ (wrap64 ((wrap64 (a1 + 7)) + (wrap64 ((wrap64 (256 * (wrap64 (rd l0 (ji22))))) + (wrap64 (rd l0 (wrap64 (a1 + 2)))))))) then (if (wrap64 ((wrap64 (a1 + 7)) + (wrap64 ((wrap64 (256 * (wrap64 (rd l0 (ji22))))) + (wrap64 (rd l0 (wrap64 (a1 + 2)))))))) < (l0.length : Int) then (flintref06_Class.j4 kj18 l0 a1 y356 x11_13 (wrap64 ((wrap64 (256 * (wrap64 (rd l0 (ji22))))) + (wrap64 (rd l0 (wrap64 (a1 + 2)))))) ((rd l0 (wrap64 ((wrap64 (a1 + 7)) + (wrap64 ((wrap64 (256 * (wrap64 (rd l0 (ji22))))) + (wrap64 (rd l0 (wrap64 (a1 + 2))))))))) != 0)) else (none)) else (none))) else (none)) else (none)) else (none)) else (none)) = some (r1, r2, r3) := by first | (rw [hji22] at H; exact H) | (simp only [hji22] at H ⊢; exact H)
                              have hji22w : (IntKind.i64.wrap (a1 + 1)) = ji22 := (i64_w _).trans hji22
                              by_cases c23 : 0 ≤ (ji22)
                              · rw [if_pos c23] at H
                                have c23b0 : decide (0 ≤ (ji22)) = true := decide_eq_true c23
                                clear c23
                                by_cases c24 : (ji22) < (l0.length : Int)
                                · rw [if_pos c24] at H
                                  have c24b0 : decide ((ji22) < (l0.length : Int)) = true := decide_eq_true c24
                                  clear c24
                                  obtain ⟨ji25, hji25⟩ : ∃ j_ : Int, (wrap64 (a1 + 2)) = j_ := ⟨_, rfl⟩
                                  replace H : (if 0 ≤ (ji25) then (if (ji25) < (l0.length : Int) then (if (wrap64 ((wrap64 ((l0.length : Int) - a1)) - 8)) < (wrap64 ((wrap64 (256 * (wrap64 (rd l0 (ji22))))) + (wrap64 (rd l0 (ji25))))) then (flintref06_Class.j4 kj18 l0 a1 y356 x11_13 (wrap64 ((wrap64 (256 * (wrap64 (rd l0 (ji22))))) + (wrap64 (rd l0 (ji25))))) true) else (if 0 ≤ (wrap64 ((wrap64 (a1 + 7)) + (wrap64 ((wrap64 (256 * (wrap64 (rd l0 (ji22))))) + (wrap64 (rd l0 (ji25))))))) then (if (wrap64 ((wrap64 (a1 + 7)) + (wrap64 ((wrap64 (256 * (wrap64 (rd l0 (ji22))))) + (wrap64 (rd l0 (ji25))))))) < (l0.length : Int) then (flintref06_Class.j4 kj18 l0 a1 y356 x11_13 (wrap64 ((wrap64 (256 * (wrap64 (rd l0 (ji22))))) + (wrap64 (rd l0 (ji25))))) ((rd l0 (wrap64 ((wrap64 (a1 + 7)) + (wrap64 ((wrap64 (256 * (wrap64 (rd l0 (ji22))))) + (wrap64 (rd l0 (ji25)))))))) != 0)) else (none)) else (none))) else (none)) else (none)) = some (r1, r2, r3) := by first | (rw [hji25] at H; exact H) | (simp only [hji25] at H ⊢; exact H)
                                  have hji25w : (IntKind.i64.wrap (a1 + 2)) = ji25 := (i64_w _).trans hji25
                                  by_cases c26 : 0 ≤ (ji25)
                                  · rw [if_pos c26] at H
                                    have c26b0 : decide (0 ≤ (ji25)) = true := decide_eq_true c26
                                    clear c26
                                    by_cases c27 : (ji25) < (l0.length : Int)
                                    · rw [if_pos c27] at H
                                      have c27b0 : decide ((ji25) < (l0.length : Int)) = true := decide_eq_true c27
                                      clear c27
                                      have HC28 := Aside0.mk H
                                      clear H
                                      have p361 : 0 ≤ ((ji22) : Int) := of_decide_eq_true (by first | (with_reducible assumption) | assumption)
                                      have q361 : (ji22) < (l0.length : Int) := of_decide_eq_true (by first | (with_reducible assumption) | assumption)
                                      obtain ⟨ad361, e361, hx361_0⟩ := Kd.at_int HR0.out (ji22) p361 q361
                                      obtain rfl : ad360 = ad361 := (by injection e361)
                                      replace hx361_0 := (HB.out.cell (World.block_lt_of_cell? w _ hx361_0)).trans hx361_0
                                      replace p361 := eq_true p361
                                      replace q361 := eq_true q361
                                      have p362 : 0 ≤ ((ji25) : Int) := of_decide_eq_true (by first | (with_reducible assumption) | assumption)
                                      have q362 : (ji25) < (l0.length : Int) := of_decide_eq_true (by first | (with_reducible assumption) | assumption)
                                      obtain ⟨ad362, e362, hx362_0⟩ := Kd.at_int HR0.out (ji25) p362 q362
                                      obtain rfl : ad360 = ad362 := (by injection e362)
                                      replace hx362_0 := (HB.out.cell (World.block_lt_of_cell? w _ hx362_0)).trans hx362_0
                                      replace p362 := eq_true p362
                                      replace q362 := eq_true q362
                                      go_upto_region 24 with (fail)
                                      repeat (go_quiet (fail); go_upto_region 24 with (fail))
                                      go_cut [96] (fun v96 wc => ∃ (kq : Nat) (x96_27 : Bool), v96 = .bool x96_27 ∧ Aside0 (flintref06_Class.j4 kq l0 a1 y356 x11_13 (wrap64 ((wrap64 (256 * (wrap64 (rd l0 (ji22))))) + (wrap64 (rd l0 (ji25))))) x96_27 = some (r1, r2, r3)) ∧ Aside0 (kq ≤ kj18) ∧ Aside0 (Kd.R (Kd.int .u8) 5 wc w.heap.size (fun _ => True) v357 y356) ∧ Aside0 (Below w.heap.size w wc))
                                      case first =>
                                        have H := HC28.out
                                        clear HC28
                                        by_cases c29 : (wrap64 ((wrap64 ((l0.length : Int) - a1)) - 8)) < (wrap64 ((wrap64 (256 * (wrap64 (rd l0 (ji22))))) + (wrap64 (rd l0 (ji25)))))
                                        · rw [if_pos c29] at H
                                          have c29b0 : decide ((wrap64 ((wrap64 ((l0.length : Int) - a1)) - 8)) < (wrap64 ((wrap64 (256 * (wrap64 (rd l0 (ji22))))) + (wrap64 (rd l0 (ji25)))))) = true := decide_eq_true c29
                                          clear c29
                                          (first | rw [c29b0] | (simp only [i64_w, i32_w]; rw [c29b0]) | skip)
                                          have H' := Aside0.mk H
                                          clear H
                                          go_wp2
                                          repeat (go_quiet (fail); try go_wp2)
                                          go_meet
                                          case rel => exact ⟨_, (true), (by first | rfl | (simp; done) | (simp [*]; done)), H', ⟨by have := HJ2.out; have := HK2.out; have := HJ13.out; have := HJ18.out; first | omega | exact Nat.le_refl _⟩, ⟨by (with_reducible repeat (first | apply Kd.R_alloc | apply Kd.R_drewN | apply Kd.R_drew)); exact HO_7.out⟩, ⟨by repeat (first | (with_reducible first | exact HB.out | apply below_alloc | apply pw_below_drewN | apply below_drew1) | exact HB.out)⟩⟩
                                        · rw [if_neg c29] at H
                                          have c29b0 : decide ((wrap64 ((wrap64 ((l0.length : Int) - a1)) - 8)) < (wrap64 ((wrap64 (256 * (wrap64 (rd l0 (ji22))))) + (wrap64 (rd l0 (ji25)))))) = false := decide_eq_false c29
                                          clear c29
                                          (first | rw [c29b0] | (simp only [i64_w, i32_w]; rw [c29b0]) | skip)
                                          obtain ⟨ji30, hji30⟩ : ∃ j_ : Int, (wrap64 ((wrap64 (a1 + 7)) + (wrap64 ((wrap64 (256 * (wrap64 (rd l0 (ji22))))) + (wrap64 (rd l0 (ji25))))))) = j_ := ⟨_, rfl⟩
                                          replace H : (if 0 ≤ (ji30) then (if (ji30) < (l0.length : Int) then (flintref06_Class.j4 kj18 l0 a1 y356 x11_13 (wrap64 ((wrap64 (256 * (wrap64 (rd l0 (ji22))))) + (wrap64 (rd l0 (ji25))))) ((rd l0 (ji30)) != 0)) else (none)) else (none)) = some (r1, r2, r3) := by first | (rw [hji30] at H; exact H) | (simp only [hji30] at H ⊢; exact H)
                                          have hji30w : (IntKind.i64.wrap ((wrap64 (a1 + 7)) + (wrap64 ((wrap64 (256 * (wrap64 (rd l0 (ji22))))) + (wrap64 (rd l0 (ji25))))))) = ji30 := (i64_w _).trans hji30
                                          by_cases c31 : 0 ≤ (ji30)
                                          · rw [if_pos c31] at H
                                            have c31b0 : decide (0 ≤ (ji30)) = true := decide_eq_true c31
                                            clear c31
                                            by_cases c32 : (ji30) < (l0.length : Int)
                                            · rw [if_pos c32] at H
                                              have c32b0 : decide ((ji30) < (l0.length : Int)) = true := decide_eq_true c32
                                              clear c32
                                              have H' := Aside0.mk H
                                              clear H
                                              have p363 : 0 ≤ ((ji30) : Int) := of_decide_eq_true (by first | (with_reducible assumption) | assumption)
                                              have q363 : (ji30) < (l0.length : Int) := of_decide_eq_true (by first | (with_reducible assumption) | assumption)
                                              obtain ⟨ad363, e363, hx363_0⟩ := Kd.at_int HR0.out (ji30) p363 q363
                                              obtain rfl : ad360 = ad363 := (by injection e363)
                                              replace hx363_0 := (HB.out.cell (World.block_lt_of_cell? w _ hx363_0)).trans hx363_0
                                              replace p363 := eq_true p363
                                              replace q363 := eq_true q363
                                              go_wp2
                                              repeat (go_quiet (fail); try go_wp2)
                                              go_meet
                                              case rel => exact ⟨_, (((rd l0 (ji30)) != 0)), (by first | rfl | (simp; done) | (simp only [← hji30] <;> (first | rfl | simp)) | (simp [*]; done)), H', ⟨by have := HJ2.out; have := HK2.out; have := HJ13.out; have := HJ18.out; first | omega | exact Nat.le_refl _⟩, ⟨by (with_reducible repeat (first | apply Kd.R_alloc | apply Kd.R_drewN | apply Kd.R_drew)); exact HO_7.out⟩, ⟨by repeat (first | (with_reducible first | exact HB.out | apply below_alloc | apply pw_below_drewN | apply below_drew1) | exact HB.out)⟩⟩
                                            · rw [if_neg c32] at H
                                              exact absurd H (by simp)
                                          · rw [if_neg c31] at H
                                            exact absurd H (by simp)
                                      case rest =>
                                        clear HC28
                                        try clear c1
                                        try clear c2
                                        try clear p2
                                        try clear c3
                                        try clear p3
                                        try clear q3
                                        try clear hx3
                                        try clear c6
                                        try clear c6b0
                                        try clear p6
                                        try clear c7
                                        try clear c8
                                        try clear c8b0
                                        try clear c9
                                        try clear c10
                                        try clear c10b0
                                        try clear c11
                                        try clear c12
                                        try clear c12b0
                                        try clear c13
                                        try clear c13b0
                                        try clear c15
                                        try clear c15b0
                                        try clear c15b1
                                        try clear c16
                                        try clear c16b0
                                        try clear c16b1
                                        try clear c17
                                        try clear c17b0
                                        try clear c17b1
                                        try clear c18
                                        try clear c18b0
                                        try clear c18b1
                                        try clear c20
                                        try clear c20b0
                                        try clear c20b1
                                        try clear c21
                                        try clear c23
                                        try clear c23b0
                                        try clear c24
                                        try clear c24b0
                                        try clear c26
                                        try clear c26b0
                                        try clear c27
                                        try clear c27b0
                                        try clear c29
                                        try clear c29b0
                                        try clear c31
                                        try clear c31b0
                                        try clear c32
                                        try clear c32b0
                                        try clear hx359_0
                                        try clear hx360_0
                                        try clear hx361_0
                                        try clear hx362_0
                                        try clear hx363_0
                                        try clear p2
                                        try clear p3
                                        try clear p359
                                        try clear p360
                                        try clear p361
                                        try clear p362
                                        try clear p363
                                        try clear p6
                                        try clear q3
                                        try clear q359
                                        try clear q360
                                        try clear q361
                                        try clear q362
                                        try clear q363
                                        obtain ⟨kq, x96_27, rfl, HA, HJ27, HO_7, HB⟩ := hcut
                                        cases kq with
                                        | zero => exact absurd HA.out (by simp [flintref06_Class.j4])
                                        | succ kj27 =>
                                          have H := HA.out
                                          clear HA
                                          simp only [flintref06_Class.j4] at H
                                          by_cases c33 : x96_27 = true
                                          · subst c33
                                            have H1 : (some (3, y356, 0)) = some (r1, r2, r3) := by rw [if_pos rfl] at H; exact H
                                            clear H
                                            have H := H1
                                            clear H1
                                            simp only [Option.some.injEq, Prod.mk.injEq] at H
                                            obtain ⟨rfl, rfl, rfl⟩ := H
                                            go_wp2
                                            repeat (go_quiet (fail); try go_wp2)
                                            go_ret3
                                            exact ⟨_, by first | rfl | (simp [errW_none, errW_some] <;> rfl) | (simp only [← hji22, ← hji25]; first | rfl | (simp [errW_none, errW_some] <;> rfl)) | (simp [*, errW_none, errW_some] <;> rfl), Kd.Q_of_R (by (with_reducible repeat (first | apply Kd.R_alloc | apply Kd.R_drewN | apply Kd.R_drew)); exact HO_7.out), by repeat (first | (with_reducible first | exact HB.out | apply below_alloc | apply pw_below_drewN | apply below_drew1) | exact HB.out)⟩
                                          · replace c33 := Bool.eq_false_iff.mpr c33
                                            subst c33
                                            have H1 : ((some (([] : List Int) : List Int)).bind fun y364 => (if 0 ≤ (wrap64 (a1 + 1)) then (if (wrap64 (a1 + 1)) ≤ (wrap64 (a1 + 3)) then (if (wrap64 (a1 + 3)) ≤ (l0.length : Int) then (if y364.length + ((l0.take ((wrap64 (a1 + 3)) : Int).toNat).drop ((wrap64 (a1 + 1)) : Int).toNat).length < 140737488355328 then ((some (y364 ++ ((l0.take ((wrap64 (a1 + 3)) : Int).toNat).drop ((wrap64 (a1 + 1)) : Int).toNat) : List Int)).bind fun y368 => (if 0 ≤ (wrap64 (a1 + 7)) then (if (wrap64 (a1 + 7)) ≤ (wrap64 ((wrap64 (a1 + 7)) + (wrap64 ((wrap64 (256 * (wrap64 (rd l0 (ji22))))) + (wrap64 (rd l0 (ji25))))))) then (if (wrap64 ((wrap64 (a1 + 7)) + (wrap64 ((wrap64 (256 * (wrap64 (rd l0 (ji22))))) + (wrap64 (rd l0 (ji25))))))) ≤ (l0.length : Int) then (if y368.length + ((l0.take ((wrap64 ((wrap64 (a1 + 7)) + (wrap64 ((wrap64 (256 * (wrap64 (rd l0 (ji22))))) + (wrap64 (rd l0 (ji25))))))) : Int).toNat).drop ((wrap64 (a1 + 7)) : Int).toNat).length < 140737488355328 then ((some (y368 ++ ((l0.take ((wrap64 ((wrap64 (a1 + 7)) + (wrap64 ((wrap64 (256 * (wrap64 (rd l0 (ji22))))) + (wrap64 (rd l0 (ji25))))))) : Int).toNat).drop ((wrap64 (a1 + 7)) : Int).toNat) : List Int)).bind fun y372 => ((flintref03_Get.f kj27 l0 (wrap64 (a1 + 3)) 4).bind fun bt375 => ((flintref01_Sum.f kj27 y372).bind fun t378 => (if (IntKind.u64.wrap (t378)) = bt375.1 then (if 2 ≤ (y372.length : Int) then (some (x11_13, (y372.drop (2 : Int).toNat), wrap64 ((wrap64 (a1 + 8)) + (wrap64 ((wrap64 (256 * (wrap64 (rd l0 (ji22))))) + (wrap64 (rd l0 (ji25)))))))) else (none)) else (some (3, y356, 0)))))) else (none)) else (none)) else (none)) else (none))) else (none)) else (none)) else (none)) else (none))) = some (r1, r2, r3) := by rw [if_neg (show ¬ (false = true) by decide)] at H; exact H
                                            clear H
                                            have H := H1
                                            clear H1
                                            obtain ⟨y364, hy364⟩ : ∃ y_ : List Int, y_ = (([] : List Int)) := ⟨_, rfl⟩
                                            replace H : (if 0 ≤ (wrap64 (a1 + 1)) then (if (wrap64 (a1 + 1)) ≤ (wrap64 (a1 + 3)) then (if (wrap64 (a1 + 3)) ≤ (l0.length : Int) then (if y364.length + ((l0.take ((wrap64 (a1 + 3)) : Int).toNat).drop ((wrap64 (a1 + 1)) : Int).toNat).length < 140737488355328 then ((some (y364 ++ ((l0.take ((wrap64 (a1 + 3)) : Int).toNat).drop ((wrap64 (a1 + 1)) : Int).toNat) : List Int)).bind fun y368 => (if 0 ≤ (wrap64 (a1 + 7)) then (if (wrap64 (a1 + 7)) ≤ (wrap64 ((wrap64 (a1 + 7)) + (wrap64 ((wrap64 (256 * (wrap64 (rd l0 (ji22))))) + (wrap64 (rd l0 (ji25))))))) then (if (wrap64 ((wrap64 (a1 + 7)) + (wrap64 ((wrap64 (256 * (wrap64 (rd l0 (ji22))))) + (wrap64 (rd l0 (ji25))))))) ≤ (l0.length : Int) then (if y368.length + ((l0.take ((wrap64 ((wrap64 (a1 + 7)) + (wrap64 ((wrap64 (256 * (wrap64 (rd l0 (ji22))))) + (wrap64 (rd l0 (ji25))))))) : Int).toNat).drop ((wrap64 (a1 + 7)) : Int).toNat).length < 140737488355328 then ((some (y368 ++ ((l0.take ((wrap64 ((wrap64 (a1 + 7)) + (wrap64 ((wrap64 (256 * (wrap64 (rd l0 (ji22))))) + (wrap64 (rd l0 (ji25))))))) : Int).toNat).drop ((wrap64 (a1 + 7)) : Int).toNat) : List Int)).bind fun y372 => ((flintref03_Get.f kj27 l0 (wrap64 (a1 + 3)) 4).bind fun bt375 => ((flintref01_Sum.f kj27 y372).bind fun t378 => (if (IntKind.u64.wrap (t378)) = bt375.1 then (if 2 ≤ (y372.length : Int) then (some (x11_13, (y372.drop (2 : Int).toNat), wrap64 ((wrap64 (a1 + 8)) + (wrap64 ((wrap64 (256 * (wrap64 (rd l0 (ji22))))) + (wrap64 (rd l0 (ji25)))))))) else (none)) else (some (3, y356, 0)))))) else (none)) else (none)) else (none)) else (none))) else (none)) else (none)) else (none)) else (none)) = some (r1, r2, r3) := by first | (rw [hy364]; with_reducible exact H) | (have H2_ := (Option.bind_some _ _).symm.trans H; rw [hy364]; with_reducible exact H2_) | (have H2_ := (Option.bind_some _ _).symm.trans H; with_reducible exact H2_) | with_reducible exact H | (rw [hy364]; exact H) | exact H
                                            have Ny364 := Aside0.mk hy364
                                            clear hy364
                                            obtain ⟨ji34, hji34⟩ : ∃ j_ : Int, (wrap64 (a1 + 1)) = j_ := ⟨_, rfl⟩
                                            obtain rfl : ji22 = ji34 := hji22.symm.trans hji34
                                            replace H : (if 0 ≤ (ji22) then (if (ji22) ≤ (wrap64 (a1 + 3)) then (if (wrap64 (a1 + 3)) ≤ (l0.length : Int) then (if y364.length + ((l0.take ((wrap64 (a1 + 3)) : Int).toNat).drop ((ji22) : Int).toNat).length < 140737488355328 then ((some (y364 ++ ((l0.take ((wrap64 (a1 + 3)) : Int).toNat).drop ((ji22) : Int).toNat) : List Int)).bind fun y368 => (if 0 ≤ (wrap64 (a1 + 7)) then (if (wrap64 (a1 + 7)) ≤ (wrap64 ((wrap64 (a1 + 7)) + (wrap64 ((wrap64 (256 * (wrap64 (rd l0 (ji22))))) + (wrap64 (rd l0 (ji25))))))) then (if (wrap64 ((wrap64 (a1 + 7)) + (wrap64 ((wrap64 (256 * (wrap64 (rd l0 (ji22))))) + (wrap64 (rd l0 (ji25))))))) ≤ (l0.length : Int) then (if y368.length + ((l0.take ((wrap64 ((wrap64 (a1 + 7)) + (wrap64 ((wrap64 (256 * (wrap64 (rd l0 (ji22))))) + (wrap64 (rd l0 (ji25))))))) : Int).toNat).drop ((wrap64 (a1 + 7)) : Int).toNat).length < 140737488355328 then ((some (y368 ++ ((l0.take ((wrap64 ((wrap64 (a1 + 7)) + (wrap64 ((wrap64 (256 * (wrap64 (rd l0 (ji22))))) + (wrap64 (rd l0 (ji25))))))) : Int).toNat).drop ((wrap64 (a1 + 7)) : Int).toNat) : List Int)).bind fun y372 => ((flintref03_Get.f kj27 l0 (wrap64 (a1 + 3)) 4).bind fun bt375 => ((flintref01_Sum.f kj27 y372).bind fun t378 => (if (IntKind.u64.wrap (t378)) = bt375.1 then (if 2 ≤ (y372.length : Int) then (some (x11_13, (y372.drop (2 : Int).toNat), wrap64 ((wrap64 (a1 + 8)) + (wrap64 ((wrap64 (256 * (wrap64 (rd l0 (ji22))))) + (wrap64 (rd l0 (ji25)))))))) else (none)) else (some (3, y356, 0)))))) else (none)) else (none)) else (none)) else (none))) else (none)) else (none)) else (none)) else (none)) = some (r1, r2, r3) := by first | (rw [hji34] at H; exact H) | (simp only [hji34] at H ⊢; exact H)
                                            have hji34w : (IntKind.i64.wrap (a1 + 1)) = ji22 := (i64_w _).trans hji34
                                            by_cases c35 : 0 ≤ (ji22)
                                            · rw [if_pos c35] at H
                                              have c35b0 := eq_true c35
                                              have c35b1 : decide (0 ≤ (ji22)) = true := decide_eq_true c35
                                              clear c35
                                              by_cases c36 : (ji22) ≤ (wrap64 (a1 + 3))
                                              · rw [if_pos c36] at H
                                                have c36b0 := eq_true c36
                                                have c36b1 : decide ((ji22) ≤ (wrap64 (a1 + 3))) = true := decide_eq_true c36
                                                by_cases c37 : (wrap64 (a1 + 3)) ≤ (l0.length : Int)
                                                · rw [if_pos c37] at H
                                                  have c37b0 := eq_true c37
                                                  have c37b1 : decide ((wrap64 (a1 + 3)) ≤ (l0.length : Int)) = true := decide_eq_true c37
                                                  by_cases c38 : y364.length + ((l0.take ((wrap64 (a1 + 3)) : Int).toNat).drop ((ji22) : Int).toNat).length < 140737488355328
                                                  · rw [if_pos c38] at H
                                                    have LMc38 := Aside0.mk c38
                                                    clear c38
                                                    obtain ⟨y368, hy368⟩ : ∃ y_ : List Int, y_ = (y364 ++ ((l0.take ((wrap64 (a1 + 3)) : Int).toNat).drop ((ji22) : Int).toNat)) := ⟨_, rfl⟩
                                                    replace H : (if 0 ≤ (wrap64 (a1 + 7)) then (if (wrap64 (a1 + 7)) ≤ (wrap64 ((wrap64 (a1 + 7)) + (wrap64 ((wrap64 (256 * (wrap64 (rd l0 (ji22))))) + (wrap64 (rd l0 (ji25))))))) then (if (wrap64 ((wrap64 (a1 + 7)) + (wrap64 ((wrap64 (256 * (wrap64 (rd l0 (ji22))))) + (wrap64 (rd l0 (ji25))))))) ≤ (l0.length : Int) then (if y368.length + ((l0.take ((wrap64 ((wrap64 (a1 + 7)) + (wrap64 ((wrap64 (256 * (wrap64 (rd l0 (ji22))))) + (wrap64 (rd l0 (ji25))))))) : Int).toNat).drop ((wrap64 (a1 + 7)) : Int).toNat).length < 140737488355328 then ((some (y368 ++ ((l0.take ((wrap64 ((wrap64 (a1 + 7)) + (wrap64 ((wrap64 (256 * (wrap64 (rd l0 (ji22))))) + (wrap64 (rd l0 (ji25))))))) : Int).toNat).drop ((wrap64 (a1 + 7)) : Int).toNat) : List Int)).bind fun y372 => ((flintref03_Get.f kj27 l0 (wrap64 (a1 + 3)) 4).bind fun bt375 => ((flintref01_Sum.f kj27 y372).bind fun t378 => (if (IntKind.u64.wrap (t378)) = bt375.1 then (if 2 ≤ (y372.length : Int) then (some (x11_13, (y372.drop (2 : Int).toNat), wrap64 ((wrap64 (a1 + 8)) + (wrap64 ((wrap64 (256 * (wrap64 (rd l0 (ji22))))) + (wrap64 (rd l0 (ji25)))))))) else (none)) else (some (3, y356, 0)))))) else (none)) else (none)) else (none)) else (none)) = some (r1, r2, r3) := by first | (rw [hy368]; with_reducible exact H) | (have H2_ := (Option.bind_some _ _).symm.trans H; rw [hy368]; with_reducible exact H2_) | (have H2_ := (Option.bind_some _ _).symm.trans H; with_reducible exact H2_) | with_reducible exact H | (rw [hy368]; exact H) | exact H
                                                    have Ny368 := Aside0.mk hy368
                                                    clear hy368
                                                    obtain ⟨ji39, hji39⟩ : ∃ j_ : Int, (wrap64 (a1 + 7)) = j_ := ⟨_, rfl⟩
                                                    replace H : (if 0 ≤ (ji39) then (if (ji39) ≤ (wrap64 ((ji39) + (wrap64 ((wrap64 (256 * (wrap64 (rd l0 (ji22))))) + (wrap64 (rd l0 (ji25))))))) then (if (wrap64 ((ji39) + (wrap64 ((wrap64 (256 * (wrap64 (rd l0 (ji22))))) + (wrap64 (rd l0 (ji25))))))) ≤ (l0.length : Int) then (if y368.length + ((l0.take ((wrap64 ((ji39) + (wrap64 ((wrap64 (256 * (wrap64 (rd l0 (ji22))))) + (wrap64 (rd l0 (ji25))))))) : Int).toNat).drop ((ji39) : Int).toNat).length < 140737488355328 then ((some (y368 ++ ((l0.take ((wrap64 ((ji39) + (wrap64 ((wrap64 (256 * (wrap64 (rd l0 (ji22))))) + (wrap64 (rd l0 (ji25))))))) : Int).toNat).drop ((ji39) : Int).toNat) : List Int)).bind fun y372 => ((flintref03_Get.f kj27 l0 (wrap64 (a1 + 3)) 4).bind fun bt375 => ((flintref01_Sum.f kj27 y372).bind fun t378 => (if (IntKind.u64.wrap (t378)) = bt375.1 then (if 2 ≤ (y372.length : Int) then (some (x11_13, (y372.drop (2 : Int).toNat), wrap64 ((wrap64 (a1 + 8)) + (wrap64 ((wrap64 (256 * (wrap64 (rd l0 (ji22))))) + (wrap64 (rd l0 (ji25)))))))) else (none)) else (some (3, y356, 0)))))) else (none)) else (none)) else (none)) else (none)) = some (r1, r2, r3) := by first | (rw [hji39] at H; exact H) | (simp only [hji39] at H ⊢; exact H)
                                                    have hji39w : (IntKind.i64.wrap (a1 + 7)) = ji39 := (i64_w _).trans hji39
                                                    by_cases c40 : 0 ≤ (ji39)
                                                    · rw [if_pos c40] at H
                                                      have c40b0 := eq_true c40
                                                      have c40b1 : decide (0 ≤ (ji39)) = true := decide_eq_true c40
                                                      clear c40
                                                      by_cases c41 : (ji39) ≤ (wrap64 ((ji39) + (wrap64 ((wrap64 (256 * (wrap64 (rd l0 (ji22))))) + (wrap64 (rd l0 (ji25)))))))
                                                      · rw [if_pos c41] at H
                                                        have c41b0 := eq_true c41
                                                        have c41b1 : decide ((ji39) ≤ (wrap64 ((ji39) + (wrap64 ((wrap64 (256 * (wrap64 (rd l0 (ji22))))) + (wrap64 (rd l0 (ji25)))))))) = true := decide_eq_true c41
                                                        by_cases c42 : (wrap64 ((ji39) + (wrap64 ((wrap64 (256 * (wrap64 (rd l0 (ji22))))) + (wrap64 (rd l0 (ji25))))))) ≤ (l0.length : Int)
                                                        · rw [if_pos c42] at H
                                                          have c42b0 := eq_true c42
                                                          have c42b1 : decide ((wrap64 ((ji39) + (wrap64 ((wrap64 (256 * (wrap64 (rd l0 (ji22))))) + (wrap64 (rd l0 (ji25))))))) ≤ (l0.length : Int)) = true := decide_eq_true c42
                                                          by_cases c43 : y368.length + ((l0.take ((wrap64 ((ji39) + (wrap64 ((wrap64 (256 * (wrap64 (rd l0 (ji22))))) + (wrap64 (rd l0 (ji25))))))) : Int).toNat).drop ((ji39) : Int).toNat).length < 140737488355328
                                                          · rw [if_pos c43] at H
                                                            have LMc43 := Aside0.mk c43
                                                            clear c43
                                                            obtain ⟨y372, hy372⟩ : ∃ y_ : List Int, y_ = (y368 ++ ((l0.take ((wrap64 ((ji39) + (wrap64 ((wrap64 (256 * (wrap64 (rd l0 (ji22))))) + (wrap64 (rd l0 (ji25))))))) : Int).toNat).drop ((ji39) : Int).toNat)) := ⟨_, rfl⟩
                                                            replace H : ((flintref03_Get.f kj27 l0 (wrap64 (a1 + 3)) 4).bind fun bt375 => ((flintref01_Sum.f kj27 y372).bind fun t378 => (if (IntKind.u64.wrap (t378)) = bt375.1 then (if 2 ≤ (y372.length : Int) then (some (x11_13, (y372.drop (2 : Int).toNat), wrap64 ((wrap64 (a1 + 8)) + (wrap64 ((wrap64 (256 * (wrap64 (rd l0 (ji22))))) + (wrap64 (rd l0 (ji25)))))))) else (none)) else (some (3, y356, 0))))) = some (r1, r2, r3) := by first | (rw [hy372]; with_reducible exact H) | (have H2_ := (Option.bind_some _ _).symm.trans H; rw [hy372]; with_reducible exact H2_) | (have H2_ := (Option.bind_some _ _).symm.trans H; with_reducible exact H2_) | with_reducible exact H | (rw [hy372]; exact H) | exact H
                                                            have Ny372 := Aside0.mk hy372
                                                            clear hy372
                                                            replace H := Option.bind_eq_some_iff.mp H
                                                            obtain ⟨⟨t375, t376, t377⟩, A440, H⟩ := H
                                                            replace H : ((flintref01_Sum.f kj27 y372).bind fun t378 => (if (IntKind.u64.wrap (t378)) = t375 then (if 2 ≤ (y372.length : Int) then (some (x11_13, (y372.drop (2 : Int).toNat), wrap64 ((wrap64 (a1 + 8)) + (wrap64 ((wrap64 (256 * (wrap64 (rd l0 (ji22))))) + (wrap64 (rd l0 (ji25)))))))) else (none)) else (some (3, y356, 0)))) = some (r1, r2, r3) := H
                                                            have A44 := Aside0.mk A440
                                                            clear A440
                                                            replace H := Option.bind_eq_some_iff.mp H
                                                            obtain ⟨t378, A450, H⟩ := H
                                                            replace H : (if (IntKind.u64.wrap (t378)) = t375 then (if 2 ≤ (y372.length : Int) then (some (x11_13, (y372.drop (2 : Int).toNat), wrap64 ((wrap64 (a1 + 8)) + (wrap64 ((wrap64 (256 * (wrap64 (rd l0 (ji22))))) + (wrap64 (rd l0 (ji25)))))))) else (none)) else (some (3, y356, 0))) = some (r1, r2, r3) := H
                                                            have A45 := Aside0.mk A450
                                                            clear A450
                                                            by_cases c46 : (IntKind.u64.wrap (t378)) = t375
                                                            · rw [if_pos c46] at H
                                                              have c46b0 : ((IntKind.u64.wrap (t378)) == t375) = true := beq_iff_eq.mpr c46
                                                              have c46b1 : ((IntKind.u64.wrap (t378)) != t375) = false := bne_eq_false_iff_eq.mpr c46
                                                              clear c46
                                                              by_cases c47 : 2 ≤ (y372.length : Int)
                                                              · rw [if_pos c47] at H
                                                                have c47b0 := eq_true c47
                                                                have c47b1 : decide (2 ≤ (y372.length : Int)) = true := decide_eq_true c47
                                                                clear c47
                                                                obtain ⟨y379, hy379⟩ : ∃ y_ : List Int, y_ = (y372.drop (2 : Int).toNat) := ⟨_, rfl⟩
                                                                replace H : (some (x11_13, y379, wrap64 ((wrap64 (a1 + 8)) + (wrap64 ((wrap64 (256 * (wrap64 (rd l0 (ji22))))) + (wrap64 (rd l0 (ji25)))))))) = some (r1, r2, r3) := by first | (rw [hy379]; with_reducible exact H) | (have H2_ := (Option.bind_some _ _).symm.trans H; rw [hy379]; with_reducible exact H2_) | (have H2_ := (Option.bind_some _ _).symm.trans H; with_reducible exact H2_) | with_reducible exact H | (rw [hy379]; exact H) | exact H
                                                                have Ny379 := Aside0.mk hy379
                                                                clear hy379
                                                                simp only [Option.some.injEq, Prod.mk.injEq] at H
                                                                obtain ⟨rfl, rfl, rfl⟩ := H
                                                                go_wp2_with (first | ((with_reducible refine gate_dst (N := 98) rfl ?_); (try (refine gate_guard (by rfl) ?_; dsimp only)); refine Kd.R_lit (Kd.int .u8) _ 5 ?hg (N := 98) ?hd (xs := ([] : List Int)) (inner := []) (ok := fun _ => True) (okp := fun _ => True) ?hr ?hp (fun _ hk => hk) trivial (Below.refl _ _) (Nat.le_refl _) (by simp) ?_; (case hd => rfl); (case hg => rfl); (case hr => first | (go_simp; done) | (go_simp; rfl)); (case hp => exact (Reps.none _ _)); intro v365 w48 ho49 hb hg_ hnew_; clear hg_ hnew_; (first | rw [← Ny364.out] at ho49 | (simp only [Int.reduceToNat] at ho49; rw [← Ny364.out] at ho49)); have n0_ := Aside0.mk (Kd.R_elder' (by (with_reducible repeat (first | apply Kd.R_alloc | apply Kd.R_drewN | apply Kd.R_drew)); exact HO_7.out) (Kd.R_base ho49) hb); have n1_ := Aside0.mk (Kd.R_lower (Kd.R_new' ho49 (Kd.R_lt (by (with_reducible repeat (first | apply Kd.R_alloc | apply Kd.R_drewN | apply Kd.R_drew)); exact HO_7.out))) (below_size (by repeat (first | (with_reducible first | exact HB.out | apply below_alloc | apply pw_below_drewN | apply below_drew1) | exact HB.out)))); have n2_ := Aside0.mk (below_step (by repeat (first | (with_reducible first | exact HB.out | apply below_alloc | apply pw_below_drewN | apply below_drew1) | exact HB.out)) hb); clear HO_7; clear HB; have HO_7 := n0_; have HO366 := n1_; have HB := n2_; clear n0_ n1_ n2_; clear hb ho49; obtain ⟨i050, hi050, _, hsz50, _⟩ := info_parts info5; obtain ⟨A50, hcut50, hA50, hC50⟩ := print_mid_of (P := Try.prog) (Value.int .u8) 0 22 5 .i64 .i64 Try.underlying22 hi050 hsz50 (some ad360) c0 l0 (ji22) (wrap64 (a1 + 3)) (of_decide_eq_true (by first | (with_reducible assumption) | assumption)) (by first | omega | exact of_decide_eq_true (by first | (with_reducible assumption) | assumption)) (of_decide_eq_true (by first | (with_reducible assumption) | assumption)) HC0.out; have HR367 := Aside0.mk (Kd.C_of_reads (h1 := fun _ => rfl) (hA50 _ (Kd.reads_of_C HR0.out))); have HC367 := Aside0.mk hC50; clear hA50 hC50 hi050 hsz50) | ((with_reducible refine gate_builtin (b := .append) (xs := #[.tmp 99, .tmp 105]) rfl ?_); (try (refine gate_guard (by rfl) ?_; dsimp only)); at_builtin; refine Kd.R_append_rows (Kd.int .u8) (w0 := w) w.heap.size rfl (.tmp 99) (.tmp 105) 22 5 (.int .u8 0) 1 rfl Try.underlying22 info5 rfl (by decide) (by omega) v365 y364 ((l0.take ((wrap64 (a1 + 3)) : Int).toNat).drop ((ji22) : Int).toNat) _ _ _ (fun k_ => some k_ ≠ (v357 : Value).ownBlock) (fun _ => False) rfl rfl ?aO ?aR (fun _ _ h => h) (fun _ h => h.elim) ?aF ?aB ?aS ?aL ?_; (case aR => first | (rw [← show ((l0.take ((wrap64 (a1 + 3)) : Int).toNat).drop ((ji22) : Int).toNat).length = ((wrap64 (a1 + 3)).toNat - (ji22).toNat) from (by rw [List.length_drop, List.length_take]; have h_ : ((wrap64 (a1 + 3)) : Int) ≤ (l0.length : Int) := of_decide_eq_true (by first | (with_reducible assumption) | assumption); omega)]; repeat (first | exact (Kd.C_below HR367.out HB.out) | (with_reducible refine Kd.C_alloc ?_ _) | (with_reducible refine Kd.C_drewN ?_ _) | (with_reducible refine Kd.C_drew ?_))) | (repeat (first | exact (Kd.C_below HR367.out HB.out) | (with_reducible refine Kd.C_alloc ?_ _) | (with_reducible refine Kd.C_drewN ?_ _) | (with_reducible refine Kd.C_drew ?_)))); (case aB => exact (by repeat (first | (with_reducible first | exact HB.out | apply below_alloc | apply pw_below_drewN | apply below_drew1) | exact HB.out))); (case aF => exact (fun k_ hk => Kd.fresh' (Kd.R_lt (by (with_reducible repeat (first | apply Kd.R_alloc | apply Kd.R_drewN | apply Kd.R_drew)); exact HO_7.out)) k_ hk)); (case aO => exact (by (with_reducible repeat (first | apply Kd.R_alloc | apply Kd.R_drewN | apply Kd.R_drew)); exact Kd.R_mono HO366.out (fun _ hk => hk.2))); (case aS => exact (below_size (by repeat (first | (with_reducible first | exact HB.out | apply below_alloc | apply pw_below_drewN | apply below_drew1) | exact HB.out)))); (case aL => have := LMc38.out; have hlx_ := (show ((l0.take ((wrap64 (a1 + 3)) : Int).toNat).drop ((ji22) : Int).toNat).length = ((wrap64 (a1 + 3)).toNat - (ji22).toNat) from (by rw [List.length_drop, List.length_take]; have h_ : ((wrap64 (a1 + 3)) : Int) ≤ (l0.length : Int) := of_decide_eq_true (by first | (with_reducible assumption) | assumption); omega)); omega); intro v369 w51 ho hb hg hat; rw [← Ny368.out] at ho; have n0_ := Aside0.mk (Kd.R_after (ok := (fun _ => True)) (by (with_reducible repeat (first | apply Kd.R_alloc | apply Kd.R_drewN | apply Kd.R_drew)); exact HO_7.out) hg hat); have n1_ := Aside0.mk (hb); have n2_ := Aside0.mk (ho); clear HO_7; clear HB; clear HO366; have HO_7 := n0_; have HB := n1_; have HO370 := n2_; clear n0_ n1_ n2_; clear ho hb hg hat; obtain ⟨i052, hi052, _, hsz52, _⟩ := info_parts info5; obtain ⟨A52, hcut52, hA52, hC52⟩ := print_mid_of (P := Try.prog) (Value.int .u8) 0 22 5 .i64 .i64 Try.underlying22 hi052 hsz52 (some ad360) c0 l0 (ji39) (wrap64 ((ji39) + (wrap64 ((wrap64 (256 * (wrap64 (rd l0 (ji22))))) + (wrap64 (rd l0 (ji25))))))) (of_decide_eq_true (by first | (with_reducible assumption) | assumption)) (by first | omega | exact of_decide_eq_true (by first | (with_reducible assumption) | assumption)) (of_decide_eq_true (by first | (with_reducible assumption) | assumption)) HC0.out; have HR371 := Aside0.mk (Kd.C_of_reads (h1 := fun _ => rfl) (hA52 _ (Kd.reads_of_C HR0.out))); have HC371 := Aside0.mk hC52; clear hA52 hC52 hi052 hsz52) | ((with_reducible refine gate_builtin (b := .append) (xs := #[.tmp 107, .tmp 115]) rfl ?_); (try (refine gate_guard (by rfl) ?_; dsimp only)); at_builtin; refine Kd.R_append_rows (Kd.int .u8) (w0 := w) w.heap.size rfl (.tmp 107) (.tmp 115) 22 5 (.int .u8 0) 1 rfl Try.underlying22 info5 rfl (by decide) (by omega) v369 y368 ((l0.take ((wrap64 ((ji39) + (wrap64 ((wrap64 (256 * (wrap64 (rd l0 (ji22))))) + (wrap64 (rd l0 (ji25))))))) : Int).toNat).drop ((ji39) : Int).toNat) _ _ _ (fun k_ => some k_ ≠ (v357 : Value).ownBlock) (fun _ => False) rfl rfl ?aO ?aR (fun _ _ h => h) (fun _ h => h.elim) ?aF ?aB ?aS ?aL ?_; (case aR => first | (rw [← show ((l0.take ((wrap64 ((ji39) + (wrap64 ((wrap64 (256 * (wrap64 (rd l0 (ji22))))) + (wrap64 (rd l0 (ji25))))))) : Int).toNat).drop ((ji39) : Int).toNat).length = ((wrap64 ((ji39) + (wrap64 ((wrap64 (256 * (wrap64 (rd l0 (ji22))))) + (wrap64 (rd l0 (ji25))))))).toNat - (ji39).toNat) from (by rw [List.length_drop, List.length_take]; have h_ : ((wrap64 ((ji39) + (wrap64 ((wrap64 (256 * (wrap64 (rd l0 (ji22))))) + (wrap64 (rd l0 (ji25))))))) : Int) ≤ (l0.length : Int) := of_decide_eq_true (by first | (with_reducible assumption) | assumption); omega)]; repeat (first | exact (Kd.C_below HR371.out HB.out) | (with_reducible refine Kd.C_alloc ?_ _) | (with_reducible refine Kd.C_drewN ?_ _) | (with_reducible refine Kd.C_drew ?_))) | (repeat (first | exact (Kd.C_below HR371.out HB.out) | (with_reducible refine Kd.C_alloc ?_ _) | (with_reducible refine Kd.C_drewN ?_ _) | (with_reducible refine Kd.C_drew ?_)))); (case aB => exact (by repeat (first | (with_reducible first | exact HB.out | apply below_alloc | apply pw_below_drewN | apply below_drew1) | exact HB.out))); (case aF => exact (fun k_ hk => Kd.fresh' (Kd.R_lt (by (with_reducible repeat (first | apply Kd.R_alloc | apply Kd.R_drewN | apply Kd.R_drew)); exact HO_7.out)) k_ hk)); (case aO => exact (by (with_reducible repeat (first | apply Kd.R_alloc | apply Kd.R_drewN | apply Kd.R_drew)); exact HO370.out)); (case aS => exact (below_size (by repeat (first | (with_reducible first | exact HB.out | apply below_alloc | apply pw_below_drewN | apply below_drew1) | exact HB.out)))); (case aL => have := LMc43.out; have hlx_ := (show ((l0.take ((wrap64 ((ji39) + (wrap64 ((wrap64 (256 * (wrap64 (rd l0 (ji22))))) + (wrap64 (rd l0 (ji25))))))) : Int).toNat).drop ((ji39) : Int).toNat).length = ((wrap64 ((ji39) + (wrap64 ((wrap64 (256 * (wrap64 (rd l0 (ji22))))) + (wrap64 (rd l0 (ji25))))))).toNat - (ji39).toNat) from (by rw [List.length_drop, List.length_take]; have h_ : ((wrap64 ((ji39) + (wrap64 ((wrap64 (256 * (wrap64 (rd l0 (ji22))))) + (wrap64 (rd l0 (ji25))))))) : Int) ≤ (l0.length : Int) := of_decide_eq_true (by first | (with_reducible assumption) | assumption); omega)); omega); intro v373 w53 ho hb hg hat; rw [← Ny372.out] at ho; have n0_ := Aside0.mk (Kd.R_after (ok := (fun _ => True)) (by (with_reducible repeat (first | apply Kd.R_alloc | apply Kd.R_drewN | apply Kd.R_drew)); exact HO_7.out) hg hat); have n1_ := Aside0.mk (hb); have n2_ := Aside0.mk (ho); clear HO_7; clear HB; clear HO370; have HO_7 := n0_; have HB := n1_; have HO374 := n2_; clear n0_ n1_ n2_; clear ho hb hg hat) | (go_at_call 34; (with_reducible refine (flintref03_Get.calls kj27 _ _ l0 (wrap64 (a1 + 3)) 4 t375 t376 t377 _ ?side1 ?side2 A44.out).mono ?_); (case side1 => repeat (first | exact (Kd.C_below HR0.out HB.out) | (with_reducible refine Kd.C_alloc ?_ _) | (with_reducible refine Kd.C_drewN ?_ _) | (with_reducible refine Kd.C_drew ?_))); (case side2 => exact HC0.out); rintro e w' ⟨rfl, ⟨nd, rfl⟩⟩; (try first | exact ⟨rfl, _, World.drewN_drewN _ _ _⟩ | exact ⟨rfl, _, Eq.trans (World.drewN_drewN _ _ _) (congrArg (World.drewN _) (Nat.add_assoc _ _ _))⟩); obtain ⟨Ao54, co54, eo54⟩ := Kd.R_slice HO374.out; subst eo54) | (go_at_call 13; (with_reducible refine (flintref01_Sum.calls kj27 _ _ y372 t378 _ ?side1 ?side2 A45.out).mono ?_); (case side1 => repeat (first | exact (Kd.R_reads' HO374.out).2.2 | (with_reducible refine Kd.C_alloc ?_ _) | (with_reducible refine Kd.C_drewN ?_ _) | (with_reducible refine Kd.C_drew ?_))); (case side2 => exact (Kd.R_reads' HO374.out).2.1); rintro e w' ⟨rfl, ⟨nd, rfl⟩⟩; (try first | exact ⟨rfl, _, World.drewN_drewN _ _ _⟩ | exact ⟨rfl, _, Eq.trans (World.drewN_drewN _ _ _) (congrArg (World.drewN _) (Nat.add_assoc _ _ _))⟩); have q55 : (2 : Int) ≤ ((y372.length : Int) : Int) := of_decide_eq_true (by first | (with_reducible assumption) | assumption); obtain ⟨i055, hi055, _, hsz55, _⟩ := info_parts info5; have hcut55 := cut_from (P := Try.prog) 22 5 .i64 Try.underlying22 hi055 1 hsz55 Ao54 y372.length co54 2 (by omega) q55; have hr55 := Kd.Q_drop (k := (2 : Int).toNat) (Kd.Q_of_R HO374.out) (by omega); obtain ⟨A55, hA55⟩ : ∃ A1, A1 = (if co54 = (2 : Int).toNat then Ao54 else (Ao54 : Option Addr).map (·.add ((2 : Int).toNat * 1))) := ⟨_, rfl⟩; obtain ⟨c55, hc55⟩ : ∃ c1, c1 = co54 - (2 : Int).toNat := ⟨_, rfl⟩; have hy55 : y379.length = y372.length - (2 : Int).toNat := (by rw [Ny379.out, List.length_drop]); rw [← Ny379.out] at hr55; rw [← hy55, ← hA55, ← hc55] at hcut55; replace hr55 : Kd.Q (Kd.int .u8) 5 w53 w.heap.size (fun k_ => some k_ ≠ (v357 : Value).ownBlock) (.slice A55 y379.length c55) y379 := (by rw [hA55, hc55, hy55]; exact hr55); have HE55 : Aside0 ((Value.slice A55 y379.length c55).ownBlock = (.slice Ao54 y372.length co54 : Value).ownBlock) := ⟨by rw [hA55]; split <;> (cases (Ao54 : Option Addr) <;> rfl)⟩; clear hy55 hi055 hsz55 HO374 hA55 hc55; have HO381 := Aside0.mk hr55; clear hr55; replace q55 := eq_true q55; have n_ := Aside0.mk (Kd.R_mono (ok' := fun k_ => (True ∧ some k_ ≠ (.slice A55 y379.length c55 : Value).ownBlock)) HO_7.out (fun k_ hk => ⟨trivial, (by rw [HE55.out]; exact hk.2)⟩)); clear HO_7; have HO_7 := n_; clear n_))
                                                                repeat (go_quiet (first | ((with_reducible refine gate_dst (N := 98) rfl ?_); (try (refine gate_guard (by rfl) ?_; dsimp only)); refine Kd.R_lit (Kd.int .u8) _ 5 ?hg (N := 98) ?hd (xs := ([] : List Int)) (inner := []) (ok := fun _ => True) (okp := fun _ => True) ?hr ?hp (fun _ hk => hk) trivial (Below.refl _ _) (Nat.le_refl _) (by simp) ?_; (case hd => rfl); (case hg => rfl); (case hr => first | (go_simp; done) | (go_simp; rfl)); (case hp => exact (Reps.none _ _)); intro v365 w48 ho49 hb hg_ hnew_; clear hg_ hnew_; (first | rw [← Ny364.out] at ho49 | (simp only [Int.reduceToNat] at ho49; rw [← Ny364.out] at ho49)); have n0_ := Aside0.mk (Kd.R_elder' (by (with_reducible repeat (first | apply Kd.R_alloc | apply Kd.R_drewN | apply Kd.R_drew)); exact HO_7.out) (Kd.R_base ho49) hb); have n1_ := Aside0.mk (Kd.R_lower (Kd.R_new' ho49 (Kd.R_lt (by (with_reducible repeat (first | apply Kd.R_alloc | apply Kd.R_drewN | apply Kd.R_drew)); exact HO_7.out))) (below_size (by repeat (first | (with_reducible first | exact HB.out | apply below_alloc | apply pw_below_drewN | apply below_drew1) | exact HB.out)))); have n2_ := Aside0.mk (below_step (by repeat (first | (with_reducible first | exact HB.out | apply below_alloc | apply pw_below_drewN | apply below_drew1) | exact HB.out)) hb); clear HO_7; clear HB; have HO_7 := n0_; have HO366 := n1_; have HB := n2_; clear n0_ n1_ n2_; clear hb ho49; obtain ⟨i050, hi050, _, hsz50, _⟩ := info_parts info5; obtain ⟨A50, hcut50, hA50, hC50⟩ := print_mid_of (P := Try.prog) (Value.int .u8) 0 22 5 .i64 .i64 Try.underlying22 hi050 hsz50 (some ad360) c0 l0 (ji22) (wrap64 (a1 + 3)) (of_decide_eq_true (by first | (with_reducible assumption) | assumption)) (by first | omega | exact of_decide_eq_true (by first | (with_reducible assumption) | assumption)) (of_decide_eq_true (by first | (with_reducible assumption) | assumption)) HC0.out; have HR367 := Aside0.mk (Kd.C_of_reads (h1 := fun _ => rfl) (hA50 _ (Kd.reads_of_C HR0.out))); have HC367 := Aside0.mk hC50; clear hA50 hC50 hi050 hsz50) | ((with_reducible refine gate_builtin (b := .append) (xs := #[.tmp 99, .tmp 105]) rfl ?_); (try (refine gate_guard (by rfl) ?_; dsimp only)); at_builtin; refine Kd.R_append_rows (Kd.int .u8) (w0 := w) w.heap.size rfl (.tmp 99) (.tmp 105) 22 5 (.int .u8 0) 1 rfl Try.underlying22 info5 rfl (by decide) (by omega) v365 y364 ((l0.take ((wrap64 (a1 + 3)) : Int).toNat).drop ((ji22) : Int).toNat) _ _ _ (fun k_ => some k_ ≠ (v357 : Value).ownBlock) (fun _ => False) rfl rfl ?aO ?aR (fun _ _ h => h) (fun _ h => h.elim) ?aF ?aB ?aS ?aL ?_; (case aR => first | (rw [← show ((l0.take ((wrap64 (a1 + 3)) : Int).toNat).drop ((ji22) : Int).toNat).length = ((wrap64 (a1 + 3)).toNat - (ji22).toNat) from (by rw [List.length_drop, List.length_take]; have h_ : ((wrap64 (a1 + 3)) : Int) ≤ (l0.length : Int) := of_decide_eq_true (by first | (with_reducible assumption) | assumption); omega)]; repeat (first | exact (Kd.C_below HR367.out HB.out) | (with_reducible refine Kd.C_alloc ?_ _) | (with_reducible refine Kd.C_drewN ?_ _) | (with_reducible refine Kd.C_drew ?_))) | (repeat (first | exact (Kd.C_below HR367.out HB.out) | (with_reducible refine Kd.C_alloc ?_ _) | (with_reducible refine Kd.C_drewN ?_ _) | (with_reducible refine Kd.C_drew ?_)))); (case aB => exact (by repeat (first | (with_reducible first | exact HB.out | apply below_alloc | apply pw_below_drewN | apply below_drew1) | exact HB.out))); (case aF => exact (fun k_ hk => Kd.fresh' (Kd.R_lt (by (with_reducible repeat (first | apply Kd.R_alloc | apply Kd.R_drewN | apply Kd.R_drew)); exact HO_7.out)) k_ hk)); (case aO => exact (by (with_reducible repeat (first | apply Kd.R_alloc | apply Kd.R_drewN | apply Kd.R_drew)); exact Kd.R_mono HO366.out (fun _ hk => hk.2))); (case aS => exact (below_size (by repeat (first | (with_reducible first | exact HB.out | apply below_alloc | apply pw_below_drewN | apply below_drew1) | exact HB.out)))); (case aL => have := LMc38.out; have hlx_ := (show ((l0.take ((wrap64 (a1 + 3)) : Int).toNat).drop ((ji22) : Int).toNat).length = ((wrap64 (a1 + 3)).toNat - (ji22).toNat) from (by rw [List.length_drop, List.length_take]; have h_ : ((wrap64 (a1 + 3)) : Int) ≤ (l0.length : Int) := of_decide_eq_true (by first | (with_reducible assumption) | assumption); omega)); omega); intro v369 w51 ho hb hg hat; rw [← Ny368.out] at ho; have n0_ := Aside0.mk (Kd.R_after (ok := (fun _ => True)) (by (with_reducible repeat (first | apply Kd.R_alloc | apply Kd.R_drewN | apply Kd.R_drew)); exact HO_7.out) hg hat); have n1_ := Aside0.mk (hb); have n2_ := Aside0.mk (ho); clear HO_7; clear HB; clear HO366; have HO_7 := n0_; have HB := n1_; have HO370 := n2_; clear n0_ n1_ n2_; clear ho hb hg hat; obtain ⟨i052, hi052, _, hsz52, _⟩ := info_parts info5; obtain ⟨A52, hcut52, hA52, hC52⟩ := print_mid_of (P := Try.prog) (Value.int .u8) 0 22 5 .i64 .i64 Try.underlying22 hi052 hsz52 (some ad360) c0 l0 (ji39) (wrap64 ((ji39) + (wrap64 ((wrap64 (256 * (wrap64 (rd l0 (ji22))))) + (wrap64 (rd l0 (ji25))))))) (of_decide_eq_true (by first | (with_reducible assumption) | assumption)) (by first | omega | exact of_decide_eq_true (by first | (with_reducible assumption) | assumption)) (of_decide_eq_true (by first | (with_reducible assumption) | assumption)) HC0.out; have HR371 := Aside0.mk (Kd.C_of_reads (h1 := fun _ => rfl) (hA52 _ (Kd.reads_of_C HR0.out))); have HC371 := Aside0.mk hC52; clear hA52 hC52 hi052 hsz52) | ((with_reducible refine gate_builtin (b := .append) (xs := #[.tmp 107, .tmp 115]) rfl ?_); (try (refine gate_guard (by rfl) ?_; dsimp only)); at_builtin; refine Kd.R_append_rows (Kd.int .u8) (w0 := w) w.heap.size rfl (.tmp 107) (.tmp 115) 22 5 (.int .u8 0) 1 rfl Try.underlying22 info5 rfl (by decide) (by omega) v369 y368 ((l0.take ((wrap64 ((ji39) + (wrap64 ((wrap64 (256 * (wrap64 (rd l0 (ji22))))) + (wrap64 (rd l0 (ji25))))))) : Int).toNat).drop ((ji39) : Int).toNat) _ _ _ (fun k_ => some k_ ≠ (v357 : Value).ownBlock) (fun _ => False) rfl rfl ?aO ?aR (fun _ _ h => h) (fun _ h => h.elim) ?aF ?aB ?aS ?aL ?_; (case aR => first | (rw [← show ((l0.take ((wrap64 ((ji39) + (wrap64 ((wrap64 (256 * (wrap64 (rd l0 (ji22))))) + (wrap64 (rd l0 (ji25))))))) : Int).toNat).drop ((ji39) : Int).toNat).length = ((wrap64 ((ji39) + (wrap64 ((wrap64 (256 * (wrap64 (rd l0 (ji22))))) + (wrap64 (rd l0 (ji25))))))).toNat - (ji39).toNat) from (by rw [List.length_drop, List.length_take]; have h_ : ((wrap64 ((ji39) + (wrap64 ((wrap64 (256 * (wrap64 (rd l0 (ji22))))) + (wrap64 (rd l0 (ji25))))))) : Int) ≤ (l0.length : Int) := of_decide_eq_true (by first | (with_reducible assumption) | assumption); omega)]; repeat (first | exact (Kd.C_below HR371.out HB.out) | (with_reducible refine Kd.C_alloc ?_ _) | (with_reducible refine Kd.C_drewN ?_ _) | (with_reducible refine Kd.C_drew ?_))) | (repeat (first | exact (Kd.C_below HR371.out HB.out) | (with_reducible refine Kd.C_alloc ?_ _) | (with_reducible refine Kd.C_drewN ?_ _) | (with_reducible refine Kd.C_drew ?_)))); (case aB => exact (by repeat (first | (with_reducible first | exact HB.out | apply below_alloc | apply pw_below_drewN | apply below_drew1) | exact HB.out))); (case aF => exact (fun k_ hk => Kd.fresh' (Kd.R_lt (by (with_reducible repeat (first | apply Kd.R_alloc | apply Kd.R_drewN | apply Kd.R_drew)); exact HO_7.out)) k_ hk)); (case aO => exact (by (with_reducible repeat (first | apply Kd.R_alloc | apply Kd.R_drewN | apply Kd.R_drew)); exact HO370.out)); (case aS => exact (below_size (by repeat (first | (with_reducible first | exact HB.out | apply below_alloc | apply pw_below_drewN | apply below_drew1) | exact HB.out)))); (case aL => have := LMc43.out; have hlx_ := (show ((l0.take ((wrap64 ((ji39) + (wrap64 ((wrap64 (256 * (wrap64 (rd l0 (ji22))))) + (wrap64 (rd l0 (ji25))))))) : Int).toNat).drop ((ji39) : Int).toNat).length = ((wrap64 ((ji39) + (wrap64 ((wrap64 (256 * (wrap64 (rd l0 (ji22))))) + (wrap64 (rd l0 (ji25))))))).toNat - (ji39).toNat) from (by rw [List.length_drop, List.length_take]; have h_ : ((wrap64 ((ji39) + (wrap64 ((wrap64 (256 * (wrap64 (rd l0 (ji22))))) + (wrap64 (rd l0 (ji25))))))) : Int) ≤ (l0.length : Int) := of_decide_eq_true (by first | (with_reducible assumption) | assumption); omega)); omega); intro v373 w53 ho hb hg hat; rw [← Ny372.out] at ho; have n0_ := Aside0.mk (Kd.R_after (ok := (fun _ => True)) (by (with_reducible repeat (first | apply Kd.R_alloc | apply Kd.R_drewN | apply Kd.R_drew)); exact HO_7.out) hg hat); have n1_ := Aside0.mk (hb); have n2_ := Aside0.mk (ho); clear HO_7; clear HB; clear HO370; have HO_7 := n0_; have HB := n1_; have HO374 := n2_; clear n0_ n1_ n2_; clear ho hb hg hat) | (go_at_call 34; (with_reducible refine (flintref03_Get.calls kj27 _ _ l0 (wrap64 (a1 + 3)) 4 t375 t376 t377 _ ?side1 ?side2 A44.out).mono ?_); (case side1 => repeat (first | exact (Kd.C_below HR0.out HB.out) | (with_reducible refine Kd.C_alloc ?_ _) | (with_reducible refine Kd.C_drewN ?_ _) | (with_reducible refine Kd.C_drew ?_))); (case side2 => exact HC0.out); rintro e w' ⟨rfl, ⟨nd, rfl⟩⟩; (try first | exact ⟨rfl, _, World.drewN_drewN _ _ _⟩ | exact ⟨rfl, _, Eq.trans (World.drewN_drewN _ _ _) (congrArg (World.drewN _) (Nat.add_assoc _ _ _))⟩); obtain ⟨Ao54, co54, eo54⟩ := Kd.R_slice HO374.out; subst eo54) | (go_at_call 13; (with_reducible refine (flintref01_Sum.calls kj27 _ _ y372 t378 _ ?side1 ?side2 A45.out).mono ?_); (case side1 => repeat (first | exact (Kd.R_reads' HO374.out).2.2 | (with_reducible refine Kd.C_alloc ?_ _) | (with_reducible refine Kd.C_drewN ?_ _) | (with_reducible refine Kd.C_drew ?_))); (case side2 => exact (Kd.R_reads' HO374.out).2.1); rintro e w' ⟨rfl, ⟨nd, rfl⟩⟩; (try first | exact ⟨rfl, _, World.drewN_drewN _ _ _⟩ | exact ⟨rfl, _, Eq.trans (World.drewN_drewN _ _ _) (congrArg (World.drewN _) (Nat.add_assoc _ _ _))⟩); have q55 : (2 : Int) ≤ ((y372.length : Int) : Int) := of_decide_eq_true (by first | (with_reducible assumption) | assumption); obtain ⟨i055, hi055, _, hsz55, _⟩ := info_parts info5; have hcut55 := cut_from (P := Try.prog) 22 5 .i64 Try.underlying22 hi055 1 hsz55 Ao54 y372.length co54 2 (by omega) q55; have hr55 := Kd.Q_drop (k := (2 : Int).toNat) (Kd.Q_of_R HO374.out) (by omega); obtain ⟨A55, hA55⟩ : ∃ A1, A1 = (if co54 = (2 : Int).toNat then Ao54 else (Ao54 : Option Addr).map (·.add ((2 : Int).toNat * 1))) := ⟨_, rfl⟩; obtain ⟨c55, hc55⟩ : ∃ c1, c1 = co54 - (2 : Int).toNat := ⟨_, rfl⟩; have hy55 : y379.length = y372.length - (2 : Int).toNat := (by rw [Ny379.out, List.length_drop]); rw [← Ny379.out] at hr55; rw [← hy55, ← hA55, ← hc55] at hcut55; replace hr55 : Kd.Q (Kd.int .u8) 5 w53 w.heap.size (fun k_ => some k_ ≠ (v357 : Value).ownBlock) (.slice A55 y379.length c55) y379 := (by rw [hA55, hc55, hy55]; exact hr55); have HE55 : Aside0 ((Value.slice A55 y379.length c55).ownBlock = (.slice Ao54 y372.length co54 : Value).ownBlock) := ⟨by rw [hA55]; split <;> (cases (Ao54 : Option Addr) <;> rfl)⟩; clear hy55 hi055 hsz55 HO374 hA55 hc55; have HO381 := Aside0.mk hr55; clear hr55; replace q55 := eq_true q55; have n_ := Aside0.mk (Kd.R_mono (ok' := fun k_ => (True ∧ some k_ ≠ (.slice A55 y379.length c55 : Value).ownBlock)) HO_7.out (fun k_ hk => ⟨trivial, (by rw [HE55.out]; exact hk.2)⟩)); clear HO_7; have HO_7 := n_; clear n_)); try go_wp2_with (first | ((with_reducible refine gate_dst (N := 98) rfl ?_); (try (refine gate_guard (by rfl) ?_; dsimp only)); refine Kd.R_lit (Kd.int .u8) _ 5 ?hg (N := 98) ?hd (xs := ([] : List Int)) (inner := []) (ok := fun _ => True) (okp := fun _ => True) ?hr ?hp (fun _ hk => hk) trivial (Below.refl _ _) (Nat.le_refl _) (by simp) ?_; (case hd => rfl); (case hg => rfl); (case hr => first | (go_simp; done) | (go_simp; rfl)); (case hp => exact (Reps.none _ _)); intro v365 w48 ho49 hb hg_ hnew_; clear hg_ hnew_; (first | rw [← Ny364.out] at ho49 | (simp only [Int.reduceToNat] at ho49; rw [← Ny364.out] at ho49)); have n0_ := Aside0.mk (Kd.R_elder' (by (with_reducible repeat (first | apply Kd.R_alloc | apply Kd.R_drewN | apply Kd.R_drew)); exact HO_7.out) (Kd.R_base ho49) hb); have n1_ := Aside0.mk (Kd.R_lower (Kd.R_new' ho49 (Kd.R_lt (by (with_reducible repeat (first | apply Kd.R_alloc | apply Kd.R_drewN | apply Kd.R_drew)); exact HO_7.out))) (below_size (by repeat (first | (with_reducible first | exact HB.out | apply below_alloc | apply pw_below_drewN | apply below_drew1) | exact HB.out)))); have n2_ := Aside0.mk (below_step (by repeat (first | (with_reducible first | exact HB.out | apply below_alloc | apply pw_below_drewN | apply below_drew1) | exact HB.out)) hb); clear HO_7; clear HB; have HO_7 := n0_; have HO366 := n1_; have HB := n2_; clear n0_ n1_ n2_; clear hb ho49; obtain ⟨i050, hi050, _, hsz50, _⟩ := info_parts info5; obtain ⟨A50, hcut50, hA50, hC50⟩ := print_mid_of (P := Try.prog) (Value.int .u8) 0 22 5 .i64 .i64 Try.underlying22 hi050 hsz50 (some ad360) c0 l0 (ji22) (wrap64 (a1 + 3)) (of_decide_eq_true (by first | (with_reducible assumption) | assumption)) (by first | omega | exact of_decide_eq_true (by first | (with_reducible assumption) | assumption)) (of_decide_eq_true (by first | (with_reducible assumption) | assumption)) HC0.out; have HR367 := Aside0.mk (Kd.C_of_reads (h1 := fun _ => rfl) (hA50 _ (Kd.reads_of_C HR0.out))); have HC367 := Aside0.mk hC50; clear hA50 hC50 hi050 hsz50) | ((with_reducible refine gate_builtin (b := .append) (xs := #[.tmp 99, .tmp 105]) rfl ?_); (try (refine gate_guard (by rfl) ?_; dsimp only)); at_builtin; refine Kd.R_append_rows (Kd.int .u8) (w0 := w) w.heap.size rfl (.tmp 99) (.tmp 105) 22 5 (.int .u8 0) 1 rfl Try.underlying22 info5 rfl (by decide) (by omega) v365 y364 ((l0.take ((wrap64 (a1 + 3)) : Int).toNat).drop ((ji22) : Int).toNat) _ _ _ (fun k_ => some k_ ≠ (v357 : Value).ownBlock) (fun _ => False) rfl rfl ?aO ?aR (fun _ _ h => h) (fun _ h => h.elim) ?aF ?aB ?aS ?aL ?_; (case aR => first | (rw [← show ((l0.take ((wrap64 (a1 + 3)) : Int).toNat).drop ((ji22) : Int).toNat).length = ((wrap64 (a1 + 3)).toNat - (ji22).toNat) from (by rw [List.length_drop, List.length_take]; have h_ : ((wrap64 (a1 + 3)) : Int) ≤ (l0.length : Int) := of_decide_eq_true (by first | (with_reducible assumption) | assumption); omega)]; repeat (first | exact (Kd.C_below HR367.out HB.out) | (with_reducible refine Kd.C_alloc ?_ _) | (with_reducible refine Kd.C_drewN ?_ _) | (with_reducible refine Kd.C_drew ?_))) | (repeat (first | exact (Kd.C_below HR367.out HB.out) | (with_reducible refine Kd.C_alloc ?_ _) | (with_reducible refine Kd.C_drewN ?_ _) | (with_reducible refine Kd.C_drew ?_)))); (case aB => exact (by repeat (first | (with_reducible first | exact HB.out | apply below_alloc | apply pw_below_drewN | apply below_drew1) | exact HB.out))); (case aF => exact (fun k_ hk => Kd.fresh' (Kd.R_lt (by (with_reducible repeat (first | apply Kd.R_alloc | apply Kd.R_drewN | apply Kd.R_drew)); exact HO_7.out)) k_ hk)); (case aO => exact (by (with_reducible repeat (first | apply Kd.R_alloc | apply Kd.R_drewN | apply Kd.R_drew)); exact Kd.R_mono HO366.out (fun _ hk => hk.2))); (case aS => exact (below_size (by repeat (first | (with_reducible first | exact HB.out | apply below_alloc | apply pw_below_drewN | apply below_drew1) | exact HB.out)))); (case aL => have := LMc38.out; have hlx_ := (show ((l0.take ((wrap64 (a1 + 3)) : Int).toNat).drop ((ji22) : Int).toNat).length = ((wrap64 (a1 + 3)).toNat - (ji22).toNat) from (by rw [List.length_drop, List.length_take]; have h_ : ((wrap64 (a1 + 3)) : Int) ≤ (l0.length : Int) := of_decide_eq_true (by first | (with_reducible assumption) | assumption); omega)); omega); intro v369 w51 ho hb hg hat; rw [← Ny368.out] at ho; have n0_ := Aside0.mk (Kd.R_after (ok := (fun _ => True)) (by (with_reducible repeat (first | apply Kd.R_alloc | apply Kd.R_drewN | apply Kd.R_drew)); exact HO_7.out) hg hat); have n1_ := Aside0.mk (hb); have n2_ := Aside0.mk (ho); clear HO_7; clear HB; clear HO366; have HO_7 := n0_; have HB := n1_; have HO370 := n2_; clear n0_ n1_ n2_; clear ho hb hg hat; obtain ⟨i052, hi052, _, hsz52, _⟩ := info_parts info5; obtain ⟨A52, hcut52, hA52, hC52⟩ := print_mid_of (P := Try.prog) (Value.int .u8) 0 22 5 .i64 .i64 Try.underlying22 hi052 hsz52 (some ad360) c0 l0 (ji39) (wrap64 ((ji39) + (wrap64 ((wrap64 (256 * (wrap64 (rd l0 (ji22))))) + (wrap64 (rd l0 (ji25))))))) (of_decide_eq_true (by first | (with_reducible assumption) | assumption)) (by first | omega | exact of_decide_eq_true (by first | (with_reducible assumption) | assumption)) (of_decide_eq_true (by first | (with_reducible assumption) | assumption)) HC0.out; have HR371 := Aside0.mk (Kd.C_of_reads (h1 := fun _ => rfl) (hA52 _ (Kd.reads_of_C HR0.out))); have HC371 := Aside0.mk hC52; clear hA52 hC52 hi052 hsz52) | ((with_reducible refine gate_builtin (b := .append) (xs := #[.tmp 107, .tmp 115]) rfl ?_); (try (refine gate_guard (by rfl) ?_; dsimp only)); at_builtin; refine Kd.R_append_rows (Kd.int .u8) (w0 := w) w.heap.size rfl (.tmp 107) (.tmp 115) 22 5 (.int .u8 0) 1 rfl Try.underlying22 info5 rfl (by decide) (by omega) v369 y368 ((l0.take ((wrap64 ((ji39) + (wrap64 ((wrap64 (256 * (wrap64 (rd l0 (ji22))))) + (wrap64 (rd l0 (ji25))))))) : Int).toNat).drop ((ji39) : Int).toNat) _ _ _ (fun k_ => some k_ ≠ (v357 : Value).ownBlock) (fun _ => False) rfl rfl ?aO ?aR (fun _ _ h => h) (fun _ h => h.elim) ?aF ?aB ?aS ?aL ?_; (case aR => first | (rw [← show ((l0.take ((wrap64 ((ji39) + (wrap64 ((wrap64 (256 * (wrap64 (rd l0 (ji22))))) + (wrap64 (rd l0 (ji25))))))) : Int).toNat).drop ((ji39) : Int).toNat).length = ((wrap64 ((ji39) + (wrap64 ((wrap64 (256 * (wrap64 (rd l0 (ji22))))) + (wrap64 (rd l0 (ji25))))))).toNat - (ji39).toNat) from (by rw [List.length_drop, List.length_take]; have h_ : ((wrap64 ((ji39) + (wrap64 ((wrap64 (256 * (wrap64 (rd l0 (ji22))))) + (wrap64 (rd l0 (ji25))))))) : Int) ≤ (l0.length : Int) := of_decide_eq_true (by first | (with_reducible assumption) | assumption); omega)]; repeat (first | exact (Kd.C_below HR371.out HB.out) | (with_reducible refine Kd.C_alloc ?_ _) | (with_reducible refine Kd.C_drewN ?_ _) | (with_reducible refine Kd.C_drew ?_))) | (repeat (first | exact (Kd.C_below HR371.out HB.out) | (with_reducible refine Kd.C_alloc ?_ _) | (with_reducible refine Kd.C_drewN ?_ _) | (with_reducible refine Kd.C_drew ?_)))); (case aB => exact (by repeat (first | (with_reducible first | exact HB.out | apply below_alloc | apply pw_below_drewN | apply below_drew1) | exact HB.out))); (case aF => exact (fun k_ hk => Kd.fresh' (Kd.R_lt (by (with_reducible repeat (first | apply Kd.R_alloc | apply Kd.R_drewN | apply Kd.R_drew)); exact HO_7.out)) k_ hk)); (case aO => exact (by (with_reducible repeat (first | apply Kd.R_alloc | apply Kd.R_drewN | apply Kd.R_drew)); exact HO370.out)); (case aS => exact (below_size (by repeat (first | (with_reducible first | exact HB.out | apply below_alloc | apply pw_below_drewN | apply below_drew1) | exact HB.out)))); (case aL => have := LMc43.out; have hlx_ := (show ((l0.take ((wrap64 ((ji39) + (wrap64 ((wrap64 (256 * (wrap64 (rd l0 (ji22))))) + (wrap64 (rd l0 (ji25))))))) : Int).toNat).drop ((ji39) : Int).toNat).length = ((wrap64 ((ji39) + (wrap64 ((wrap64 (256 * (wrap64 (rd l0 (ji22))))) + (wrap64 (rd l0 (ji25))))))).toNat - (ji39).toNat) from (by rw [List.length_drop, List.length_take]; have h_ : ((wrap64 ((ji39) + (wrap64 ((wrap64 (256 * (wrap64 (rd l0 (ji22))))) + (wrap64 (rd l0 (ji25))))))) : Int) ≤ (l0.length : Int) := of_decide_eq_true (by first | (with_reducible assumption) | assumption); omega)); omega); intro v373 w53 ho hb hg hat; rw [← Ny372.out] at ho; have n0_ := Aside0.mk (Kd.R_after (ok := (fun _ => True)) (by (with_reducible repeat (first | apply Kd.R_alloc | apply Kd.R_drewN | apply Kd.R_drew)); exact HO_7.out) hg hat); have n1_ := Aside0.mk (hb); have n2_ := Aside0.mk (ho); clear HO_7; clear HB; clear HO370; have HO_7 := n0_; have HB := n1_; have HO374 := n2_; clear n0_ n1_ n2_; clear ho hb hg hat) | (go_at_call 34; (with_reducible refine (flintref03_Get.calls kj27 _ _ l0 (wrap64 (a1 + 3)) 4 t375 t376 t377 _ ?side1 ?side2 A44.out).mono ?_); (case side1 => repeat (first | exact (Kd.C_below HR0.out HB.out) | (with_reducible refine Kd.C_alloc ?_ _) | (with_reducible refine Kd.C_drewN ?_ _) | (with_reducible refine Kd.C_drew ?_))); (case side2 => exact HC0.out); rintro e w' ⟨rfl, ⟨nd, rfl⟩⟩; (try first | exact ⟨rfl, _, World.drewN_drewN _ _ _⟩ | exact ⟨rfl, _, Eq.trans (World.drewN_drewN _ _ _) (congrArg (World.drewN _) (Nat.add_assoc _ _ _))⟩); obtain ⟨Ao54, co54, eo54⟩ := Kd.R_slice HO374.out; subst eo54) | (go_at_call 13; (with_reducible refine (flintref01_Sum.calls kj27 _ _ y372 t378 _ ?side1 ?side2 A45.out).mono ?_); (case side1 => repeat (first | exact (Kd.R_reads' HO374.out).2.2 | (with_reducible refine Kd.C_alloc ?_ _) | (with_reducible refine Kd.C_drewN ?_ _) | (with_reducible refine Kd.C_drew ?_))); (case side2 => exact (Kd.R_reads' HO374.out).2.1); rintro e w' ⟨rfl, ⟨nd, rfl⟩⟩; (try first | exact ⟨rfl, _, World.drewN_drewN _ _ _⟩ | exact ⟨rfl, _, Eq.trans (World.drewN_drewN _ _ _) (congrArg (World.drewN _) (Nat.add_assoc _ _ _))⟩); have q55 : (2 : Int) ≤ ((y372.length : Int) : Int) := of_decide_eq_true (by first | (with_reducible assumption) | assumption); obtain ⟨i055, hi055, _, hsz55, _⟩ := info_parts info5; have hcut55 := cut_from (P := Try.prog) 22 5 .i64 Try.underlying22 hi055 1 hsz55 Ao54 y372.length co54 2 (by omega) q55; have hr55 := Kd.Q_drop (k := (2 : Int).toNat) (Kd.Q_of_R HO374.out) (by omega); obtain ⟨A55, hA55⟩ : ∃ A1, A1 = (if co54 = (2 : Int).toNat then Ao54 else (Ao54 : Option Addr).map (·.add ((2 : Int).toNat * 1))) := ⟨_, rfl⟩; obtain ⟨c55, hc55⟩ : ∃ c1, c1 = co54 - (2 : Int).toNat := ⟨_, rfl⟩; have hy55 : y379.length = y372.length - (2 : Int).toNat := (by rw [Ny379.out, List.length_drop]); rw [← Ny379.out] at hr55; rw [← hy55, ← hA55, ← hc55] at hcut55; replace hr55 : Kd.Q (Kd.int .u8) 5 w53 w.heap.size (fun k_ => some k_ ≠ (v357 : Value).ownBlock) (.slice A55 y379.length c55) y379 := (by rw [hA55, hc55, hy55]; exact hr55); have HE55 : Aside0 ((Value.slice A55 y379.length c55).ownBlock = (.slice Ao54 y372.length co54 : Value).ownBlock) := ⟨by rw [hA55]; split <;> (cases (Ao54 : Option Addr) <;> rfl)⟩; clear hy55 hi055 hsz55 HO374 hA55 hc55; have HO381 := Aside0.mk hr55; clear hr55; replace q55 := eq_true q55; have n_ := Aside0.mk (Kd.R_mono (ok' := fun k_ => (True ∧ some k_ ≠ (.slice A55 y379.length c55 : Value).ownBlock)) HO_7.out (fun k_ hk => ⟨trivial, (by rw [HE55.out]; exact hk.2)⟩)); clear HO_7; have HO_7 := n_; clear n_)))
                                                                go_ret3
                                                                exact ⟨_, by first | rfl | (simp [errW_none, errW_some] <;> rfl) | (simp only [← hji22, ← hji25, ← hji34, ← hji39]; first | rfl | (simp [errW_none, errW_some] <;> rfl)) | (simp [*, errW_none, errW_some] <;> rfl), by (with_reducible repeat (first | apply Kd.Q_alloc | apply Kd.Q_drewN | apply Kd.Q_drew)); exact Kd.Q_mono HO381.out (fun _ hk => trivial), by repeat (first | (with_reducible first | exact HB.out | apply below_alloc | apply pw_below_drewN | apply below_drew1) | exact HB.out)⟩
                                                              · rw [if_neg c47] at H
                                                                exact absurd H (by simp)
                                                            · rw [if_neg c46] at H
                                                              have c46b0 : ((IntKind.u64.wrap (t378)) == t375) = false := beq_eq_false_iff_ne.mpr c46
                                                              have c46b1 : ((IntKind.u64.wrap (t378)) != t375) = true := bne_iff_ne.mpr c46
                                                              simp only [Option.some.injEq, Prod.mk.injEq] at H
                                                              obtain ⟨rfl, rfl, rfl⟩ := H
                                                              go_wp2_with (first | ((with_reducible refine gate_dst (N := 98) rfl ?_); (try (refine gate_guard (by rfl) ?_; dsimp only)); refine Kd.R_lit (Kd.int .u8) _ 5 ?hg (N := 98) ?hd (xs := ([] : List Int)) (inner := []) (ok := fun _ => True) (okp := fun _ => True) ?hr ?hp (fun _ hk => hk) trivial (Below.refl _ _) (Nat.le_refl _) (by simp) ?_; (case hd => rfl); (case hg => rfl); (case hr => first | (go_simp; done) | (go_simp; rfl)); (case hp => exact (Reps.none _ _)); intro v365 w56 ho57 hb hg_ hnew_; clear hg_ hnew_; (first | rw [← Ny364.out] at ho57 | (simp only [Int.reduceToNat] at ho57; rw [← Ny364.out] at ho57)); have n0_ := Aside0.mk (Kd.R_elder' (by (with_reducible repeat (first | apply Kd.R_alloc | apply Kd.R_drewN | apply Kd.R_drew)); exact HO_7.out) (Kd.R_base ho57) hb); have n1_ := Aside0.mk (Kd.R_lower (Kd.R_new' ho57 (Kd.R_lt (by (with_reducible repeat (first | apply Kd.R_alloc | apply Kd.R_drewN | apply Kd.R_drew)); exact HO_7.out))) (below_size (by repeat (first | (with_reducible first | exact HB.out | apply below_alloc | apply pw_below_drewN | apply below_drew1) | exact HB.out)))); have n2_ := Aside0.mk (below_step (by repeat (first | (with_reducible first | exact HB.out | apply below_alloc | apply pw_below_drewN | apply below_drew1) | exact HB.out)) hb); clear HO_7; clear HB; have HO_7 := n0_; have HO366 := n1_; have HB := n2_; clear n0_ n1_ n2_; clear hb ho57; obtain ⟨i058, hi058, _, hsz58, _⟩ := info_parts info5; obtain ⟨A58, hcut58, hA58, hC58⟩ := print_mid_of (P := Try.prog) (Value.int .u8) 0 22 5 .i64 .i64 Try.underlying22 hi058 hsz58 (some ad360) c0 l0 (ji22) (wrap64 (a1 + 3)) (of_decide_eq_true (by first | (with_reducible assumption) | assumption)) (by first | omega | exact of_decide_eq_true (by first | (with_reducible assumption) | assumption)) (of_decide_eq_true (by first | (with_reducible assumption) | assumption)) HC0.out; have HR367 := Aside0.mk (Kd.C_of_reads (h1 := fun _ => rfl) (hA58 _ (Kd.reads_of_C HR0.out))); have HC367 := Aside0.mk hC58; clear hA58 hC58 hi058 hsz58) | ((with_reducible refine gate_builtin (b := .append) (xs := #[.tmp 99, .tmp 105]) rfl ?_); (try (refine gate_guard (by rfl) ?_; dsimp only)); at_builtin; refine Kd.R_append_rows (Kd.int .u8) (w0 := w) w.heap.size rfl (.tmp 99) (.tmp 105) 22 5 (.int .u8 0) 1 rfl Try.underlying22 info5 rfl (by decide) (by omega) v365 y364 ((l0.take ((wrap64 (a1 + 3)) : Int).toNat).drop ((ji22) : Int).toNat) _ _ _ (fun k_ => some k_ ≠ (v357 : Value).ownBlock) (fun _ => False) rfl rfl ?aO ?aR (fun _ _ h => h) (fun _ h => h.elim) ?aF ?aB ?aS ?aL ?_; (case aR => first | (rw [← show ((l0.take ((wrap64 (a1 + 3)) : Int).toNat).drop ((ji22) : Int).toNat).length = ((wrap64 (a1 + 3)).toNat - (ji22).toNat) from (by rw [List.length_drop, List.length_take]; have h_ : ((wrap64 (a1 + 3)) : Int) ≤ (l0.length : Int) := of_decide_eq_true (by first | (with_reducible assumption) | assumption); omega)]; repeat (first | exact (Kd.C_below HR367.out HB.out) | (with_reducible refine Kd.C_alloc ?_ _) | (with_reducible refine Kd.C_drewN ?_ _) | (with_reducible refine Kd.C_drew ?_))) | (repeat (first | exact (Kd.C_below HR367.out HB.out) | (with_reducible refine Kd.C_alloc ?_ _) | (with_reducible refine Kd.C_drewN ?_ _) | (with_reducible refine Kd.C_drew ?_)))); (case aB => exact (by repeat (first | (with_reducible first | exact HB.out | apply below_alloc | apply pw_below_drewN | apply below_drew1) | exact HB.out))); (case aF => exact (fun k_ hk => Kd.fresh' (Kd.R_lt (by (with_reducible repeat (first | apply Kd.R_alloc | apply Kd.R_drewN | apply Kd.R_drew)); exact HO_7.out)) k_ hk)); (case aO => exact (by (with_reducible repeat (first | apply Kd.R_alloc | apply Kd.R_drewN | apply Kd.R_drew)); exact Kd.R_mono HO366.out (fun _ hk => hk.2))); (case aS => exact (below_size (by repeat (first | (with_reducible first | exact HB.out | apply below_alloc | apply pw_below_drewN | apply below_drew1) | exact HB.out)))); (case aL => have := LMc38.out; have hlx_ := (show ((l0.take ((wrap64 (a1 + 3)) : Int).toNat).drop ((ji22) : Int).toNat).length = ((wrap64 (a1 + 3)).toNat - (ji22).toNat) from (by rw [List.length_drop, List.length_take]; have h_ : ((wrap64 (a1 + 3)) : Int) ≤ (l0.length : Int) := of_decide_eq_true (by first | (with_reducible assumption) | assumption); omega)); omega); intro v369 w59 ho hb hg hat; rw [← Ny368.out] at ho; have n0_ := Aside0.mk (Kd.R_after (ok := (fun _ => True)) (by (with_reducible repeat (first | apply Kd.R_alloc | apply Kd.R_drewN | apply Kd.R_drew)); exact HO_7.out) hg hat); have n1_ := Aside0.mk (hb); have n2_ := Aside0.mk (ho); clear HO_7; clear HB; clear HO366; have HO_7 := n0_; have HB := n1_; have HO370 := n2_; clear n0_ n1_ n2_; clear ho hb hg hat; obtain ⟨i060, hi060, _, hsz60, _⟩ := info_parts info5; obtain ⟨A60, hcut60, hA60, hC60⟩ := print_mid_of (P := Try.prog) (Value.int .u8) 0 22 5 .i64 .i64 Try.underlying22 hi060 hsz60 (some ad360) c0 l0 (ji39) (wrap64 ((ji39) + (wrap64 ((wrap64 (256 * (wrap64 (rd l0 (ji22))))) + (wrap64 (rd l0 (ji25))))))) (of_decide_eq_true (by first | (with_reducible assumption) | assumption)) (by first | omega | exact of_decide_eq_true (by first | (with_reducible assumption) | assumption)) (of_decide_eq_true (by first | (with_reducible assumption) | assumption)) HC0.out; have HR371 := Aside0.mk (Kd.C_of_reads (h1 := fun _ => rfl) (hA60 _ (Kd.reads_of_C HR0.out))); have HC371 := Aside0.mk hC60; clear hA60 hC60 hi060 hsz60) | ((with_reducible refine gate_builtin (b := .append) (xs := #[.tmp 107, .tmp 115]) rfl ?_); (try (refine gate_guard (by rfl) ?_; dsimp only)); at_builtin; refine Kd.R_append_rows (Kd.int .u8) (w0 := w) w.heap.size rfl (.tmp 107) (.tmp 115) 22 5 (.int .u8 0) 1 rfl Try.underlying22 info5 rfl (by decide) (by omega) v369 y368 ((l0.take ((wrap64 ((ji39) + (wrap64 ((wrap64 (256 * (wrap64 (rd l0 (ji22))))) + (wrap64 (rd l0 (ji25))))))) : Int).toNat).drop ((ji39) : Int).toNat) _ _ _ (fun k_ => some k_ ≠ (v357 : Value).ownBlock) (fun _ => False) rfl rfl ?aO ?aR (fun _ _ h => h) (fun _ h => h.elim) ?aF ?aB ?aS ?aL ?_; (case aR => first | (rw [← show ((l0.take ((wrap64 ((ji39) + (wrap64 ((wrap64 (256 * (wrap64 (rd l0 (ji22))))) + (wrap64 (rd l0 (ji25))))))) : Int).toNat).drop ((ji39) : Int).toNat).length = ((wrap64 ((ji39) + (wrap64 ((wrap64 (256 * (wrap64 (rd l0 (ji22))))) + (wrap64 (rd l0 (ji25))))))).toNat - (ji39).toNat) from (by rw [List.length_drop, List.length_take]; have h_ : ((wrap64 ((ji39) + (wrap64 ((wrap64 (256 * (wrap64 (rd l0 (ji22))))) + (wrap64 (rd l0 (ji25))))))) : Int) ≤ (l0.length : Int) := of_decide_eq_true (by first | (with_reducible assumption) | assumption); omega)]; repeat (first | exact (Kd.C_below HR371.out HB.out) | (with_reducible refine Kd.C_alloc ?_ _) | (with_reducible refine Kd.C_drewN ?_ _) | (with_reducible refine Kd.C_drew ?_))) | (repeat (first | exact (Kd.C_below HR371.out HB.out) | (with_reducible refine Kd.C_alloc ?_ _) | (with_reducible refine Kd.C_drewN ?_ _) | (with_reducible refine Kd.C_drew ?_)))); (case aB => exact (by repeat (first | (with_reducible first | exact HB.out | apply below_alloc | apply pw_below_drewN | apply below_drew1) | exact HB.out))); (case aF => exact (fun k_ hk => Kd.fresh' (Kd.R_lt (by (with_reducible repeat (first | apply Kd.R_alloc | apply Kd.R_drewN | apply Kd.R_drew)); exact HO_7.out)) k_ hk)); (case aO => exact (by (with_reducible repeat (first | apply Kd.R_alloc | apply Kd.R_drewN | apply Kd.R_drew)); exact HO370.out)); (case aS => exact (below_size (by repeat (first | (with_reducible first | exact HB.out | apply below_alloc | apply pw_below_drewN | apply below_drew1) | exact HB.out)))); (case aL => have := LMc43.out; have hlx_ := (show ((l0.take ((wrap64 ((ji39) + (wrap64 ((wrap64 (256 * (wrap64 (rd l0 (ji22))))) + (wrap64 (rd l0 (ji25))))))) : Int).toNat).drop ((ji39) : Int).toNat).length = ((wrap64 ((ji39) + (wrap64 ((wrap64 (256 * (wrap64 (rd l0 (ji22))))) + (wrap64 (rd l0 (ji25))))))).toNat - (ji39).toNat) from (by rw [List.length_drop, List.length_take]; have h_ : ((wrap64 ((ji39) + (wrap64 ((wrap64 (256 * (wrap64 (rd l0 (ji22))))) + (wrap64 (rd l0 (ji25))))))) : Int) ≤ (l0.length : Int) := of_decide_eq_true (by first | (with_reducible assumption) | assumption); omega)); omega); intro v373 w61 ho hb hg hat; rw [← Ny372.out] at ho; have n0_ := Aside0.mk (Kd.R_after (ok := (fun _ => True)) (by (with_reducible repeat (first | apply Kd.R_alloc | apply Kd.R_drewN | apply Kd.R_drew)); exact HO_7.out) hg hat); have n1_ := Aside0.mk (hb); have n2_ := Aside0.mk (ho); clear HO_7; clear HB; clear HO370; have HO_7 := n0_; have HB := n1_; have HO374 := n2_; clear n0_ n1_ n2_; clear ho hb hg hat) | (go_at_call 34; (with_reducible refine (flintref03_Get.calls kj27 _ _ l0 (wrap64 (a1 + 3)) 4 t375 t376 t377 _ ?side1 ?side2 A44.out).mono ?_); (case side1 => repeat (first | exact (Kd.C_below HR0.out HB.out) | (with_reducible refine Kd.C_alloc ?_ _) | (with_reducible refine Kd.C_drewN ?_ _) | (with_reducible refine Kd.C_drew ?_))); (case side2 => exact HC0.out); rintro e w' ⟨rfl, ⟨nd, rfl⟩⟩; (try first | exact ⟨rfl, _, World.drewN_drewN _ _ _⟩ | exact ⟨rfl, _, Eq.trans (World.drewN_drewN _ _ _) (congrArg (World.drewN _) (Nat.add_assoc _ _ _))⟩); obtain ⟨Ao62, co62, eo62⟩ := Kd.R_slice HO374.out; subst eo62) | (go_at_call 13; (with_reducible refine (flintref01_Sum.calls kj27 _ _ y372 t378 _ ?side1 ?side2 A45.out).mono ?_); (case side1 => repeat (first | exact (Kd.R_reads' HO374.out).2.2 | (with_reducible refine Kd.C_alloc ?_ _) | (with_reducible refine Kd.C_drewN ?_ _) | (with_reducible refine Kd.C_drew ?_))); (case side2 => exact (Kd.R_reads' HO374.out).2.1); rintro e w' ⟨rfl, ⟨nd, rfl⟩⟩; (try first | exact ⟨rfl, _, World.drewN_drewN _ _ _⟩ | exact ⟨rfl, _, Eq.trans (World.drewN_drewN _ _ _) (congrArg (World.drewN _) (Nat.add_assoc _ _ _))⟩)))
                                                              repeat (go_quiet (first | ((with_reducible refine gate_dst (N := 98) rfl ?_); (try (refine gate_guard (by rfl) ?_; dsimp only)); refine Kd.R_lit (Kd.int .u8) _ 5 ?hg (N := 98) ?hd (xs := ([] : List Int)) (inner := []) (ok := fun _ => True) (okp := fun _ => True) ?hr ?hp (fun _ hk => hk) trivial (Below.refl _ _) (Nat.le_refl _) (by simp) ?_; (case hd => rfl); (case hg => rfl); (case hr => first | (go_simp; done) | (go_simp; rfl)); (case hp => exact (Reps.none _ _)); intro v365 w56 ho57 hb hg_ hnew_; clear hg_ hnew_; (first | rw [← Ny364.out] at ho57 | (simp only [Int.reduceToNat] at ho57; rw [← Ny364.out] at ho57)); have n0_ := Aside0.mk (Kd.R_elder' (by (with_reducible repeat (first | apply Kd.R_alloc | apply Kd.R_drewN | apply Kd.R_drew)); exact HO_7.out) (Kd.R_base ho57) hb); have n1_ := Aside0.mk (Kd.R_lower (Kd.R_new' ho57 (Kd.R_lt (by (with_reducible repeat (first | apply Kd.R_alloc | apply Kd.R_drewN | apply Kd.R_drew)); exact HO_7.out))) (below_size (by repeat (first | (with_reducible first | exact HB.out | apply below_alloc | apply pw_below_drewN | apply below_drew1) | exact HB.out)))); have n2_ := Aside0.mk (below_step (by repeat (first | (with_reducible first | exact HB.out | apply below_alloc | apply pw_below_drewN | apply below_drew1) | exact HB.out)) hb); clear HO_7; clear HB; have HO_7 := n0_; have HO366 := n1_; have HB := n2_; clear n0_ n1_ n2_; clear hb ho57; obtain ⟨i058, hi058, _, hsz58, _⟩ := info_parts info5; obtain ⟨A58, hcut58, hA58, hC58⟩ := print_mid_of (P := Try.prog) (Value.int .u8) 0 22 5 .i64 .i64 Try.underlying22 hi058 hsz58 (some ad360) c0 l0 (ji22) (wrap64 (a1 + 3)) (of_decide_eq_true (by first | (with_reducible assumption) | assumption)) (by first | omega | exact of_decide_eq_true (by first | (with_reducible assumption) | assumption)) (of_decide_eq_true (by first | (with_reducible assumption) | assumption)) HC0.out; have HR367 := Aside0.mk (Kd.C_of_reads (h1 := fun _ => rfl) (hA58 _ (Kd.reads_of_C HR0.out))); have HC367 := Aside0.mk hC58; clear hA58 hC58 hi058 hsz58) | ((with_reducible refine gate_builtin (b := .append) (xs := #[.tmp 99, .tmp 105]) rfl ?_); (try (refine gate_guard (by rfl) ?_; dsimp only)); at_builtin; refine Kd.R_append_rows (Kd.int .u8) (w0 := w) w.heap.size rfl (.tmp 99) (.tmp 105) 22 5 (.int .u8 0) 1 rfl Try.underlying22 info5 rfl (by decide) (by omega) v365 y364 ((l0.take ((wrap64 (a1 + 3)) : Int).toNat).drop ((ji22) : Int).toNat) _ _ _ (fun k_ => some k_ ≠ (v357 : Value).ownBlock) (fun _ => False) rfl rfl ?aO ?aR (fun _ _ h => h) (fun _ h => h.elim) ?aF ?aB ?aS ?aL ?_; (case aR => first | (rw [← show ((l0.take ((wrap64 (a1 + 3)) : Int).toNat).drop ((ji22) : Int).toNat).length = ((wrap64 (a1 + 3)).toNat - (ji22).toNat) from (by rw [List.length_drop, List.length_take]; have h_ : ((wrap64 (a1 + 3)) : Int) ≤ (l0.length : Int) := of_decide_eq_true (by first | (with_reducible assumption) | assumption); omega)]; repeat (first | exact (Kd.C_below HR367.out HB.out) | (with_reducible refine Kd.C_alloc ?_ _) | (with_reducible refine Kd.C_drewN ?_ _) | (with_reducible refine Kd.C_drew ?_))) | (repeat (first | exact (Kd.C_below HR367.out HB.out) | (with_reducible refine Kd.C_alloc ?_ _) | (with_reducible refine Kd.C_drewN ?_ _) | (with_reducible refine Kd.C_drew ?_)))); (case aB => exact (by repeat (first | (with_reducible first | exact HB.out | apply below_alloc | apply pw_below_drewN | apply below_drew1) | exact HB.out))); (case aF => exact (fun k_ hk => Kd.fresh' (Kd.R_lt (by (with_reducible repeat (first | apply Kd.R_alloc | apply Kd.R_drewN | apply Kd.R_drew)); exact HO_7.out)) k_ hk)); (case aO => exact (by (with_reducible repeat (first | apply Kd.R_alloc | apply Kd.R_drewN | apply Kd.R_drew)); exact Kd.R_mono HO366.out (fun _ hk => hk.2))); (case aS => exact (below_size (by repeat (first | (with_reducible first | exact HB.out | apply below_alloc | apply pw_below_drewN | apply below_drew1) | exact HB.out)))); (case aL => have := LMc38.out; have hlx_ := (show ((l0.take ((wrap64 (a1 + 3)) : Int).toNat).drop ((ji22) : Int).toNat).length = ((wrap64 (a1 + 3)).toNat - (ji22).toNat) from (by rw [List.length_drop, List.length_take]; have h_ : ((wrap64 (a1 + 3)) : Int) ≤ (l0.length : Int) := of_decide_eq_true (by first | (with_reducible assumption) | assumption); omega)); omega); intro v369 w59 ho hb hg hat; rw [← Ny368.out] at ho; have n0_ := Aside0.mk (Kd.R_after (ok := (fun _ => True)) (by (with_reducible repeat (first | apply Kd.R_alloc | apply Kd.R_drewN | apply Kd.R_drew)); exact HO_7.out) hg hat); have n1_ := Aside0.mk (hb); have n2_ := Aside0.mk (ho); clear HO_7; clear HB; clear HO366; have HO_7 := n0_; have HB := n1_; have HO370 := n2_; clear n0_ n1_ n2_; clear ho hb hg hat; obtain ⟨i060, hi060, _, hsz60, _⟩ := info_parts info5; obtain ⟨A60, hcut60, hA60, hC60⟩ := print_mid_of (P := Try.prog) (Value.int .u8) 0 22 5 .i64 .i64 Try.underlying22 hi060 hsz60 (some ad360) c0 l0 (ji39) (wrap64 ((ji39) + (wrap64 ((wrap64 (256 * (wrap64 (rd l0 (ji22))))) + (wrap64 (rd l0 (ji25))))))) (of_decide_eq_true (by first | (with_reducible assumption) | assumption)) (by first | omega | exact of_decide_eq_true (by first | (with_reducible assumption) | assumption)) (of_decide_eq_true (by first | (with_reducible assumption) | assumption)) HC0.out; have HR371 := Aside0.mk (Kd.C_of_reads (h1 := fun _ => rfl) (hA60 _ (Kd.reads_of_C HR0.out))); have HC371 := Aside0.mk hC60; clear hA60 hC60 hi060 hsz60) | ((with_reducible refine gate_builtin (b := .append) (xs := #[.tmp 107, .tmp 115]) rfl ?_); (try (refine gate_guard (by rfl) ?_; dsimp only)); at_builtin; refine Kd.R_append_rows (Kd.int .u8) (w0 := w) w.heap.size rfl (.tmp 107) (.tmp 115) 22 5 (.int .u8 0) 1 rfl Try.underlying22 info5 rfl (by decide) (by omega) v369 y368 ((l0.take ((wrap64 ((ji39) + (wrap64 ((wrap64 (256 * (wrap64 (rd l0 (ji22))))) + (wrap64 (rd l0 (ji25))))))) : Int).toNat).drop ((ji39) : Int).toNat) _ _ _ (fun k_ => some k_ ≠ (v357 : Value).ownBlock) (fun _ => False) rfl rfl ?aO ?aR (fun _ _ h => h) (fun _ h => h.elim) ?aF ?aB ?aS ?aL ?_; (case aR => first | (rw [← show ((l0.take ((wrap64 ((ji39) + (wrap64 ((wrap64 (256 * (wrap64 (rd l0 (ji22))))) + (wrap64 (rd l0 (ji25))))))) : Int).toNat).drop ((ji39) : Int).toNat).length = ((wrap64 ((ji39) + (wrap64 ((wrap64 (256 * (wrap64 (rd l0 (ji22))))) + (wrap64 (rd l0 (ji25))))))).toNat - (ji39).toNat) from (by rw [List.length_drop, List.length_take]; have h_ : ((wrap64 ((ji39) + (wrap64 ((wrap64 (256 * (wrap64 (rd l0 (ji22))))) + (wrap64 (rd l0 (ji25))))))) : Int) ≤ (l0.length : Int) := of_decide_eq_true (by first | (with_reducible assumption) | assumption); omega)]; repeat (first | exact (Kd.C_below HR371.out HB.out) | (with_reducible refine Kd.C_alloc ?_ _) | (with_reducible refine Kd.C_drewN ?_ _) | (with_reducible refine Kd.C_drew ?_))) | (repeat (first | exact (Kd.C_below HR371.out HB.out) | (with_reducible refine Kd.C_alloc ?_ _) | (with_reducible refine Kd.C_drewN ?_ _) | (with_reducible refine Kd.C_drew ?_)))); (case aB => exact (by repeat (first | (with_reducible first | exact HB.out | apply below_alloc | apply pw_below_drewN | apply below_drew1) | exact HB.out))); (case aF => exact (fun k_ hk => Kd.fresh' (Kd.R_lt (by (with_reducible repeat (first | apply Kd.R_alloc | apply Kd.R_drewN | apply Kd.R_drew)); exact HO_7.out)) k_ hk)); (case aO => exact (by (with_reducible repeat (first | apply Kd.R_alloc | apply Kd.R_drewN | apply Kd.R_drew)); exact HO370.out)); (case aS => exact (below_size (by repeat (first | (with_reducible first | exact HB.out | apply below_alloc | apply pw_below_drewN | apply below_drew1) | exact HB.out)))); (case aL => have := LMc43.out; have hlx_ := (show ((l0.take ((wrap64 ((ji39) + (wrap64 ((wrap64 (256 * (wrap64 (rd l0 (ji22))))) + (wrap64 (rd l0 (ji25))))))) : Int).toNat).drop ((ji39) : Int).toNat).length = ((wrap64 ((ji39) + (wrap64 ((wrap64 (256 * (wrap64 (rd l0 (ji22))))) + (wrap64 (rd l0 (ji25))))))).toNat - (ji39).toNat) from (by rw [List.length_drop, List.length_take]; have h_ : ((wrap64 ((ji39) + (wrap64 ((wrap64 (256 * (wrap64 (rd l0 (ji22))))) + (wrap64 (rd l0 (ji25))))))) : Int) ≤ (l0.length : Int) := of_decide_eq_true (by first | (with_reducible assumption) | assumption); omega)); omega); intro v373 w61 ho hb hg hat; rw [← Ny372.out] at ho; have n0_ := Aside0.mk (Kd.R_after (ok := (fun _ => True)) (by (with_reducible repeat (first | apply Kd.R_alloc | apply Kd.R_drewN | apply Kd.R_drew)); exact HO_7.out) hg hat); have n1_ := Aside0.mk (hb); have n2_ := Aside0.mk (ho); clear HO_7; clear HB; clear HO370; have HO_7 := n0_; have HB := n1_; have HO374 := n2_; clear n0_ n1_ n2_; clear ho hb hg hat) | (go_at_call 34; (with_reducible refine (flintref03_Get.calls kj27 _ _ l0 (wrap64 (a1 + 3)) 4 t375 t376 t377 _ ?side1 ?side2 A44.out).mono ?_); (case side1 => repeat (first | exact (Kd.C_below HR0.out HB.out) | (with_reducible refine Kd.C_alloc ?_ _) | (with_reducible refine Kd.C_drewN ?_ _) | (with_reducible refine Kd.C_drew ?_))); (case side2 => exact HC0.out); rintro e w' ⟨rfl, ⟨nd, rfl⟩⟩; (try first | exact ⟨rfl, _, World.drewN_drewN _ _ _⟩ | exact ⟨rfl, _, Eq.trans (World.drewN_drewN _ _ _) (congrArg (World.drewN _) (Nat.add_assoc _ _ _))⟩); obtain ⟨Ao62, co62, eo62⟩ := Kd.R_slice HO374.out; subst eo62) | (go_at_call 13; (with_reducible refine (flintref01_Sum.calls kj27 _ _ y372 t378 _ ?side1 ?side2 A45.out).mono ?_); (case side1 => repeat (first | exact (Kd.R_reads' HO374.out).2.2 | (with_reducible refine Kd.C_alloc ?_ _) | (with_reducible refine Kd.C_drewN ?_ _) | (with_reducible refine Kd.C_drew ?_))); (case side2 => exact (Kd.R_reads' HO374.out).2.1); rintro e w' ⟨rfl, ⟨nd, rfl⟩⟩; (try first | exact ⟨rfl, _, World.drewN_drewN _ _ _⟩ | exact ⟨rfl, _, Eq.trans (World.drewN_drewN _ _ _) (congrArg (World.drewN _) (Nat.add_assoc _ _ _))⟩))); try go_wp2_with (first | ((with_reducible refine gate_dst (N := 98) rfl ?_); (try (refine gate_guard (by rfl) ?_; dsimp only)); refine Kd.R_lit (Kd.int .u8) _ 5 ?hg (N := 98) ?hd (xs := ([] : List Int)) (inner := []) (ok := fun _ => True) (okp := fun _ => True) ?hr ?hp (fun _ hk => hk) trivial (Below.refl _ _) (Nat.le_refl _) (by simp) ?_; (case hd => rfl); (case hg => rfl); (case hr => first | (go_simp; done) | (go_simp; rfl)); (case hp => exact (Reps.none _ _)); intro v365 w56 ho57 hb hg_ hnew_; clear hg_ hnew_; (first | rw [← Ny364.out] at ho57 | (simp only [Int.reduceToNat] at ho57; rw [← Ny364.out] at ho57)); have n0_ := Aside0.mk (Kd.R_elder' (by (with_reducible repeat (first | apply Kd.R_alloc | apply Kd.R_drewN | apply Kd.R_drew)); exact HO_7.out) (Kd.R_base ho57) hb); have n1_ := Aside0.mk (Kd.R_lower (Kd.R_new' ho57 (Kd.R_lt (by (with_reducible repeat (first | apply Kd.R_alloc | apply Kd.R_drewN | apply Kd.R_drew)); exact HO_7.out))) (below_size (by repeat (first | (with_reducible first | exact HB.out | apply below_alloc | apply pw_below_drewN | apply below_drew1) | exact HB.out)))); have n2_ := Aside0.mk (below_step (by repeat (first | (with_reducible first | exact HB.out | apply below_alloc | apply pw_below_drewN | apply below_drew1) | exact HB.out)) hb); clear HO_7; clear HB; have HO_7 := n0_; have HO366 := n1_; have HB := n2_; clear n0_ n1_ n2_; clear hb ho57; obtain ⟨i058, hi058, _, hsz58, _⟩ := info_parts info5; obtain ⟨A58, hcut58, hA58, hC58⟩ := print_mid_of (P := Try.prog) (Value.int .u8) 0 22 5 .i64 .i64 Try.underlying22 hi058 hsz58 (some ad360) c0 l0 (ji22) (wrap64 (a1 + 3)) (of_decide_eq_true (by first | (with_reducible assumption) | assumption)) (by first | omega | exact of_decide_eq_true (by first | (with_reducible assumption) | assumption)) (of_decide_eq_true (by first | (with_reducible assumption) | assumption)) HC0.out; have HR367 := Aside0.mk (Kd.C_of_reads (h1 := fun _ => rfl) (hA58 _ (Kd.reads_of_C HR0.out))); have HC367 := Aside0.mk hC58; clear hA58 hC58 hi058 hsz58) | ((with_reducible refine gate_builtin (b := .append) (xs := #[.tmp 99, .tmp 105]) rfl ?_); (try (refine gate_guard (by rfl) ?_; dsimp only)); at_builtin; refine Kd.R_append_rows (Kd.int .u8) (w0 := w) w.heap.size rfl (.tmp 99) (.tmp 105) 22 5 (.int .u8 0) 1 rfl Try.underlying22 info5 rfl (by decide) (by omega) v365 y364 ((l0.take ((wrap64 (a1 + 3)) : Int).toNat).drop ((ji22) : Int).toNat) _ _ _ (fun k_ => some k_ ≠ (v357 : Value).ownBlock) (fun _ => False) rfl rfl ?aO ?aR (fun _ _ h => h) (fun _ h => h.elim) ?aF ?aB ?aS ?aL ?_; (case aR => first | (rw [← show ((l0.take ((wrap64 (a1 + 3)) : Int).toNat).drop ((ji22) : Int).toNat).length = ((wrap64 (a1 + 3)).toNat - (ji22).toNat) from (by rw [List.length_drop, List.length_take]; have h_ : ((wrap64 (a1 + 3)) : Int) ≤ (l0.length : Int) := of_decide_eq_true (by first | (with_reducible assumption) | assumption); omega)]; repeat (first | exact (Kd.C_below HR367.out HB.out) | (with_reducible refine Kd.C_alloc ?_ _) | (with_reducible refine Kd.C_drewN ?_ _) | (with_reducible refine Kd.C_drew ?_))) | (repeat (first | exact (Kd.C_below HR367.out HB.out) | (with_reducible refine Kd.C_alloc ?_ _) | (with_reducible refine Kd.C_drewN ?_ _) | (with_reducible refine Kd.C_drew ?_)))); (case aB => exact (by repeat (first | (with_reducible first | exact HB.out | apply below_alloc | apply pw_below_drewN | apply below_drew1) | exact HB.out))); (case aF => exact (fun k_ hk => Kd.fresh' (Kd.R_lt (by (with_reducible repeat (first | apply Kd.R_alloc | apply Kd.R_drewN | apply Kd.R_drew)); exact HO_7.out)) k_ hk)); (case aO => exact (by (with_reducible repeat (first | apply Kd.R_alloc | apply Kd.R_drewN | apply Kd.R_drew)); exact Kd.R_mono HO366.out (fun _ hk => hk.2))); (case aS => exact (below_size (by repeat (first | (with_reducible first | exact HB.out | apply below_alloc | apply pw_below_drewN | apply below_drew1) | exact HB.out)))); (case aL => have := LMc38.out; have hlx_ := (show ((l0.take ((wrap64 (a1 + 3)) : Int).toNat).drop ((ji22) : Int).toNat).length = ((wrap64 (a1 + 3)).toNat - (ji22).toNat) from (by rw [List.length_drop, List.length_take]; have h_ : ((wrap64 (a1 + 3)) : Int) ≤ (l0.length : Int) := of_decide_eq_true (by first | (with_reducible assumption) | assumption); omega)); omega); intro v369 w59 ho hb hg hat; rw [← Ny368.out] at ho; have n0_ := Aside0.mk (Kd.R_after (ok := (fun _ => True)) (by (with_reducible repeat (first | apply Kd.R_alloc | apply Kd.R_drewN | apply Kd.R_drew)); exact HO_7.out) hg hat); have n1_ := Aside0.mk (hb); have n2_ := Aside0.mk (ho); clear HO_7; clear HB; clear HO366; have HO_7 := n0_; have HB := n1_; have HO370 := n2_; clear n0_ n1_ n2_; clear ho hb hg hat; obtain ⟨i060, hi060, _, hsz60, _⟩ := info_parts info5; obtain ⟨A60, hcut60, hA60, hC60⟩ := print_mid_of (P := Try.prog) (Value.int .u8) 0 22 5 .i64 .i64 Try.underlying22 hi060 hsz60 (some ad360) c0 l0 (ji39) (wrap64 ((ji39) + (wrap64 ((wrap64 (256 * (wrap64 (rd l0 (ji22))))) + (wrap64 (rd l0 (ji25))))))) (of_decide_eq_true (by first | (with_reducible assumption) | assumption)) (by first | omega | exact of_decide_eq_true (by first | (with_reducible assumption) | assumption)) (of_decide_eq_true (by first | (with_reducible assumption) | assumption)) HC0.out; have HR371 := Aside0.mk (Kd.C_of_reads (h1 := fun _ => rfl) (hA60 _ (Kd.reads_of_C HR0.out))); have HC371 := Aside0.mk hC60; clear hA60 hC60 hi060 hsz60) | ((with_reducible refine gate_builtin (b := .append) (xs := #[.tmp 107, .tmp 115]) rfl ?_); (try (refine gate_guard (by rfl) ?_; dsimp only)); at_builtin; refine Kd.R_append_rows (Kd.int .u8) (w0 := w) w.heap.size rfl (.tmp 107) (.tmp 115) 22 5 (.int .u8 0) 1 rfl Try.underlying22 info5 rfl (by decide) (by omega) v369 y368 ((l0.take ((wrap64 ((ji39) + (wrap64 ((wrap64 (256 * (wrap64 (rd l0 (ji22))))) + (wrap64 (rd l0 (ji25))))))) : Int).toNat).drop ((ji39) : Int).toNat) _ _ _ (fun k_ => some k_ ≠ (v357 : Value).ownBlock) (fun _ => False) rfl rfl ?aO ?aR (fun _ _ h => h) (fun _ h => h.elim) ?aF ?aB ?aS ?aL ?_; (case aR => first | (rw [← show ((l0.take ((wrap64 ((ji39) + (wrap64 ((wrap64 (256 * (wrap64 (rd l0 (ji22))))) + (wrap64 (rd l0 (ji25))))))) : Int).toNat).drop ((ji39) : Int).toNat).length = ((wrap64 ((ji39) + (wrap64 ((wrap64 (256 * (wrap64 (rd l0 (ji22))))) + (wrap64 (rd l0 (ji25))))))).toNat - (ji39).toNat) from (by rw [List.length_drop, List.length_take]; have h_ : ((wrap64 ((ji39) + (wrap64 ((wrap64 (256 * (wrap64 (rd l0 (ji22))))) + (wrap64 (rd l0 (ji25))))))) : Int) ≤ (l0.length : Int) := of_decide_eq_true (by first | (with_reducible assumption) | assumption); omega)]; repeat (first | exact (Kd.C_below HR371.out HB.out) | (with_reducible refine Kd.C_alloc ?_ _) | (with_reducible refine Kd.C_drewN ?_ _) | (with_reducible refine Kd.C_drew ?_))) | (repeat (first | exact (Kd.C_below HR371.out HB.out) | (with_reducible refine Kd.C_alloc ?_ _) | (with_reducible refine Kd.C_drewN ?_ _) | (with_reducible refine Kd.C_drew ?_)))); (case aB => exact (by repeat (first | (with_reducible first | exact HB.out | apply below_alloc | apply pw_below_drewN | apply below_drew1) | exact HB.out))); (case aF => exact (fun k_ hk => Kd.fresh' (Kd.R_lt (by (with_reducible repeat (first | apply Kd.R_alloc | apply Kd.R_drewN | apply Kd.R_drew)); exact HO_7.out)) k_ hk)); (case aO => exact (by (with_reducible repeat (first | apply Kd.R_alloc | apply Kd.R_drewN | apply Kd.R_drew)); exact HO370.out)); (case aS => exact (below_size (by repeat (first | (with_reducible first | exact HB.out | apply below_alloc | apply pw_below_drewN | apply below_drew1) | exact HB.out)))); (case aL => have := LMc43.out; have hlx_ := (show ((l0.take ((wrap64 ((ji39) + (wrap64 ((wrap64 (256 * (wrap64 (rd l0 (ji22))))) + (wrap64 (rd l0 (ji25))))))) : Int).toNat).drop ((ji39) : Int).toNat).length = ((wrap64 ((ji39) + (wrap64 ((wrap64 (256 * (wrap64 (rd l0 (ji22))))) + (wrap64 (rd l0 (ji25))))))).toNat - (ji39).toNat) from (by rw [List.length_drop, List.length_take]; have h_ : ((wrap64 ((ji39) + (wrap64 ((wrap64 (256 * (wrap64 (rd l0 (ji22))))) + (wrap64 (rd l0 (ji25))))))) : Int) ≤ (l0.length : Int) := of_decide_eq_true (by first | (with_reducible assumption) | assumption); omega)); omega); intro v373 w61 ho hb hg hat; rw [← Ny372.out] at ho; have n0_ := Aside0.mk (Kd.R_after (ok := (fun _ => True)) (by (with_reducible repeat (first | apply Kd.R_alloc | apply Kd.R_drewN | apply Kd.R_drew)); exact HO_7.out) hg hat); have n1_ := Aside0.mk (hb); have n2_ := Aside0.mk (ho); clear HO_7; clear HB; clear HO370; have HO_7 := n0_; have HB := n1_; have HO374 := n2_; clear n0_ n1_ n2_; clear ho hb hg hat) | (go_at_call 34; (with_reducible refine (flintref03_Get.calls kj27 _ _ l0 (wrap64 (a1 + 3)) 4 t375 t376 t377 _ ?side1 ?side2 A44.out).mono ?_); (case side1 => repeat (first | exact (Kd.C_below HR0.out HB.out) | (with_reducible refine Kd.C_alloc ?_ _) | (with_reducible refine Kd.C_drewN ?_ _) | (with_reducible refine Kd.C_drew ?_))); (case side2 => exact HC0.out); rintro e w' ⟨rfl, ⟨nd, rfl⟩⟩; (try first | exact ⟨rfl, _, World.drewN_drewN _ _ _⟩ | exact ⟨rfl, _, Eq.trans (World.drewN_drewN _ _ _) (congrArg (World.drewN _) (Nat.add_assoc _ _ _))⟩); obtain ⟨Ao62, co62, eo62⟩ := Kd.R_slice HO374.out; subst eo62) | (go_at_call 13; (with_reducible refine (flintref01_Sum.calls kj27 _ _ y372 t378 _ ?side1 ?side2 A45.out).mono ?_); (case side1 => repeat (first | exact (Kd.R_reads' HO374.out).2.2 | (with_reducible refine Kd.C_alloc ?_ _) | (with_reducible refine Kd.C_drewN ?_ _) | (with_reducible refine Kd.C_drew ?_))); (case side2 => exact (Kd.R_reads' HO374.out).2.1); rintro e w' ⟨rfl, ⟨nd, rfl⟩⟩; (try first | exact ⟨rfl, _, World.drewN_drewN _ _ _⟩ | exact ⟨rfl, _, Eq.trans (World.drewN_drewN _ _ _) (congrArg (World.drewN _) (Nat.add_assoc _ _ _))⟩))))
                                                              go_ret3
                                                              exact ⟨_, by first | rfl | (simp [errW_none, errW_some] <;> rfl) | (simp only [← hji22, ← hji25, ← hji34, ← hji39]; first | rfl | (simp [errW_none, errW_some] <;> rfl)) | (simp [*, errW_none, errW_some] <;> rfl), Kd.Q_of_R (by (with_reducible repeat (first | apply Kd.R_alloc | apply Kd.R_drewN | apply Kd.R_drew)); exact Kd.R_mono HO_7.out (fun _ hk => trivial)), by repeat (first | (with_reducible first | exact HB.out | apply below_alloc | apply pw_below_drewN | apply below_drew1) | exact HB.out)⟩
                                                          · rw [if_neg c43] at H
                                                            exact absurd H (by simp)
                                                        · rw [if_neg c42] at H
                                                          exact absurd H (by simp)
                                                      · rw [if_neg c41] at H
                                                        exact absurd H (by simp)
                                                    · rw [if_neg c40] at H
                                                      exact absurd H (by simp)
                                                  · rw [if_neg c38] at H
                                                    exact absurd H (by simp)
                                                · rw [if_neg c37] at H
                                                  exact absurd H (by simp)
                                              · rw [if_neg c36] at H
                                                exact absurd H (by simp)
                                            · rw [if_neg c35] at H
                                              exact absurd H (by simp)
                                    · rw [if_neg c27] at H
                                      exact absurd H (by simp)
                                  · rw [if_neg c26] at H
                                    exact absurd H (by simp)
                                · rw [if_neg c24] at H
                                  exact absurd H (by simp)
                              · rw [if_neg c23] at H
                                exact absurd H (by simp)
                  · rw [if_neg c13] at H
                    exact absurd H (by simp)
                · rw [if_neg c12] at H
                  exact absurd H (by simp)

end Go.Proofs.Ytconcmobjkpkcaa.G
