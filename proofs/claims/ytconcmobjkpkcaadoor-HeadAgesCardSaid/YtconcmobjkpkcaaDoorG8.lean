-- Written by wip/gen.py: the kit's print.py, with this session's own texts where it takes a function not. Not trusted: Lean checks it.
import Derived.Test.YtconcmobjkpkcaaDoorG0
import Derived.Test.YtconcmobjkpkcaaDoorG6
import Derived.Test.YtconcmobjkpkcaaDoorG7
namespace Go.Proofs.YtconcmobjkpkcaaDoor.G
open Go.RowKit Go.Proofs.YtconcmobjkpkcaaDoorW.PrintWords Go.Proofs.YtconcmobjkpkcaaDoorW.PrintLast Go.Proofs.YtconcmobjkpkcaaDoorW.PrintMore
attribute [local go_sem] max2_int min2_int max_two min_two max_three min_three max_four min_four   -- for this text's walks alone
set_option linter.unusedVariables false
set_option linter.unusedSimpArgs false

/-! ### sum_More: function 30 -/
mutual
def sum_More.l0 : Nat → List Int → Int → Int → Option (Int)
  | 0, _, _, _ => none
  | k + 1, x1, x5, x6 => if (x1.length : Int) > 0 then (if 0 ≤ (mn (x1.length : Int) 5000) then (if (mn (x1.length : Int) 5000) ≤ (x1.length : Int) then ((some (x1.take ((mn (x1.length : Int) 5000) : Int).toNat : List Int)).bind fun y122 => (sum_More.l1 k x1 x5 x6 (mn (x1.length : Int) 5000) y122 (y122.length : Int) 0)) else (none)) else (none)) else (some (Go.bits .or .u32 ((x5 * 65536) % 4294967296) x6))
def sum_More.l1 : Nat → List Int → Int → Int → Int → List Int → Int → Int → Option (Int)
  | 0, _, _, _, _, _, _, _ => none
  | k + 1, x1, x5, x6, x7, x27, x28, x29 => if x29 < x28 then (if 0 ≤ x29 then (if x29 < (x27.length : Int) then (sum_More.l1 k x1 ((x5 + ((x6 + ((rd x27 x29) % 4294967296)) % 4294967296)) % 4294967296) ((x6 + ((rd x27 x29) % 4294967296)) % 4294967296) x7 x27 x28 (wrap64 (x29 + 1))) else (none)) else (none)) else (if 0 ≤ x7 then (if x7 ≤ (x1.length : Int) then (sum_More.l0 k (x1.drop (x7 : Int).toNat) (Int.tmod x5 65521) (Int.tmod x6 65521)) else (none)) else (none))
end
def sum_More.f (k : Nat) (a0 : Int) (l1 : List Int) : Option (Int) := (sum_May.f a0).bind fun t119 => (if t119 = true then ((sum_parts.f a0).bind fun bt120 => (sum_More.l0 k l1 bt120.1 bt120.2)) else (some a0))
theorem sum_More.mono_l : ∀ k, (∀ y0 y1 y2, LeO (sum_More.l0 k y0 y1 y2) (sum_More.l0 (k + 1) y0 y1 y2)) ∧ (∀ y0 y1 y2 y3 y4 y5 y6, LeO (sum_More.l1 k y0 y1 y2 y3 y4 y5 y6) (sum_More.l1 (k + 1) y0 y1 y2 y3 y4 y5 y6))
  | 0 => ⟨fun _ _ _ r h => by simp [sum_More.l0] at h, fun _ _ _ _ _ _ _ r h => by simp [sum_More.l1] at h⟩
  | k + 1 => by
    obtain ⟨ih0, ih1⟩ := sum_More.mono_l k
    refine ⟨?_, ?_⟩
    · intro y0 y1 y2
      unfold sum_More.l0
      repeat' first
      | (with_reducible exact ih0 _ _ _)
      | (with_reducible exact ih1 _ _ _ _ _ _ _)
      | (with_reducible exact LeO.refl _)
      | (with_reducible exact LeO.none _)
      | (with_reducible refine LeO.ite ?_ ?_)
      | (with_reducible refine LeO.bind ?_ (fun _ => ?_))
      | exact ih0 _ _ _
      | exact ih1 _ _ _ _ _ _ _
      | exact LeO.none _
      | refine LeO.ite ?_ ?_
      | refine LeO.bind ?_ (fun _ => ?_)
    · intro y0 y1 y2 y3 y4 y5 y6
      unfold sum_More.l1
      repeat' first
      | (with_reducible exact ih0 _ _ _)
      | (with_reducible exact ih1 _ _ _ _ _ _ _)
      | (with_reducible exact LeO.refl _)
      | (with_reducible exact LeO.none _)
      | (with_reducible refine LeO.ite ?_ ?_)
      | (with_reducible refine LeO.bind ?_ (fun _ => ?_))
      | exact ih0 _ _ _
      | exact ih1 _ _ _ _ _ _ _
      | exact LeO.none _
      | refine LeO.ite ?_ ?_
      | refine LeO.bind ?_ (fun _ => ?_)
theorem sum_More.mono : ∀ a0 a1 k, LeO (sum_More.f k a0 a1) (sum_More.f (k + 1) a0 a1) := by
  intro a0 a1 k
  obtain ⟨ih0, ih1⟩ := sum_More.mono_l k
  unfold sum_More.f
  repeat' first
      | (with_reducible exact ih0 _ _ _)
      | (with_reducible exact ih1 _ _ _ _ _ _ _)
      | (with_reducible exact LeO.refl _)
      | (with_reducible exact LeO.none _)
      | (with_reducible refine LeO.ite ?_ ?_)
      | (with_reducible refine LeO.bind ?_ (fun _ => ?_))
      | exact ih0 _ _ _
      | exact ih1 _ _ _ _ _ _ _
      | exact LeO.none _
      | refine LeO.ite ?_ ?_
      | refine LeO.bind ?_ (fun _ => ?_)
set_option maxHeartbeats 8000000 in
set_option maxRecDepth 100000 in
theorem sum_More.calls (k : Nat) (a0 : Int) (P1_ : Nat → Prop) (A1 : Option Addr) (c1 : Nat) (l1 : List Int) (r : Int) (w : World) (hs1 : Kd.V (Kd.int .u8) 5 w w.heap.size (fun k_ => P1_ k_) (.slice A1 l1.length c1) l1) (h : sum_More.f k a0 l1 = some r) :
    Calls Tryd.prog 30 #[.int .u32 a0, .slice A1 l1.length c1] w fun e w' => e = .returned (.int .u32 r) ∧ Below w.heap.size w w' := by
  have HO1 := Aside0.mk (show Kd.V (Kd.int .u8) 5 w w.heap.size (fun k_ => (P1_ k_ ∨ w.heap.size ≤ k_)) (.slice A1 l1.length c1) l1 from Kd.V_mono hs1 (fun k_ hk => .inl hk))
  have HB := Aside0.mk (Below.refl w.heap.size w)
  have H : ((sum_May.f a0).bind fun t119 => (if t119 = true then ((sum_parts.f a0).bind fun bt120 => (sum_More.l0 k l1 bt120.1 bt120.2)) else (some a0))) = some r := h
  clear h
  replace H := Option.bind_eq_some_iff.mp H
  obtain ⟨t119, A30, H⟩ := H
  replace H : (if t119 = true then ((sum_parts.f a0).bind fun bt120 => (sum_More.l0 k l1 bt120.1 bt120.2)) else (some a0)) = some r := H
  have A3 := Aside0.mk A30
  clear A30
  by_cases c4 : t119 = true
  · subst c4
    have H1 : ((sum_parts.f a0).bind fun bt120 => (sum_More.l0 k l1 bt120.1 bt120.2)) = some r := by rw [if_pos rfl] at H; exact H
    clear H
    have H := H1
    clear H1
    replace H := Option.bind_eq_some_iff.mp H
    obtain ⟨⟨t120, t121⟩, A50, H⟩ := H
    replace H : (sum_More.l0 k l1 t120 t121) = some r := H
    have A5 := Aside0.mk A50
    clear A50
    have H' := Aside0.mk H
    clear H
    go_enter Tryd.func30, Tryd.ntmps30
    go_wp2_with (first | ((with_reducible refine gate_callee (f := 32) rfl ?_); refine goesL_ (some 11) rfl rfl Tryd.func32 (by kernel_rfl) rfl #[.int .u32 a0] rfl (by (try simp only [List.map_toArray, List.map_cons, List.map_nil]); first | done | rfl | (simp only [List.length_drop, List.length_take]; rfl)) ?_; (with_reducible refine (sum_May.calls a0 true _ A3.out).mono ?_); rintro e w' ⟨rfl, ⟨nd, rfl⟩⟩; refine ⟨_, rfl, ?_⟩) | ((with_reducible refine gate_callee (f := 33) rfl ?_); refine goesL_ (some 16) rfl rfl Tryd.func33 (by kernel_rfl) rfl #[.int .u32 a0] rfl (by (try simp only [List.map_toArray, List.map_cons, List.map_nil]); first | done | rfl | (simp only [List.length_drop, List.length_take]; rfl)) ?_; (with_reducible refine (sum_parts.calls a0 t120 t121 _ A5.out).mono ?_); rintro e w' ⟨rfl, ⟨nd, rfl⟩⟩; refine ⟨_, rfl, ?_⟩))
    go_loopg [1, 5, 6] k (fun kq v1 v5 v6 w' => ∃ (x1_1 : List Int) (x5_1 : Int) (x6_1 : Int), v5 = .int .u32 x5_1 ∧ v6 = .int .u32 x6_1 ∧ Aside0 (sum_More.l0 kq x1_1 x5_1 x6_1 = some r) ∧ Aside0 (kq ≤ k) ∧ Aside0 (Kd.V (Kd.int .u8) 5 w' w.heap.size (fun k_ => (P1_ k_ ∨ w.heap.size ≤ k_)) v1 x1_1) ∧ Aside0 (Below w.heap.size w w'))
    case atStart => exact ⟨(l1), (t120), (t121), (by first | rfl | (simp; done) | (simp [*]; done)), (by first | rfl | (simp; done) | (simp [*]; done)), H', ⟨Nat.le_refl _⟩, ⟨by (with_reducible repeat (first | apply Kd.V_alloc | apply Kd.V_drewN | apply Kd.V_drew)); exact HO1.out⟩, ⟨by repeat (first | (with_reducible first | exact HB.out | apply below_alloc | apply pw_below_drewN | apply below_drew1) | exact HB.out)⟩⟩
    case round =>
      clear H'
      try clear c1
      try clear p2
      try clear c3
      try clear c4
      obtain ⟨x1_1, x5_1, x6_1, rfl, rfl, HA, HK1, HO_1, HB⟩ := hrel
      cases gk with
      | zero => exact absurd HA.out (by simp [sum_More.l0])
      | succ k1 =>
        have H := HA.out
        clear HA
        simp only [sum_More.l0] at H
        by_cases c6 : (x1_1.length : Int) > 0
        · rw [if_pos c6] at H
          have c6b0 : decide (0 < (x1_1.length : Int)) = true := decide_eq_true c6
          have c6b1 : decide (0 < x1_1.length) = true := decide_eq_true (by omega)
          clear c6
          obtain ⟨ji7, hji7⟩ : ∃ j_ : Int, (mn (x1_1.length : Int) 5000) = j_ := ⟨_, rfl⟩
          replace H : (if 0 ≤ (ji7) then (if (ji7) ≤ (x1_1.length : Int) then ((some (x1_1.take ((ji7) : Int).toNat : List Int)).bind fun y122 => (sum_More.l1 k1 x1_1 x5_1 x6_1 ji7 y122 (y122.length : Int) 0)) else (none)) else (none)) = some r := by first | (rw [hji7] at H; exact H) | (simp only [hji7] at H ⊢; exact H)
          have hji7_ : (if 5000 < (x1_1.length : Int) then 5000 else (x1_1.length : Int)) = ji7 := hji7
          by_cases c8 : 0 ≤ (ji7)
          · rw [if_pos c8] at H
            have c8b0 := eq_true c8
            have c8b1 : decide (0 ≤ (ji7)) = true := decide_eq_true c8
            clear c8
            by_cases c9 : (ji7) ≤ (x1_1.length : Int)
            · rw [if_pos c9] at H
              have c9b0 := eq_true c9
              have c9b1 : decide ((ji7) ≤ (x1_1.length : Int)) = true := decide_eq_true c9
              clear c9
              obtain ⟨y122, hy122⟩ : ∃ y_ : List Int, y_ = (x1_1.take ((ji7) : Int).toNat) := ⟨_, rfl⟩
              replace H : (sum_More.l1 k1 x1_1 x5_1 x6_1 ji7 y122 (y122.length : Int) 0) = some r := by first | (rw [hy122]; with_reducible exact H) | (have H2_ := (Option.bind_some _ _).symm.trans H; rw [hy122]; with_reducible exact H2_) | (have H2_ := (Option.bind_some _ _).symm.trans H; with_reducible exact H2_) | with_reducible exact H | (rw [hy122]; exact H) | exact H
              have Ny122 := Aside0.mk hy122
              clear hy122
              have H' := Aside0.mk H
              clear H
              obtain ⟨Ao10, co10, eo10⟩ := Kd.V_slice HO_1.out
              subst eo10
              have q11 : ((ji7) : Int) ≤ ((x1_1.length : Int) : Int) := of_decide_eq_true (by first | (with_reducible assumption) | assumption)
              obtain ⟨i011, hi011, _, hsz11, _⟩ := info_parts info5
              have hroom11 : x1_1.length ≤ co10 := (Kd.V_reads' HO_1.out).2.1
              have hC11 : Kd.F (Kd.int .u8) _ _ Ao10 x1_1.length x1_1 := (Kd.V_at (base := w.heap.size) HO_1.out).2.2
              have hcut11 := cut_to (P := Tryd.prog) 24 5 .i64 Tryd.underlying24 hi011 Ao10 x1_1.length co10 (ji7) (of_decide_eq_true (by first | (with_reducible assumption) | assumption)) q11 hroom11
              have hr11 := Kd.F_take (m := ((ji7) : Int).toNat) hC11 (by omega)
              have hy11 : y122.length = ((ji7) : Int).toNat := (by rw [Ny122.out, List.length_take]; omega)
              rw [← Ny122.out] at hr11
              rw [← hy11] at hcut11
              have HO126 := Aside0.mk (show Kd.V (Kd.int .u8) 5 _ w.heap.size _ (.slice Ao10 y122.length co10) y122 from Kd.V_mk (by omega) hr11)
              have HC126 := Aside0.mk (show y122.length ≤ co10 from by omega)
              clear hr11 hC11 hroom11 hi011 hsz11
              have KY11 := Aside0.mk hy11
              clear hy11
              replace q11 := eq_true q11
              go_wp2
              go_loopg [5, 6, 29] k1 (fun kq v5 v6 v29 w' => ∃ (x5_2 : Int) (x6_2 : Int) (x29_2 : Int), v5 = .int .u32 x5_2 ∧ v6 = .int .u32 x6_2 ∧ v29 = .int .i64 x29_2 ∧ Aside0 (sum_More.l1 kq x1_1 x5_2 x6_2 ji7 y122 (y122.length : Int) x29_2 = some r) ∧ Aside0 (kq ≤ k1) ∧ Aside0 (Kd.V (Kd.int .u8) 5 w' w.heap.size (fun k_ => (P1_ k_ ∨ w.heap.size ≤ k_)) (.slice Ao10 x1_1.length co10) x1_1) ∧ Aside0 (Kd.V (Kd.int .u8) 5 w' w.heap.size (fun k_ => (P1_ k_ ∨ w.heap.size ≤ k_)) (.slice Ao10 y122.length co10) y122) ∧ Aside0 (Below w.heap.size w w'))
              case atStart => exact ⟨(x5_1), (x6_1), (0), (by first | rfl | (simp; done) | (simp [*]; done)), (by first | rfl | (simp; done) | (simp [*]; done)), (by first | rfl | (simp; done) | (simp [*]; done)), H', ⟨Nat.le_refl _⟩, ⟨by (with_reducible repeat (first | apply Kd.V_alloc | apply Kd.V_drewN | apply Kd.V_drew)); exact HO_1.out⟩, ⟨by (with_reducible repeat (first | apply Kd.V_alloc | apply Kd.V_drewN | apply Kd.V_drew)); exact HO126.out⟩, ⟨by repeat (first | (with_reducible first | exact HB.out | apply below_alloc | apply pw_below_drewN | apply below_drew1) | exact HB.out)⟩⟩
              case round =>
                clear H'
                try clear c1
                try clear q1
                try clear p2
                try clear c3
                try clear c4
                try clear c6
                try clear c6b0
                try clear c6b1
                try clear c8
                try clear c8b0
                try clear c8b1
                try clear c9
                try clear c9b0
                try clear c9b1
                try clear q11
                try clear p2
                try clear q11
                obtain ⟨x5_2, x6_2, x29_2, rfl, rfl, rfl, HA, HK2, HO_1, HO_27, HB⟩ := hrel
                cases gk with
                | zero => exact absurd HA.out (by simp [sum_More.l1])
                | succ k2 =>
                  have H := HA.out
                  clear HA
                  simp only [sum_More.l1] at H
                  by_cases c12 : x29_2 < (y122.length : Int)
                  · rw [if_pos c12] at H
                    have c12b0 : decide (x29_2 < (y122.length : Int)) = true := decide_eq_true c12
                    clear c12
                    by_cases c13 : 0 ≤ x29_2
                    · rw [if_pos c13] at H
                      have c13b0 : decide (0 ≤ x29_2) = true := decide_eq_true c13
                      clear c13
                      by_cases c14 : x29_2 < (y122.length : Int)
                      · rw [if_pos c14] at H
                        have c14b0 : decide (x29_2 < (y122.length : Int)) = true := decide_eq_true c14
                        clear c14
                        have H' := Aside0.mk H
                        clear H
                        have p127 : 0 ≤ (x29_2 : Int) := of_decide_eq_true (by first | (with_reducible assumption) | assumption)
                        have q127 : x29_2 < (y122.length : Int) := of_decide_eq_true (by first | (with_reducible assumption) | assumption)
                        obtain ⟨ad127, e127, hx127_0⟩ := Kd.at_int (Kd.V_reads' HO_27.out).2.2 x29_2 p127 q127
                        cases e127
                        replace p127 := eq_true p127
                        replace q127 := eq_true q127
                        go_wp2
                        go_roundg k2
                        case measure => have := HK1.out; have := HK2.out; omega
                        case rel => exact ⟨((x5_2 + ((x6_2 + ((rd y122 x29_2) % 4294967296)) % 4294967296)) % 4294967296), ((x6_2 + ((rd y122 x29_2) % 4294967296)) % 4294967296), (wrap64 (x29_2 + 1)), (by first | rfl | (simp; done) | (simp [*]; done)), (by first | rfl | (simp; done) | (simp [*]; done)), (by first | rfl | (simp; done) | (simp [*]; done)), H', ⟨by have := HK1.out; have := HK2.out; omega⟩, ⟨by (with_reducible repeat (first | apply Kd.V_alloc | apply Kd.V_drewN | apply Kd.V_drew)); exact HO_1.out⟩, ⟨by (with_reducible repeat (first | apply Kd.V_alloc | apply Kd.V_drewN | apply Kd.V_drew)); exact HO_27.out⟩, ⟨by repeat (first | (with_reducible first | exact HB.out | apply below_alloc | apply pw_below_drewN | apply below_drew1) | exact HB.out)⟩⟩
                      · rw [if_neg c14] at H
                        exact absurd H (by simp)
                    · rw [if_neg c13] at H
                      exact absurd H (by simp)
                  · rw [if_neg c12] at H
                    have c12b0 : decide (x29_2 < (y122.length : Int)) = false := decide_eq_false c12
                    clear c12
                    by_cases c15 : 0 ≤ ji7
                    · rw [if_pos c15] at H
                      have c15b0 := eq_true c15
                      have c15b1 : decide (0 ≤ ji7) = true := decide_eq_true c15
                      clear c15
                      by_cases c16 : ji7 ≤ (x1_1.length : Int)
                      · rw [if_pos c16] at H
                        have c16b0 := eq_true c16
                        have c16b1 : decide (ji7 ≤ (x1_1.length : Int)) = true := decide_eq_true c16
                        clear c16
                        obtain ⟨y128, hy128⟩ : ∃ y_ : List Int, y_ = (x1_1.drop (ji7 : Int).toNat) := ⟨_, rfl⟩
                        replace H : (sum_More.l0 k2 y128 (Int.tmod x5_2 65521) (Int.tmod x6_2 65521)) = some r := by first | (rw [hy128]; with_reducible exact H) | (have H2_ := (Option.bind_some _ _).symm.trans H; rw [hy128]; with_reducible exact H2_) | (have H2_ := (Option.bind_some _ _).symm.trans H; with_reducible exact H2_) | with_reducible exact H | (rw [hy128]; exact H) | exact H
                        have Ny128 := Aside0.mk hy128
                        clear hy128
                        have H' := Aside0.mk H
                        clear H
                        have q17 : (ji7 : Int) ≤ ((x1_1.length : Int) : Int) := of_decide_eq_true (by first | (with_reducible assumption) | assumption)
                        obtain ⟨i017, hi017, _, hsz17, _⟩ := info_parts info5
                        have hroom17 : x1_1.length ≤ co10 := (Kd.V_reads' HO_1.out).2.1
                        have hC17 : Kd.F (Kd.int .u8) _ _ Ao10 x1_1.length x1_1 := (Kd.V_at (base := w.heap.size) HO_1.out).2.2
                        have q017 : (0 : Int) ≤ (ji7 : Int) := of_decide_eq_true (by first | (with_reducible assumption) | assumption)
                        have hcut17 := cut_from (P := Tryd.prog) 24 5 .i64 Tryd.underlying24 hi017 1 hsz17 Ao10 x1_1.length co10 ji7 q017 q17
                        have hr17 := Kd.F_cut (m := (ji7 : Int).toNat) (c := co10) hC17 (by omega) hroom17
                        obtain ⟨A17, hA17⟩ : ∃ A1, A1 = (if co10 = (ji7 : Int).toNat then Ao10 else (Ao10 : Option Addr).map (·.add ((ji7 : Int).toNat * 1))) := ⟨_, rfl⟩
                        obtain ⟨c17, hc17⟩ : ∃ c1, c1 = co10 - (ji7 : Int).toNat := ⟨_, rfl⟩
                        have hy17 : y128.length = x1_1.length - (ji7 : Int).toNat := (by rw [Ny128.out, List.length_drop] <;> omega)
                        rw [show (x1_1).drop (ji7 : Int).toNat = y128 from Ny128.out.symm] at hr17
                        replace hr17 : Kd.F (Kd.int .u8) _ _ A17 y128.length y128 := (by rw [hA17]; exact hr17)
                        rw [← hy17, ← hA17, ← hc17] at hcut17
                        have HO132 := Aside0.mk (show Kd.V (Kd.int .u8) 5 _ w.heap.size _ (.slice A17 y128.length c17) y128 from Kd.V_mk (by rw [hy17, hc17]; exact Nat.sub_le_sub_right hroom17 _) hr17)
                        have HC132 := Aside0.mk (show y128.length ≤ c17 from by rw [hy17, hc17]; exact Nat.sub_le_sub_right hroom17 _)
                        clear hr17 hC17 hroom17 hi017 hsz17 hc17
                        have KY17 := Aside0.mk hy17
                        have KA17 := Aside0.mk hA17
                        clear hy17 hA17
                        replace q17 := eq_true q17
                        go_wp2
                        go_roundg k2
                        case measure => have := HK1.out; have := HK2.out; omega
                        case rel => exact ⟨(y128), (Int.tmod x5_2 65521), (Int.tmod x6_2 65521), (by first | rfl | (simp; done) | (simp [*]; done)), (by first | rfl | (simp; done) | (simp [*]; done)), H', ⟨by have := HK1.out; have := HK2.out; omega⟩, ⟨by (with_reducible repeat (first | apply Kd.V_alloc | apply Kd.V_drewN | apply Kd.V_drew)); exact HO132.out⟩, ⟨by repeat (first | (with_reducible first | exact HB.out | apply below_alloc | apply pw_below_drewN | apply below_drew1) | exact HB.out)⟩⟩
                      · rw [if_neg c16] at H
                        exact absurd H (by simp)
                    · rw [if_neg c15] at H
                      exact absurd H (by simp)
            · rw [if_neg c9] at H
              exact absurd H (by simp)
          · rw [if_neg c8] at H
            exact absurd H (by simp)
        · rw [if_neg c6] at H
          have c6b0 : decide (0 < (x1_1.length : Int)) = false := decide_eq_false c6
          have c6b1 : decide (0 < x1_1.length) = false := decide_eq_false (by omega)
          clear c6
          obtain rfl := Option.some.inj H
          obtain ⟨Ao18, co18, eo18⟩ := Kd.V_slice HO_1.out
          subst eo18
          go_wp2
          go_ret
          exact ⟨by first | rfl | (simp [errW_none, errW_some] <;> rfl) | (simp [*, errW_none, errW_some] <;> rfl), by repeat (first | (with_reducible first | exact HB.out | apply below_alloc | apply pw_below_drewN | apply below_drew1) | exact HB.out)⟩
  · replace c4 := Bool.eq_false_iff.mpr c4
    subst c4
    have H1 : (some a0) = some r := by rw [if_neg (show ¬ (false = true) by decide)] at H; exact H
    clear H
    have H := H1
    clear H1
    obtain rfl := Option.some.inj H
    go_enter Tryd.func30, Tryd.ntmps30
    go_wp2_with (first | ((with_reducible refine gate_callee (f := 32) rfl ?_); refine goesL_ (some 11) rfl rfl Tryd.func32 (by kernel_rfl) rfl #[.int .u32 a0] rfl (by (try simp only [List.map_toArray, List.map_cons, List.map_nil]); first | done | rfl | (simp only [List.length_drop, List.length_take]; rfl)) ?_; (with_reducible refine (sum_May.calls a0 false _ A3.out).mono ?_); rintro e w' ⟨rfl, ⟨nd, rfl⟩⟩; refine ⟨_, rfl, ?_⟩))
    go_ret
    exact ⟨by first | rfl | (simp [errW_none, errW_some] <;> rfl) | (simp [*, errW_none, errW_some] <;> rfl), by repeat (first | (with_reducible first | exact HB.out | apply below_alloc | apply pw_below_drewN | apply below_drew1) | exact HB.out)⟩

end Go.Proofs.YtconcmobjkpkcaaDoor.G
