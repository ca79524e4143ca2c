-- Written by wip/gen.py: the kit's print.py, with this session's own texts where it takes a function not. Not trusted: Lean checks it.
import Derived.Test.YtdpnhjhbdobhjaaDoorG0
import Derived.Test.YtdpnhjhbdobhjaaDoorG4
import Derived.Test.YtdpnhjhbdobhjaaDoorG6
import Derived.Test.YtdpnhjhbdobhjaaDoorG7
import Derived.Test.YtdpnhjhbdobhjaaDoorG13
import Derived.Test.YtdpnhjhbdobhjaaDoorG15
namespace Go.Proofs.YtdpnhjhbdobhjaaDoor.G
open Go.RowKit Go.Proofs.YtdpnhjhbdobhjaaDoorW.PrintWords Go.Proofs.YtdpnhjhbdobhjaaDoorW.PrintLast Go.Proofs.YtdpnhjhbdobhjaaDoorW.PrintMore
attribute [local go_sem] max2_int min2_int max_two min_two max_three min_three max_four min_four   -- for this text's walks alone
set_option linter.unusedVariables false
set_option linter.unusedSimpArgs false

/-! ### flintlaw25_ScriptActs: function 3 -/
def flintlaw25_ScriptActs.l0 : Nat → List (S31) → List (S31) → Int → Int → Option (Bool)
  | 0, _, _, _, _ => none
  | k + 1, x3, x4, x20, x21 => if x21 < x20 then (if 0 ≤ x21 then (if x21 < (x3.length : Int) then (if x21 < (x4.length : Int) then ((flintref25_Same.f ((rd_T31 x3 x21).f0) ((rd_T31 x3 x21).f1) ((rd_T31 x3 x21).f2.f0) ((rd_T31 x3 x21).f2.f1) ((rd_T31 x3 x21).f2.f2) ((rd_T31 x3 x21).f2.f3) ((rd_T31 x3 x21).f2.f4) ((rd_T31 x3 x21).f2.f5) ((rd_T31 x3 x21).f2.f6) ((rd_T31 x3 x21).f3) ((rd_T31 x3 x21).f4) ((rd_T31 x3 x21).f5) ((rd_T31 x4 x21).f0) ((rd_T31 x4 x21).f1) ((rd_T31 x4 x21).f2.f0) ((rd_T31 x4 x21).f2.f1) ((rd_T31 x4 x21).f2.f2) ((rd_T31 x4 x21).f2.f3) ((rd_T31 x4 x21).f2.f4) ((rd_T31 x4 x21).f2.f5) ((rd_T31 x4 x21).f2.f6) ((rd_T31 x4 x21).f3) ((rd_T31 x4 x21).f4) ((rd_T31 x4 x21).f5)).bind fun t212 => (if t212 = true then (flintlaw25_ScriptActs.l0 k x3 x4 x20 (wrap64 (x21 + 1))) else (some false))) else (none)) else (none)) else (none)) else ((flintlaw25_fixed.f).bind fun t213 => (some t213))
def flintlaw25_ScriptActs.f (k : Nat) (l0 : List Int) : Option (Bool) := if (l0.length : Int) > 4000 then ((flintlaw25_fixed.f).bind fun t203 => (some t203)) else ((script_Acts.f k l0).bind fun t204 => ((flintref25_Acts.f k l0).bind fun t207 => (if (t204.length : Int) = (t207.length : Int) then (flintlaw25_ScriptActs.l0 k t204 t207 (t204.length : Int) 0) else (some false))))
theorem flintlaw25_ScriptActs.mono_l : ∀ k, (∀ y0 y1 y2 y3, LeO (flintlaw25_ScriptActs.l0 k y0 y1 y2 y3) (flintlaw25_ScriptActs.l0 (k + 1) y0 y1 y2 y3))
  | 0 => fun _ _ _ _ r h => by simp [flintlaw25_ScriptActs.l0] at h
  | k + 1 => by
    have ih0 := flintlaw25_ScriptActs.mono_l k
    · intro y0 y1 y2 y3
      unfold flintlaw25_ScriptActs.l0
      repeat' first
      | (with_reducible exact ih0 _ _ _ _)
      | (with_reducible exact flintref25_Acts.mono _ _)
      | (with_reducible exact script_Acts.mono _ _)
      | (with_reducible exact LeO.refl _)
      | (with_reducible exact LeO.none _)
      | (with_reducible refine LeO.ite ?_ ?_)
      | (with_reducible refine LeO.bind ?_ (fun _ => ?_))
      | exact ih0 _ _ _ _
      | exact flintref25_Acts.mono _ _
      | exact script_Acts.mono _ _
      | exact LeO.none _
      | refine LeO.ite ?_ ?_
      | refine LeO.bind ?_ (fun _ => ?_)
theorem flintlaw25_ScriptActs.mono : ∀ a0 k, LeO (flintlaw25_ScriptActs.f k a0) (flintlaw25_ScriptActs.f (k + 1) a0) := by
  intro a0 k
  have ih0 := flintlaw25_ScriptActs.mono_l k
  unfold flintlaw25_ScriptActs.f
  repeat' first
      | (with_reducible exact ih0 _ _ _ _)
      | (with_reducible exact flintref25_Acts.mono _ _)
      | (with_reducible exact script_Acts.mono _ _)
      | (with_reducible exact LeO.refl _)
      | (with_reducible exact LeO.none _)
      | (with_reducible refine LeO.ite ?_ ?_)
      | (with_reducible refine LeO.bind ?_ (fun _ => ?_))
      | exact ih0 _ _ _ _
      | exact flintref25_Acts.mono _ _
      | exact script_Acts.mono _ _
      | exact LeO.none _
      | refine LeO.ite ?_ ?_
      | refine LeO.bind ?_ (fun _ => ?_)
def flintlaw25_ScriptActs.T9 : Bool × List (List Nat × List Nat) := (true, [([], []), ([], []), ([0, 1], [0, 1]), ([2], [2]), ([], []), ([], []), ([4, 5], [4, 5]), ([6], [6]), ([3, 7], [3, 7]), ([8], [8])])
def flintlaw25_ScriptActs.B9 : List Nat := [0, 0, 3, 7, 0, 0, 48, 112, 255, 511]
theorem flintlaw25_ScriptActs.tab9 : rtab .any (opsOf Tryd.f3 9) = flintlaw25_ScriptActs.T9 := by kernel_rfl
theorem flintlaw25_ScriptActs.bits9 : waitsOk flintlaw25_ScriptActs.T9.2 flintlaw25_ScriptActs.B9 = true := by kernel_rfl
set_option maxHeartbeats 8000000 in
set_option maxRecDepth 100000 in
theorem flintlaw25_ScriptActs.calls (k : Nat) (A0 : Option Addr) (c0 : Nat) (l0 : List Int) (r : Bool) (w : World) (hr0 : Kd.C (Kd.int .u8) w A0 l0.length l0) (hc0 : l0.length ≤ c0) (h : flintlaw25_ScriptActs.f k l0 = some r) (hT0 : Tabs w) :
    Calls Tryd.prog 3 #[.slice A0 l0.length c0] w fun e w' => e = .returned (.bool r) ∧ Below w.heap.size w w' := by
  have HT := Aside0.mk hT0
  clear hT0
  have hu31 := Tryd.underlying31
  have HR0 := Aside0.mk hr0
  have HC0 := Aside0.mk hc0
  clear hr0 hc0
  have HB := Aside0.mk (Below.refl w.heap.size w)
  have H : (if (l0.length : Int) > 4000 then ((flintlaw25_fixed.f).bind fun t203 => (some t203)) else ((script_Acts.f k l0).bind fun t204 => ((flintref25_Acts.f k l0).bind fun t207 => (if (t204.length : Int) = (t207.length : Int) then (flintlaw25_ScriptActs.l0 k t204 t207 (t204.length : Int) 0) else (some false))))) = some r := h
  clear h
  by_cases c2 : (l0.length : Int) > 4000
  · rw [if_pos c2] at H
    have c2b0 : decide (4000 < (l0.length : Int)) = true := decide_eq_true c2
    have c2b1 : decide (4000 < l0.length) = true := decide_eq_true (by omega)
    clear c2
    replace H := Option.bind_eq_some_iff.mp H
    obtain ⟨t203, A30, H⟩ := H
    replace H : (some t203) = some r := H
    have A3 := Aside0.mk A30
    clear A30
    obtain rfl := Option.some.inj H
    go_enter Tryd.func3, Tryd.ntmps3
    go_wp2_with (first | ((with_reducible refine gate_callee (f := 5) rfl ?_); refine goesL_ (some 9) rfl rfl Tryd.func5 (by kernel_rfl) rfl #[] rfl (by (try simp only [List.map_toArray, List.map_cons, List.map_nil]); first | done | rfl | (simp only [List.length_drop, List.length_take]; rfl)) ?_; (with_reducible refine (flintlaw25_fixed.calls  t203 _ A3.out).mono ?_); rintro e w' ⟨rfl, ⟨nd, rfl⟩⟩; refine ⟨_, rfl, ?_⟩))
    go_ret
    exact ⟨by first | rfl | (simp [errW_none, errW_some] <;> rfl) | (simp [*, errW_none, errW_some] <;> rfl), by repeat (first | (with_reducible first | exact HB.out | apply below_alloc | apply pw_below_drewN | apply below_drew1) | exact HB.out)⟩
  · rw [if_neg c2] at H
    have c2b0 : decide (4000 < (l0.length : Int)) = false := decide_eq_false c2
    have c2b1 : decide (4000 < l0.length) = false := decide_eq_false (by omega)
    clear c2
    replace H := Option.bind_eq_some_iff.mp H
    obtain ⟨t204, A40, H⟩ := H
    replace H : ((flintref25_Acts.f k l0).bind fun t207 => (if (t204.length : Int) = (t207.length : Int) then (flintlaw25_ScriptActs.l0 k t204 t207 (t204.length : Int) 0) else (some false))) = some r := H
    have A4 := Aside0.mk A40
    clear A40
    replace H := Option.bind_eq_some_iff.mp H
    obtain ⟨t207, A50, H⟩ := H
    replace H : (if (t204.length : Int) = (t207.length : Int) then (flintlaw25_ScriptActs.l0 k t204 t207 (t204.length : Int) 0) else (some false)) = some r := H
    have A5 := Aside0.mk A50
    clear A50
    by_cases c6 : (t204.length : Int) = (t207.length : Int)
    · rw [if_pos c6] at H
      have c6b0 : ((t204.length : Int) == (t207.length : Int)) = true := beq_iff_eq.mpr c6
      have c6b1 : ((t204.length : Int) != (t207.length : Int)) = false := bne_eq_false_iff_eq.mpr c6
      have c6b2 : (t204.length == t207.length) = true := by first | simpa using c6 | (simp at c6 ⊢; omega)
      clear c6
      have H' := Aside0.mk H
      clear H
      go_enter Tryd.func3, Tryd.ntmps3
      go_wp2_with (first | ((with_reducible refine gate_callee (f := 6) rfl ?_); refine goesL_ (some 11) rfl rfl Tryd.func6 (by kernel_rfl) rfl #[.slice A0 l0.length c0] rfl (by (try simp only [List.map_toArray, List.map_cons, List.map_nil]); first | done | rfl | (simp only [List.length_drop, List.length_take]; rfl)) ?_; (with_reducible refine (script_Acts.calls k _ _ l0 t204 _ ?side1 ?side2 A4.out (Tabs.below HT.out (by repeat (first | (with_reducible first | exact HB.out | apply below_alloc | apply pw_below_drewN | apply below_drew1) | exact HB.out)))).mono ?_); (case side1 => repeat (first | exact HR0.out | (with_reducible refine Kd.C_alloc ?_ _) | (with_reducible refine Kd.C_drewN ?_ _) | (with_reducible refine Kd.C_drew ?_))); (case side2 => exact HC0.out); rintro e w7 ⟨v205, rfl, ho0, hb⟩; refine ⟨_, rfl, ?_⟩; have n0_ := Aside0.mk (Kd.S_lower ho0 (below_size (by repeat (first | (with_reducible first | exact HB.out | apply below_alloc | apply pw_below_drewN | apply below_drew1) | exact HB.out)))); have n1_ := Aside0.mk (below_step (by repeat (first | (with_reducible first | exact HB.out | apply below_alloc | apply pw_below_drewN | apply below_drew1) | exact HB.out)) hb); clear HB; have HO206 := n0_; have HB := n1_; clear n0_ n1_; (try clear hb); (try clear hb2); (try clear hk); (try clear hi); (try clear ho0)) | ((with_reducible refine gate_callee (f := 7) rfl ?_); refine goesL_ (some 13) rfl rfl Tryd.func7 (by kernel_rfl) rfl #[.slice A0 l0.length c0] rfl (by (try simp only [List.map_toArray, List.map_cons, List.map_nil]); first | done | rfl | (simp only [List.length_drop, List.length_take]; rfl)) ?_; (with_reducible refine (flintref25_Acts.calls k _ _ l0 t207 _ ?side1 ?side2 A5.out).mono ?_); (case side1 => repeat (first | exact (Kd.C_below HR0.out HB.out) | (with_reducible refine Kd.C_alloc ?_ _) | (with_reducible refine Kd.C_drewN ?_ _) | (with_reducible refine Kd.C_drew ?_))); (case side2 => exact HC0.out); rintro e w8 ⟨v208, rfl, ho0, hb⟩; refine ⟨_, rfl, ?_⟩; have n0_ := Aside0.mk (Kd.S_elder' (by (with_reducible repeat (first | apply Kd.S_alloc | apply Kd.S_drewN | apply Kd.S_drew)); exact HO206.out) (Kd.S_base ho0) hb); have n1_ := Aside0.mk (Kd.S_lower (Kd.S_new' ho0 (Kd.S_lt (by (with_reducible repeat (first | apply Kd.S_alloc | apply Kd.S_drewN | apply Kd.S_drew)); exact HO206.out))) (below_size (by repeat (first | (with_reducible first | exact HB.out | apply below_alloc | apply pw_below_drewN | apply below_drew1) | exact HB.out)))); have n2_ := Aside0.mk (below_step (by repeat (first | (with_reducible first | exact HB.out | apply below_alloc | apply pw_below_drewN | apply below_drew1) | exact HB.out)) hb); clear HO206; clear HB; have HO206 := n0_; have HO209 := n1_; have HB := n2_; clear n0_ n1_ n2_; (try clear hb); (try clear hb2); (try clear hk); (try clear hi); (try clear ho0); obtain ⟨Ao9, co9, eo9⟩ := Kd.S_slice HO206.out; subst eo9; obtain ⟨Ao10, co10, eo10⟩ := Kd.S_slice HO209.out; subst eo10))
      go_loopg [21] k (fun kq v21 w' => ∃ (x21_1 : Int), v21 = .int .i64 x21_1 ∧ Aside0 (flintlaw25_ScriptActs.l0 kq t204 t207 (t204.length : Int) x21_1 = some r) ∧ Aside0 (kq ≤ k) ∧ Aside0 (Kd.S k31 31 w' w.heap.size (fun k_ => some k_ ≠ ((.slice Ao10 t207.length co10) : Value).ownBlock) (.slice Ao9 t204.length co9) t204) ∧ Aside0 (Kd.S k31 31 w' w.heap.size (fun k_ => some k_ ≠ ((.slice Ao9 t204.length co9) : Value).ownBlock) (.slice Ao10 t207.length co10) t207) ∧ Aside0 (Below w.heap.size w w'))
      case atStart => exact ⟨(0), (by first | rfl | (simp; done) | (simp [*]; done)), H', ⟨Nat.le_refl _⟩, ⟨by (with_reducible repeat (first | apply Kd.S_alloc | apply Kd.S_drewN | apply Kd.S_drew)); exact Kd.S_mono HO206.out (fun _ hk => hk.2)⟩, ⟨by (with_reducible repeat (first | apply Kd.S_alloc | apply Kd.S_drewN | apply Kd.S_drew)); exact Kd.S_mono HO209.out (fun _ hk => hk.2)⟩, ⟨by repeat (first | (with_reducible first | exact HB.out | apply below_alloc | apply pw_below_drewN | apply below_drew1) | exact HB.out)⟩⟩
      case round =>
        clear H'
        try clear c2
        try clear c2b0
        try clear c2b1
        try clear p2
        try clear c3
        try clear c5
        try clear c6
        try clear c6b0
        try clear c6b1
        try clear c6b2
        try clear c7
        obtain ⟨x21_1, rfl, HA, HK1, HO_3, HO_4, HB⟩ := hrel
        cases gk with
        | zero => exact absurd HA.out (by simp [flintlaw25_ScriptActs.l0])
        | succ k1 =>
          have H := HA.out
          clear HA
          simp only [flintlaw25_ScriptActs.l0] at H
          by_cases c11 : x21_1 < (t204.length : Int)
          · rw [if_pos c11] at H
            have c11b0 : decide (x21_1 < (t204.length : Int)) = true := decide_eq_true c11
            clear c11
            by_cases c12 : 0 ≤ x21_1
            · rw [if_pos c12] at H
              have c12b0 : decide (0 ≤ x21_1) = true := decide_eq_true c12
              clear c12
              by_cases c13 : x21_1 < (t204.length : Int)
              · rw [if_pos c13] at H
                have c13b0 : decide (x21_1 < (t204.length : Int)) = true := decide_eq_true c13
                clear c13
                by_cases c14 : x21_1 < (t207.length : Int)
                · rw [if_pos c14] at H
                  have c14b0 : decide (x21_1 < (t207.length : Int)) = true := decide_eq_true c14
                  clear c14
                  replace H := Option.bind_eq_some_iff.mp H
                  obtain ⟨t212, A150, H⟩ := H
                  replace H : (if t212 = true then (flintlaw25_ScriptActs.l0 k1 t204 t207 (t204.length : Int) (wrap64 (x21_1 + 1))) else (some false)) = some r := H
                  have A15 := Aside0.mk A150
                  clear A150
                  by_cases c16 : t212 = true
                  · subst c16
                    have H1 : (flintlaw25_ScriptActs.l0 k1 t204 t207 (t204.length : Int) (wrap64 (x21_1 + 1))) = some r := by rw [if_pos rfl] at H; exact H
                    clear H
                    have H := H1
                    clear H1
                    have H' := Aside0.mk H
                    clear H
                    try go_wp2
                    have n0_ := Aside0.mk (Kd.S_drew HO_3.out)
                    have n1_ := Aside0.mk (Kd.S_drew HO_4.out)
                    have n2_ := Aside0.mk (below_drew1 HB.out)
                    clear HO_3
                    clear HO_4
                    clear HB
                    have HO_3 := n0_
                    have HO_4 := n1_
                    have HB := n2_
                    clear n0_ n1_ n2_
                    have p210 : 0 ≤ (x21_1 : Int) := of_decide_eq_true (by first | (with_reducible assumption) | assumption)
                    have q210 : x21_1 < (t204.length : Int) := of_decide_eq_true (by first | (with_reducible assumption) | assumption)
                    obtain ⟨ad210, A210_8, c210_8, e210, hx210_0, hx210_1, hx210_2, hx210_3, hx210_4, hx210_5, hx210_6, hx210_7, hx210_8, hx210_9, hx210_10, hx210_11, hl210_8, hi210_8⟩ := at_T31 (Kd.S_reads' HO_3.out).2.2 x21_1 p210 q210
                    cases e210
                    obtain ⟨ce210, hce210, hMe210, hcc210⟩ := Kd.S_get HO_3.out z31 x21_1 p210 (by first | exact q210 | exact of_decide_eq_true (by first | (with_reducible assumption) | assumption) | (have e_ := (Kd.S_reads' HO_3.out).1; omega))
                    obtain ⟨ve210_8, rfl, ge210_8⟩ := k31_openM hMe210
                    have hv210_8 := hcc210 8 _ rfl
                    rw [add_field _ _ 8 (by omega)] at hv210_8
                    replace hv210_8 := Option.some.inj (hv210_8.symm.trans hx210_8)
                    rw [hv210_8] at ge210_8
                    have HL210_8 := Aside0.mk (show Kd.R (Kd.int .u8) 5 _ _ _ _ ((rd_T31 t204 x21_1).f2.f6) from ge210_8)
                    clear hv210_8 ge210_8
                    clear hcc210 hce210
                    have HR210_8 := Aside0.mk hi210_8
                    have HC210_8 := Aside0.mk hl210_8
                    clear hi210_8 hl210_8
                    replace p210 := eq_true p210
                    replace q210 := eq_true q210
                    have p211 : 0 ≤ (x21_1 : Int) := of_decide_eq_true (by first | (with_reducible assumption) | assumption)
                    have q211 : x21_1 < (t207.length : Int) := of_decide_eq_true (by first | (with_reducible assumption) | assumption)
                    obtain ⟨ad211, A211_8, c211_8, e211, hx211_0, hx211_1, hx211_2, hx211_3, hx211_4, hx211_5, hx211_6, hx211_7, hx211_8, hx211_9, hx211_10, hx211_11, hl211_8, hi211_8⟩ := at_T31 (Kd.S_reads' HO_4.out).2.2 x21_1 p211 q211
                    cases e211
                    obtain ⟨ce211, hce211, hMe211, hcc211⟩ := Kd.S_get HO_4.out z31 x21_1 p211 (by first | exact q211 | exact of_decide_eq_true (by first | (with_reducible assumption) | assumption) | (have e_ := (Kd.S_reads' HO_4.out).1; omega))
                    obtain ⟨ve211_8, rfl, ge211_8⟩ := k31_openM hMe211
                    have hv211_8 := hcc211 8 _ rfl
                    rw [add_field _ _ 8 (by omega)] at hv211_8
                    replace hv211_8 := Option.some.inj (hv211_8.symm.trans hx211_8)
                    rw [hv211_8] at ge211_8
                    have HL211_8 := Aside0.mk (show Kd.R (Kd.int .u8) 5 _ _ _ _ ((rd_T31 t207 x21_1).f2.f6) from ge211_8)
                    clear hv211_8 ge211_8
                    clear hcc211 hce211
                    have HR211_8 := Aside0.mk hi211_8
                    have HC211_8 := Aside0.mk hl211_8
                    clear hi211_8 hl211_8
                    replace p211 := eq_true p211
                    replace q211 := eq_true q211
                    refine start_ (n := 10) (S := fun w' => w'.cell? (ad210.add ((x21_1).toNat * 12)) = some (.int .u8 ((rd_T31 t204 x21_1).f0)) ∧ w'.cell? ⟨(ad210.add ((x21_1).toNat * 12)).block, (ad210.add ((x21_1).toNat * 12)).off + 1, none⟩ = some (.int .i64 ((rd_T31 t204 x21_1).f1)) ∧ w'.cell? ⟨(ad210.add ((x21_1).toNat * 12)).block, (ad210.add ((x21_1).toNat * 12)).off + 2, none⟩ = some (.int .u8 ((rd_T31 t204 x21_1).f2.f0)) ∧ w'.cell? ⟨(ad210.add ((x21_1).toNat * 12)).block, (ad210.add ((x21_1).toNat * 12)).off + 3, none⟩ = some (.string ((rd_T31 t204 x21_1).f2.f1)) ∧ w'.cell? ⟨(ad210.add ((x21_1).toNat * 12)).block, (ad210.add ((x21_1).toNat * 12)).off + 4, none⟩ = some (.string ((rd_T31 t204 x21_1).f2.f2)) ∧ w'.cell? ⟨(ad210.add ((x21_1).toNat * 12)).block, (ad210.add ((x21_1).toNat * 12)).off + 5, none⟩ = some (.int .i64 ((rd_T31 t204 x21_1).f2.f3)) ∧ w'.cell? ⟨(ad210.add ((x21_1).toNat * 12)).block, (ad210.add ((x21_1).toNat * 12)).off + 6, none⟩ = some (.int .i64 ((rd_T31 t204 x21_1).f2.f4)) ∧ w'.cell? ⟨(ad210.add ((x21_1).toNat * 12)).block, (ad210.add ((x21_1).toNat * 12)).off + 7, none⟩ = some (.int .i64 ((rd_T31 t204 x21_1).f2.f5)) ∧ w'.cell? ⟨(ad210.add ((x21_1).toNat * 12)).block, (ad210.add ((x21_1).toNat * 12)).off + 8, none⟩ = some (.slice A210_8 ((rd_T31 t204 x21_1).f2.f6).length c210_8) ∧ w'.cell? ⟨(ad210.add ((x21_1).toNat * 12)).block, (ad210.add ((x21_1).toNat * 12)).off + 9, none⟩ = some (.int .u32 ((rd_T31 t204 x21_1).f3)) ∧ w'.cell? ⟨(ad210.add ((x21_1).toNat * 12)).block, (ad210.add ((x21_1).toNat * 12)).off + 10, none⟩ = some (.int .u32 ((rd_T31 t204 x21_1).f4)) ∧ w'.cell? ⟨(ad210.add ((x21_1).toNat * 12)).block, (ad210.add ((x21_1).toNat * 12)).off + 11, none⟩ = some (.int .u8 ((rd_T31 t204 x21_1).f5)) ∧ w'.cell? (ad211.add ((x21_1).toNat * 12)) = some (.int .u8 ((rd_T31 t207 x21_1).f0)) ∧ w'.cell? ⟨(ad211.add ((x21_1).toNat * 12)).block, (ad211.add ((x21_1).toNat * 12)).off + 1, none⟩ = some (.int .i64 ((rd_T31 t207 x21_1).f1)) ∧ w'.cell? ⟨(ad211.add ((x21_1).toNat * 12)).block, (ad211.add ((x21_1).toNat * 12)).off + 2, none⟩ = some (.int .u8 ((rd_T31 t207 x21_1).f2.f0)) ∧ w'.cell? ⟨(ad211.add ((x21_1).toNat * 12)).block, (ad211.add ((x21_1).toNat * 12)).off + 3, none⟩ = some (.string ((rd_T31 t207 x21_1).f2.f1)) ∧ w'.cell? ⟨(ad211.add ((x21_1).toNat * 12)).block, (ad211.add ((x21_1).toNat * 12)).off + 4, none⟩ = some (.string ((rd_T31 t207 x21_1).f2.f2)) ∧ w'.cell? ⟨(ad211.add ((x21_1).toNat * 12)).block, (ad211.add ((x21_1).toNat * 12)).off + 5, none⟩ = some (.int .i64 ((rd_T31 t207 x21_1).f2.f3)) ∧ w'.cell? ⟨(ad211.add ((x21_1).toNat * 12)).block, (ad211.add ((x21_1).toNat * 12)).off + 6, none⟩ = some (.int .i64 ((rd_T31 t207 x21_1).f2.f4)) ∧ w'.cell? ⟨(ad211.add ((x21_1).toNat * 12)).block, (ad211.add ((x21_1).toNat * 12)).off + 7, none⟩ = some (.int .i64 ((rd_T31 t207 x21_1).f2.f5)) ∧ w'.cell? ⟨(ad211.add ((x21_1).toNat * 12)).block, (ad211.add ((x21_1).toNat * 12)).off + 8, none⟩ = some (.slice A211_8 ((rd_T31 t207 x21_1).f2.f6).length c211_8) ∧ w'.cell? ⟨(ad211.add ((x21_1).toNat * 12)).block, (ad211.add ((x21_1).toNat * 12)).off + 9, none⟩ = some (.int .u32 ((rd_T31 t207 x21_1).f3)) ∧ w'.cell? ⟨(ad211.add ((x21_1).toNat * 12)).block, (ad211.add ((x21_1).toNat * 12)).off + 10, none⟩ = some (.int .u32 ((rd_T31 t207 x21_1).f4)) ∧ w'.cell? ⟨(ad211.add ((x21_1).toNat * 12)).block, (ad211.add ((x21_1).toNat * 12)).off + 11, none⟩ = some (.int .u8 ((rd_T31 t207 x21_1).f5))) (ds := []) #[false, false, false, false, false, false, false, false, false, false] (by kernel_rfl) rfl rfl ⟨hx210_0, hx210_1, hx210_2, hx210_3, hx210_4, hx210_5, hx210_6, hx210_7, hx210_8, hx210_9, hx210_10, hx210_11, hx211_0, hx211_1, hx211_2, hx211_3, hx211_4, hx211_5, hx211_6, hx211_7, hx211_8, hx211_9, hx211_10, hx211_11⟩ (fun hHeld => ?_); refine with_tabW flintlaw25_ScriptActs.tab9 flintlaw25_ScriptActs.bits9 (fun HT_ HW_ => ?_)
                    generalize wr.drew = w17 at HO_3 HO_4 HB HL210_8 HL211_8 HR210_8 HR211_8 hx210_0 hx210_1 hx210_10 hx210_11 hx210_2 hx210_3 hx210_4 hx210_5 hx210_6 hx210_7 hx210_8 hx210_9 hx211_0 hx211_1 hx211_10 hx211_11 hx211_2 hx211_3 hx211_4 hx211_5 hx211_6 hx211_7 hx211_8 hx211_9 hHeld ⊢
                    refine pure_ (i := 0) (N := some 24) (v := ?_) (a' := ?_) #[true, false, false, false, false, false, false, false, false, false] rfl rfl (any_of HT_.out (by kernel_rfl)) (fun _ _ _ h => h) (Or.inl ⟨by rfl, ?_⟩) ?_ ?_
                    rotate_left
                    · intro w'
                      go_simp
                      with_reducible rfl
                    rotate_left
                    · simp only [Act.put, List.setIfInBounds_toArray, List.set_cons_zero, List.set_cons_succ, i64_w, i32_w]
                      rfl
                    refine pure_ (i := 1) (N := some 25) (v := ?_) (a' := ?_) #[true, true, false, false, false, false, false, false, false, false] rfl rfl (any_of HT_.out (by kernel_rfl)) (fun _ _ _ h => h) (Or.inl ⟨by rfl, ?_⟩) ?_ ?_
                    rotate_left
                    · intro w'
                      go_simp
                      with_reducible rfl
                    rotate_left
                    · simp only [Act.put, List.setIfInBounds_toArray, List.set_cons_zero, List.set_cons_succ, i64_w, i32_w]
                      rfl
                    refine pure_ (i := 2) (N := some 26) (v := ?_) (a' := ?_) #[true, true, true, false, false, false, false, false, false, false] rfl rfl (any_of HT_.out (by kernel_rfl)) (fun _ _ _ h => h) (Or.inl ⟨by rfl, ?_⟩) ?_ ?_
                    rotate_left
                    · intro w'
                      go_simp
                      with_reducible rfl
                    rotate_left
                    · simp only [Act.put, List.setIfInBounds_toArray, List.set_cons_zero, List.set_cons_succ, i64_w, i32_w]
                      rfl
                    refine pure_ (i := 4) (N := some 28) (v := ?_) (a' := ?_) #[true, true, true, false, true, false, false, false, false, false] rfl rfl (any_of HT_.out (by kernel_rfl)) (fun _ _ _ h => h) (Or.inl ⟨by rfl, ?_⟩) ?_ ?_
                    rotate_left
                    · intro w'
                      go_simp
                      with_reducible rfl
                    rotate_left
                    · simp only [Act.put, List.setIfInBounds_toArray, List.set_cons_zero, List.set_cons_succ, i64_w, i32_w]
                      rfl
                    refine pure_ (i := 5) (N := some 29) (v := ?_) (a' := ?_) #[true, true, true, false, true, true, false, false, false, false] rfl rfl (any_of HT_.out (by kernel_rfl)) (fun _ _ _ h => h) (Or.inl ⟨by rfl, ?_⟩) ?_ ?_
                    rotate_left
                    · intro w'
                      go_simp
                      with_reducible rfl
                    rotate_left
                    · simp only [Act.put, List.setIfInBounds_toArray, List.set_cons_zero, List.set_cons_succ, i64_w, i32_w]
                      rfl
                    refine pure_ (i := 6) (N := some 30) (v := ?_) (a' := ?_) #[true, true, true, false, true, true, true, false, false, false] rfl rfl (any_of HT_.out (by kernel_rfl)) (fun _ _ _ h => h) (Or.inl ⟨by rfl, ?_⟩) ?_ ?_
                    rotate_left
                    · intro w'
                      go_simp
                      with_reducible rfl
                    rotate_left
                    · simp only [Act.put, List.setIfInBounds_toArray, List.set_cons_zero, List.set_cons_succ, i64_w, i32_w]
                      rfl
                    refine take_ (i := 3) (N := some 27) (v := ?_) (a' := ?_) #[true, true, true, true, true, true, true, false, false, false] rfl rfl (take_ofW HT_.out HW_.out (by kernel_rfl)) (fun _ _ _ h => h) (Or.inl ⟨by rfl, ?_⟩) hHeld ?_ ?_
                    rotate_left
                    · rintro w' ⟨s0, s1, s2, s3, s4, s5, s6, s7, s8, s9, s10, s11, s12, s13, s14, s15, s16, s17, s18, s19, s20, s21, s22, s23⟩
                      go_simp
                      with_reducible rfl
                    rotate_left
                    · simp only [Act.put, List.setIfInBounds_toArray, List.set_cons_zero, List.set_cons_succ, i64_w, i32_w]
                      rfl
                    refine take_ (i := 7) (N := some 31) (v := ?_) (a' := ?_) #[true, true, true, true, true, true, true, true, false, false] rfl rfl (take_ofW HT_.out HW_.out (by kernel_rfl)) (fun _ _ _ h => h) (Or.inl ⟨by rfl, ?_⟩) hHeld ?_ ?_
                    rotate_left
                    · rintro w' ⟨s0, s1, s2, s3, s4, s5, s6, s7, s8, s9, s10, s11, s12, s13, s14, s15, s16, s17, s18, s19, s20, s21, s22, s23⟩
                      go_simp
                      with_reducible rfl
                    rotate_left
                    · simp only [Act.put, List.setIfInBounds_toArray, List.set_cons_zero, List.set_cons_succ, i64_w, i32_w]
                      rfl
                    refine one_ (i := 8) (N := some 32) #[true, true, true, true, true, true, true, true, true, false] rfl rfl (one_of HT_.out (by kernel_rfl)) (by decide) (fun K hK => ?_)
                    refine goes_ Tryd.func8 (by kernel_rfl) rfl #[.agg #[.int .u8 ((rd_T31 t204 x21_1).f0), .int .i64 ((rd_T31 t204 x21_1).f1), .int .u8 ((rd_T31 t204 x21_1).f2.f0), .string ((rd_T31 t204 x21_1).f2.f1), .string ((rd_T31 t204 x21_1).f2.f2), .int .i64 ((rd_T31 t204 x21_1).f2.f3), .int .i64 ((rd_T31 t204 x21_1).f2.f4), .int .i64 ((rd_T31 t204 x21_1).f2.f5), .slice A210_8 ((rd_T31 t204 x21_1).f2.f6).length c210_8, .int .u32 ((rd_T31 t204 x21_1).f3), .int .u32 ((rd_T31 t204 x21_1).f4), .int .u8 ((rd_T31 t204 x21_1).f5)], .agg #[.int .u8 ((rd_T31 t207 x21_1).f0), .int .i64 ((rd_T31 t207 x21_1).f1), .int .u8 ((rd_T31 t207 x21_1).f2.f0), .string ((rd_T31 t207 x21_1).f2.f1), .string ((rd_T31 t207 x21_1).f2.f2), .int .i64 ((rd_T31 t207 x21_1).f2.f3), .int .i64 ((rd_T31 t207 x21_1).f2.f4), .int .i64 ((rd_T31 t207 x21_1).f2.f5), .slice A211_8 ((rd_T31 t207 x21_1).f2.f6).length c211_8, .int .u32 ((rd_T31 t207 x21_1).f3), .int .u32 ((rd_T31 t207 x21_1).f4), .int .u8 ((rd_T31 t207 x21_1).f5)]] (by rfl) rfl rfl (by (try simp only [List.map_toArray, List.map_cons, List.map_nil]); first | done | rfl | (simp only [List.length_drop, List.length_take]; rfl)) ?_
                    with_reducible refine (flintref25_Same.calls ((rd_T31 t204 x21_1).f0) ((rd_T31 t204 x21_1).f1) ((rd_T31 t204 x21_1).f2.f0) ((rd_T31 t204 x21_1).f2.f1) ((rd_T31 t204 x21_1).f2.f2) ((rd_T31 t204 x21_1).f2.f3) ((rd_T31 t204 x21_1).f2.f4) ((rd_T31 t204 x21_1).f2.f5) _ _ ((rd_T31 t204 x21_1).f2.f6) ((rd_T31 t204 x21_1).f3) ((rd_T31 t204 x21_1).f4) ((rd_T31 t204 x21_1).f5) ((rd_T31 t207 x21_1).f0) ((rd_T31 t207 x21_1).f1) ((rd_T31 t207 x21_1).f2.f0) ((rd_T31 t207 x21_1).f2.f1) ((rd_T31 t207 x21_1).f2.f2) ((rd_T31 t207 x21_1).f2.f3) ((rd_T31 t207 x21_1).f2.f4) ((rd_T31 t207 x21_1).f2.f5) _ _ ((rd_T31 t207 x21_1).f2.f6) ((rd_T31 t207 x21_1).f3) ((rd_T31 t207 x21_1).f4) ((rd_T31 t207 x21_1).f5) true _ ?side1 ?side2 ?side3 ?side4 A15.out).mono ?_
                    (case side1 => repeat (first | exact (by repeat (first | (with_reducible exact HR210_8.out) | (with_reducible refine Kd.C_alloc ?_ _) | (with_reducible refine Kd.C_drewN ?_ _) | (with_reducible refine Kd.C_drew ?_) | exact HR210_8.out)) | (with_reducible refine Kd.C_alloc ?_ _) | (with_reducible refine Kd.C_drewN ?_ _) | (with_reducible refine Kd.C_drew ?_)))
                    (case side2 => exact HC210_8.out)
                    (case side3 => repeat (first | exact (by repeat (first | (with_reducible exact HR211_8.out) | (with_reducible refine Kd.C_alloc ?_ _) | (with_reducible refine Kd.C_drewN ?_ _) | (with_reducible refine Kd.C_drew ?_) | exact HR211_8.out)) | (with_reducible refine Kd.C_alloc ?_ _) | (with_reducible refine Kd.C_drewN ?_ _) | (with_reducible refine Kd.C_drew ?_)))
                    (case side4 => exact HC211_8.out)
                    rintro e w18 ⟨rfl, hb⟩
                    have HS0_ := (hb.cell (World.block_lt_of_cell? _ _ (hHeld.1))).trans (hHeld.1)
                    have HS1_ := (hb.cell (World.block_lt_of_cell? _ _ (hHeld.2.1))).trans (hHeld.2.1)
                    have HS2_ := (hb.cell (World.block_lt_of_cell? _ _ (hHeld.2.2.1))).trans (hHeld.2.2.1)
                    have HS3_ := (hb.cell (World.block_lt_of_cell? _ _ (hHeld.2.2.2.1))).trans (hHeld.2.2.2.1)
                    have HS4_ := (hb.cell (World.block_lt_of_cell? _ _ (hHeld.2.2.2.2.1))).trans (hHeld.2.2.2.2.1)
                    have HS5_ := (hb.cell (World.block_lt_of_cell? _ _ (hHeld.2.2.2.2.2.1))).trans (hHeld.2.2.2.2.2.1)
                    have HS6_ := (hb.cell (World.block_lt_of_cell? _ _ (hHeld.2.2.2.2.2.2.1))).trans (hHeld.2.2.2.2.2.2.1)
                    have HS7_ := (hb.cell (World.block_lt_of_cell? _ _ (hHeld.2.2.2.2.2.2.2.1))).trans (hHeld.2.2.2.2.2.2.2.1)
                    have HS8_ := (hb.cell (World.block_lt_of_cell? _ _ (hHeld.2.2.2.2.2.2.2.2.1))).trans (hHeld.2.2.2.2.2.2.2.2.1)
                    have HS9_ := (hb.cell (World.block_lt_of_cell? _ _ (hHeld.2.2.2.2.2.2.2.2.2.1))).trans (hHeld.2.2.2.2.2.2.2.2.2.1)
                    have HS10_ := (hb.cell (World.block_lt_of_cell? _ _ (hHeld.2.2.2.2.2.2.2.2.2.2.1))).trans (hHeld.2.2.2.2.2.2.2.2.2.2.1)
                    have HS11_ := (hb.cell (World.block_lt_of_cell? _ _ (hHeld.2.2.2.2.2.2.2.2.2.2.2.1))).trans (hHeld.2.2.2.2.2.2.2.2.2.2.2.1)
                    have HS12_ := (hb.cell (World.block_lt_of_cell? _ _ (hHeld.2.2.2.2.2.2.2.2.2.2.2.2.1))).trans (hHeld.2.2.2.2.2.2.2.2.2.2.2.2.1)
                    have HS13_ := (hb.cell (World.block_lt_of_cell? _ _ (hHeld.2.2.2.2.2.2.2.2.2.2.2.2.2.1))).trans (hHeld.2.2.2.2.2.2.2.2.2.2.2.2.2.1)
                    have HS14_ := (hb.cell (World.block_lt_of_cell? _ _ (hHeld.2.2.2.2.2.2.2.2.2.2.2.2.2.2.1))).trans (hHeld.2.2.2.2.2.2.2.2.2.2.2.2.2.2.1)
                    have HS15_ := (hb.cell (World.block_lt_of_cell? _ _ (hHeld.2.2.2.2.2.2.2.2.2.2.2.2.2.2.2.1))).trans (hHeld.2.2.2.2.2.2.2.2.2.2.2.2.2.2.2.1)
                    have HS16_ := (hb.cell (World.block_lt_of_cell? _ _ (hHeld.2.2.2.2.2.2.2.2.2.2.2.2.2.2.2.2.1))).trans (hHeld.2.2.2.2.2.2.2.2.2.2.2.2.2.2.2.2.1)
                    have HS17_ := (hb.cell (World.block_lt_of_cell? _ _ (hHeld.2.2.2.2.2.2.2.2.2.2.2.2.2.2.2.2.2.1))).trans (hHeld.2.2.2.2.2.2.2.2.2.2.2.2.2.2.2.2.2.1)
                    have HS18_ := (hb.cell (World.block_lt_of_cell? _ _ (hHeld.2.2.2.2.2.2.2.2.2.2.2.2.2.2.2.2.2.2.1))).trans (hHeld.2.2.2.2.2.2.2.2.2.2.2.2.2.2.2.2.2.2.1)
                    have HS19_ := (hb.cell (World.block_lt_of_cell? _ _ (hHeld.2.2.2.2.2.2.2.2.2.2.2.2.2.2.2.2.2.2.2.1))).trans (hHeld.2.2.2.2.2.2.2.2.2.2.2.2.2.2.2.2.2.2.2.1)
                    have HS20_ := (hb.cell (World.block_lt_of_cell? _ _ (hHeld.2.2.2.2.2.2.2.2.2.2.2.2.2.2.2.2.2.2.2.2.1))).trans (hHeld.2.2.2.2.2.2.2.2.2.2.2.2.2.2.2.2.2.2.2.2.1)
                    have HS21_ := (hb.cell (World.block_lt_of_cell? _ _ (hHeld.2.2.2.2.2.2.2.2.2.2.2.2.2.2.2.2.2.2.2.2.2.1))).trans (hHeld.2.2.2.2.2.2.2.2.2.2.2.2.2.2.2.2.2.2.2.2.2.1)
                    have HS22_ := (hb.cell (World.block_lt_of_cell? _ _ (hHeld.2.2.2.2.2.2.2.2.2.2.2.2.2.2.2.2.2.2.2.2.2.2.1))).trans (hHeld.2.2.2.2.2.2.2.2.2.2.2.2.2.2.2.2.2.2.2.2.2.2.1)
                    have HS23_ := (hb.cell (World.block_lt_of_cell? _ _ (hHeld.2.2.2.2.2.2.2.2.2.2.2.2.2.2.2.2.2.2.2.2.2.2.2))).trans (hHeld.2.2.2.2.2.2.2.2.2.2.2.2.2.2.2.2.2.2.2.2.2.2.2)
                    refine ⟨_, rfl, ?_⟩
                    have n0_ := Aside0.mk (Kd.S_below (by (with_reducible repeat (first | apply Kd.S_alloc | apply Kd.S_drewN | apply Kd.S_drew)); exact HO_3.out) hb)
                    have n1_ := Aside0.mk (Kd.S_below (by (with_reducible repeat (first | apply Kd.S_alloc | apply Kd.S_drewN | apply Kd.S_drew)); exact HO_4.out) hb)
                    have n2_ := Aside0.mk (Kd.R_below (by (with_reducible repeat (first | apply Kd.R_alloc | apply Kd.R_drewN | apply Kd.R_drew)); exact HL210_8.out) hb)
                    have n3_ := Aside0.mk (Kd.R_below (by (with_reducible repeat (first | apply Kd.R_alloc | apply Kd.R_drewN | apply Kd.R_drew)); exact HL211_8.out) hb)
                    have n4_ := Aside0.mk (Kd.C_below (by repeat (first | (with_reducible exact HR210_8.out) | (with_reducible refine Kd.C_alloc ?_ _) | (with_reducible refine Kd.C_drewN ?_ _) | (with_reducible refine Kd.C_drew ?_) | exact HR210_8.out)) hb)
                    have n5_ := Aside0.mk (Kd.C_below (by repeat (first | (with_reducible exact HR211_8.out) | (with_reducible refine Kd.C_alloc ?_ _) | (with_reducible refine Kd.C_drewN ?_ _) | (with_reducible refine Kd.C_drew ?_) | exact HR211_8.out)) hb)
                    have n6_ := Aside0.mk (below_step (by repeat (first | (with_reducible first | exact HB.out | apply below_alloc | apply pw_below_drewN | apply below_drew1) | exact HB.out)) hb)
                    clear HO_3
                    clear HO_4
                    clear HL210_8
                    clear HL211_8
                    clear HR210_8
                    clear HR211_8
                    clear HB
                    have HO_3 := n0_
                    have HO_4 := n1_
                    have HL210_8 := n2_
                    have HL211_8 := n3_
                    have HR210_8 := n4_
                    have HR211_8 := n5_
                    have HB := n6_
                    clear n0_ n1_ n2_ n3_ n4_ n5_ n6_
                    (try clear hb)
                    (try clear hb2)
                    (try clear hk)
                    (try clear hi)
                    refine hK.out _ _ ⟨HS0_, HS1_, HS2_, HS3_, HS4_, HS5_, HS6_, HS7_, HS8_, HS9_, HS10_, HS11_, HS12_, HS13_, HS14_, HS15_, HS16_, HS17_, HS18_, HS19_, HS20_, HS21_, HS22_, HS23_⟩ (fun hHeld => ?_)
                    clear hK K
                    refine norm_ (a' := ?_) ?_ ?_
                    rotate_left
                    · show Act.put _ (some 32) _ = _
                      simp only [Act.put, List.setIfInBounds_toArray, List.set_cons_zero, List.set_cons_succ, i64_w, i32_w]
                      rfl
                    refine pure_ (i := 9) (N := some 33) (v := ?_) (a' := ?_) #[true, true, true, true, true, true, true, true, true, true] rfl rfl (any_of HT_.out (by kernel_rfl)) (fun _ _ _ h => h) (Or.inl ⟨by rfl, ?_⟩) ?_ ?_
                    rotate_left
                    · intro w'
                      go_simp
                      with_reducible rfl
                    rotate_left
                    · simp only [Act.put, List.setIfInBounds_toArray, List.set_cons_zero, List.set_cons_succ, i64_w, i32_w]
                      rfl
                    refine done_ (done_of HT_.out (by kernel_rfl)) ?_
                    try go_wp2
                    go_roundg k1
                    case measure => have := HK1.out; omega
                    case rel => exact ⟨(wrap64 (x21_1 + 1)), (by first | rfl | (simp; done) | (simp [*]; done)), H', ⟨by have := HK1.out; omega⟩, ⟨by (with_reducible repeat (first | apply Kd.S_alloc | apply Kd.S_drewN | apply Kd.S_drew)); exact HO_3.out⟩, ⟨by (with_reducible repeat (first | apply Kd.S_alloc | apply Kd.S_drewN | apply Kd.S_drew)); exact HO_4.out⟩, ⟨by repeat (first | (with_reducible first | exact HB.out | apply below_alloc | apply pw_below_drewN | apply below_drew1) | exact HB.out)⟩⟩
                  · replace c16 := Bool.eq_false_iff.mpr c16
                    subst c16
                    have H1 : (some false) = some r := by rw [if_neg (show ¬ (false = true) by decide)] at H; exact H
                    clear H
                    have H := H1
                    clear H1
                    obtain rfl := Option.some.inj H
                    try go_wp2
                    have n0_ := Aside0.mk (Kd.S_drew HO_3.out)
                    have n1_ := Aside0.mk (Kd.S_drew HO_4.out)
                    have n2_ := Aside0.mk (below_drew1 HB.out)
                    clear HO_3
                    clear HO_4
                    clear HB
                    have HO_3 := n0_
                    have HO_4 := n1_
                    have HB := n2_
                    clear n0_ n1_ n2_
                    have p210 : 0 ≤ (x21_1 : Int) := of_decide_eq_true (by first | (with_reducible assumption) | assumption)
                    have q210 : x21_1 < (t204.length : Int) := of_decide_eq_true (by first | (with_reducible assumption) | assumption)
                    obtain ⟨ad210, A210_8, c210_8, e210, hx210_0, hx210_1, hx210_2, hx210_3, hx210_4, hx210_5, hx210_6, hx210_7, hx210_8, hx210_9, hx210_10, hx210_11, hl210_8, hi210_8⟩ := at_T31 (Kd.S_reads' HO_3.out).2.2 x21_1 p210 q210
                    cases e210
                    obtain ⟨ce210, hce210, hMe210, hcc210⟩ := Kd.S_get HO_3.out z31 x21_1 p210 (by first | exact q210 | exact of_decide_eq_true (by first | (with_reducible assumption) | assumption) | (have e_ := (Kd.S_reads' HO_3.out).1; omega))
                    obtain ⟨ve210_8, rfl, ge210_8⟩ := k31_openM hMe210
                    have hv210_8 := hcc210 8 _ rfl
                    rw [add_field _ _ 8 (by omega)] at hv210_8
                    replace hv210_8 := Option.some.inj (hv210_8.symm.trans hx210_8)
                    rw [hv210_8] at ge210_8
                    have HL210_8 := Aside0.mk (show Kd.R (Kd.int .u8) 5 _ _ _ _ ((rd_T31 t204 x21_1).f2.f6) from ge210_8)
                    clear hv210_8 ge210_8
                    clear hcc210 hce210
                    have HR210_8 := Aside0.mk hi210_8
                    have HC210_8 := Aside0.mk hl210_8
                    clear hi210_8 hl210_8
                    replace p210 := eq_true p210
                    replace q210 := eq_true q210
                    have p211 : 0 ≤ (x21_1 : Int) := of_decide_eq_true (by first | (with_reducible assumption) | assumption)
                    have q211 : x21_1 < (t207.length : Int) := of_decide_eq_true (by first | (with_reducible assumption) | assumption)
                    obtain ⟨ad211, A211_8, c211_8, e211, hx211_0, hx211_1, hx211_2, hx211_3, hx211_4, hx211_5, hx211_6, hx211_7, hx211_8, hx211_9, hx211_10, hx211_11, hl211_8, hi211_8⟩ := at_T31 (Kd.S_reads' HO_4.out).2.2 x21_1 p211 q211
                    cases e211
                    obtain ⟨ce211, hce211, hMe211, hcc211⟩ := Kd.S_get HO_4.out z31 x21_1 p211 (by first | exact q211 | exact of_decide_eq_true (by first | (with_reducible assumption) | assumption) | (have e_ := (Kd.S_reads' HO_4.out).1; omega))
                    obtain ⟨ve211_8, rfl, ge211_8⟩ := k31_openM hMe211
                    have hv211_8 := hcc211 8 _ rfl
                    rw [add_field _ _ 8 (by omega)] at hv211_8
                    replace hv211_8 := Option.some.inj (hv211_8.symm.trans hx211_8)
                    rw [hv211_8] at ge211_8
                    have HL211_8 := Aside0.mk (show Kd.R (Kd.int .u8) 5 _ _ _ _ ((rd_T31 t207 x21_1).f2.f6) from ge211_8)
                    clear hv211_8 ge211_8
                    clear hcc211 hce211
                    have HR211_8 := Aside0.mk hi211_8
                    have HC211_8 := Aside0.mk hl211_8
                    clear hi211_8 hl211_8
                    replace p211 := eq_true p211
                    replace q211 := eq_true q211
                    refine start_ (n := 10) (S := fun w' => w'.cell? (ad210.add ((x21_1).toNat * 12)) = some (.int .u8 ((rd_T31 t204 x21_1).f0)) ∧ w'.cell? ⟨(ad210.add ((x21_1).toNat * 12)).block, (ad210.add ((x21_1).toNat * 12)).off + 1, none⟩ = some (.int .i64 ((rd_T31 t204 x21_1).f1)) ∧ w'.cell? ⟨(ad210.add ((x21_1).toNat * 12)).block, (ad210.add ((x21_1).toNat * 12)).off + 2, none⟩ = some (.int .u8 ((rd_T31 t204 x21_1).f2.f0)) ∧ w'.cell? ⟨(ad210.add ((x21_1).toNat * 12)).block, (ad210.add ((x21_1).toNat * 12)).off + 3, none⟩ = some (.string ((rd_T31 t204 x21_1).f2.f1)) ∧ w'.cell? ⟨(ad210.add ((x21_1).toNat * 12)).block, (ad210.add ((x21_1).toNat * 12)).off + 4, none⟩ = some (.string ((rd_T31 t204 x21_1).f2.f2)) ∧ w'.cell? ⟨(ad210.add ((x21_1).toNat * 12)).block, (ad210.add ((x21_1).toNat * 12)).off + 5, none⟩ = some (.int .i64 ((rd_T31 t204 x21_1).f2.f3)) ∧ w'.cell? ⟨(ad210.add ((x21_1).toNat * 12)).block, (ad210.add ((x21_1).toNat * 12)).off + 6, none⟩ = some (.int .i64 ((rd_T31 t204 x21_1).f2.f4)) ∧ w'.cell? ⟨(ad210.add ((x21_1).toNat * 12)).block, (ad210.add ((x21_1).toNat * 12)).off + 7, none⟩ = some (.int .i64 ((rd_T31 t204 x21_1).f2.f5)) ∧ w'.cell? ⟨(ad210.add ((x21_1).toNat * 12)).block, (ad210.add ((x21_1).toNat * 12)).off + 8, none⟩ = some (.slice A210_8 ((rd_T31 t204 x21_1).f2.f6).length c210_8) ∧ w'.cell? ⟨(ad210.add ((x21_1).toNat * 12)).block, (ad210.add ((x21_1).toNat * 12)).off + 9, none⟩ = some (.int .u32 ((rd_T31 t204 x21_1).f3)) ∧ w'.cell? ⟨(ad210.add ((x21_1).toNat * 12)).block, (ad210.add ((x21_1).toNat * 12)).off + 10, none⟩ = some (.int .u32 ((rd_T31 t204 x21_1).f4)) ∧ w'.cell? ⟨(ad210.add ((x21_1).toNat * 12)).block, (ad210.add ((x21_1).toNat * 12)).off + 11, none⟩ = some (.int .u8 ((rd_T31 t204 x21_1).f5)) ∧ w'.cell? (ad211.add ((x21_1).toNat * 12)) = some (.int .u8 ((rd_T31 t207 x21_1).f0)) ∧ w'.cell? ⟨(ad211.add ((x21_1).toNat * 12)).block, (ad211.add ((x21_1).toNat * 12)).off + 1, none⟩ = some (.int .i64 ((rd_T31 t207 x21_1).f1)) ∧ w'.cell? ⟨(ad211.add ((x21_1).toNat * 12)).block, (ad211.add ((x21_1).toNat * 12)).off + 2, none⟩ = some (.int .u8 ((rd_T31 t207 x21_1).f2.f0)) ∧ w'.cell? ⟨(ad211.add ((x21_1).toNat * 12)).block, (ad211.add ((x21_1).toNat * 12)).off + 3, none⟩ = some (.string ((rd_T31 t207 x21_1).f2.f1)) ∧ w'.cell? ⟨(ad211.add ((x21_1).toNat * 12)).block, (ad211.add ((x21_1).toNat * 12)).off + 4, none⟩ = some (.string ((rd_T31 t207 x21_1).f2.f2)) ∧ w'.cell? ⟨(ad211.add ((x21_1).toNat * 12)).block, (ad211.add ((x21_1).toNat * 12)).off + 5, none⟩ = some (.int .i64 ((rd_T31 t207 x21_1).f2.f3)) ∧ w'.cell? ⟨(ad211.add ((x21_1).toNat * 12)).block, (ad211.add ((x21_1).toNat * 12)).off + 6, none⟩ = some (.int .i64 ((rd_T31 t207 x21_1).f2.f4)) ∧ w'.cell? ⟨(ad211.add ((x21_1).toNat * 12)).block, (ad211.add ((x21_1).toNat * 12)).off + 7, none⟩ = some (.int .i64 ((rd_T31 t207 x21_1).f2.f5)) ∧ w'.cell? ⟨(ad211.add ((x21_1).toNat * 12)).block, (ad211.add ((x21_1).toNat * 12)).off + 8, none⟩ = some (.slice A211_8 ((rd_T31 t207 x21_1).f2.f6).length c211_8) ∧ w'.cell? ⟨(ad211.add ((x21_1).toNat * 12)).block, (ad211.add ((x21_1).toNat * 12)).off + 9, none⟩ = some (.int .u32 ((rd_T31 t207 x21_1).f3)) ∧ w'.cell? ⟨(ad211.add ((x21_1).toNat * 12)).block, (ad211.add ((x21_1).toNat * 12)).off + 10, none⟩ = some (.int .u32 ((rd_T31 t207 x21_1).f4)) ∧ w'.cell? ⟨(ad211.add ((x21_1).toNat * 12)).block, (ad211.add ((x21_1).toNat * 12)).off + 11, none⟩ = some (.int .u8 ((rd_T31 t207 x21_1).f5))) (ds := []) #[false, false, false, false, false, false, false, false, false, false] (by kernel_rfl) rfl rfl ⟨hx210_0, hx210_1, hx210_2, hx210_3, hx210_4, hx210_5, hx210_6, hx210_7, hx210_8, hx210_9, hx210_10, hx210_11, hx211_0, hx211_1, hx211_2, hx211_3, hx211_4, hx211_5, hx211_6, hx211_7, hx211_8, hx211_9, hx211_10, hx211_11⟩ (fun hHeld => ?_); refine with_tabW flintlaw25_ScriptActs.tab9 flintlaw25_ScriptActs.bits9 (fun HT_ HW_ => ?_)
                    generalize wr.drew = w19 at HO_3 HO_4 HB HL210_8 HL211_8 HR210_8 HR211_8 hx210_0 hx210_1 hx210_10 hx210_11 hx210_2 hx210_3 hx210_4 hx210_5 hx210_6 hx210_7 hx210_8 hx210_9 hx211_0 hx211_1 hx211_10 hx211_11 hx211_2 hx211_3 hx211_4 hx211_5 hx211_6 hx211_7 hx211_8 hx211_9 hHeld ⊢
                    refine pure_ (i := 0) (N := some 24) (v := ?_) (a' := ?_) #[true, false, false, false, false, false, false, false, false, false] rfl rfl (any_of HT_.out (by kernel_rfl)) (fun _ _ _ h => h) (Or.inl ⟨by rfl, ?_⟩) ?_ ?_
                    rotate_left
                    · intro w'
                      go_simp
                      with_reducible rfl
                    rotate_left
                    · simp only [Act.put, List.setIfInBounds_toArray, List.set_cons_zero, List.set_cons_succ, i64_w, i32_w]
                      rfl
                    refine pure_ (i := 1) (N := some 25) (v := ?_) (a' := ?_) #[true, true, false, false, false, false, false, false, false, false] rfl rfl (any_of HT_.out (by kernel_rfl)) (fun _ _ _ h => h) (Or.inl ⟨by rfl, ?_⟩) ?_ ?_
                    rotate_left
                    · intro w'
                      go_simp
                      with_reducible rfl
                    rotate_left
                    · simp only [Act.put, List.setIfInBounds_toArray, List.set_cons_zero, List.set_cons_succ, i64_w, i32_w]
                      rfl
                    refine pure_ (i := 2) (N := some 26) (v := ?_) (a' := ?_) #[true, true, true, false, false, false, false, false, false, false] rfl rfl (any_of HT_.out (by kernel_rfl)) (fun _ _ _ h => h) (Or.inl ⟨by rfl, ?_⟩) ?_ ?_
                    rotate_left
                    · intro w'
                      go_simp
                      with_reducible rfl
                    rotate_left
                    · simp only [Act.put, List.setIfInBounds_toArray, List.set_cons_zero, List.set_cons_succ, i64_w, i32_w]
                      rfl
                    refine pure_ (i := 4) (N := some 28) (v := ?_) (a' := ?_) #[true, true, true, false, true, false, false, false, false, false] rfl rfl (any_of HT_.out (by kernel_rfl)) (fun _ _ _ h => h) (Or.inl ⟨by rfl, ?_⟩) ?_ ?_
                    rotate_left
                    · intro w'
                      go_simp
                      with_reducible rfl
                    rotate_left
                    · simp only [Act.put, List.setIfInBounds_toArray, List.set_cons_zero, List.set_cons_succ, i64_w, i32_w]
                      rfl
                    refine pure_ (i := 5) (N := some 29) (v := ?_) (a' := ?_) #[true, true, true, false, true, true, false, false, false, false] rfl rfl (any_of HT_.out (by kernel_rfl)) (fun _ _ _ h => h) (Or.inl ⟨by rfl, ?_⟩) ?_ ?_
                    rotate_left
                    · intro w'
                      go_simp
                      with_reducible rfl
                    rotate_left
                    · simp only [Act.put, List.setIfInBounds_toArray, List.set_cons_zero, List.set_cons_succ, i64_w, i32_w]
                      rfl
                    refine pure_ (i := 6) (N := some 30) (v := ?_) (a' := ?_) #[true, true, true, false, true, true, true, false, false, false] rfl rfl (any_of HT_.out (by kernel_rfl)) (fun _ _ _ h => h) (Or.inl ⟨by rfl, ?_⟩) ?_ ?_
                    rotate_left
                    · intro w'
                      go_simp
                      with_reducible rfl
                    rotate_left
                    · simp only [Act.put, List.setIfInBounds_toArray, List.set_cons_zero, List.set_cons_succ, i64_w, i32_w]
                      rfl
                    refine take_ (i := 3) (N := some 27) (v := ?_) (a' := ?_) #[true, true, true, true, true, true, true, false, false, false] rfl rfl (take_ofW HT_.out HW_.out (by kernel_rfl)) (fun _ _ _ h => h) (Or.inl ⟨by rfl, ?_⟩) hHeld ?_ ?_
                    rotate_left
                    · rintro w' ⟨s0, s1, s2, s3, s4, s5, s6, s7, s8, s9, s10, s11, s12, s13, s14, s15, s16, s17, s18, s19, s20, s21, s22, s23⟩
                      go_simp
                      with_reducible rfl
                    rotate_left
                    · simp only [Act.put, List.setIfInBounds_toArray, List.set_cons_zero, List.set_cons_succ, i64_w, i32_w]
                      rfl
                    refine take_ (i := 7) (N := some 31) (v := ?_) (a' := ?_) #[true, true, true, true, true, true, true, true, false, false] rfl rfl (take_ofW HT_.out HW_.out (by kernel_rfl)) (fun _ _ _ h => h) (Or.inl ⟨by rfl, ?_⟩) hHeld ?_ ?_
                    rotate_left
                    · rintro w' ⟨s0, s1, s2, s3, s4, s5, s6, s7, s8, s9, s10, s11, s12, s13, s14, s15, s16, s17, s18, s19, s20, s21, s22, s23⟩
                      go_simp
                      with_reducible rfl
                    rotate_left
                    · simp only [Act.put, List.setIfInBounds_toArray, List.set_cons_zero, List.set_cons_succ, i64_w, i32_w]
                      rfl
                    refine one_ (i := 8) (N := some 32) #[true, true, true, true, true, true, true, true, true, false] rfl rfl (one_of HT_.out (by kernel_rfl)) (by decide) (fun K hK => ?_)
                    refine goes_ Tryd.func8 (by kernel_rfl) rfl #[.agg #[.int .u8 ((rd_T31 t204 x21_1).f0), .int .i64 ((rd_T31 t204 x21_1).f1), .int .u8 ((rd_T31 t204 x21_1).f2.f0), .string ((rd_T31 t204 x21_1).f2.f1), .string ((rd_T31 t204 x21_1).f2.f2), .int .i64 ((rd_T31 t204 x21_1).f2.f3), .int .i64 ((rd_T31 t204 x21_1).f2.f4), .int .i64 ((rd_T31 t204 x21_1).f2.f5), .slice A210_8 ((rd_T31 t204 x21_1).f2.f6).length c210_8, .int .u32 ((rd_T31 t204 x21_1).f3), .int .u32 ((rd_T31 t204 x21_1).f4), .int .u8 ((rd_T31 t204 x21_1).f5)], .agg #[.int .u8 ((rd_T31 t207 x21_1).f0), .int .i64 ((rd_T31 t207 x21_1).f1), .int .u8 ((rd_T31 t207 x21_1).f2.f0), .string ((rd_T31 t207 x21_1).f2.f1), .string ((rd_T31 t207 x21_1).f2.f2), .int .i64 ((rd_T31 t207 x21_1).f2.f3), .int .i64 ((rd_T31 t207 x21_1).f2.f4), .int .i64 ((rd_T31 t207 x21_1).f2.f5), .slice A211_8 ((rd_T31 t207 x21_1).f2.f6).length c211_8, .int .u32 ((rd_T31 t207 x21_1).f3), .int .u32 ((rd_T31 t207 x21_1).f4), .int .u8 ((rd_T31 t207 x21_1).f5)]] (by rfl) rfl rfl (by (try simp only [List.map_toArray, List.map_cons, List.map_nil]); first | done | rfl | (simp only [List.length_drop, List.length_take]; rfl)) ?_
                    with_reducible refine (flintref25_Same.calls ((rd_T31 t204 x21_1).f0) ((rd_T31 t204 x21_1).f1) ((rd_T31 t204 x21_1).f2.f0) ((rd_T31 t204 x21_1).f2.f1) ((rd_T31 t204 x21_1).f2.f2) ((rd_T31 t204 x21_1).f2.f3) ((rd_T31 t204 x21_1).f2.f4) ((rd_T31 t204 x21_1).f2.f5) _ _ ((rd_T31 t204 x21_1).f2.f6) ((rd_T31 t204 x21_1).f3) ((rd_T31 t204 x21_1).f4) ((rd_T31 t204 x21_1).f5) ((rd_T31 t207 x21_1).f0) ((rd_T31 t207 x21_1).f1) ((rd_T31 t207 x21_1).f2.f0) ((rd_T31 t207 x21_1).f2.f1) ((rd_T31 t207 x21_1).f2.f2) ((rd_T31 t207 x21_1).f2.f3) ((rd_T31 t207 x21_1).f2.f4) ((rd_T31 t207 x21_1).f2.f5) _ _ ((rd_T31 t207 x21_1).f2.f6) ((rd_T31 t207 x21_1).f3) ((rd_T31 t207 x21_1).f4) ((rd_T31 t207 x21_1).f5) false _ ?side1 ?side2 ?side3 ?side4 A15.out).mono ?_
                    (case side1 => repeat (first | exact (by repeat (first | (with_reducible exact HR210_8.out) | (with_reducible refine Kd.C_alloc ?_ _) | (with_reducible refine Kd.C_drewN ?_ _) | (with_reducible refine Kd.C_drew ?_) | exact HR210_8.out)) | (with_reducible refine Kd.C_alloc ?_ _) | (with_reducible refine Kd.C_drewN ?_ _) | (with_reducible refine Kd.C_drew ?_)))
                    (case side2 => exact HC210_8.out)
                    (case side3 => repeat (first | exact (by repeat (first | (with_reducible exact HR211_8.out) | (with_reducible refine Kd.C_alloc ?_ _) | (with_reducible refine Kd.C_drewN ?_ _) | (with_reducible refine Kd.C_drew ?_) | exact HR211_8.out)) | (with_reducible refine Kd.C_alloc ?_ _) | (with_reducible refine Kd.C_drewN ?_ _) | (with_reducible refine Kd.C_drew ?_)))
                    (case side4 => exact HC211_8.out)
                    rintro e w20 ⟨rfl, hb⟩
                    have HS0_ := (hb.cell (World.block_lt_of_cell? _ _ (hHeld.1))).trans (hHeld.1)
                    have HS1_ := (hb.cell (World.block_lt_of_cell? _ _ (hHeld.2.1))).trans (hHeld.2.1)
                    have HS2_ := (hb.cell (World.block_lt_of_cell? _ _ (hHeld.2.2.1))).trans (hHeld.2.2.1)
                    have HS3_ := (hb.cell (World.block_lt_of_cell? _ _ (hHeld.2.2.2.1))).trans (hHeld.2.2.2.1)
                    have HS4_ := (hb.cell (World.block_lt_of_cell? _ _ (hHeld.2.2.2.2.1))).trans (hHeld.2.2.2.2.1)
                    have HS5_ := (hb.cell (World.block_lt_of_cell? _ _ (hHeld.2.2.2.2.2.1))).trans (hHeld.2.2.2.2.2.1)
                    have HS6_ := (hb.cell (World.block_lt_of_cell? _ _ (hHeld.2.2.2.2.2.2.1))).trans (hHeld.2.2.2.2.2.2.1)
                    have HS7_ := (hb.cell (World.block_lt_of_cell? _ _ (hHeld.2.2.2.2.2.2.2.1))).trans (hHeld.2.2.2.2.2.2.2.1)
                    have HS8_ := (hb.cell (World.block_lt_of_cell? _ _ (hHeld.2.2.2.2.2.2.2.2.1))).trans (hHeld.2.2.2.2.2.2.2.2.1)
                    have HS9_ := (hb.cell (World.block_lt_of_cell? _ _ (hHeld.2.2.2.2.2.2.2.2.2.1))).trans (hHeld.2.2.2.2.2.2.2.2.2.1)
                    have HS10_ := (hb.cell (World.block_lt_of_cell? _ _ (hHeld.2.2.2.2.2.2.2.2.2.2.1))).trans (hHeld.2.2.2.2.2.2.2.2.2.2.1)
                    have HS11_ := (hb.cell (World.block_lt_of_cell? _ _ (hHeld.2.2.2.2.2.2.2.2.2.2.2.1))).trans (hHeld.2.2.2.2.2.2.2.2.2.2.2.1)
                    have HS12_ := (hb.cell (World.block_lt_of_cell? _ _ (hHeld.2.2.2.2.2.2.2.2.2.2.2.2.1))).trans (hHeld.2.2.2.2.2.2.2.2.2.2.2.2.1)
                    have HS13_ := (hb.cell (World.block_lt_of_cell? _ _ (hHeld.2.2.2.2.2.2.2.2.2.2.2.2.2.1))).trans (hHeld.2.2.2.2.2.2.2.2.2.2.2.2.2.1)
                    have HS14_ := (hb.cell (World.block_lt_of_cell? _ _ (hHeld.2.2.2.2.2.2.2.2.2.2.2.2.2.2.1))).trans (hHeld.2.2.2.2.2.2.2.2.2.2.2.2.2.2.1)
                    have HS15_ := (hb.cell (World.block_lt_of_cell? _ _ (hHeld.2.2.2.2.2.2.2.2.2.2.2.2.2.2.2.1))).trans (hHeld.2.2.2.2.2.2.2.2.2.2.2.2.2.2.2.1)
                    have HS16_ := (hb.cell (World.block_lt_of_cell? _ _ (hHeld.2.2.2.2.2.2.2.2.2.2.2.2.2.2.2.2.1))).trans (hHeld.2.2.2.2.2.2.2.2.2.2.2.2.2.2.2.2.1)
                    have HS17_ := (hb.cell (World.block_lt_of_cell? _ _ (hHeld.2.2.2.2.2.2.2.2.2.2.2.2.2.2.2.2.2.1))).trans (hHeld.2.2.2.2.2.2.2.2.2.2.2.2.2.2.2.2.2.1)
                    have HS18_ := (hb.cell (World.block_lt_of_cell? _ _ (hHeld.2.2.2.2.2.2.2.2.2.2.2.2.2.2.2.2.2.2.1))).trans (hHeld.2.2.2.2.2.2.2.2.2.2.2.2.2.2.2.2.2.2.1)
                    have HS19_ := (hb.cell (World.block_lt_of_cell? _ _ (hHeld.2.2.2.2.2.2.2.2.2.2.2.2.2.2.2.2.2.2.2.1))).trans (hHeld.2.2.2.2.2.2.2.2.2.2.2.2.2.2.2.2.2.2.2.1)
                    have HS20_ := (hb.cell (World.block_lt_of_cell? _ _ (hHeld.2.2.2.2.2.2.2.2.2.2.2.2.2.2.2.2.2.2.2.2.1))).trans (hHeld.2.2.2.2.2.2.2.2.2.2.2.2.2.2.2.2.2.2.2.2.1)
                    have HS21_ := (hb.cell (World.block_lt_of_cell? _ _ (hHeld.2.2.2.2.2.2.2.2.2.2.2.2.2.2.2.2.2.2.2.2.2.1))).trans (hHeld.2.2.2.2.2.2.2.2.2.2.2.2.2.2.2.2.2.2.2.2.2.1)
                    have HS22_ := (hb.cell (World.block_lt_of_cell? _ _ (hHeld.2.2.2.2.2.2.2.2.2.2.2.2.2.2.2.2.2.2.2.2.2.2.1))).trans (hHeld.2.2.2.2.2.2.2.2.2.2.2.2.2.2.2.2.2.2.2.2.2.2.1)
                    have HS23_ := (hb.cell (World.block_lt_of_cell? _ _ (hHeld.2.2.2.2.2.2.2.2.2.2.2.2.2.2.2.2.2.2.2.2.2.2.2))).trans (hHeld.2.2.2.2.2.2.2.2.2.2.2.2.2.2.2.2.2.2.2.2.2.2.2)
                    refine ⟨_, rfl, ?_⟩
                    have n0_ := Aside0.mk (Kd.S_below (by (with_reducible repeat (first | apply Kd.S_alloc | apply Kd.S_drewN | apply Kd.S_drew)); exact HO_3.out) hb)
                    have n1_ := Aside0.mk (Kd.S_below (by (with_reducible repeat (first | apply Kd.S_alloc | apply Kd.S_drewN | apply Kd.S_drew)); exact HO_4.out) hb)
                    have n2_ := Aside0.mk (Kd.R_below (by (with_reducible repeat (first | apply Kd.R_alloc | apply Kd.R_drewN | apply Kd.R_drew)); exact HL210_8.out) hb)
                    have n3_ := Aside0.mk (Kd.R_below (by (with_reducible repeat (first | apply Kd.R_alloc | apply Kd.R_drewN | apply Kd.R_drew)); exact HL211_8.out) hb)
                    have n4_ := Aside0.mk (Kd.C_below (by repeat (first | (with_reducible exact HR210_8.out) | (with_reducible refine Kd.C_alloc ?_ _) | (with_reducible refine Kd.C_drewN ?_ _) | (with_reducible refine Kd.C_drew ?_) | exact HR210_8.out)) hb)
                    have n5_ := Aside0.mk (Kd.C_below (by repeat (first | (with_reducible exact HR211_8.out) | (with_reducible refine Kd.C_alloc ?_ _) | (with_reducible refine Kd.C_drewN ?_ _) | (with_reducible refine Kd.C_drew ?_) | exact HR211_8.out)) hb)
                    have n6_ := Aside0.mk (below_step (by repeat (first | (with_reducible first | exact HB.out | apply below_alloc | apply pw_below_drewN | apply below_drew1) | exact HB.out)) hb)
                    clear HO_3
                    clear HO_4
                    clear HL210_8
                    clear HL211_8
                    clear HR210_8
                    clear HR211_8
                    clear HB
                    have HO_3 := n0_
                    have HO_4 := n1_
                    have HL210_8 := n2_
                    have HL211_8 := n3_
                    have HR210_8 := n4_
                    have HR211_8 := n5_
                    have HB := n6_
                    clear n0_ n1_ n2_ n3_ n4_ n5_ n6_
                    (try clear hb)
                    (try clear hb2)
                    (try clear hk)
                    (try clear hi)
                    refine hK.out _ _ ⟨HS0_, HS1_, HS2_, HS3_, HS4_, HS5_, HS6_, HS7_, HS8_, HS9_, HS10_, HS11_, HS12_, HS13_, HS14_, HS15_, HS16_, HS17_, HS18_, HS19_, HS20_, HS21_, HS22_, HS23_⟩ (fun hHeld => ?_)
                    clear hK K
                    refine norm_ (a' := ?_) ?_ ?_
                    rotate_left
                    · show Act.put _ (some 32) _ = _
                      simp only [Act.put, List.setIfInBounds_toArray, List.set_cons_zero, List.set_cons_succ, i64_w, i32_w]
                      rfl
                    refine pure_ (i := 9) (N := some 33) (v := ?_) (a' := ?_) #[true, true, true, true, true, true, true, true, true, true] rfl rfl (any_of HT_.out (by kernel_rfl)) (fun _ _ _ h => h) (Or.inl ⟨by rfl, ?_⟩) ?_ ?_
                    rotate_left
                    · intro w'
                      go_simp
                      with_reducible rfl
                    rotate_left
                    · simp only [Act.put, List.setIfInBounds_toArray, List.set_cons_zero, List.set_cons_succ, i64_w, i32_w]
                      rfl
                    refine done_ (done_of HT_.out (by kernel_rfl)) ?_
                    try go_wp2
                    go_ret
                    exact ⟨by first | rfl | (simp [errW_none, errW_some] <;> rfl) | (simp [*, errW_none, errW_some] <;> rfl), by repeat (first | (with_reducible first | exact HB.out | apply below_alloc | apply pw_below_drewN | apply below_drew1) | exact HB.out)⟩
                · rw [if_neg c14] at H
                  exact absurd H (by simp)
              · rw [if_neg c13] at H
                exact absurd H (by simp)
            · rw [if_neg c12] at H
              exact absurd H (by simp)
          · rw [if_neg c11] at H
            have c11b0 : decide (x21_1 < (t204.length : Int)) = false := decide_eq_false c11
            clear c11
            replace H := Option.bind_eq_some_iff.mp H
            obtain ⟨t213, A210, H⟩ := H
            replace H : (some t213) = some r := H
            have A21 := Aside0.mk A210
            clear A210
            obtain rfl := Option.some.inj H
            go_wp2_with (first | ((with_reducible refine gate_callee (f := 5) rfl ?_); refine goesL_ (some 35) rfl rfl Tryd.func5 (by kernel_rfl) rfl #[] rfl (by (try simp only [List.map_toArray, List.map_cons, List.map_nil]); first | done | rfl | (simp only [List.length_drop, List.length_take]; rfl)) ?_; (with_reducible refine (flintlaw25_fixed.calls  t213 _ A21.out).mono ?_); rintro e w' ⟨rfl, ⟨nd, rfl⟩⟩; refine ⟨_, rfl, ?_⟩))
            go_ret
            exact ⟨by first | rfl | (simp [errW_none, errW_some] <;> rfl) | (simp [*, errW_none, errW_some] <;> rfl), by repeat (first | (with_reducible first | exact HB.out | apply below_alloc | apply pw_below_drewN | apply below_drew1) | exact HB.out)⟩
    · rw [if_neg c6] at H
      have c6b0 : ((t204.length : Int) == (t207.length : Int)) = false := beq_eq_false_iff_ne.mpr c6
      have c6b1 : ((t204.length : Int) != (t207.length : Int)) = true := bne_iff_ne.mpr c6
      have c6b2 : (t204.length == t207.length) = false := by first | simpa using c6 | (simp at c6 ⊢; omega)
      obtain rfl := Option.some.inj H
      go_enter Tryd.func3, Tryd.ntmps3
      go_wp2_with (first | ((with_reducible refine gate_callee (f := 6) rfl ?_); refine goesL_ (some 11) rfl rfl Tryd.func6 (by kernel_rfl) rfl #[.slice A0 l0.length c0] rfl (by (try simp only [List.map_toArray, List.map_cons, List.map_nil]); first | done | rfl | (simp only [List.length_drop, List.length_take]; rfl)) ?_; (with_reducible refine (script_Acts.calls k _ _ l0 t204 _ ?side1 ?side2 A4.out (Tabs.below HT.out (by repeat (first | (with_reducible first | exact HB.out | apply below_alloc | apply pw_below_drewN | apply below_drew1) | exact HB.out)))).mono ?_); (case side1 => repeat (first | exact HR0.out | (with_reducible refine Kd.C_alloc ?_ _) | (with_reducible refine Kd.C_drewN ?_ _) | (with_reducible refine Kd.C_drew ?_))); (case side2 => exact HC0.out); rintro e w22 ⟨v205, rfl, ho0, hb⟩; refine ⟨_, rfl, ?_⟩; have n0_ := Aside0.mk (Kd.S_lower ho0 (below_size (by repeat (first | (with_reducible first | exact HB.out | apply below_alloc | apply pw_below_drewN | apply below_drew1) | exact HB.out)))); have n1_ := Aside0.mk (below_step (by repeat (first | (with_reducible first | exact HB.out | apply below_alloc | apply pw_below_drewN | apply below_drew1) | exact HB.out)) hb); clear HB; have HO206 := n0_; have HB := n1_; clear n0_ n1_; (try clear hb); (try clear hb2); (try clear hk); (try clear hi); (try clear ho0)) | ((with_reducible refine gate_callee (f := 7) rfl ?_); refine goesL_ (some 13) rfl rfl Tryd.func7 (by kernel_rfl) rfl #[.slice A0 l0.length c0] rfl (by (try simp only [List.map_toArray, List.map_cons, List.map_nil]); first | done | rfl | (simp only [List.length_drop, List.length_take]; rfl)) ?_; (with_reducible refine (flintref25_Acts.calls k _ _ l0 t207 _ ?side1 ?side2 A5.out).mono ?_); (case side1 => repeat (first | exact (Kd.C_below HR0.out HB.out) | (with_reducible refine Kd.C_alloc ?_ _) | (with_reducible refine Kd.C_drewN ?_ _) | (with_reducible refine Kd.C_drew ?_))); (case side2 => exact HC0.out); rintro e w23 ⟨v208, rfl, ho0, hb⟩; refine ⟨_, rfl, ?_⟩; have n0_ := Aside0.mk (Kd.S_elder' (by (with_reducible repeat (first | apply Kd.S_alloc | apply Kd.S_drewN | apply Kd.S_drew)); exact HO206.out) (Kd.S_base ho0) hb); have n1_ := Aside0.mk (Kd.S_lower (Kd.S_new' ho0 (Kd.S_lt (by (with_reducible repeat (first | apply Kd.S_alloc | apply Kd.S_drewN | apply Kd.S_drew)); exact HO206.out))) (below_size (by repeat (first | (with_reducible first | exact HB.out | apply below_alloc | apply pw_below_drewN | apply below_drew1) | exact HB.out)))); have n2_ := Aside0.mk (below_step (by repeat (first | (with_reducible first | exact HB.out | apply below_alloc | apply pw_below_drewN | apply below_drew1) | exact HB.out)) hb); clear HO206; clear HB; have HO206 := n0_; have HO209 := n1_; have HB := n2_; clear n0_ n1_ n2_; (try clear hb); (try clear hb2); (try clear hk); (try clear hi); (try clear ho0); obtain ⟨Ao24, co24, eo24⟩ := Kd.S_slice HO206.out; subst eo24; obtain ⟨Ao25, co25, eo25⟩ := Kd.S_slice HO209.out; subst eo25))
      go_ret
      exact ⟨by first | rfl | (simp [errW_none, errW_some] <;> rfl) | (simp [*, errW_none, errW_some] <;> rfl), by repeat (first | (with_reducible first | exact HB.out | apply below_alloc | apply pw_below_drewN | apply below_drew1) | exact HB.out)⟩

/-- THE ONE PURE STATEMENT of flintlaw25_ScriptActs: yours. -/
def flintlaw25_ScriptActs.Pure : Prop := ∀ (l0 : List Int), l0.length ≤ maxLen → l0.length * 1 ≤ 140737488351232 → (∀ x ∈ l0, (Lit.int .u8 x).wf = true) → ∃ k, flintlaw25_ScriptActs.f k l0 = some true
theorem flintlaw25_ScriptActs.walk (P : flintlaw25_ScriptActs.Pure) (a0 : Option Addr) (len0 cap0 : Nat) (z0 : List Int) (w : World) (w0 : (a0 = none ∧ len0 = 0 ∧ cap0 = 0 ∧ z0 = []) ∨ ∃ x, a0 = some x ∧ len0 ≤ cap0 ∧ cap0 ≤ maxLen ∧ z0.length = cap0 ∧ (∀ i, i < z0.length → w.cell? (x.add i) = some (.int .u8 (z0.getD i 0))) ∧ ∀ n ∈ z0, (Lit.int .u8 n).wf = true) (y0 : len0 * 1 ≤ 140737488351232) (hT0 : Tabs w) :
    Calls Tryd.prog 3 #[.slice a0 len0 cap0] w fun e w' => e = .returned (.bool true) ∧ Below w.heap.size w w' := by
  obtain ⟨l0, rfl, hr0, hm0, hw0, hc0⟩ := ReadsInt.ofRowC w0
  obtain ⟨k, h⟩ := P l0 hm0 y0 hw0
  refine (flintlaw25_ScriptActs.calls k _ _ l0 true w (Kd.C_of_reads (d := (0 : Int)) (h1 := fun _ => rfl) hr0) hc0 h hT0).mono ?_
  rintro e w' ⟨rfl, hd⟩
  exact ⟨rfl, hd⟩

end Go.Proofs.YtdpnhjhbdobhjaaDoor.G
