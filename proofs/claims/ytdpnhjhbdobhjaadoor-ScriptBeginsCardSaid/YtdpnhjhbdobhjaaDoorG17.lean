-- Written by wip/gen.py: the kit's print.py, with this session's own texts where it takes a function not. Not trusted: Lean checks it.
import Derived.Test.YtdpnhjhbdobhjaaDoorG0
import Derived.Test.YtdpnhjhbdobhjaaDoorG4
import Derived.Test.YtdpnhjhbdobhjaaDoorG6
import Derived.Test.YtdpnhjhbdobhjaaDoorG7
import Derived.Test.YtdpnhjhbdobhjaaDoorG15
namespace Go.Proofs.YtdpnhjhbdobhjaaDoor.G
open Go.RowKit Go.Proofs.YtdpnhjhbdobhjaaDoorW.PrintWords Go.Proofs.YtdpnhjhbdobhjaaDoorW.PrintLast Go.Proofs.YtdpnhjhbdobhjaaDoorW.PrintMore
attribute [local go_sem] max2_int min2_int max_two min_two max_three min_three max_four min_four   -- for this text's walks alone
set_option linter.unusedVariables false
set_option linter.unusedSimpArgs false

/-! ### flintlaw25_ScriptBegins: function 4 -/
def flintlaw25_ScriptBegins.l0 : Nat → List (S31) → List (S31) → Int → Int → Option (Bool)
  | 0, _, _, _, _ => none
  | k + 1, x5, x6, x29, x30 => if x30 < x29 then (if 0 ≤ x30 then (if x30 < (x6.length : Int) then (if x30 < (x5.length : Int) then ((flintref25_Same.f ((rd_T31 x6 x30).f0) ((rd_T31 x6 x30).f1) ((rd_T31 x6 x30).f2.f0) ((rd_T31 x6 x30).f2.f1) ((rd_T31 x6 x30).f2.f2) ((rd_T31 x6 x30).f2.f3) ((rd_T31 x6 x30).f2.f4) ((rd_T31 x6 x30).f2.f5) ((rd_T31 x6 x30).f2.f6) ((rd_T31 x6 x30).f3) ((rd_T31 x6 x30).f4) ((rd_T31 x6 x30).f5) ((rd_T31 x5 x30).f0) ((rd_T31 x5 x30).f1) ((rd_T31 x5 x30).f2.f0) ((rd_T31 x5 x30).f2.f1) ((rd_T31 x5 x30).f2.f2) ((rd_T31 x5 x30).f2.f3) ((rd_T31 x5 x30).f2.f4) ((rd_T31 x5 x30).f2.f5) ((rd_T31 x5 x30).f2.f6) ((rd_T31 x5 x30).f3) ((rd_T31 x5 x30).f4) ((rd_T31 x5 x30).f5)).bind fun t224 => (if t224 = true then (flintlaw25_ScriptBegins.l0 k x5 x6 x29 (wrap64 (x30 + 1))) else (some false))) else (none)) else (none)) else (none)) else ((flintlaw25_fixed.f).bind fun t225 => (some t225))
def flintlaw25_ScriptBegins.f (k : Nat) (l0 : List Int) (a1 : Int) : Option (Bool) := if (l0.length : Int) > 4000 then ((flintlaw25_fixed.f).bind fun t214 => (some t214)) else ((script_Acts.f k l0).bind fun t215 => (if (wrap64 ((l0.length : Int) + 1)) = 0 then (none) else (if 0 ≤ (Int.tmod (wrap64 (a1)) (wrap64 ((l0.length : Int) + 1))) then (if (Int.tmod (wrap64 (a1)) (wrap64 ((l0.length : Int) + 1))) ≤ (l0.length : Int) then ((script_Acts.f k (l0.take ((Int.tmod (wrap64 (a1)) (wrap64 ((l0.length : Int) + 1))) : Int).toNat)).bind fun t219 => (if (t219.length : Int) > (t215.length : Int) then (some false) else (flintlaw25_ScriptBegins.l0 k t215 t219 (t219.length : Int) 0))) else (none)) else (none))))
theorem flintlaw25_ScriptBegins.mono_l : ∀ k, (∀ y0 y1 y2 y3, LeO (flintlaw25_ScriptBegins.l0 k y0 y1 y2 y3) (flintlaw25_ScriptBegins.l0 (k + 1) y0 y1 y2 y3))
  | 0 => fun _ _ _ _ r h => by simp [flintlaw25_ScriptBegins.l0] at h
  | k + 1 => by
    have ih0 := flintlaw25_ScriptBegins.mono_l k
    · intro y0 y1 y2 y3
      unfold flintlaw25_ScriptBegins.l0
      repeat' first
      | (with_reducible exact ih0 _ _ _ _)
      | (with_reducible exact script_Acts.mono _ _)
      | (with_reducible exact LeO.refl _)
      | (with_reducible exact LeO.none _)
      | (with_reducible refine LeO.ite ?_ ?_)
      | (with_reducible refine LeO.bind ?_ (fun _ => ?_))
      | exact ih0 _ _ _ _
      | exact script_Acts.mono _ _
      | exact LeO.none _
      | refine LeO.ite ?_ ?_
      | refine LeO.bind ?_ (fun _ => ?_)
theorem flintlaw25_ScriptBegins.mono : ∀ a0 a1 k, LeO (flintlaw25_ScriptBegins.f k a0 a1) (flintlaw25_ScriptBegins.f (k + 1) a0 a1) := by
  intro a0 a1 k
  have ih0 := flintlaw25_ScriptBegins.mono_l k
  unfold flintlaw25_ScriptBegins.f
  repeat' first
      | (with_reducible exact ih0 _ _ _ _)
      | (with_reducible exact script_Acts.mono _ _)
      | (with_reducible exact LeO.refl _)
      | (with_reducible exact LeO.none _)
      | (with_reducible refine LeO.ite ?_ ?_)
      | (with_reducible refine LeO.bind ?_ (fun _ => ?_))
      | exact ih0 _ _ _ _
      | exact script_Acts.mono _ _
      | exact LeO.none _
      | refine LeO.ite ?_ ?_
      | refine LeO.bind ?_ (fun _ => ?_)
def flintlaw25_ScriptBegins.T3 : Bool × List (List Nat × List Nat) := (true, [([], []), ([0], [0]), ([], []), ([], []), ([3], [3]), ([], []), ([5], [5]), ([6], [6]), ([4, 7], [4, 7]), ([2, 8], [2, 8]), ([9, 1], [9]), ([1, 10, 0, 1], [1]), ([10, 11, 0, 1, 2, 3, 4, 5, 6, 7, 8, 9, 10, 11], [10])])
def flintlaw25_ScriptBegins.B3 : List Nat := [0, 1, 0, 0, 8, 0, 32, 96, 248, 508, 1023, 2047, 4095]
theorem flintlaw25_ScriptBegins.tab3 : rtab .any (opsOf Tryd.f4 3) = flintlaw25_ScriptBegins.T3 := by kernel_rfl
theorem flintlaw25_ScriptBegins.bits3 : waitsOk flintlaw25_ScriptBegins.T3.2 flintlaw25_ScriptBegins.B3 = true := by kernel_rfl
def flintlaw25_ScriptBegins.T9 : Bool × List (List Nat × List Nat) := (true, [([], []), ([], []), ([0, 1], [0, 1]), ([2], [2]), ([], []), ([], []), ([4, 5], [4, 5]), ([6], [6]), ([3, 7], [3, 7]), ([8], [8])])
def flintlaw25_ScriptBegins.B9 : List Nat := [0, 0, 3, 7, 0, 0, 48, 112, 255, 511]
theorem flintlaw25_ScriptBegins.tab9 : rtab .any (opsOf Tryd.f4 9) = flintlaw25_ScriptBegins.T9 := by kernel_rfl
theorem flintlaw25_ScriptBegins.bits9 : waitsOk flintlaw25_ScriptBegins.T9.2 flintlaw25_ScriptBegins.B9 = true := by kernel_rfl
set_option maxHeartbeats 8000000 in
set_option maxRecDepth 100000 in
theorem flintlaw25_ScriptBegins.calls (k : Nat) (A0 : Option Addr) (c0 : Nat) (l0 : List Int) (a1 : Int) (r : Bool) (w : World) (hr0 : Kd.C (Kd.int .u8) w A0 l0.length l0) (hc0 : l0.length ≤ c0) (h : flintlaw25_ScriptBegins.f k l0 a1 = some r) (hT0 : Tabs w) :
    Calls Tryd.prog 4 #[.slice A0 l0.length c0, .int .u16 a1] w fun e w' => e = .returned (.bool r) ∧ Below w.heap.size w w' := by
  have HT := Aside0.mk hT0
  clear hT0
  have hu31 := Tryd.underlying31
  have HR0 := Aside0.mk hr0
  have HC0 := Aside0.mk hc0
  clear hr0 hc0
  have HB := Aside0.mk (Below.refl w.heap.size w)
  have H : (if (l0.length : Int) > 4000 then ((flintlaw25_fixed.f).bind fun t214 => (some t214)) else ((script_Acts.f k l0).bind fun t215 => (if (wrap64 ((l0.length : Int) + 1)) = 0 then (none) else (if 0 ≤ (Int.tmod (wrap64 (a1)) (wrap64 ((l0.length : Int) + 1))) then (if (Int.tmod (wrap64 (a1)) (wrap64 ((l0.length : Int) + 1))) ≤ (l0.length : Int) then ((script_Acts.f k (l0.take ((Int.tmod (wrap64 (a1)) (wrap64 ((l0.length : Int) + 1))) : Int).toNat)).bind fun t219 => (if (t219.length : Int) > (t215.length : Int) then (some false) else (flintlaw25_ScriptBegins.l0 k t215 t219 (t219.length : Int) 0))) else (none)) else (none))))) = some r := h
  clear h
  by_cases c3 : (l0.length : Int) > 4000
  · rw [if_pos c3] at H
    have c3b0 : decide (4000 < (l0.length : Int)) = true := decide_eq_true c3
    have c3b1 : decide (4000 < l0.length) = true := decide_eq_true (by omega)
    clear c3
    replace H := Option.bind_eq_some_iff.mp H
    obtain ⟨t214, A40, H⟩ := H
    replace H : (some t214) = some r := H
    have A4 := Aside0.mk A40
    clear A40
    obtain rfl := Option.some.inj H
    go_enter Tryd.func4, Tryd.ntmps4
    go_wp2_with (first | ((with_reducible refine gate_callee (f := 5) rfl ?_); refine goesL_ (some 11) rfl rfl Tryd.func5 (by kernel_rfl) rfl #[] rfl (by (try simp only [List.map_toArray, List.map_cons, List.map_nil]); first | done | rfl | (simp only [List.length_drop, List.length_take]; rfl)) ?_; (with_reducible refine (flintlaw25_fixed.calls  t214 _ A4.out).mono ?_); rintro e w' ⟨rfl, ⟨nd, rfl⟩⟩; refine ⟨_, rfl, ?_⟩))
    go_ret
    exact ⟨by first | rfl | (simp [errW_none, errW_some] <;> rfl) | (simp [*, errW_none, errW_some] <;> rfl), by repeat (first | (with_reducible first | exact HB.out | apply below_alloc | apply pw_below_drewN | apply below_drew1) | exact HB.out)⟩
  · rw [if_neg c3] at H
    have c3b0 : decide (4000 < (l0.length : Int)) = false := decide_eq_false c3
    have c3b1 : decide (4000 < l0.length) = false := decide_eq_false (by omega)
    clear c3
    replace H := Option.bind_eq_some_iff.mp H
    obtain ⟨t215, A50, H⟩ := H
    replace H : (if (wrap64 ((l0.length : Int) + 1)) = 0 then (none) else (if 0 ≤ (Int.tmod (wrap64 (a1)) (wrap64 ((l0.length : Int) + 1))) then (if (Int.tmod (wrap64 (a1)) (wrap64 ((l0.length : Int) + 1))) ≤ (l0.length : Int) then ((script_Acts.f k (l0.take ((Int.tmod (wrap64 (a1)) (wrap64 ((l0.length : Int) + 1))) : Int).toNat)).bind fun t219 => (if (t219.length : Int) > (t215.length : Int) then (some false) else (flintlaw25_ScriptBegins.l0 k t215 t219 (t219.length : Int) 0))) else (none)) else (none))) = some r := H
    have A5 := Aside0.mk A50
    clear A50
    by_cases c6 : (wrap64 ((l0.length : Int) + 1)) = 0
    · rw [if_pos c6] at H
      exact absurd H (by simp)
    · rw [if_neg c6] at H
      have c6b0 : ((wrap64 ((l0.length : Int) + 1)) == 0) = false := beq_eq_false_iff_ne.mpr c6
      have c6b1 : ((wrap64 ((l0.length : Int) + 1)) != 0) = true := bne_iff_ne.mpr c6
      obtain ⟨ji7, hji7⟩ : ∃ j_ : Int, (Int.tmod (wrap64 (a1)) (wrap64 ((l0.length : Int) + 1))) = j_ := ⟨_, rfl⟩
      replace H : (if 0 ≤ (ji7) then (if (ji7) ≤ (l0.length : Int) then ((script_Acts.f k (l0.take ((ji7) : Int).toNat)).bind fun t219 => (if (t219.length : Int) > (t215.length : Int) then (some false) else (flintlaw25_ScriptBegins.l0 k t215 t219 (t219.length : Int) 0))) else (none)) else (none)) = some r := by first | (rw [hji7] at H; exact H) | (simp only [hji7] at H ⊢; exact H)
      (try rw [hji7] at A5)
      by_cases c8 : 0 ≤ (ji7)
      · rw [if_pos c8] at H
        have c8b0 := eq_true c8
        have c8b1 : decide (0 ≤ (ji7)) = true := decide_eq_true c8
        clear c8
        by_cases c9 : (ji7) ≤ (l0.length : Int)
        · rw [if_pos c9] at H
          have c9b0 := eq_true c9
          have c9b1 : decide ((ji7) ≤ (l0.length : Int)) = true := decide_eq_true c9
          clear c9
          replace H := Option.bind_eq_some_iff.mp H
          obtain ⟨t219, A100, H⟩ := H
          replace H : (if (t219.length : Int) > (t215.length : Int) then (some false) else (flintlaw25_ScriptBegins.l0 k t215 t219 (t219.length : Int) 0)) = some r := H
          have A10 := Aside0.mk A100
          clear A100
          by_cases c11 : (t219.length : Int) > (t215.length : Int)
          · rw [if_pos c11] at H
            have c11b0 : decide ((t215.length : Int) < (t219.length : Int)) = true := decide_eq_true c11
            have c11b1 : decide (t215.length < t219.length) = true := decide_eq_true (Int.ofNat_lt.mp c11)
            clear c11
            obtain rfl := Option.some.inj H
            go_enter Tryd.func4, Tryd.ntmps4
            try go_wp2
            have n0_ := Aside0.mk (below_drew1 HB.out)
            clear HB
            have HB := n0_
            clear n0_
            obtain ⟨i013, hi013, _, hsz13, _⟩ := info_parts info5
            obtain ⟨hcut13, hA13, hC13⟩ := print_take_of (P := Tryd.prog) (Value.int .u8) 0 22 5 .i64 Tryd.underlying22 hi013 hsz13 A0 c0 l0 (ji7) (of_decide_eq_true (by first | (with_reducible assumption) | assumption)) (of_decide_eq_true (by first | (with_reducible assumption) | assumption)) HC0.out
            have HR218 := Aside0.mk (Kd.C_of_reads (h1 := fun _ => rfl) (hA13 _ (Kd.reads_of_C HR0.out)))
            have HC218 := Aside0.mk hC13
            clear hA13 hC13 hi013 hsz13
            refine start_ (n := 13) (S := fun w' => True) (ds := []) #[false, false, false, false, false, false, false, false, false, false, false, false, false] (by kernel_rfl) rfl rfl trivial (fun hHeld => ?_); refine with_tabW flintlaw25_ScriptBegins.tab3 flintlaw25_ScriptBegins.bits3 (fun HT_ HW_ => ?_)
            generalize w.drew = w12 at HB HR218 hHeld ⊢
            refine pure_ (i := 0) (N := some 12) (v := ?_) (a' := ?_) #[true, false, false, false, false, false, false, false, false, false, false, false, false] rfl rfl (any_of HT_.out (by kernel_rfl)) (fun _ _ _ h => h) (Or.inl ⟨by rfl, ?_⟩) ?_ ?_
            rotate_left
            · intro w'
              go_simp
              with_reducible rfl
            rotate_left
            · simp only [Act.put, List.setIfInBounds_toArray, List.set_cons_zero, List.set_cons_succ, i64_w, i32_w]
              rfl
            refine pure_ (i := 2) (N := some 14) (v := ?_) (a' := ?_) #[true, false, true, false, false, false, false, false, false, false, false, false, false] rfl rfl (any_of HT_.out (by kernel_rfl)) (fun _ _ _ h => h) (Or.inl ⟨by rfl, ?_⟩) ?_ ?_
            rotate_left
            · intro w'
              go_simp
              with_reducible rfl
            rotate_left
            · simp only [Act.put, List.setIfInBounds_toArray, List.set_cons_zero, List.set_cons_succ, i64_w, i32_w]
              rfl
            refine pure_ (i := 3) (N := some 15) (v := ?_) (a' := ?_) #[true, false, true, true, false, false, false, false, false, false, false, false, false] rfl rfl (any_of HT_.out (by kernel_rfl)) (fun _ _ _ h => h) (Or.inl ⟨by rfl, ?_⟩) ?_ ?_
            rotate_left
            · intro w'
              go_simp
              with_reducible rfl
            rotate_left
            · simp only [Act.put, List.setIfInBounds_toArray, List.set_cons_zero, List.set_cons_succ, i64_w, i32_w]
              rfl
            refine pure_ (i := 4) (N := some 16) (v := ?_) (a' := ?_) #[true, false, true, true, true, false, false, false, false, false, false, false, false] rfl rfl (any_of HT_.out (by kernel_rfl)) (fun _ _ _ h => h) (Or.inl ⟨by rfl, ?_⟩) ?_ ?_
            rotate_left
            · intro w'
              go_simp
              with_reducible rfl
            rotate_left
            · simp only [Act.put, List.setIfInBounds_toArray, List.set_cons_zero, List.set_cons_succ, i64_w, i32_w]
              rfl
            refine pure_ (i := 5) (N := some 17) (v := ?_) (a' := ?_) #[true, false, true, true, true, true, false, false, false, false, false, false, false] rfl rfl (any_of HT_.out (by kernel_rfl)) (fun _ _ _ h => h) (Or.inl ⟨by rfl, ?_⟩) ?_ ?_
            rotate_left
            · intro w'
              go_simp
              with_reducible rfl
            rotate_left
            · simp only [Act.put, List.setIfInBounds_toArray, List.set_cons_zero, List.set_cons_succ, i64_w, i32_w]
              rfl
            refine pure_ (i := 6) (N := some 18) (v := ?_) (a' := ?_) #[true, false, true, true, true, true, true, false, false, false, false, false, false] rfl rfl (any_of HT_.out (by kernel_rfl)) (fun _ _ _ h => h) (Or.inl ⟨by rfl, ?_⟩) ?_ ?_
            rotate_left
            · intro w'
              go_simp
              with_reducible rfl
            rotate_left
            · simp only [Act.put, List.setIfInBounds_toArray, List.set_cons_zero, List.set_cons_succ, i64_w, i32_w]
              rfl
            refine pure_ (i := 7) (N := some 19) (v := ?_) (a' := ?_) #[true, false, true, true, true, true, true, true, false, false, false, false, false] rfl rfl (any_of HT_.out (by kernel_rfl)) (fun _ _ _ h => h) (Or.inl ⟨by rfl, ?_⟩) ?_ ?_
            rotate_left
            · intro w'
              go_simp
              with_reducible rfl
            rotate_left
            · simp only [Act.put, List.setIfInBounds_toArray, List.set_cons_zero, List.set_cons_succ, i64_w, i32_w]
              rfl
            refine pure_ (i := 8) (N := some 20) (v := ?_) (a' := ?_) #[true, false, true, true, true, true, true, true, true, false, false, false, false] rfl rfl (any_of HT_.out (by kernel_rfl)) (fun _ _ _ h => h) (Or.inl ⟨by rfl, ?_⟩) ?_ ?_
            rotate_left
            · intro w'
              go_simp
              with_reducible rfl
            rotate_left
            · simp only [Act.put, List.setIfInBounds_toArray, List.set_cons_zero, List.set_cons_succ, i64_w, i32_w]
              rfl
            refine pure_ (i := 9) (N := some 21) (v := ?_) (a' := ?_) #[true, false, true, true, true, true, true, true, true, true, false, false, false] rfl rfl (any_of HT_.out (by kernel_rfl)) (fun _ _ _ h => h) (Or.inl ⟨by rfl, ?_⟩) ?_ ?_
            rotate_left
            · intro w'
              go_simp
              with_reducible rfl
            rotate_left
            · simp only [Act.put, List.setIfInBounds_toArray, List.set_cons_zero, List.set_cons_succ, i64_w, i32_w]
              rfl
            refine one_ (i := 1) (N := some 13) #[true, true, true, true, true, true, true, true, true, true, false, false, false] rfl rfl (one_of HT_.out (by kernel_rfl)) (by decide) (fun K hK => ?_)
            refine goes_ Tryd.func6 (by kernel_rfl) rfl #[.slice A0 l0.length c0] (by rfl) rfl rfl (by (try simp only [List.map_toArray, List.map_cons, List.map_nil]); first | done | rfl | (simp only [List.length_drop, List.length_take]; rfl)) ?_
            with_reducible refine (script_Acts.calls k _ _ l0 t215 _ ?side1 ?side2 A5.out (Tabs.below HT.out (by repeat (first | (with_reducible first | exact HB.out | apply below_alloc | apply pw_below_drewN | apply below_drew1) | exact HB.out)))).mono ?_
            (case side1 => repeat (first | exact (Kd.C_below HR0.out HB.out) | (with_reducible refine Kd.C_alloc ?_ _) | (with_reducible refine Kd.C_drewN ?_ _) | (with_reducible refine Kd.C_drew ?_)))
            (case side2 => exact HC0.out)
            rintro e w14 ⟨v216, rfl, ho0, hb⟩
            refine ⟨_, rfl, ?_⟩
            have n0_ := Aside0.mk (Kd.S_lower ho0 (below_size (by repeat (first | (with_reducible first | exact HB.out | apply below_alloc | apply pw_below_drewN | apply below_drew1) | exact HB.out))))
            have n1_ := Aside0.mk (below_step (by repeat (first | (with_reducible first | exact HB.out | apply below_alloc | apply pw_below_drewN | apply below_drew1) | exact HB.out)) hb)
            clear HB
            have HO217 := n0_
            have HB := n1_
            clear n0_ n1_
            (try clear hb)
            (try clear hb2)
            (try clear hk)
            (try clear hi)
            (try clear ho0)
            refine hK.out _ _ trivial (fun hHeld => ?_)
            clear hK K
            refine norm_ (a' := ?_) ?_ ?_
            rotate_left
            · show Act.put _ (some 13) _ = _
              simp only [Act.put, List.setIfInBounds_toArray, List.set_cons_zero, List.set_cons_succ, i64_w, i32_w]
              rfl
            refine one_ (i := 10) (N := some 22) #[true, true, true, true, true, true, true, true, true, true, true, false, false] rfl rfl (one_of HT_.out (by kernel_rfl)) (by decide) (fun K hK => ?_)
            refine goes_ Tryd.func6 (by kernel_rfl) rfl #[.slice A0 (l0.take ((ji7) : Int).toNat).length c0] (by rfl) rfl rfl (by (try simp only [List.map_toArray, List.map_cons, List.map_nil]); first | done | (rw [show (l0.take ((ji7) : Int).toNat).length = (ji7).toNat from (by rw [List.length_take]; have h_ : ((ji7) : Int) ≤ (l0.length : Int) := of_decide_eq_true (by first | (with_reducible assumption) | assumption); omega)] <;> rfl) | (simp only [hji7]; rfl) | rfl | (simp only [List.length_drop, List.length_take]; rfl)) ?_
            with_reducible refine (script_Acts.calls k _ _ (l0.take ((ji7) : Int).toNat) t219 _ ?side1 ?side2 A10.out (Tabs.below HT.out (by repeat (first | (with_reducible first | exact HB.out | apply below_alloc | apply pw_below_drewN | apply below_drew1) | exact HB.out)))).mono ?_
            (case side1 => repeat (first | exact (Kd.C_below HR218.out HB.out) | (with_reducible refine Kd.C_alloc ?_ _) | (with_reducible refine Kd.C_drewN ?_ _) | (with_reducible refine Kd.C_drew ?_)))
            (case side2 => exact HC218.out)
            rintro e w15 ⟨v220, rfl, ho0, hb⟩
            refine ⟨_, rfl, ?_⟩
            have n0_ := Aside0.mk (Kd.S_elder' (by (with_reducible repeat (first | apply Kd.S_alloc | apply Kd.S_drewN | apply Kd.S_drew)); exact HO217.out) (Kd.S_base ho0) hb)
            have n1_ := Aside0.mk (Kd.S_lower (Kd.S_new' ho0 (Kd.S_lt (by (with_reducible repeat (first | apply Kd.S_alloc | apply Kd.S_drewN | apply Kd.S_drew)); exact HO217.out))) (below_size (by repeat (first | (with_reducible first | exact HB.out | apply below_alloc | apply pw_below_drewN | apply below_drew1) | exact HB.out))))
            have n2_ := Aside0.mk (below_step (by repeat (first | (with_reducible first | exact HB.out | apply below_alloc | apply pw_below_drewN | apply below_drew1) | exact HB.out)) hb)
            clear HO217
            clear HB
            have HO217 := n0_
            have HO221 := n1_
            have HB := n2_
            clear n0_ n1_ n2_
            (try clear hb)
            (try clear hb2)
            (try clear hk)
            (try clear hi)
            (try clear ho0)
            refine hK.out _ _ trivial (fun hHeld => ?_)
            clear hK K
            refine norm_ (a' := ?_) ?_ ?_
            rotate_left
            · show Act.put _ (some 22) _ = _
              simp only [Act.put, List.setIfInBounds_toArray, List.set_cons_zero, List.set_cons_succ, i64_w, i32_w]
              rfl
            refine pure_ (i := 11) (N := some 5) (v := ?_) (a' := ?_) #[true, true, true, true, true, true, true, true, true, true, true, true, false] rfl rfl (any_of HT_.out (by kernel_rfl)) (fun _ _ _ h => h) (Or.inl ⟨by rfl, ?_⟩) ?_ ?_
            rotate_left
            · intro w'
              go_simp
              with_reducible rfl
            rotate_left
            · simp only [Act.put, List.setIfInBounds_toArray, List.set_cons_zero, List.set_cons_succ, i64_w, i32_w]
              rfl
            refine pure_ (i := 12) (N := some 6) (v := ?_) (a' := ?_) #[true, true, true, true, true, true, true, true, true, true, true, true, true] rfl rfl (any_of HT_.out (by kernel_rfl)) (fun _ _ _ h => h) (Or.inl ⟨by rfl, ?_⟩) ?_ ?_
            rotate_left
            · intro w'
              go_simp
              with_reducible rfl
            rotate_left
            · simp only [Act.put, List.setIfInBounds_toArray, List.set_cons_zero, List.set_cons_succ, i64_w, i32_w]
              rfl
            refine done_ (done_of HT_.out (by kernel_rfl)) ?_
            obtain ⟨Ao16, co16, eo16⟩ := Kd.S_slice HO221.out
            subst eo16
            obtain ⟨Ao17, co17, eo17⟩ := Kd.S_slice HO217.out
            subst eo17
            try go_wp2
            go_ret
            exact ⟨by first | rfl | (simp [errW_none, errW_some] <;> rfl) | (simp only [← hji7]; first | rfl | (simp [errW_none, errW_some] <;> rfl)) | (simp [*, errW_none, errW_some] <;> rfl), by repeat (first | (with_reducible first | exact HB.out | apply below_alloc | apply pw_below_drewN | apply below_drew1) | exact HB.out)⟩
          · rw [if_neg c11] at H
            have c11b0 : decide ((t215.length : Int) < (t219.length : Int)) = false := decide_eq_false c11
            have c11b1 : decide (t215.length < t219.length) = false := decide_eq_false (fun h => c11 (Int.ofNat_lt.mpr h))
            clear c11
            have H' := Aside0.mk H
            clear H
            go_enter Tryd.func4, Tryd.ntmps4
            try go_wp2
            have n0_ := Aside0.mk (below_drew1 HB.out)
            clear HB
            have HB := n0_
            clear n0_
            obtain ⟨i019, hi019, _, hsz19, _⟩ := info_parts info5
            obtain ⟨hcut19, hA19, hC19⟩ := print_take_of (P := Tryd.prog) (Value.int .u8) 0 22 5 .i64 Tryd.underlying22 hi019 hsz19 A0 c0 l0 (ji7) (of_decide_eq_true (by first | (with_reducible assumption) | assumption)) (of_decide_eq_true (by first | (with_reducible assumption) | assumption)) HC0.out
            have HR218 := Aside0.mk (Kd.C_of_reads (h1 := fun _ => rfl) (hA19 _ (Kd.reads_of_C HR0.out)))
            have HC218 := Aside0.mk hC19
            clear hA19 hC19 hi019 hsz19
            refine start_ (n := 13) (S := fun w' => True) (ds := []) #[false, false, false, false, false, false, false, false, false, false, false, false, false] (by kernel_rfl) rfl rfl trivial (fun hHeld => ?_); refine with_tabW flintlaw25_ScriptBegins.tab3 flintlaw25_ScriptBegins.bits3 (fun HT_ HW_ => ?_)
            generalize w.drew = w18 at HB HR218 hHeld ⊢
            refine pure_ (i := 0) (N := some 12) (v := ?_) (a' := ?_) #[true, false, false, false, false, false, false, false, false, false, false, false, false] rfl rfl (any_of HT_.out (by kernel_rfl)) (fun _ _ _ h => h) (Or.inl ⟨by rfl, ?_⟩) ?_ ?_
            rotate_left
            · intro w'
              go_simp
              with_reducible rfl
            rotate_left
            · simp only [Act.put, List.setIfInBounds_toArray, List.set_cons_zero, List.set_cons_succ, i64_w, i32_w]
              rfl
            refine pure_ (i := 2) (N := some 14) (v := ?_) (a' := ?_) #[true, false, true, false, false, false, false, false, false, false, false, false, false] rfl rfl (any_of HT_.out (by kernel_rfl)) (fun _ _ _ h => h) (Or.inl ⟨by rfl, ?_⟩) ?_ ?_
            rotate_left
            · intro w'
              go_simp
              with_reducible rfl
            rotate_left
            · simp only [Act.put, List.setIfInBounds_toArray, List.set_cons_zero, List.set_cons_succ, i64_w, i32_w]
              rfl
            refine pure_ (i := 3) (N := some 15) (v := ?_) (a' := ?_) #[true, false, true, true, false, false, false, false, false, false, false, false, false] rfl rfl (any_of HT_.out (by kernel_rfl)) (fun _ _ _ h => h) (Or.inl ⟨by rfl, ?_⟩) ?_ ?_
            rotate_left
            · intro w'
              go_simp
              with_reducible rfl
            rotate_left
            · simp only [Act.put, List.setIfInBounds_toArray, List.set_cons_zero, List.set_cons_succ, i64_w, i32_w]
              rfl
            refine pure_ (i := 4) (N := some 16) (v := ?_) (a' := ?_) #[true, false, true, true, true, false, false, false, false, false, false, false, false] rfl rfl (any_of HT_.out (by kernel_rfl)) (fun _ _ _ h => h) (Or.inl ⟨by rfl, ?_⟩) ?_ ?_
            rotate_left
            · intro w'
              go_simp
              with_reducible rfl
            rotate_left
            · simp only [Act.put, List.setIfInBounds_toArray, List.set_cons_zero, List.set_cons_succ, i64_w, i32_w]
              rfl
            refine pure_ (i := 5) (N := some 17) (v := ?_) (a' := ?_) #[true, false, true, true, true, true, false, false, false, false, false, false, false] rfl rfl (any_of HT_.out (by kernel_rfl)) (fun _ _ _ h => h) (Or.inl ⟨by rfl, ?_⟩) ?_ ?_
            rotate_left
            · intro w'
              go_simp
              with_reducible rfl
            rotate_left
            · simp only [Act.put, List.setIfInBounds_toArray, List.set_cons_zero, List.set_cons_succ, i64_w, i32_w]
              rfl
            refine pure_ (i := 6) (N := some 18) (v := ?_) (a' := ?_) #[true, false, true, true, true, true, true, false, false, false, false, false, false] rfl rfl (any_of HT_.out (by kernel_rfl)) (fun _ _ _ h => h) (Or.inl ⟨by rfl, ?_⟩) ?_ ?_
            rotate_left
            · intro w'
              go_simp
              with_reducible rfl
            rotate_left
            · simp only [Act.put, List.setIfInBounds_toArray, List.set_cons_zero, List.set_cons_succ, i64_w, i32_w]
              rfl
            refine pure_ (i := 7) (N := some 19) (v := ?_) (a' := ?_) #[true, false, true, true, true, true, true, true, false, false, false, false, false] rfl rfl (any_of HT_.out (by kernel_rfl)) (fun _ _ _ h => h) (Or.inl ⟨by rfl, ?_⟩) ?_ ?_
            rotate_left
            · intro w'
              go_simp
              with_reducible rfl
            rotate_left
            · simp only [Act.put, List.setIfInBounds_toArray, List.set_cons_zero, List.set_cons_succ, i64_w, i32_w]
              rfl
            refine pure_ (i := 8) (N := some 20) (v := ?_) (a' := ?_) #[true, false, true, true, true, true, true, true, true, false, false, false, false] rfl rfl (any_of HT_.out (by kernel_rfl)) (fun _ _ _ h => h) (Or.inl ⟨by rfl, ?_⟩) ?_ ?_
            rotate_left
            · intro w'
              go_simp
              with_reducible rfl
            rotate_left
            · simp only [Act.put, List.setIfInBounds_toArray, List.set_cons_zero, List.set_cons_succ, i64_w, i32_w]
              rfl
            refine pure_ (i := 9) (N := some 21) (v := ?_) (a' := ?_) #[true, false, true, true, true, true, true, true, true, true, false, false, false] rfl rfl (any_of HT_.out (by kernel_rfl)) (fun _ _ _ h => h) (Or.inl ⟨by rfl, ?_⟩) ?_ ?_
            rotate_left
            · intro w'
              go_simp
              with_reducible rfl
            rotate_left
            · simp only [Act.put, List.setIfInBounds_toArray, List.set_cons_zero, List.set_cons_succ, i64_w, i32_w]
              rfl
            refine one_ (i := 1) (N := some 13) #[true, true, true, true, true, true, true, true, true, true, false, false, false] rfl rfl (one_of HT_.out (by kernel_rfl)) (by decide) (fun K hK => ?_)
            refine goes_ Tryd.func6 (by kernel_rfl) rfl #[.slice A0 l0.length c0] (by rfl) rfl rfl (by (try simp only [List.map_toArray, List.map_cons, List.map_nil]); first | done | rfl | (simp only [List.length_drop, List.length_take]; rfl)) ?_
            with_reducible refine (script_Acts.calls k _ _ l0 t215 _ ?side1 ?side2 A5.out (Tabs.below HT.out (by repeat (first | (with_reducible first | exact HB.out | apply below_alloc | apply pw_below_drewN | apply below_drew1) | exact HB.out)))).mono ?_
            (case side1 => repeat (first | exact (Kd.C_below HR0.out HB.out) | (with_reducible refine Kd.C_alloc ?_ _) | (with_reducible refine Kd.C_drewN ?_ _) | (with_reducible refine Kd.C_drew ?_)))
            (case side2 => exact HC0.out)
            rintro e w20 ⟨v216, rfl, ho0, hb⟩
            refine ⟨_, rfl, ?_⟩
            have n0_ := Aside0.mk (Kd.S_lower ho0 (below_size (by repeat (first | (with_reducible first | exact HB.out | apply below_alloc | apply pw_below_drewN | apply below_drew1) | exact HB.out))))
            have n1_ := Aside0.mk (below_step (by repeat (first | (with_reducible first | exact HB.out | apply below_alloc | apply pw_below_drewN | apply below_drew1) | exact HB.out)) hb)
            clear HB
            have HO217 := n0_
            have HB := n1_
            clear n0_ n1_
            (try clear hb)
            (try clear hb2)
            (try clear hk)
            (try clear hi)
            (try clear ho0)
            refine hK.out _ _ trivial (fun hHeld => ?_)
            clear hK K
            refine norm_ (a' := ?_) ?_ ?_
            rotate_left
            · show Act.put _ (some 13) _ = _
              simp only [Act.put, List.setIfInBounds_toArray, List.set_cons_zero, List.set_cons_succ, i64_w, i32_w]
              rfl
            refine one_ (i := 10) (N := some 22) #[true, true, true, true, true, true, true, true, true, true, true, false, false] rfl rfl (one_of HT_.out (by kernel_rfl)) (by decide) (fun K hK => ?_)
            refine goes_ Tryd.func6 (by kernel_rfl) rfl #[.slice A0 (l0.take ((ji7) : Int).toNat).length c0] (by rfl) rfl rfl (by (try simp only [List.map_toArray, List.map_cons, List.map_nil]); first | done | (rw [show (l0.take ((ji7) : Int).toNat).length = (ji7).toNat from (by rw [List.length_take]; have h_ : ((ji7) : Int) ≤ (l0.length : Int) := of_decide_eq_true (by first | (with_reducible assumption) | assumption); omega)] <;> rfl) | (simp only [hji7]; rfl) | rfl | (simp only [List.length_drop, List.length_take]; rfl)) ?_
            with_reducible refine (script_Acts.calls k _ _ (l0.take ((ji7) : Int).toNat) t219 _ ?side1 ?side2 A10.out (Tabs.below HT.out (by repeat (first | (with_reducible first | exact HB.out | apply below_alloc | apply pw_below_drewN | apply below_drew1) | exact HB.out)))).mono ?_
            (case side1 => repeat (first | exact (Kd.C_below HR218.out HB.out) | (with_reducible refine Kd.C_alloc ?_ _) | (with_reducible refine Kd.C_drewN ?_ _) | (with_reducible refine Kd.C_drew ?_)))
            (case side2 => exact HC218.out)
            rintro e w21 ⟨v220, rfl, ho0, hb⟩
            refine ⟨_, rfl, ?_⟩
            have n0_ := Aside0.mk (Kd.S_elder' (by (with_reducible repeat (first | apply Kd.S_alloc | apply Kd.S_drewN | apply Kd.S_drew)); exact HO217.out) (Kd.S_base ho0) hb)
            have n1_ := Aside0.mk (Kd.S_lower (Kd.S_new' ho0 (Kd.S_lt (by (with_reducible repeat (first | apply Kd.S_alloc | apply Kd.S_drewN | apply Kd.S_drew)); exact HO217.out))) (below_size (by repeat (first | (with_reducible first | exact HB.out | apply below_alloc | apply pw_below_drewN | apply below_drew1) | exact HB.out))))
            have n2_ := Aside0.mk (below_step (by repeat (first | (with_reducible first | exact HB.out | apply below_alloc | apply pw_below_drewN | apply below_drew1) | exact HB.out)) hb)
            clear HO217
            clear HB
            have HO217 := n0_
            have HO221 := n1_
            have HB := n2_
            clear n0_ n1_ n2_
            (try clear hb)
            (try clear hb2)
            (try clear hk)
            (try clear hi)
            (try clear ho0)
            refine hK.out _ _ trivial (fun hHeld => ?_)
            clear hK K
            refine norm_ (a' := ?_) ?_ ?_
            rotate_left
            · show Act.put _ (some 22) _ = _
              simp only [Act.put, List.setIfInBounds_toArray, List.set_cons_zero, List.set_cons_succ, i64_w, i32_w]
              rfl
            refine pure_ (i := 11) (N := some 5) (v := ?_) (a' := ?_) #[true, true, true, true, true, true, true, true, true, true, true, true, false] rfl rfl (any_of HT_.out (by kernel_rfl)) (fun _ _ _ h => h) (Or.inl ⟨by rfl, ?_⟩) ?_ ?_
            rotate_left
            · intro w'
              go_simp
              with_reducible rfl
            rotate_left
            · simp only [Act.put, List.setIfInBounds_toArray, List.set_cons_zero, List.set_cons_succ, i64_w, i32_w]
              rfl
            refine pure_ (i := 12) (N := some 6) (v := ?_) (a' := ?_) #[true, true, true, true, true, true, true, true, true, true, true, true, true] rfl rfl (any_of HT_.out (by kernel_rfl)) (fun _ _ _ h => h) (Or.inl ⟨by rfl, ?_⟩) ?_ ?_
            rotate_left
            · intro w'
              go_simp
              with_reducible rfl
            rotate_left
            · simp only [Act.put, List.setIfInBounds_toArray, List.set_cons_zero, List.set_cons_succ, i64_w, i32_w]
              rfl
            refine done_ (done_of HT_.out (by kernel_rfl)) ?_
            obtain ⟨Ao22, co22, eo22⟩ := Kd.S_slice HO221.out
            subst eo22
            obtain ⟨Ao23, co23, eo23⟩ := Kd.S_slice HO217.out
            subst eo23
            try go_wp2
            go_loopg [30] k (fun kq v30 w' => ∃ (x30_1 : Int), v30 = .int .i64 x30_1 ∧ Aside0 (flintlaw25_ScriptBegins.l0 kq t215 t219 (t219.length : Int) x30_1 = some r) ∧ Aside0 (kq ≤ k) ∧ Aside0 (Kd.S k31 31 w' w.heap.size (fun k_ => some k_ ≠ ((.slice Ao22 t219.length co22) : Value).ownBlock) (.slice Ao23 t215.length co23) t215) ∧ Aside0 (Kd.S k31 31 w' w.heap.size (fun k_ => some k_ ≠ ((.slice Ao23 t215.length co23) : Value).ownBlock) (.slice Ao22 t219.length co22) t219) ∧ Aside0 (Below w.heap.size w w'))
            case atStart => exact ⟨(0), (by first | rfl | (simp; done) | (simp [*]; done)), H', ⟨Nat.le_refl _⟩, ⟨by (with_reducible repeat (first | apply Kd.S_alloc | apply Kd.S_drewN | apply Kd.S_drew)); exact Kd.S_mono HO217.out (fun _ hk => hk.2)⟩, ⟨by (with_reducible repeat (first | apply Kd.S_alloc | apply Kd.S_drewN | apply Kd.S_drew)); exact Kd.S_mono HO221.out (fun _ hk => hk.2)⟩, ⟨by repeat (first | (with_reducible first | exact HB.out | apply below_alloc | apply pw_below_drewN | apply below_drew1) | exact HB.out)⟩⟩
            case round =>
              clear H'
              try clear c1
              try clear p2
              try clear c3
              try clear c3b0
              try clear c3b1
              try clear c4
              try clear c5
              try clear c6
              try clear c6b0
              try clear c6b1
              try clear p6
              try clear c8
              try clear c8b0
              try clear c8b1
              try clear c9
              try clear c9b0
              try clear c9b1
              try clear c11
              try clear c11b0
              try clear c11b1
              obtain ⟨x30_1, rfl, HA, HK1, HO_5, HO_6, HB⟩ := hrel
              cases gk with
              | zero => exact absurd HA.out (by simp [flintlaw25_ScriptBegins.l0])
              | succ k1 =>
                have H := HA.out
                clear HA
                simp only [flintlaw25_ScriptBegins.l0] at H
                by_cases c24 : x30_1 < (t219.length : Int)
                · rw [if_pos c24] at H
                  have c24b0 : decide (x30_1 < (t219.length : Int)) = true := decide_eq_true c24
                  clear c24
                  by_cases c25 : 0 ≤ x30_1
                  · rw [if_pos c25] at H
                    have c25b0 : decide (0 ≤ x30_1) = true := decide_eq_true c25
                    clear c25
                    by_cases c26 : x30_1 < (t219.length : Int)
                    · rw [if_pos c26] at H
                      have c26b0 : decide (x30_1 < (t219.length : Int)) = true := decide_eq_true c26
                      clear c26
                      by_cases c27 : x30_1 < (t215.length : Int)
                      · rw [if_pos c27] at H
                        have c27b0 : decide (x30_1 < (t215.length : Int)) = true := decide_eq_true c27
                        clear c27
                        replace H := Option.bind_eq_some_iff.mp H
                        obtain ⟨t224, A280, H⟩ := H
                        replace H : (if t224 = true then (flintlaw25_ScriptBegins.l0 k1 t215 t219 (t219.length : Int) (wrap64 (x30_1 + 1))) else (some false)) = some r := H
                        have A28 := Aside0.mk A280
                        clear A280
                        by_cases c29 : t224 = true
                        · subst c29
                          have H1 : (flintlaw25_ScriptBegins.l0 k1 t215 t219 (t219.length : Int) (wrap64 (x30_1 + 1))) = some r := by rw [if_pos rfl] at H; exact H
                          clear H
                          have H := H1
                          clear H1
                          have H' := Aside0.mk H
                          clear H
                          try go_wp2
                          have n0_ := Aside0.mk (Kd.S_drew HO_5.out)
                          have n1_ := Aside0.mk (Kd.S_drew HO_6.out)
                          have n2_ := Aside0.mk (below_drew1 HB.out)
                          clear HO_5
                          clear HO_6
                          clear HB
                          have HO_5 := n0_
                          have HO_6 := n1_
                          have HB := n2_
                          clear n0_ n1_ n2_
                          have p222 : 0 ≤ (x30_1 : Int) := of_decide_eq_true (by first | (with_reducible assumption) | assumption)
                          have q222 : x30_1 < (t219.length : Int) := of_decide_eq_true (by first | (with_reducible assumption) | assumption)
                          obtain ⟨ad222, A222_8, c222_8, e222, hx222_0, hx222_1, hx222_2, hx222_3, hx222_4, hx222_5, hx222_6, hx222_7, hx222_8, hx222_9, hx222_10, hx222_11, hl222_8, hi222_8⟩ := at_T31 (Kd.S_reads' HO_6.out).2.2 x30_1 p222 q222
                          cases e222
                          obtain ⟨ce222, hce222, hMe222, hcc222⟩ := Kd.S_get HO_6.out z31 x30_1 p222 (by first | exact q222 | exact of_decide_eq_true (by first | (with_reducible assumption) | assumption) | (have e_ := (Kd.S_reads' HO_6.out).1; omega))
                          obtain ⟨ve222_8, rfl, ge222_8⟩ := k31_openM hMe222
                          have hv222_8 := hcc222 8 _ rfl
                          rw [add_field _ _ 8 (by omega)] at hv222_8
                          replace hv222_8 := Option.some.inj (hv222_8.symm.trans hx222_8)
                          rw [hv222_8] at ge222_8
                          have HL222_8 := Aside0.mk (show Kd.R (Kd.int .u8) 5 _ _ _ _ ((rd_T31 t219 x30_1).f2.f6) from ge222_8)
                          clear hv222_8 ge222_8
                          clear hcc222 hce222
                          have HR222_8 := Aside0.mk hi222_8
                          have HC222_8 := Aside0.mk hl222_8
                          clear hi222_8 hl222_8
                          replace p222 := eq_true p222
                          replace q222 := eq_true q222
                          have p223 : 0 ≤ (x30_1 : Int) := of_decide_eq_true (by first | (with_reducible assumption) | assumption)
                          have q223 : x30_1 < (t215.length : Int) := of_decide_eq_true (by first | (with_reducible assumption) | assumption)
                          obtain ⟨ad223, A223_8, c223_8, e223, hx223_0, hx223_1, hx223_2, hx223_3, hx223_4, hx223_5, hx223_6, hx223_7, hx223_8, hx223_9, hx223_10, hx223_11, hl223_8, hi223_8⟩ := at_T31 (Kd.S_reads' HO_5.out).2.2 x30_1 p223 q223
                          cases e223
                          obtain ⟨ce223, hce223, hMe223, hcc223⟩ := Kd.S_get HO_5.out z31 x30_1 p223 (by first | exact q223 | exact of_decide_eq_true (by first | (with_reducible assumption) | assumption) | (have e_ := (Kd.S_reads' HO_5.out).1; omega))
                          obtain ⟨ve223_8, rfl, ge223_8⟩ := k31_openM hMe223
                          have hv223_8 := hcc223 8 _ rfl
                          rw [add_field _ _ 8 (by omega)] at hv223_8
                          replace hv223_8 := Option.some.inj (hv223_8.symm.trans hx223_8)
                          rw [hv223_8] at ge223_8
                          have HL223_8 := Aside0.mk (show Kd.R (Kd.int .u8) 5 _ _ _ _ ((rd_T31 t215 x30_1).f2.f6) from ge223_8)
                          clear hv223_8 ge223_8
                          clear hcc223 hce223
                          have HR223_8 := Aside0.mk hi223_8
                          have HC223_8 := Aside0.mk hl223_8
                          clear hi223_8 hl223_8
                          replace p223 := eq_true p223
                          replace q223 := eq_true q223
                          refine start_ (n := 10) (S := fun w' => w'.cell? (ad222.add ((x30_1).toNat * 12)) = some (.int .u8 ((rd_T31 t219 x30_1).f0)) ∧ w'.cell? ⟨(ad222.add ((x30_1).toNat * 12)).block, (ad222.add ((x30_1).toNat * 12)).off + 1, none⟩ = some (.int .i64 ((rd_T31 t219 x30_1).f1)) ∧ w'.cell? ⟨(ad222.add ((x30_1).toNat * 12)).block, (ad222.add ((x30_1).toNat * 12)).off + 2, none⟩ = some (.int .u8 ((rd_T31 t219 x30_1).f2.f0)) ∧ w'.cell? ⟨(ad222.add ((x30_1).toNat * 12)).block, (ad222.add ((x30_1).toNat * 12)).off + 3, none⟩ = some (.string ((rd_T31 t219 x30_1).f2.f1)) ∧ w'.cell? ⟨(ad222.add ((x30_1).toNat * 12)).block, (ad222.add ((x30_1).toNat * 12)).off + 4, none⟩ = some (.string ((rd_T31 t219 x30_1).f2.f2)) ∧ w'.cell? ⟨(ad222.add ((x30_1).toNat * 12)).block, (ad222.add ((x30_1).toNat * 12)).off + 5, none⟩ = some (.int .i64 ((rd_T31 t219 x30_1).f2.f3)) ∧ w'.cell? ⟨(ad222.add ((x30_1).toNat * 12)).block, (ad222.add ((x30_1).toNat * 12)).off + 6, none⟩ = some (.int .i64 ((rd_T31 t219 x30_1).f2.f4)) ∧ w'.cell? ⟨(ad222.add ((x30_1).toNat * 12)).block, (ad222.add ((x30_1).toNat * 12)).off + 7, none⟩ = some (.int .i64 ((rd_T31 t219 x30_1).f2.f5)) ∧ w'.cell? ⟨(ad222.add ((x30_1).toNat * 12)).block, (ad222.add ((x30_1).toNat * 12)).off + 8, none⟩ = some (.slice A222_8 ((rd_T31 t219 x30_1).f2.f6).length c222_8) ∧ w'.cell? ⟨(ad222.add ((x30_1).toNat * 12)).block, (ad222.add ((x30_1).toNat * 12)).off + 9, none⟩ = some (.int .u32 ((rd_T31 t219 x30_1).f3)) ∧ w'.cell? ⟨(ad222.add ((x30_1).toNat * 12)).block, (ad222.add ((x30_1).toNat * 12)).off + 10, none⟩ = some (.int .u32 ((rd_T31 t219 x30_1).f4)) ∧ w'.cell? ⟨(ad222.add ((x30_1).toNat * 12)).block, (ad222.add ((x30_1).toNat * 12)).off + 11, none⟩ = some (.int .u8 ((rd_T31 t219 x30_1).f5)) ∧ w'.cell? (ad223.add ((x30_1).toNat * 12)) = some (.int .u8 ((rd_T31 t215 x30_1).f0)) ∧ w'.cell? ⟨(ad223.add ((x30_1).toNat * 12)).block, (ad223.add ((x30_1).toNat * 12)).off + 1, none⟩ = some (.int .i64 ((rd_T31 t215 x30_1).f1)) ∧ w'.cell? ⟨(ad223.add ((x30_1).toNat * 12)).block, (ad223.add ((x30_1).toNat * 12)).off + 2, none⟩ = some (.int .u8 ((rd_T31 t215 x30_1).f2.f0)) ∧ w'.cell? ⟨(ad223.add ((x30_1).toNat * 12)).block, (ad223.add ((x30_1).toNat * 12)).off + 3, none⟩ = some (.string ((rd_T31 t215 x30_1).f2.f1)) ∧ w'.cell? ⟨(ad223.add ((x30_1).toNat * 12)).block, (ad223.add ((x30_1).toNat * 12)).off + 4, none⟩ = some (.string ((rd_T31 t215 x30_1).f2.f2)) ∧ w'.cell? ⟨(ad223.add ((x30_1).toNat * 12)).block, (ad223.add ((x30_1).toNat * 12)).off + 5, none⟩ = some (.int .i64 ((rd_T31 t215 x30_1).f2.f3)) ∧ w'.cell? ⟨(ad223.add ((x30_1).toNat * 12)).block, (ad223.add ((x30_1).toNat * 12)).off + 6, none⟩ = some (.int .i64 ((rd_T31 t215 x30_1).f2.f4)) ∧ w'.cell? ⟨(ad223.add ((x30_1).toNat * 12)).block, (ad223.add ((x30_1).toNat * 12)).off + 7, none⟩ = some (.int .i64 ((rd_T31 t215 x30_1).f2.f5)) ∧ w'.cell? ⟨(ad223.add ((x30_1).toNat * 12)).block, (ad223.add ((x30_1).toNat * 12)).off + 8, none⟩ = some (.slice A223_8 ((rd_T31 t215 x30_1).f2.f6).length c223_8) ∧ w'.cell? ⟨(ad223.add ((x30_1).toNat * 12)).block, (ad223.add ((x30_1).toNat * 12)).off + 9, none⟩ = some (.int .u32 ((rd_T31 t215 x30_1).f3)) ∧ w'.cell? ⟨(ad223.add ((x30_1).toNat * 12)).block, (ad223.add ((x30_1).toNat * 12)).off + 10, none⟩ = some (.int .u32 ((rd_T31 t215 x30_1).f4)) ∧ w'.cell? ⟨(ad223.add ((x30_1).toNat * 12)).block, (ad223.add ((x30_1).toNat * 12)).off + 11, none⟩ = some (.int .u8 ((rd_T31 t215 x30_1).f5))) (ds := []) #[false, false, false, false, false, false, false, false, false, false] (by kernel_rfl) rfl rfl ⟨hx222_0, hx222_1, hx222_2, hx222_3, hx222_4, hx222_5, hx222_6, hx222_7, hx222_8, hx222_9, hx222_10, hx222_11, hx223_0, hx223_1, hx223_2, hx223_3, hx223_4, hx223_5, hx223_6, hx223_7, hx223_8, hx223_9, hx223_10, hx223_11⟩ (fun hHeld => ?_); refine with_tabW flintlaw25_ScriptBegins.tab9 flintlaw25_ScriptBegins.bits9 (fun HT_ HW_ => ?_)
                          generalize wr.drew = w30 at HO_5 HO_6 HB HL222_8 HL223_8 HR222_8 HR223_8 hx222_0 hx222_1 hx222_10 hx222_11 hx222_2 hx222_3 hx222_4 hx222_5 hx222_6 hx222_7 hx222_8 hx222_9 hx223_0 hx223_1 hx223_10 hx223_11 hx223_2 hx223_3 hx223_4 hx223_5 hx223_6 hx223_7 hx223_8 hx223_9 hHeld ⊢
                          refine pure_ (i := 0) (N := some 33) (v := ?_) (a' := ?_) #[true, false, false, false, false, false, false, false, false, false] rfl rfl (any_of HT_.out (by kernel_rfl)) (fun _ _ _ h => h) (Or.inl ⟨by rfl, ?_⟩) ?_ ?_
                          rotate_left
                          · intro w'
                            go_simp
                            with_reducible rfl
                          rotate_left
                          · simp only [Act.put, List.setIfInBounds_toArray, List.set_cons_zero, List.set_cons_succ, i64_w, i32_w]
                            rfl
                          refine pure_ (i := 1) (N := some 34) (v := ?_) (a' := ?_) #[true, true, false, false, false, false, false, false, false, false] rfl rfl (any_of HT_.out (by kernel_rfl)) (fun _ _ _ h => h) (Or.inl ⟨by rfl, ?_⟩) ?_ ?_
                          rotate_left
                          · intro w'
                            go_simp
                            with_reducible rfl
                          rotate_left
                          · simp only [Act.put, List.setIfInBounds_toArray, List.set_cons_zero, List.set_cons_succ, i64_w, i32_w]
                            rfl
                          refine pure_ (i := 2) (N := some 35) (v := ?_) (a' := ?_) #[true, true, true, false, false, false, false, false, false, false] rfl rfl (any_of HT_.out (by kernel_rfl)) (fun _ _ _ h => h) (Or.inl ⟨by rfl, ?_⟩) ?_ ?_
                          rotate_left
                          · intro w'
                            go_simp
                            with_reducible rfl
                          rotate_left
                          · simp only [Act.put, List.setIfInBounds_toArray, List.set_cons_zero, List.set_cons_succ, i64_w, i32_w]
                            rfl
                          refine pure_ (i := 4) (N := some 37) (v := ?_) (a' := ?_) #[true, true, true, false, true, false, false, false, false, false] rfl rfl (any_of HT_.out (by kernel_rfl)) (fun _ _ _ h => h) (Or.inl ⟨by rfl, ?_⟩) ?_ ?_
                          rotate_left
                          · intro w'
                            go_simp
                            with_reducible rfl
                          rotate_left
                          · simp only [Act.put, List.setIfInBounds_toArray, List.set_cons_zero, List.set_cons_succ, i64_w, i32_w]
                            rfl
                          refine pure_ (i := 5) (N := some 38) (v := ?_) (a' := ?_) #[true, true, true, false, true, true, false, false, false, false] rfl rfl (any_of HT_.out (by kernel_rfl)) (fun _ _ _ h => h) (Or.inl ⟨by rfl, ?_⟩) ?_ ?_
                          rotate_left
                          · intro w'
                            go_simp
                            with_reducible rfl
                          rotate_left
                          · simp only [Act.put, List.setIfInBounds_toArray, List.set_cons_zero, List.set_cons_succ, i64_w, i32_w]
                            rfl
                          refine pure_ (i := 6) (N := some 39) (v := ?_) (a' := ?_) #[true, true, true, false, true, true, true, false, false, false] rfl rfl (any_of HT_.out (by kernel_rfl)) (fun _ _ _ h => h) (Or.inl ⟨by rfl, ?_⟩) ?_ ?_
                          rotate_left
                          · intro w'
                            go_simp
                            with_reducible rfl
                          rotate_left
                          · simp only [Act.put, List.setIfInBounds_toArray, List.set_cons_zero, List.set_cons_succ, i64_w, i32_w]
                            rfl
                          refine take_ (i := 3) (N := some 36) (v := ?_) (a' := ?_) #[true, true, true, true, true, true, true, false, false, false] rfl rfl (take_ofW HT_.out HW_.out (by kernel_rfl)) (fun _ _ _ h => h) (Or.inl ⟨by rfl, ?_⟩) hHeld ?_ ?_
                          rotate_left
                          · rintro w' ⟨s0, s1, s2, s3, s4, s5, s6, s7, s8, s9, s10, s11, s12, s13, s14, s15, s16, s17, s18, s19, s20, s21, s22, s23⟩
                            go_simp
                            with_reducible rfl
                          rotate_left
                          · simp only [Act.put, List.setIfInBounds_toArray, List.set_cons_zero, List.set_cons_succ, i64_w, i32_w]
                            rfl
                          refine take_ (i := 7) (N := some 40) (v := ?_) (a' := ?_) #[true, true, true, true, true, true, true, true, false, false] rfl rfl (take_ofW HT_.out HW_.out (by kernel_rfl)) (fun _ _ _ h => h) (Or.inl ⟨by rfl, ?_⟩) hHeld ?_ ?_
                          rotate_left
                          · rintro w' ⟨s0, s1, s2, s3, s4, s5, s6, s7, s8, s9, s10, s11, s12, s13, s14, s15, s16, s17, s18, s19, s20, s21, s22, s23⟩
                            go_simp
                            with_reducible rfl
                          rotate_left
                          · simp only [Act.put, List.setIfInBounds_toArray, List.set_cons_zero, List.set_cons_succ, i64_w, i32_w]
                            rfl
                          refine one_ (i := 8) (N := some 41) #[true, true, true, true, true, true, true, true, true, false] rfl rfl (one_of HT_.out (by kernel_rfl)) (by decide) (fun K hK => ?_)
                          refine goes_ Tryd.func8 (by kernel_rfl) rfl #[.agg #[.int .u8 ((rd_T31 t219 x30_1).f0), .int .i64 ((rd_T31 t219 x30_1).f1), .int .u8 ((rd_T31 t219 x30_1).f2.f0), .string ((rd_T31 t219 x30_1).f2.f1), .string ((rd_T31 t219 x30_1).f2.f2), .int .i64 ((rd_T31 t219 x30_1).f2.f3), .int .i64 ((rd_T31 t219 x30_1).f2.f4), .int .i64 ((rd_T31 t219 x30_1).f2.f5), .slice A222_8 ((rd_T31 t219 x30_1).f2.f6).length c222_8, .int .u32 ((rd_T31 t219 x30_1).f3), .int .u32 ((rd_T31 t219 x30_1).f4), .int .u8 ((rd_T31 t219 x30_1).f5)], .agg #[.int .u8 ((rd_T31 t215 x30_1).f0), .int .i64 ((rd_T31 t215 x30_1).f1), .int .u8 ((rd_T31 t215 x30_1).f2.f0), .string ((rd_T31 t215 x30_1).f2.f1), .string ((rd_T31 t215 x30_1).f2.f2), .int .i64 ((rd_T31 t215 x30_1).f2.f3), .int .i64 ((rd_T31 t215 x30_1).f2.f4), .int .i64 ((rd_T31 t215 x30_1).f2.f5), .slice A223_8 ((rd_T31 t215 x30_1).f2.f6).length c223_8, .int .u32 ((rd_T31 t215 x30_1).f3), .int .u32 ((rd_T31 t215 x30_1).f4), .int .u8 ((rd_T31 t215 x30_1).f5)]] (by rfl) rfl rfl (by (try simp only [List.map_toArray, List.map_cons, List.map_nil]); first | done | rfl | (simp only [List.length_drop, List.length_take]; rfl)) ?_
                          with_reducible refine (flintref25_Same.calls ((rd_T31 t219 x30_1).f0) ((rd_T31 t219 x30_1).f1) ((rd_T31 t219 x30_1).f2.f0) ((rd_T31 t219 x30_1).f2.f1) ((rd_T31 t219 x30_1).f2.f2) ((rd_T31 t219 x30_1).f2.f3) ((rd_T31 t219 x30_1).f2.f4) ((rd_T31 t219 x30_1).f2.f5) _ _ ((rd_T31 t219 x30_1).f2.f6) ((rd_T31 t219 x30_1).f3) ((rd_T31 t219 x30_1).f4) ((rd_T31 t219 x30_1).f5) ((rd_T31 t215 x30_1).f0) ((rd_T31 t215 x30_1).f1) ((rd_T31 t215 x30_1).f2.f0) ((rd_T31 t215 x30_1).f2.f1) ((rd_T31 t215 x30_1).f2.f2) ((rd_T31 t215 x30_1).f2.f3) ((rd_T31 t215 x30_1).f2.f4) ((rd_T31 t215 x30_1).f2.f5) _ _ ((rd_T31 t215 x30_1).f2.f6) ((rd_T31 t215 x30_1).f3) ((rd_T31 t215 x30_1).f4) ((rd_T31 t215 x30_1).f5) true _ ?side1 ?side2 ?side3 ?side4 A28.out).mono ?_
                          (case side1 => repeat (first | exact (by repeat (first | (with_reducible exact HR222_8.out) | (with_reducible refine Kd.C_alloc ?_ _) | (with_reducible refine Kd.C_drewN ?_ _) | (with_reducible refine Kd.C_drew ?_) | exact HR222_8.out)) | (with_reducible refine Kd.C_alloc ?_ _) | (with_reducible refine Kd.C_drewN ?_ _) | (with_reducible refine Kd.C_drew ?_)))
                          (case side2 => exact HC222_8.out)
                          (case side3 => repeat (first | exact (by repeat (first | (with_reducible exact HR223_8.out) | (with_reducible refine Kd.C_alloc ?_ _) | (with_reducible refine Kd.C_drewN ?_ _) | (with_reducible refine Kd.C_drew ?_) | exact HR223_8.out)) | (with_reducible refine Kd.C_alloc ?_ _) | (with_reducible refine Kd.C_drewN ?_ _) | (with_reducible refine Kd.C_drew ?_)))
                          (case side4 => exact HC223_8.out)
                          rintro e w31 ⟨rfl, hb⟩
                          have HS0_ := (hb.cell (World.block_lt_of_cell? _ _ (hHeld.1))).trans (hHeld.1)
                          have HS1_ := (hb.cell (World.block_lt_of_cell? _ _ (hHeld.2.1))).trans (hHeld.2.1)
                          have HS2_ := (hb.cell (World.block_lt_of_cell? _ _ (hHeld.2.2.1))).trans (hHeld.2.2.1)
                          have HS3_ := (hb.cell (World.block_lt_of_cell? _ _ (hHeld.2.2.2.1))).trans (hHeld.2.2.2.1)
                          have HS4_ := (hb.cell (World.block_lt_of_cell? _ _ (hHeld.2.2.2.2.1))).trans (hHeld.2.2.2.2.1)
                          have HS5_ := (hb.cell (World.block_lt_of_cell? _ _ (hHeld.2.2.2.2.2.1))).trans (hHeld.2.2.2.2.2.1)
                          have HS6_ := (hb.cell (World.block_lt_of_cell? _ _ (hHeld.2.2.2.2.2.2.1))).trans (hHeld.2.2.2.2.2.2.1)
                          have HS7_ := (hb.cell (World.block_lt_of_cell? _ _ (hHeld.2.2.2.2.2.2.2.1))).trans (hHeld.2.2.2.2.2.2.2.1)
                          have HS8_ := (hb.cell (World.block_lt_of_cell? _ _ (hHeld.2.2.2.2.2.2.2.2.1))).trans (hHeld.2.2.2.2.2.2.2.2.1)
                          have HS9_ := (hb.cell (World.block_lt_of_cell? _ _ (hHeld.2.2.2.2.2.2.2.2.2.1))).trans (hHeld.2.2.2.2.2.2.2.2.2.1)
                          have HS10_ := (hb.cell (World.block_lt_of_cell? _ _ (hHeld.2.2.2.2.2.2.2.2.2.2.1))).trans (hHeld.2.2.2.2.2.2.2.2.2.2.1)
                          have HS11_ := (hb.cell (World.block_lt_of_cell? _ _ (hHeld.2.2.2.2.2.2.2.2.2.2.2.1))).trans (hHeld.2.2.2.2.2.2.2.2.2.2.2.1)
                          have HS12_ := (hb.cell (World.block_lt_of_cell? _ _ (hHeld.2.2.2.2.2.2.2.2.2.2.2.2.1))).trans (hHeld.2.2.2.2.2.2.2.2.2.2.2.2.1)
                          have HS13_ := (hb.cell (World.block_lt_of_cell? _ _ (hHeld.2.2.2.2.2.2.2.2.2.2.2.2.2.1))).trans (hHeld.2.2.2.2.2.2.2.2.2.2.2.2.2.1)
                          have HS14_ := (hb.cell (World.block_lt_of_cell? _ _ (hHeld.2.2.2.2.2.2.2.2.2.2.2.2.2.2.1))).trans (hHeld.2.2.2.2.2.2.2.2.2.2.2.2.2.2.1)
                          have HS15_ := (hb.cell (World.block_lt_of_cell? _ _ (hHeld.2.2.2.2.2.2.2.2.2.2.2.2.2.2.2.1))).trans (hHeld.2.2.2.2.2.2.2.2.2.2.2.2.2.2.2.1)
                          have HS16_ := (hb.cell (World.block_lt_of_cell? _ _ (hHeld.2.2.2.2.2.2.2.2.2.2.2.2.2.2.2.2.1))).trans (hHeld.2.2.2.2.2.2.2.2.2.2.2.2.2.2.2.2.1)
                          have HS17_ := (hb.cell (World.block_lt_of_cell? _ _ (hHeld.2.2.2.2.2.2.2.2.2.2.2.2.2.2.2.2.2.1))).trans (hHeld.2.2.2.2.2.2.2.2.2.2.2.2.2.2.2.2.2.1)
                          have HS18_ := (hb.cell (World.block_lt_of_cell? _ _ (hHeld.2.2.2.2.2.2.2.2.2.2.2.2.2.2.2.2.2.2.1))).trans (hHeld.2.2.2.2.2.2.2.2.2.2.2.2.2.2.2.2.2.2.1)
                          have HS19_ := (hb.cell (World.block_lt_of_cell? _ _ (hHeld.2.2.2.2.2.2.2.2.2.2.2.2.2.2.2.2.2.2.2.1))).trans (hHeld.2.2.2.2.2.2.2.2.2.2.2.2.2.2.2.2.2.2.2.1)
                          have HS20_ := (hb.cell (World.block_lt_of_cell? _ _ (hHeld.2.2.2.2.2.2.2.2.2.2.2.2.2.2.2.2.2.2.2.2.1))).trans (hHeld.2.2.2.2.2.2.2.2.2.2.2.2.2.2.2.2.2.2.2.2.1)
                          have HS21_ := (hb.cell (World.block_lt_of_cell? _ _ (hHeld.2.2.2.2.2.2.2.2.2.2.2.2.2.2.2.2.2.2.2.2.2.1))).trans (hHeld.2.2.2.2.2.2.2.2.2.2.2.2.2.2.2.2.2.2.2.2.2.1)
                          have HS22_ := (hb.cell (World.block_lt_of_cell? _ _ (hHeld.2.2.2.2.2.2.2.2.2.2.2.2.2.2.2.2.2.2.2.2.2.2.1))).trans (hHeld.2.2.2.2.2.2.2.2.2.2.2.2.2.2.2.2.2.2.2.2.2.2.1)
                          have HS23_ := (hb.cell (World.block_lt_of_cell? _ _ (hHeld.2.2.2.2.2.2.2.2.2.2.2.2.2.2.2.2.2.2.2.2.2.2.2))).trans (hHeld.2.2.2.2.2.2.2.2.2.2.2.2.2.2.2.2.2.2.2.2.2.2.2)
                          refine ⟨_, rfl, ?_⟩
                          have n0_ := Aside0.mk (Kd.S_below (by (with_reducible repeat (first | apply Kd.S_alloc | apply Kd.S_drewN | apply Kd.S_drew)); exact HO_5.out) hb)
                          have n1_ := Aside0.mk (Kd.S_below (by (with_reducible repeat (first | apply Kd.S_alloc | apply Kd.S_drewN | apply Kd.S_drew)); exact HO_6.out) hb)
                          have n2_ := Aside0.mk (Kd.R_below (by (with_reducible repeat (first | apply Kd.R_alloc | apply Kd.R_drewN | apply Kd.R_drew)); exact HL222_8.out) hb)
                          have n3_ := Aside0.mk (Kd.R_below (by (with_reducible repeat (first | apply Kd.R_alloc | apply Kd.R_drewN | apply Kd.R_drew)); exact HL223_8.out) hb)
                          have n4_ := Aside0.mk (Kd.C_below (by repeat (first | (with_reducible exact HR222_8.out) | (with_reducible refine Kd.C_alloc ?_ _) | (with_reducible refine Kd.C_drewN ?_ _) | (with_reducible refine Kd.C_drew ?_) | exact HR222_8.out)) hb)
                          have n5_ := Aside0.mk (Kd.C_below (by repeat (first | (with_reducible exact HR223_8.out) | (with_reducible refine Kd.C_alloc ?_ _) | (with_reducible refine Kd.C_drewN ?_ _) | (with_reducible refine Kd.C_drew ?_) | exact HR223_8.out)) hb)
                          have n6_ := Aside0.mk (below_step (by repeat (first | (with_reducible first | exact HB.out | apply below_alloc | apply pw_below_drewN | apply below_drew1) | exact HB.out)) hb)
                          clear HO_5
                          clear HO_6
                          clear HL222_8
                          clear HL223_8
                          clear HR222_8
                          clear HR223_8
                          clear HB
                          have HO_5 := n0_
                          have HO_6 := n1_
                          have HL222_8 := n2_
                          have HL223_8 := n3_
                          have HR222_8 := n4_
                          have HR223_8 := n5_
                          have HB := n6_
                          clear n0_ n1_ n2_ n3_ n4_ n5_ n6_
                          (try clear hb)
                          (try clear hb2)
                          (try clear hk)
                          (try clear hi)
                          refine hK.out _ _ ⟨HS0_, HS1_, HS2_, HS3_, HS4_, HS5_, HS6_, HS7_, HS8_, HS9_, HS10_, HS11_, HS12_, HS13_, HS14_, HS15_, HS16_, HS17_, HS18_, HS19_, HS20_, HS21_, HS22_, HS23_⟩ (fun hHeld => ?_)
                          clear hK K
                          refine norm_ (a' := ?_) ?_ ?_
                          rotate_left
                          · show Act.put _ (some 41) _ = _
                            simp only [Act.put, List.setIfInBounds_toArray, List.set_cons_zero, List.set_cons_succ, i64_w, i32_w]
                            rfl
                          refine pure_ (i := 9) (N := some 42) (v := ?_) (a' := ?_) #[true, true, true, true, true, true, true, true, true, true] rfl rfl (any_of HT_.out (by kernel_rfl)) (fun _ _ _ h => h) (Or.inl ⟨by rfl, ?_⟩) ?_ ?_
                          rotate_left
                          · intro w'
                            go_simp
                            with_reducible rfl
                          rotate_left
                          · simp only [Act.put, List.setIfInBounds_toArray, List.set_cons_zero, List.set_cons_succ, i64_w, i32_w]
                            rfl
                          refine done_ (done_of HT_.out (by kernel_rfl)) ?_
                          try go_wp2
                          go_roundg k1
                          case measure => have := HK1.out; omega
                          case rel => exact ⟨(wrap64 (x30_1 + 1)), (by first | rfl | (simp; done) | (simp [*]; done)), H', ⟨by have := HK1.out; omega⟩, ⟨by (with_reducible repeat (first | apply Kd.S_alloc | apply Kd.S_drewN | apply Kd.S_drew)); exact HO_5.out⟩, ⟨by (with_reducible repeat (first | apply Kd.S_alloc | apply Kd.S_drewN | apply Kd.S_drew)); exact HO_6.out⟩, ⟨by repeat (first | (with_reducible first | exact HB.out | apply below_alloc | apply pw_below_drewN | apply below_drew1) | exact HB.out)⟩⟩
                        · replace c29 := Bool.eq_false_iff.mpr c29
                          subst c29
                          have H1 : (some false) = some r := by rw [if_neg (show ¬ (false = true) by decide)] at H; exact H
                          clear H
                          have H := H1
                          clear H1
                          obtain rfl := Option.some.inj H
                          try go_wp2
                          have n0_ := Aside0.mk (Kd.S_drew HO_5.out)
                          have n1_ := Aside0.mk (Kd.S_drew HO_6.out)
                          have n2_ := Aside0.mk (below_drew1 HB.out)
                          clear HO_5
                          clear HO_6
                          clear HB
                          have HO_5 := n0_
                          have HO_6 := n1_
                          have HB := n2_
                          clear n0_ n1_ n2_
                          have p222 : 0 ≤ (x30_1 : Int) := of_decide_eq_true (by first | (with_reducible assumption) | assumption)
                          have q222 : x30_1 < (t219.length : Int) := of_decide_eq_true (by first | (with_reducible assumption) | assumption)
                          obtain ⟨ad222, A222_8, c222_8, e222, hx222_0, hx222_1, hx222_2, hx222_3, hx222_4, hx222_5, hx222_6, hx222_7, hx222_8, hx222_9, hx222_10, hx222_11, hl222_8, hi222_8⟩ := at_T31 (Kd.S_reads' HO_6.out).2.2 x30_1 p222 q222
                          cases e222
                          obtain ⟨ce222, hce222, hMe222, hcc222⟩ := Kd.S_get HO_6.out z31 x30_1 p222 (by first | exact q222 | exact of_decide_eq_true (by first | (with_reducible assumption) | assumption) | (have e_ := (Kd.S_reads' HO_6.out).1; omega))
                          obtain ⟨ve222_8, rfl, ge222_8⟩ := k31_openM hMe222
                          have hv222_8 := hcc222 8 _ rfl
                          rw [add_field _ _ 8 (by omega)] at hv222_8
                          replace hv222_8 := Option.some.inj (hv222_8.symm.trans hx222_8)
                          rw [hv222_8] at ge222_8
                          have HL222_8 := Aside0.mk (show Kd.R (Kd.int .u8) 5 _ _ _ _ ((rd_T31 t219 x30_1).f2.f6) from ge222_8)
                          clear hv222_8 ge222_8
                          clear hcc222 hce222
                          have HR222_8 := Aside0.mk hi222_8
                          have HC222_8 := Aside0.mk hl222_8
                          clear hi222_8 hl222_8
                          replace p222 := eq_true p222
                          replace q222 := eq_true q222
                          have p223 : 0 ≤ (x30_1 : Int) := of_decide_eq_true (by first | (with_reducible assumption) | assumption)
                          have q223 : x30_1 < (t215.length : Int) := of_decide_eq_true (by first | (with_reducible assumption) | assumption)
                          obtain ⟨ad223, A223_8, c223_8, e223, hx223_0, hx223_1, hx223_2, hx223_3, hx223_4, hx223_5, hx223_6, hx223_7, hx223_8, hx223_9, hx223_10, hx223_11, hl223_8, hi223_8⟩ := at_T31 (Kd.S_reads' HO_5.out).2.2 x30_1 p223 q223
                          cases e223
                          obtain ⟨ce223, hce223, hMe223, hcc223⟩ := Kd.S_get HO_5.out z31 x30_1 p223 (by first | exact q223 | exact of_decide_eq_true (by first | (with_reducible assumption) | assumption) | (have e_ := (Kd.S_reads' HO_5.out).1; omega))
                          obtain ⟨ve223_8, rfl, ge223_8⟩ := k31_openM hMe223
                          have hv223_8 := hcc223 8 _ rfl
                          rw [add_field _ _ 8 (by omega)] at hv223_8
                          replace hv223_8 := Option.some.inj (hv223_8.symm.trans hx223_8)
                          rw [hv223_8] at ge223_8
                          have HL223_8 := Aside0.mk (show Kd.R (Kd.int .u8) 5 _ _ _ _ ((rd_T31 t215 x30_1).f2.f6) from ge223_8)
                          clear hv223_8 ge223_8
                          clear hcc223 hce223
                          have HR223_8 := Aside0.mk hi223_8
                          have HC223_8 := Aside0.mk hl223_8
                          clear hi223_8 hl223_8
                          replace p223 := eq_true p223
                          replace q223 := eq_true q223
                          refine start_ (n := 10) (S := fun w' => w'.cell? (ad222.add ((x30_1).toNat * 12)) = some (.int .u8 ((rd_T31 t219 x30_1).f0)) ∧ w'.cell? ⟨(ad222.add ((x30_1).toNat * 12)).block, (ad222.add ((x30_1).toNat * 12)).off + 1, none⟩ = some (.int .i64 ((rd_T31 t219 x30_1).f1)) ∧ w'.cell? ⟨(ad222.add ((x30_1).toNat * 12)).block, (ad222.add ((x30_1).toNat * 12)).off + 2, none⟩ = some (.int .u8 ((rd_T31 t219 x30_1).f2.f0)) ∧ w'.cell? ⟨(ad222.add ((x30_1).toNat * 12)).block, (ad222.add ((x30_1).toNat * 12)).off + 3, none⟩ = some (.string ((rd_T31 t219 x30_1).f2.f1)) ∧ w'.cell? ⟨(ad222.add ((x30_1).toNat * 12)).block, (ad222.add ((x30_1).toNat * 12)).off + 4, none⟩ = some (.string ((rd_T31 t219 x30_1).f2.f2)) ∧ w'.cell? ⟨(ad222.add ((x30_1).toNat * 12)).block, (ad222.add ((x30_1).toNat * 12)).off + 5, none⟩ = some (.int .i64 ((rd_T31 t219 x30_1).f2.f3)) ∧ w'.cell? ⟨(ad222.add ((x30_1).toNat * 12)).block, (ad222.add ((x30_1).toNat * 12)).off + 6, none⟩ = some (.int .i64 ((rd_T31 t219 x30_1).f2.f4)) ∧ w'.cell? ⟨(ad222.add ((x30_1).toNat * 12)).block, (ad222.add ((x30_1).toNat * 12)).off + 7, none⟩ = some (.int .i64 ((rd_T31 t219 x30_1).f2.f5)) ∧ w'.cell? ⟨(ad222.add ((x30_1).toNat * 12)).block, (ad222.add ((x30_1).toNat * 12)).off + 8, none⟩ = some (.slice A222_8 ((rd_T31 t219 x30_1).f2.f6).length c222_8) ∧ w'.cell? ⟨(ad222.add ((x30_1).toNat * 12)).block, (ad222.add ((x30_1).toNat * 12)).off + 9, none⟩ = some (.int .u32 ((rd_T31 t219 x30_1).f3)) ∧ w'.cell? ⟨(ad222.add ((x30_1).toNat * 12)).block, (ad222.add ((x30_1).toNat * 12)).off + 10, none⟩ = some (.int .u32 ((rd_T31 t219 x30_1).f4)) ∧ w'.cell? ⟨(ad222.add ((x30_1).toNat * 12)).block, (ad222.add ((x30_1).toNat * 12)).off + 11, none⟩ = some (.int .u8 ((rd_T31 t219 x30_1).f5)) ∧ w'.cell? (ad223.add ((x30_1).toNat * 12)) = some (.int .u8 ((rd_T31 t215 x30_1).f0)) ∧ w'.cell? ⟨(ad223.add ((x30_1).toNat * 12)).block, (ad223.add ((x30_1).toNat * 12)).off + 1, none⟩ = some (.int .i64 ((rd_T31 t215 x30_1).f1)) ∧ w'.cell? ⟨(ad223.add ((x30_1).toNat * 12)).block, (ad223.add ((x30_1).toNat * 12)).off + 2, none⟩ = some (.int .u8 ((rd_T31 t215 x30_1).f2.f0)) ∧ w'.cell? ⟨(ad223.add ((x30_1).toNat * 12)).block, (ad223.add ((x30_1).toNat * 12)).off + 3, none⟩ = some (.string ((rd_T31 t215 x30_1).f2.f1)) ∧ w'.cell? ⟨(ad223.add ((x30_1).toNat * 12)).block, (ad223.add ((x30_1).toNat * 12)).off + 4, none⟩ = some (.string ((rd_T31 t215 x30_1).f2.f2)) ∧ w'.cell? ⟨(ad223.add ((x30_1).toNat * 12)).block, (ad223.add ((x30_1).toNat * 12)).off + 5, none⟩ = some (.int .i64 ((rd_T31 t215 x30_1).f2.f3)) ∧ w'.cell? ⟨(ad223.add ((x30_1).toNat * 12)).block, (ad223.add ((x30_1).toNat * 12)).off + 6, none⟩ = some (.int .i64 ((rd_T31 t215 x30_1).f2.f4)) ∧ w'.cell? ⟨(ad223.add ((x30_1).toNat * 12)).block, (ad223.add ((x30_1).toNat * 12)).off + 7, none⟩ = some (.int .i64 ((rd_T31 t215 x30_1).f2.f5)) ∧ w'.cell? ⟨(ad223.add ((x30_1).toNat * 12)).block, (ad223.add ((x30_1).toNat * 12)).off + 8, none⟩ = some (.slice A223_8 ((rd_T31 t215 x30_1).f2.f6).length c223_8) ∧ w'.cell? ⟨(ad223.add ((x30_1).toNat * 12)).block, (ad223.add ((x30_1).toNat * 12)).off + 9, none⟩ = some (.int .u32 ((rd_T31 t215 x30_1).f3)) ∧ w'.cell? ⟨(ad223.add ((x30_1).toNat * 12)).block, (ad223.add ((x30_1).toNat * 12)).off + 10, none⟩ = some (.int .u32 ((rd_T31 t215 x30_1).f4)) ∧ w'.cell? ⟨(ad223.add ((x30_1).toNat * 12)).block, (ad223.add ((x30_1).toNat * 12)).off + 11, none⟩ = some (.int .u8 ((rd_T31 t215 x30_1).f5))) (ds := []) #[false, false, false, false, false, false, false, false, false, false] (by kernel_rfl) rfl rfl ⟨hx222_0, hx222_1, hx222_2, hx222_3, hx222_4, hx222_5, hx222_6, hx222_7, hx222_8, hx222_9, hx222_10, hx222_11, hx223_0, hx223_1, hx223_2, hx223_3, hx223_4, hx223_5, hx223_6, hx223_7, hx223_8, hx223_9, hx223_10, hx223_11⟩ (fun hHeld => ?_); refine with_tabW flintlaw25_ScriptBegins.tab9 flintlaw25_ScriptBegins.bits9 (fun HT_ HW_ => ?_)
                          generalize wr.drew = w32 at HO_5 HO_6 HB HL222_8 HL223_8 HR222_8 HR223_8 hx222_0 hx222_1 hx222_10 hx222_11 hx222_2 hx222_3 hx222_4 hx222_5 hx222_6 hx222_7 hx222_8 hx222_9 hx223_0 hx223_1 hx223_10 hx223_11 hx223_2 hx223_3 hx223_4 hx223_5 hx223_6 hx223_7 hx223_8 hx223_9 hHeld ⊢
                          refine pure_ (i := 0) (N := some 33) (v := ?_) (a' := ?_) #[true, false, false, false, false, false, false, false, false, false] rfl rfl (any_of HT_.out (by kernel_rfl)) (fun _ _ _ h => h) (Or.inl ⟨by rfl, ?_⟩) ?_ ?_
                          rotate_left
                          · intro w'
                            go_simp
                            with_reducible rfl
                          rotate_left
                          · simp only [Act.put, List.setIfInBounds_toArray, List.set_cons_zero, List.set_cons_succ, i64_w, i32_w]
                            rfl
                          refine pure_ (i := 1) (N := some 34) (v := ?_) (a' := ?_) #[true, true, false, false, false, false, false, false, false, false] rfl rfl (any_of HT_.out (by kernel_rfl)) (fun _ _ _ h => h) (Or.inl ⟨by rfl, ?_⟩) ?_ ?_
                          rotate_left
                          · intro w'
                            go_simp
                            with_reducible rfl
                          rotate_left
                          · simp only [Act.put, List.setIfInBounds_toArray, List.set_cons_zero, List.set_cons_succ, i64_w, i32_w]
                            rfl
                          refine pure_ (i := 2) (N := some 35) (v := ?_) (a' := ?_) #[true, true, true, false, false, false, false, false, false, false] rfl rfl (any_of HT_.out (by kernel_rfl)) (fun _ _ _ h => h) (Or.inl ⟨by rfl, ?_⟩) ?_ ?_
                          rotate_left
                          · intro w'
                            go_simp
                            with_reducible rfl
                          rotate_left
                          · simp only [Act.put, List.setIfInBounds_toArray, List.set_cons_zero, List.set_cons_succ, i64_w, i32_w]
                            rfl
                          refine pure_ (i := 4) (N := some 37) (v := ?_) (a' := ?_) #[true, true, true, false, true, false, false, false, false, false] rfl rfl (any_of HT_.out (by kernel_rfl)) (fun _ _ _ h => h) (Or.inl ⟨by rfl, ?_⟩) ?_ ?_
                          rotate_left
                          · intro w'
                            go_simp
                            with_reducible rfl
                          rotate_left
                          · simp only [Act.put, List.setIfInBounds_toArray, List.set_cons_zero, List.set_cons_succ, i64_w, i32_w]
                            rfl
                          refine pure_ (i := 5) (N := some 38) (v := ?_) (a' := ?_) #[true, true, true, false, true, true, false, false, false, false] rfl rfl (any_of HT_.out (by kernel_rfl)) (fun _ _ _ h => h) (Or.inl ⟨by rfl, ?_⟩) ?_ ?_
                          rotate_left
                          · intro w'
                            go_simp
                            with_reducible rfl
                          rotate_left
                          · simp only [Act.put, List.setIfInBounds_toArray, List.set_cons_zero, List.set_cons_succ, i64_w, i32_w]
                            rfl
                          refine pure_ (i := 6) (N := some 39) (v := ?_) (a' := ?_) #[true, true, true, false, true, true, true, false, false, false] rfl rfl (any_of HT_.out (by kernel_rfl)) (fun _ _ _ h => h) (Or.inl ⟨by rfl, ?_⟩) ?_ ?_
                          rotate_left
                          · intro w'
                            go_simp
                            with_reducible rfl
                          rotate_left
                          · simp only [Act.put, List.setIfInBounds_toArray, List.set_cons_zero, List.set_cons_succ, i64_w, i32_w]
                            rfl
                          refine take_ (i := 3) (N := some 36) (v := ?_) (a' := ?_) #[true, true, true, true, true, true, true, false, false, false] rfl rfl (take_ofW HT_.out HW_.out (by kernel_rfl)) (fun _ _ _ h => h) (Or.inl ⟨by rfl, ?_⟩) hHeld ?_ ?_
                          rotate_left
                          · rintro w' ⟨s0, s1, s2, s3, s4, s5, s6, s7, s8, s9, s10, s11, s12, s13, s14, s15, s16, s17, s18, s19, s20, s21, s22, s23⟩
                            go_simp
                            with_reducible rfl
                          rotate_left
                          · simp only [Act.put, List.setIfInBounds_toArray, List.set_cons_zero, List.set_cons_succ, i64_w, i32_w]
                            rfl
                          refine take_ (i := 7) (N := some 40) (v := ?_) (a' := ?_) #[true, true, true, true, true, true, true, true, false, false] rfl rfl (take_ofW HT_.out HW_.out (by kernel_rfl)) (fun _ _ _ h => h) (Or.inl ⟨by rfl, ?_⟩) hHeld ?_ ?_
                          rotate_left
                          · rintro w' ⟨s0, s1, s2, s3, s4, s5, s6, s7, s8, s9, s10, s11, s12, s13, s14, s15, s16, s17, s18, s19, s20, s21, s22, s23⟩
                            go_simp
                            with_reducible rfl
                          rotate_left
                          · simp only [Act.put, List.setIfInBounds_toArray, List.set_cons_zero, List.set_cons_succ, i64_w, i32_w]
                            rfl
                          refine one_ (i := 8) (N := some 41) #[true, true, true, true, true, true, true, true, true, false] rfl rfl (one_of HT_.out (by kernel_rfl)) (by decide) (fun K hK => ?_)
                          refine goes_ Tryd.func8 (by kernel_rfl) rfl #[.agg #[.int .u8 ((rd_T31 t219 x30_1).f0), .int .i64 ((rd_T31 t219 x30_1).f1), .int .u8 ((rd_T31 t219 x30_1).f2.f0), .string ((rd_T31 t219 x30_1).f2.f1), .string ((rd_T31 t219 x30_1).f2.f2), .int .i64 ((rd_T31 t219 x30_1).f2.f3), .int .i64 ((rd_T31 t219 x30_1).f2.f4), .int .i64 ((rd_T31 t219 x30_1).f2.f5), .slice A222_8 ((rd_T31 t219 x30_1).f2.f6).length c222_8, .int .u32 ((rd_T31 t219 x30_1).f3), .int .u32 ((rd_T31 t219 x30_1).f4), .int .u8 ((rd_T31 t219 x30_1).f5)], .agg #[.int .u8 ((rd_T31 t215 x30_1).f0), .int .i64 ((rd_T31 t215 x30_1).f1), .int .u8 ((rd_T31 t215 x30_1).f2.f0), .string ((rd_T31 t215 x30_1).f2.f1), .string ((rd_T31 t215 x30_1).f2.f2), .int .i64 ((rd_T31 t215 x30_1).f2.f3), .int .i64 ((rd_T31 t215 x30_1).f2.f4), .int .i64 ((rd_T31 t215 x30_1).f2.f5), .slice A223_8 ((rd_T31 t215 x30_1).f2.f6).length c223_8, .int .u32 ((rd_T31 t215 x30_1).f3), .int .u32 ((rd_T31 t215 x30_1).f4), .int .u8 ((rd_T31 t215 x30_1).f5)]] (by rfl) rfl rfl (by (try simp only [List.map_toArray, List.map_cons, List.map_nil]); first | done | rfl | (simp only [List.length_drop, List.length_take]; rfl)) ?_
                          with_reducible refine (flintref25_Same.calls ((rd_T31 t219 x30_1).f0) ((rd_T31 t219 x30_1).f1) ((rd_T31 t219 x30_1).f2.f0) ((rd_T31 t219 x30_1).f2.f1) ((rd_T31 t219 x30_1).f2.f2) ((rd_T31 t219 x30_1).f2.f3) ((rd_T31 t219 x30_1).f2.f4) ((rd_T31 t219 x30_1).f2.f5) _ _ ((rd_T31 t219 x30_1).f2.f6) ((rd_T31 t219 x30_1).f3) ((rd_T31 t219 x30_1).f4) ((rd_T31 t219 x30_1).f5) ((rd_T31 t215 x30_1).f0) ((rd_T31 t215 x30_1).f1) ((rd_T31 t215 x30_1).f2.f0) ((rd_T31 t215 x30_1).f2.f1) ((rd_T31 t215 x30_1).f2.f2) ((rd_T31 t215 x30_1).f2.f3) ((rd_T31 t215 x30_1).f2.f4) ((rd_T31 t215 x30_1).f2.f5) _ _ ((rd_T31 t215 x30_1).f2.f6) ((rd_T31 t215 x30_1).f3) ((rd_T31 t215 x30_1).f4) ((rd_T31 t215 x30_1).f5) false _ ?side1 ?side2 ?side3 ?side4 A28.out).mono ?_
                          (case side1 => repeat (first | exact (by repeat (first | (with_reducible exact HR222_8.out) | (with_reducible refine Kd.C_alloc ?_ _) | (with_reducible refine Kd.C_drewN ?_ _) | (with_reducible refine Kd.C_drew ?_) | exact HR222_8.out)) | (with_reducible refine Kd.C_alloc ?_ _) | (with_reducible refine Kd.C_drewN ?_ _) | (with_reducible refine Kd.C_drew ?_)))
                          (case side2 => exact HC222_8.out)
                          (case side3 => repeat (first | exact (by repeat (first | (with_reducible exact HR223_8.out) | (with_reducible refine Kd.C_alloc ?_ _) | (with_reducible refine Kd.C_drewN ?_ _) | (with_reducible refine Kd.C_drew ?_) | exact HR223_8.out)) | (with_reducible refine Kd.C_alloc ?_ _) | (with_reducible refine Kd.C_drewN ?_ _) | (with_reducible refine Kd.C_drew ?_)))
                          (case side4 => exact HC223_8.out)
                          rintro e w33 ⟨rfl, hb⟩
                          have HS0_ := (hb.cell (World.block_lt_of_cell? _ _ (hHeld.1))).trans (hHeld.1)
                          have HS1_ := (hb.cell (World.block_lt_of_cell? _ _ (hHeld.2.1))).trans (hHeld.2.1)
                          have HS2_ := (hb.cell (World.block_lt_of_cell? _ _ (hHeld.2.2.1))).trans (hHeld.2.2.1)
                          have HS3_ := (hb.cell (World.block_lt_of_cell? _ _ (hHeld.2.2.2.1))).trans (hHeld.2.2.2.1)
                          have HS4_ := (hb.cell (World.block_lt_of_cell? _ _ (hHeld.2.2.2.2.1))).trans (hHeld.2.2.2.2.1)
                          have HS5_ := (hb.cell (World.block_lt_of_cell? _ _ (hHeld.2.2.2.2.2.1))).trans (hHeld.2.2.2.2.2.1)
                          have HS6_ := (hb.cell (World.block_lt_of_cell? _ _ (hHeld.2.2.2.2.2.2.1))).trans (hHeld.2.2.2.2.2.2.1)
                          have HS7_ := (hb.cell (World.block_lt_of_cell? _ _ (hHeld.2.2.2.2.2.2.2.1))).trans (hHeld.2.2.2.2.2.2.2.1)
                          have HS8_ := (hb.cell (World.block_lt_of_cell? _ _ (hHeld.2.2.2.2.2.2.2.2.1))).trans (hHeld.2.2.2.2.2.2.2.2.1)
                          have HS9_ := (hb.cell (World.block_lt_of_cell? _ _ (hHeld.2.2.2.2.2.2.2.2.2.1))).trans (hHeld.2.2.2.2.2.2.2.2.2.1)
                          have HS10_ := (hb.cell (World.block_lt_of_cell? _ _ (hHeld.2.2.2.2.2.2.2.2.2.2.1))).trans (hHeld.2.2.2.2.2.2.2.2.2.2.1)
                          have HS11_ := (hb.cell (World.block_lt_of_cell? _ _ (hHeld.2.2.2.2.2.2.2.2.2.2.2.1))).trans (hHeld.2.2.2.2.2.2.2.2.2.2.2.1)
                          have HS12_ := (hb.cell (World.block_lt_of_cell? _ _ (hHeld.2.2.2.2.2.2.2.2.2.2.2.2.1))).trans (hHeld.2.2.2.2.2.2.2.2.2.2.2.2.1)
                          have HS13_ := (hb.cell (World.block_lt_of_cell? _ _ (hHeld.2.2.2.2.2.2.2.2.2.2.2.2.2.1))).trans (hHeld.2.2.2.2.2.2.2.2.2.2.2.2.2.1)
                          have HS14_ := (hb.cell (World.block_lt_of_cell? _ _ (hHeld.2.2.2.2.2.2.2.2.2.2.2.2.2.2.1))).trans (hHeld.2.2.2.2.2.2.2.2.2.2.2.2.2.2.1)
                          have HS15_ := (hb.cell (World.block_lt_of_cell? _ _ (hHeld.2.2.2.2.2.2.2.2.2.2.2.2.2.2.2.1))).trans (hHeld.2.2.2.2.2.2.2.2.2.2.2.2.2.2.2.1)
                          have HS16_ := (hb.cell (World.block_lt_of_cell? _ _ (hHeld.2.2.2.2.2.2.2.2.2.2.2.2.2.2.2.2.1))).trans (hHeld.2.2.2.2.2.2.2.2.2.2.2.2.2.2.2.2.1)
                          have HS17_ := (hb.cell (World.block_lt_of_cell? _ _ (hHeld.2.2.2.2.2.2.2.2.2.2.2.2.2.2.2.2.2.1))).trans (hHeld.2.2.2.2.2.2.2.2.2.2.2.2.2.2.2.2.2.1)
                          have HS18_ := (hb.cell (World.block_lt_of_cell? _ _ (hHeld.2.2.2.2.2.2.2.2.2.2.2.2.2.2.2.2.2.2.1))).trans (hHeld.2.2.2.2.2.2.2.2.2.2.2.2.2.2.2.2.2.2.1)
                          have HS19_ := (hb.cell (World.block_lt_of_cell? _ _ (hHeld.2.2.2.2.2.2.2.2.2.2.2.2.2.2.2.2.2.2.2.1))).trans (hHeld.2.2.2.2.2.2.2.2.2.2.2.2.2.2.2.2.2.2.2.1)
                          have HS20_ := (hb.cell (World.block_lt_of_cell? _ _ (hHeld.2.2.2.2.2.2.2.2.2.2.2.2.2.2.2.2.2.2.2.2.1))).trans (hHeld.2.2.2.2.2.2.2.2.2.2.2.2.2.2.2.2.2.2.2.2.1)
                          have HS21_ := (hb.cell (World.block_lt_of_cell? _ _ (hHeld.2.2.2.2.2.2.2.2.2.2.2.2.2.2.2.2.2.2.2.2.2.1))).trans (hHeld.2.2.2.2.2.2.2.2.2.2.2.2.2.2.2.2.2.2.2.2.2.1)
                          have HS22_ := (hb.cell (World.block_lt_of_cell? _ _ (hHeld.2.2.2.2.2.2.2.2.2.2.2.2.2.2.2.2.2.2.2.2.2.2.1))).trans (hHeld.2.2.2.2.2.2.2.2.2.2.2.2.2.2.2.2.2.2.2.2.2.2.1)
                          have HS23_ := (hb.cell (World.block_lt_of_cell? _ _ (hHeld.2.2.2.2.2.2.2.2.2.2.2.2.2.2.2.2.2.2.2.2.2.2.2))).trans (hHeld.2.2.2.2.2.2.2.2.2.2.2.2.2.2.2.2.2.2.2.2.2.2.2)
                          refine ⟨_, rfl, ?_⟩
                          have n0_ := Aside0.mk (Kd.S_below (by (with_reducible repeat (first | apply Kd.S_alloc | apply Kd.S_drewN | apply Kd.S_drew)); exact HO_5.out) hb)
                          have n1_ := Aside0.mk (Kd.S_below (by (with_reducible repeat (first | apply Kd.S_alloc | apply Kd.S_drewN | apply Kd.S_drew)); exact HO_6.out) hb)
                          have n2_ := Aside0.mk (Kd.R_below (by (with_reducible repeat (first | apply Kd.R_alloc | apply Kd.R_drewN | apply Kd.R_drew)); exact HL222_8.out) hb)
                          have n3_ := Aside0.mk (Kd.R_below (by (with_reducible repeat (first | apply Kd.R_alloc | apply Kd.R_drewN | apply Kd.R_drew)); exact HL223_8.out) hb)
                          have n4_ := Aside0.mk (Kd.C_below (by repeat (first | (with_reducible exact HR222_8.out) | (with_reducible refine Kd.C_alloc ?_ _) | (with_reducible refine Kd.C_drewN ?_ _) | (with_reducible refine Kd.C_drew ?_) | exact HR222_8.out)) hb)
                          have n5_ := Aside0.mk (Kd.C_below (by repeat (first | (with_reducible exact HR223_8.out) | (with_reducible refine Kd.C_alloc ?_ _) | (with_reducible refine Kd.C_drewN ?_ _) | (with_reducible refine Kd.C_drew ?_) | exact HR223_8.out)) hb)
                          have n6_ := Aside0.mk (below_step (by repeat (first | (with_reducible first | exact HB.out | apply below_alloc | apply pw_below_drewN | apply below_drew1) | exact HB.out)) hb)
                          clear HO_5
                          clear HO_6
                          clear HL222_8
                          clear HL223_8
                          clear HR222_8
                          clear HR223_8
                          clear HB
                          have HO_5 := n0_
                          have HO_6 := n1_
                          have HL222_8 := n2_
                          have HL223_8 := n3_
                          have HR222_8 := n4_
                          have HR223_8 := n5_
                          have HB := n6_
                          clear n0_ n1_ n2_ n3_ n4_ n5_ n6_
                          (try clear hb)
                          (try clear hb2)
                          (try clear hk)
                          (try clear hi)
                          refine hK.out _ _ ⟨HS0_, HS1_, HS2_, HS3_, HS4_, HS5_, HS6_, HS7_, HS8_, HS9_, HS10_, HS11_, HS12_, HS13_, HS14_, HS15_, HS16_, HS17_, HS18_, HS19_, HS20_, HS21_, HS22_, HS23_⟩ (fun hHeld => ?_)
                          clear hK K
                          refine norm_ (a' := ?_) ?_ ?_
                          rotate_left
                          · show Act.put _ (some 41) _ = _
                            simp only [Act.put, List.setIfInBounds_toArray, List.set_cons_zero, List.set_cons_succ, i64_w, i32_w]
                            rfl
                          refine pure_ (i := 9) (N := some 42) (v := ?_) (a' := ?_) #[true, true, true, true, true, true, true, true, true, true] rfl rfl (any_of HT_.out (by kernel_rfl)) (fun _ _ _ h => h) (Or.inl ⟨by rfl, ?_⟩) ?_ ?_
                          rotate_left
                          · intro w'
                            go_simp
                            with_reducible rfl
                          rotate_left
                          · simp only [Act.put, List.setIfInBounds_toArray, List.set_cons_zero, List.set_cons_succ, i64_w, i32_w]
                            rfl
                          refine done_ (done_of HT_.out (by kernel_rfl)) ?_
                          try go_wp2
                          go_ret
                          exact ⟨by first | rfl | (simp [errW_none, errW_some] <;> rfl) | (simp only [← hji7]; first | rfl | (simp [errW_none, errW_some] <;> rfl)) | (simp [*, errW_none, errW_some] <;> rfl), by repeat (first | (with_reducible first | exact HB.out | apply below_alloc | apply pw_below_drewN | apply below_drew1) | exact HB.out)⟩
                      · rw [if_neg c27] at H
                        exact absurd H (by simp)
                    · rw [if_neg c26] at H
                      exact absurd H (by simp)
                  · rw [if_neg c25] at H
                    exact absurd H (by simp)
                · rw [if_neg c24] at H
                  have c24b0 : decide (x30_1 < (t219.length : Int)) = false := decide_eq_false c24
                  clear c24
                  replace H := Option.bind_eq_some_iff.mp H
                  obtain ⟨t225, A340, H⟩ := H
                  replace H : (some t225) = some r := H
                  have A34 := Aside0.mk A340
                  clear A340
                  obtain rfl := Option.some.inj H
                  go_wp2_with (first | ((with_reducible refine gate_callee (f := 5) rfl ?_); refine goesL_ (some 44) rfl rfl Tryd.func5 (by kernel_rfl) rfl #[] rfl (by (try simp only [List.map_toArray, List.map_cons, List.map_nil]); first | done | rfl | (simp only [List.length_drop, List.length_take]; rfl)) ?_; (with_reducible refine (flintlaw25_fixed.calls  t225 _ A34.out).mono ?_); rintro e w' ⟨rfl, ⟨nd, rfl⟩⟩; refine ⟨_, rfl, ?_⟩))
                  go_ret
                  exact ⟨by first | rfl | (simp [errW_none, errW_some] <;> rfl) | (simp only [← hji7]; first | rfl | (simp [errW_none, errW_some] <;> rfl)) | (simp [*, errW_none, errW_some] <;> rfl), by repeat (first | (with_reducible first | exact HB.out | apply below_alloc | apply pw_below_drewN | apply below_drew1) | exact HB.out)⟩
        · rw [if_neg c9] at H
          exact absurd H (by simp)
      · rw [if_neg c8] at H
        exact absurd H (by simp)

/-- THE ONE PURE STATEMENT of flintlaw25_ScriptBegins: yours. -/
def flintlaw25_ScriptBegins.Pure : Prop := ∀ (l0 : List Int) (a1 : Int), l0.length ≤ maxLen → l0.length * 1 ≤ 140737488351232 → (∀ x ∈ l0, (Lit.int .u8 x).wf = true) → (Lit.int .u16 a1).wf = true → ∃ k, flintlaw25_ScriptBegins.f k l0 a1 = some true
theorem flintlaw25_ScriptBegins.walk (P : flintlaw25_ScriptBegins.Pure) (a0 : Option Addr) (len0 cap0 : Nat) (z0 : List Int) (a1 : Int) (w : World) (w0 : (a0 = none ∧ len0 = 0 ∧ cap0 = 0 ∧ z0 = []) ∨ ∃ x, a0 = some x ∧ len0 ≤ cap0 ∧ cap0 ≤ maxLen ∧ z0.length = cap0 ∧ (∀ i, i < z0.length → w.cell? (x.add i) = some (.int .u8 (z0.getD i 0))) ∧ ∀ n ∈ z0, (Lit.int .u8 n).wf = true) (y0 : len0 * 1 ≤ 140737488351232) (w1 : (Lit.int .u16 a1).wf = true) (hT0 : Tabs w) :
    Calls Tryd.prog 4 #[.slice a0 len0 cap0, .int .u16 a1] w fun e w' => e = .returned (.bool true) ∧ Below w.heap.size w w' := by
  obtain ⟨l0, rfl, hr0, hm0, hw0, hc0⟩ := ReadsInt.ofRowC w0
  obtain ⟨k, h⟩ := P l0 a1 hm0 y0 hw0 w1
  refine (flintlaw25_ScriptBegins.calls k _ _ l0 a1 true w (Kd.C_of_reads (d := (0 : Int)) (h1 := fun _ => rfl) hr0) hc0 h hT0).mono ?_
  rintro e w' ⟨rfl, hd⟩
  exact ⟨rfl, hd⟩

end Go.Proofs.YtdpnhjhbdobhjaaDoor.G
