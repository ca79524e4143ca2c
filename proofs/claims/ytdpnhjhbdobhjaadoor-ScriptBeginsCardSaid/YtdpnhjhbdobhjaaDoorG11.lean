-- Written by wip/gen.py: the kit's print.py, with this session's own texts where it takes a function not. Not trusted: Lean checks it.
import Derived.Test.YtdpnhjhbdobhjaaDoorG0
import Derived.Test.YtdpnhjhbdobhjaaDoorG10
namespace Go.Proofs.YtdpnhjhbdobhjaaDoor.G
open Go.RowKit Go.Proofs.YtdpnhjhbdobhjaaDoorW.PrintWords Go.Proofs.YtdpnhjhbdobhjaaDoorW.PrintLast Go.Proofs.YtdpnhjhbdobhjaaDoorW.PrintMore
attribute [local go_sem] max2_int min2_int max_two min_two max_three min_three max_four min_four   -- for this text's walks alone
set_option linter.unusedVariables false
set_option linter.unusedSimpArgs false

/-! ### flintref25_Path: function 16 -/
def flintref25_Path.f (a0 : Int) : Option (ByteArray) := if a0 = 255 then (some (⟨#[47]⟩ : ByteArray)) else ((flintref25_letter.f (Int.tmod a0 4)).bind fun t153 => (if 1 + t153.size ≤ 9223372036854775807 then (if (Int.tmod (wrap64 (Int.tdiv a0 4)) 4) = 0 then (if (Int.tmod (wrap64 (Int.tdiv a0 16)) 4) = 0 then (some ((⟨#[47]⟩ : ByteArray) ++ t153)) else (if ((⟨#[47]⟩ : ByteArray) ++ t153).size + 1 ≤ 9223372036854775807 then ((flintref25_letter.f (wrap64 ((Int.tmod (wrap64 (Int.tdiv a0 16)) 4) - 1))).bind fun t154 => (if (((⟨#[47]⟩ : ByteArray) ++ t153) ++ (⟨#[47]⟩ : ByteArray)).size + t154.size ≤ 9223372036854775807 then (some ((((⟨#[47]⟩ : ByteArray) ++ t153) ++ (⟨#[47]⟩ : ByteArray)) ++ t154)) else (none))) else (none))) else (if ((⟨#[47]⟩ : ByteArray) ++ t153).size + 1 ≤ 9223372036854775807 then ((flintref25_letter.f (wrap64 ((Int.tmod (wrap64 (Int.tdiv a0 4)) 4) - 1))).bind fun t155 => (if (((⟨#[47]⟩ : ByteArray) ++ t153) ++ (⟨#[47]⟩ : ByteArray)).size + t155.size ≤ 9223372036854775807 then (if (Int.tmod (wrap64 (Int.tdiv a0 16)) 4) = 0 then (some ((((⟨#[47]⟩ : ByteArray) ++ t153) ++ (⟨#[47]⟩ : ByteArray)) ++ t155)) else (if ((((⟨#[47]⟩ : ByteArray) ++ t153) ++ (⟨#[47]⟩ : ByteArray)) ++ t155).size + 1 ≤ 9223372036854775807 then ((flintref25_letter.f (wrap64 ((Int.tmod (wrap64 (Int.tdiv a0 16)) 4) - 1))).bind fun t156 => (if (((((⟨#[47]⟩ : ByteArray) ++ t153) ++ (⟨#[47]⟩ : ByteArray)) ++ t155) ++ (⟨#[47]⟩ : ByteArray)).size + t156.size ≤ 9223372036854775807 then (some ((((((⟨#[47]⟩ : ByteArray) ++ t153) ++ (⟨#[47]⟩ : ByteArray)) ++ t155) ++ (⟨#[47]⟩ : ByteArray)) ++ t156)) else (none))) else (none))) else (none))) else (none))) else (none)))
theorem sz47_ : (⟨#[47]⟩ : ByteArray).size = 1 := rfl
set_option maxHeartbeats 8000000 in
set_option maxRecDepth 100000 in
theorem flintref25_Path.calls (a0 : Int) (r : ByteArray) (w : World) (h : flintref25_Path.f a0 = some r) :
    Calls Tryd.prog 16 #[.int .i64 a0] w fun e w' => e = .returned (.string r) ∧ Below w.heap.size w w' := by
  have HB := Aside0.mk (Below.refl w.heap.size w)
  have H : (if a0 = 255 then (some (⟨#[47]⟩ : ByteArray)) else ((flintref25_letter.f (Int.tmod a0 4)).bind fun t153 => (if 1 + t153.size ≤ 9223372036854775807 then (if (Int.tmod (wrap64 (Int.tdiv a0 4)) 4) = 0 then (if (Int.tmod (wrap64 (Int.tdiv a0 16)) 4) = 0 then (some ((⟨#[47]⟩ : ByteArray) ++ t153)) else (if ((⟨#[47]⟩ : ByteArray) ++ t153).size + 1 ≤ 9223372036854775807 then ((flintref25_letter.f (wrap64 ((Int.tmod (wrap64 (Int.tdiv a0 16)) 4) - 1))).bind fun t154 => (if (((⟨#[47]⟩ : ByteArray) ++ t153) ++ (⟨#[47]⟩ : ByteArray)).size + t154.size ≤ 9223372036854775807 then (some ((((⟨#[47]⟩ : ByteArray) ++ t153) ++ (⟨#[47]⟩ : ByteArray)) ++ t154)) else (none))) else (none))) else (if ((⟨#[47]⟩ : ByteArray) ++ t153).size + 1 ≤ 9223372036854775807 then ((flintref25_letter.f (wrap64 ((Int.tmod (wrap64 (Int.tdiv a0 4)) 4) - 1))).bind fun t155 => (if (((⟨#[47]⟩ : ByteArray) ++ t153) ++ (⟨#[47]⟩ : ByteArray)).size + t155.size ≤ 9223372036854775807 then (if (Int.tmod (wrap64 (Int.tdiv a0 16)) 4) = 0 then (some ((((⟨#[47]⟩ : ByteArray) ++ t153) ++ (⟨#[47]⟩ : ByteArray)) ++ t155)) else (if ((((⟨#[47]⟩ : ByteArray) ++ t153) ++ (⟨#[47]⟩ : ByteArray)) ++ t155).size + 1 ≤ 9223372036854775807 then ((flintref25_letter.f (wrap64 ((Int.tmod (wrap64 (Int.tdiv a0 16)) 4) - 1))).bind fun t156 => (if (((((⟨#[47]⟩ : ByteArray) ++ t153) ++ (⟨#[47]⟩ : ByteArray)) ++ t155) ++ (⟨#[47]⟩ : ByteArray)).size + t156.size ≤ 9223372036854775807 then (some ((((((⟨#[47]⟩ : ByteArray) ++ t153) ++ (⟨#[47]⟩ : ByteArray)) ++ t155) ++ (⟨#[47]⟩ : ByteArray)) ++ t156)) else (none))) else (none))) else (none))) else (none))) else (none)))) = some r := h
  clear h
  by_cases c2 : a0 = 255
  · rw [if_pos c2] at H
    have c2b0 : (a0 == 255) = true := beq_iff_eq.mpr c2
    have c2b1 : (a0 != 255) = false := bne_eq_false_iff_eq.mpr c2
    clear c2
    obtain rfl := Option.some.inj H
    go_enter Tryd.func16, Tryd.ntmps16
    go_wp2
    go_ret
    exact ⟨by first | rfl | (simp [errW_none, errW_some] <;> rfl) | (simp [*, errW_none, errW_some] <;> rfl), by repeat (first | (with_reducible first | exact HB.out | apply below_alloc | apply pw_below_drewN | apply below_drew1) | exact HB.out)⟩
  · rw [if_neg c2] at H
    have c2b0 : (a0 == 255) = false := beq_eq_false_iff_ne.mpr c2
    have c2b1 : (a0 != 255) = true := bne_iff_ne.mpr c2
    replace H := Option.bind_eq_some_iff.mp H
    obtain ⟨t153, A30, H⟩ := H
    replace H : (if 1 + t153.size ≤ 9223372036854775807 then (if (Int.tmod (wrap64 (Int.tdiv a0 4)) 4) = 0 then (if (Int.tmod (wrap64 (Int.tdiv a0 16)) 4) = 0 then (some ((⟨#[47]⟩ : ByteArray) ++ t153)) else (if ((⟨#[47]⟩ : ByteArray) ++ t153).size + 1 ≤ 9223372036854775807 then ((flintref25_letter.f (wrap64 ((Int.tmod (wrap64 (Int.tdiv a0 16)) 4) - 1))).bind fun t154 => (if (((⟨#[47]⟩ : ByteArray) ++ t153) ++ (⟨#[47]⟩ : ByteArray)).size + t154.size ≤ 9223372036854775807 then (some ((((⟨#[47]⟩ : ByteArray) ++ t153) ++ (⟨#[47]⟩ : ByteArray)) ++ t154)) else (none))) else (none))) else (if ((⟨#[47]⟩ : ByteArray) ++ t153).size + 1 ≤ 9223372036854775807 then ((flintref25_letter.f (wrap64 ((Int.tmod (wrap64 (Int.tdiv a0 4)) 4) - 1))).bind fun t155 => (if (((⟨#[47]⟩ : ByteArray) ++ t153) ++ (⟨#[47]⟩ : ByteArray)).size + t155.size ≤ 9223372036854775807 then (if (Int.tmod (wrap64 (Int.tdiv a0 16)) 4) = 0 then (some ((((⟨#[47]⟩ : ByteArray) ++ t153) ++ (⟨#[47]⟩ : ByteArray)) ++ t155)) else (if ((((⟨#[47]⟩ : ByteArray) ++ t153) ++ (⟨#[47]⟩ : ByteArray)) ++ t155).size + 1 ≤ 9223372036854775807 then ((flintref25_letter.f (wrap64 ((Int.tmod (wrap64 (Int.tdiv a0 16)) 4) - 1))).bind fun t156 => (if (((((⟨#[47]⟩ : ByteArray) ++ t153) ++ (⟨#[47]⟩ : ByteArray)) ++ t155) ++ (⟨#[47]⟩ : ByteArray)).size + t156.size ≤ 9223372036854775807 then (some ((((((⟨#[47]⟩ : ByteArray) ++ t153) ++ (⟨#[47]⟩ : ByteArray)) ++ t155) ++ (⟨#[47]⟩ : ByteArray)) ++ t156)) else (none))) else (none))) else (none))) else (none))) else (none)) = some r := H
    have A3 := Aside0.mk A30
    clear A30
    by_cases c4 : 1 + t153.size ≤ 9223372036854775807
    · rw [if_pos c4] at H
      have c4b0 := eq_true c4
      have c4b1 : decide (1 + t153.size ≤ 9223372036854775807) = true := decide_eq_true c4
      try have c4b2 : (9223372036854775807 < 1 + t153.size) = False := eq_false (Nat.not_lt.2 c4)
      by_cases c5 : (Int.tmod (wrap64 (Int.tdiv a0 4)) 4) = 0
      · rw [if_pos c5] at H
        have c5b0 : ((Int.tmod (wrap64 (Int.tdiv a0 4)) 4) == 0) = true := beq_iff_eq.mpr c5
        have c5b1 : ((Int.tmod (wrap64 (Int.tdiv a0 4)) 4) != 0) = false := bne_eq_false_iff_eq.mpr c5
        clear c5
        by_cases c6 : (Int.tmod (wrap64 (Int.tdiv a0 16)) 4) = 0
        · rw [if_pos c6] at H
          have c6b0 : ((Int.tmod (wrap64 (Int.tdiv a0 16)) 4) == 0) = true := beq_iff_eq.mpr c6
          have c6b1 : ((Int.tmod (wrap64 (Int.tdiv a0 16)) 4) != 0) = false := bne_eq_false_iff_eq.mpr c6
          clear c6
          obtain rfl := Option.some.inj H
          go_enter Tryd.func16, Tryd.ntmps16
          go_wp2_with (first | ((with_reducible refine gate_callee (f := 17) rfl ?_); refine goesL_ (some 8) rfl rfl Tryd.func17 (by kernel_rfl) rfl #[.int .i64 (Int.tmod a0 4)] rfl (by (try simp only [List.map_toArray, List.map_cons, List.map_nil]); first | done | rfl | (simp only [List.length_drop, List.length_take]; rfl)) ?_; (with_reducible refine (flintref25_letter.calls (Int.tmod a0 4) t153 _ A3.out).mono ?_); rintro e w7 ⟨rfl, hb⟩; refine ⟨_, rfl, ?_⟩; have n0_ := Aside0.mk (below_step (by repeat (first | (with_reducible first | exact HB.out | apply below_alloc | apply pw_below_drewN | apply below_drew1) | exact HB.out)) hb); clear HB; have HB := n0_; clear n0_; (try clear hb); (try clear hb2); (try clear hk); (try clear hi)))
          go_ret
          exact ⟨by first | rfl | (simp [errW_none, errW_some] <;> rfl) | (simp [*, errW_none, errW_some] <;> rfl), by repeat (first | (with_reducible first | exact HB.out | apply below_alloc | apply pw_below_drewN | apply below_drew1) | exact HB.out)⟩
        · rw [if_neg c6] at H
          have c6b0 : ((Int.tmod (wrap64 (Int.tdiv a0 16)) 4) == 0) = false := beq_eq_false_iff_ne.mpr c6
          have c6b1 : ((Int.tmod (wrap64 (Int.tdiv a0 16)) 4) != 0) = true := bne_iff_ne.mpr c6
          by_cases c8 : ((⟨#[47]⟩ : ByteArray) ++ t153).size + 1 ≤ 9223372036854775807
          · rw [if_pos c8] at H
            have c8b0 := eq_true c8
            have c8b1 : decide (((⟨#[47]⟩ : ByteArray) ++ t153).size + 1 ≤ 9223372036854775807) = true := decide_eq_true c8
            try (have c8s := c8; simp only [ByteArray.size_append, sz47_] at c8s; have c8n := eq_false (Nat.not_lt.2 c8s))
            try have c8b2 : (9223372036854775807 < ((⟨#[47]⟩ : ByteArray) ++ t153).size + 1) = False := eq_false (Nat.not_lt.2 c8)
            replace H := Option.bind_eq_some_iff.mp H
            obtain ⟨t154, A90, H⟩ := H
            replace H : (if (((⟨#[47]⟩ : ByteArray) ++ t153) ++ (⟨#[47]⟩ : ByteArray)).size + t154.size ≤ 9223372036854775807 then (some ((((⟨#[47]⟩ : ByteArray) ++ t153) ++ (⟨#[47]⟩ : ByteArray)) ++ t154)) else (none)) = some r := H
            have A9 := Aside0.mk A90
            clear A90
            by_cases c10 : (((⟨#[47]⟩ : ByteArray) ++ t153) ++ (⟨#[47]⟩ : ByteArray)).size + t154.size ≤ 9223372036854775807
            · rw [if_pos c10] at H
              have c10b0 := eq_true c10
              have c10b1 : decide ((((⟨#[47]⟩ : ByteArray) ++ t153) ++ (⟨#[47]⟩ : ByteArray)).size + t154.size ≤ 9223372036854775807) = true := decide_eq_true c10
              try (have c10s := c10; simp only [ByteArray.size_append, sz47_] at c10s; have c10n := eq_false (Nat.not_lt.2 c10s))
              try have c10b2 : (9223372036854775807 < (((⟨#[47]⟩ : ByteArray) ++ t153) ++ (⟨#[47]⟩ : ByteArray)).size + t154.size) = False := eq_false (Nat.not_lt.2 c10)
              obtain rfl := Option.some.inj H
              go_enter Tryd.func16, Tryd.ntmps16
              go_wp2_with (first | ((with_reducible refine gate_callee (f := 17) rfl ?_); refine goesL_ (some 8) rfl rfl Tryd.func17 (by kernel_rfl) rfl #[.int .i64 (Int.tmod a0 4)] rfl (by (try simp only [List.map_toArray, List.map_cons, List.map_nil]); first | done | rfl | (simp only [List.length_drop, List.length_take]; rfl)) ?_; (with_reducible refine (flintref25_letter.calls (Int.tmod a0 4) t153 _ A3.out).mono ?_); rintro e w11 ⟨rfl, hb⟩; refine ⟨_, rfl, ?_⟩; have n0_ := Aside0.mk (below_step (by repeat (first | (with_reducible first | exact HB.out | apply below_alloc | apply pw_below_drewN | apply below_drew1) | exact HB.out)) hb); clear HB; have HB := n0_; clear n0_; (try clear hb); (try clear hb2); (try clear hk); (try clear hi)) | ((with_reducible refine gate_callee (f := 17) rfl ?_); refine goesL_ (some 32) rfl rfl Tryd.func17 (by kernel_rfl) rfl #[.int .i64 (wrap64 ((Int.tmod (wrap64 (Int.tdiv a0 16)) 4) - 1))] rfl (by (try simp only [List.map_toArray, List.map_cons, List.map_nil]); first | done | rfl | (simp only [List.length_drop, List.length_take]; rfl)) ?_; (with_reducible refine (flintref25_letter.calls (wrap64 ((Int.tmod (wrap64 (Int.tdiv a0 16)) 4) - 1)) t154 _ A9.out).mono ?_); rintro e w12 ⟨rfl, hb⟩; refine ⟨_, rfl, ?_⟩; have n0_ := Aside0.mk (below_step (by repeat (first | (with_reducible first | exact HB.out | apply below_alloc | apply pw_below_drewN | apply below_drew1) | exact HB.out)) hb); clear HB; have HB := n0_; clear n0_; (try clear hb); (try clear hb2); (try clear hk); (try clear hi)))
              go_ret
              exact ⟨by first | rfl | (simp [errW_none, errW_some] <;> rfl) | (simp [*, errW_none, errW_some] <;> rfl), by repeat (first | (with_reducible first | exact HB.out | apply below_alloc | apply pw_below_drewN | apply below_drew1) | exact HB.out)⟩
            · rw [if_neg c10] at H
              exact absurd H (by simp)
          · rw [if_neg c8] at H
            exact absurd H (by simp)
      · rw [if_neg c5] at H
        have c5b0 : ((Int.tmod (wrap64 (Int.tdiv a0 4)) 4) == 0) = false := beq_eq_false_iff_ne.mpr c5
        have c5b1 : ((Int.tmod (wrap64 (Int.tdiv a0 4)) 4) != 0) = true := bne_iff_ne.mpr c5
        by_cases c13 : ((⟨#[47]⟩ : ByteArray) ++ t153).size + 1 ≤ 9223372036854775807
        · rw [if_pos c13] at H
          have c13b0 := eq_true c13
          have c13b1 : decide (((⟨#[47]⟩ : ByteArray) ++ t153).size + 1 ≤ 9223372036854775807) = true := decide_eq_true c13
          try (have c13s := c13; simp only [ByteArray.size_append, sz47_] at c13s; have c13n := eq_false (Nat.not_lt.2 c13s))
          try have c13b2 : (9223372036854775807 < ((⟨#[47]⟩ : ByteArray) ++ t153).size + 1) = False := eq_false (Nat.not_lt.2 c13)
          replace H := Option.bind_eq_some_iff.mp H
          obtain ⟨t155, A140, H⟩ := H
          replace H : (if (((⟨#[47]⟩ : ByteArray) ++ t153) ++ (⟨#[47]⟩ : ByteArray)).size + t155.size ≤ 9223372036854775807 then (if (Int.tmod (wrap64 (Int.tdiv a0 16)) 4) = 0 then (some ((((⟨#[47]⟩ : ByteArray) ++ t153) ++ (⟨#[47]⟩ : ByteArray)) ++ t155)) else (if ((((⟨#[47]⟩ : ByteArray) ++ t153) ++ (⟨#[47]⟩ : ByteArray)) ++ t155).size + 1 ≤ 9223372036854775807 then ((flintref25_letter.f (wrap64 ((Int.tmod (wrap64 (Int.tdiv a0 16)) 4) - 1))).bind fun t156 => (if (((((⟨#[47]⟩ : ByteArray) ++ t153) ++ (⟨#[47]⟩ : ByteArray)) ++ t155) ++ (⟨#[47]⟩ : ByteArray)).size + t156.size ≤ 9223372036854775807 then (some ((((((⟨#[47]⟩ : ByteArray) ++ t153) ++ (⟨#[47]⟩ : ByteArray)) ++ t155) ++ (⟨#[47]⟩ : ByteArray)) ++ t156)) else (none))) else (none))) else (none)) = some r := H
          have A14 := Aside0.mk A140
          clear A140
          by_cases c15 : (((⟨#[47]⟩ : ByteArray) ++ t153) ++ (⟨#[47]⟩ : ByteArray)).size + t155.size ≤ 9223372036854775807
          · rw [if_pos c15] at H
            have c15b0 := eq_true c15
            have c15b1 : decide ((((⟨#[47]⟩ : ByteArray) ++ t153) ++ (⟨#[47]⟩ : ByteArray)).size + t155.size ≤ 9223372036854775807) = true := decide_eq_true c15
            try (have c15s := c15; simp only [ByteArray.size_append, sz47_] at c15s; have c15n := eq_false (Nat.not_lt.2 c15s))
            try have c15b2 : (9223372036854775807 < (((⟨#[47]⟩ : ByteArray) ++ t153) ++ (⟨#[47]⟩ : ByteArray)).size + t155.size) = False := eq_false (Nat.not_lt.2 c15)
            by_cases c16 : (Int.tmod (wrap64 (Int.tdiv a0 16)) 4) = 0
            · rw [if_pos c16] at H
              have c16b0 : ((Int.tmod (wrap64 (Int.tdiv a0 16)) 4) == 0) = true := beq_iff_eq.mpr c16
              have c16b1 : ((Int.tmod (wrap64 (Int.tdiv a0 16)) 4) != 0) = false := bne_eq_false_iff_eq.mpr c16
              clear c16
              obtain rfl := Option.some.inj H
              go_enter Tryd.func16, Tryd.ntmps16
              go_wp2_with (first | ((with_reducible refine gate_callee (f := 17) rfl ?_); refine goesL_ (some 8) rfl rfl Tryd.func17 (by kernel_rfl) rfl #[.int .i64 (Int.tmod a0 4)] rfl (by (try simp only [List.map_toArray, List.map_cons, List.map_nil]); first | done | rfl | (simp only [List.length_drop, List.length_take]; rfl)) ?_; (with_reducible refine (flintref25_letter.calls (Int.tmod a0 4) t153 _ A3.out).mono ?_); rintro e w17 ⟨rfl, hb⟩; refine ⟨_, rfl, ?_⟩; have n0_ := Aside0.mk (below_step (by repeat (first | (with_reducible first | exact HB.out | apply below_alloc | apply pw_below_drewN | apply below_drew1) | exact HB.out)) hb); clear HB; have HB := n0_; clear n0_; (try clear hb); (try clear hb2); (try clear hk); (try clear hi)) | ((with_reducible refine gate_callee (f := 17) rfl ?_); refine goesL_ (some 20) rfl rfl Tryd.func17 (by kernel_rfl) rfl #[.int .i64 (wrap64 ((Int.tmod (wrap64 (Int.tdiv a0 4)) 4) - 1))] rfl (by (try simp only [List.map_toArray, List.map_cons, List.map_nil]); first | done | rfl | (simp only [List.length_drop, List.length_take]; rfl)) ?_; (with_reducible refine (flintref25_letter.calls (wrap64 ((Int.tmod (wrap64 (Int.tdiv a0 4)) 4) - 1)) t155 _ A14.out).mono ?_); rintro e w18 ⟨rfl, hb⟩; refine ⟨_, rfl, ?_⟩; have n0_ := Aside0.mk (below_step (by repeat (first | (with_reducible first | exact HB.out | apply below_alloc | apply pw_below_drewN | apply below_drew1) | exact HB.out)) hb); clear HB; have HB := n0_; clear n0_; (try clear hb); (try clear hb2); (try clear hk); (try clear hi)))
              go_ret
              exact ⟨by first | rfl | (simp [errW_none, errW_some] <;> rfl) | (simp [*, errW_none, errW_some] <;> rfl), by repeat (first | (with_reducible first | exact HB.out | apply below_alloc | apply pw_below_drewN | apply below_drew1) | exact HB.out)⟩
            · rw [if_neg c16] at H
              have c16b0 : ((Int.tmod (wrap64 (Int.tdiv a0 16)) 4) == 0) = false := beq_eq_false_iff_ne.mpr c16
              have c16b1 : ((Int.tmod (wrap64 (Int.tdiv a0 16)) 4) != 0) = true := bne_iff_ne.mpr c16
              by_cases c19 : ((((⟨#[47]⟩ : ByteArray) ++ t153) ++ (⟨#[47]⟩ : ByteArray)) ++ t155).size + 1 ≤ 9223372036854775807
              · rw [if_pos c19] at H
                have c19b0 := eq_true c19
                have c19b1 : decide (((((⟨#[47]⟩ : ByteArray) ++ t153) ++ (⟨#[47]⟩ : ByteArray)) ++ t155).size + 1 ≤ 9223372036854775807) = true := decide_eq_true c19
                try (have c19s := c19; simp only [ByteArray.size_append, sz47_] at c19s; have c19n := eq_false (Nat.not_lt.2 c19s))
                try have c19b2 : (9223372036854775807 < ((((⟨#[47]⟩ : ByteArray) ++ t153) ++ (⟨#[47]⟩ : ByteArray)) ++ t155).size + 1) = False := eq_false (Nat.not_lt.2 c19)
                replace H := Option.bind_eq_some_iff.mp H
                obtain ⟨t156, A200, H⟩ := H
                replace H : (if (((((⟨#[47]⟩ : ByteArray) ++ t153) ++ (⟨#[47]⟩ : ByteArray)) ++ t155) ++ (⟨#[47]⟩ : ByteArray)).size + t156.size ≤ 9223372036854775807 then (some ((((((⟨#[47]⟩ : ByteArray) ++ t153) ++ (⟨#[47]⟩ : ByteArray)) ++ t155) ++ (⟨#[47]⟩ : ByteArray)) ++ t156)) else (none)) = some r := H
                have A20 := Aside0.mk A200
                clear A200
                by_cases c21 : (((((⟨#[47]⟩ : ByteArray) ++ t153) ++ (⟨#[47]⟩ : ByteArray)) ++ t155) ++ (⟨#[47]⟩ : ByteArray)).size + t156.size ≤ 9223372036854775807
                · rw [if_pos c21] at H
                  have c21b0 := eq_true c21
                  have c21b1 : decide ((((((⟨#[47]⟩ : ByteArray) ++ t153) ++ (⟨#[47]⟩ : ByteArray)) ++ t155) ++ (⟨#[47]⟩ : ByteArray)).size + t156.size ≤ 9223372036854775807) = true := decide_eq_true c21
                  try (have c21s := c21; simp only [ByteArray.size_append, sz47_] at c21s; have c21n := eq_false (Nat.not_lt.2 c21s))
                  try have c21b2 : (9223372036854775807 < (((((⟨#[47]⟩ : ByteArray) ++ t153) ++ (⟨#[47]⟩ : ByteArray)) ++ t155) ++ (⟨#[47]⟩ : ByteArray)).size + t156.size) = False := eq_false (Nat.not_lt.2 c21)
                  obtain rfl := Option.some.inj H
                  go_enter Tryd.func16, Tryd.ntmps16
                  go_wp2_with (first | ((with_reducible refine gate_callee (f := 17) rfl ?_); refine goesL_ (some 8) rfl rfl Tryd.func17 (by kernel_rfl) rfl #[.int .i64 (Int.tmod a0 4)] rfl (by (try simp only [List.map_toArray, List.map_cons, List.map_nil]); first | done | rfl | (simp only [List.length_drop, List.length_take]; rfl)) ?_; (with_reducible refine (flintref25_letter.calls (Int.tmod a0 4) t153 _ A3.out).mono ?_); rintro e w22 ⟨rfl, hb⟩; refine ⟨_, rfl, ?_⟩; have n0_ := Aside0.mk (below_step (by repeat (first | (with_reducible first | exact HB.out | apply below_alloc | apply pw_below_drewN | apply below_drew1) | exact HB.out)) hb); clear HB; have HB := n0_; clear n0_; (try clear hb); (try clear hb2); (try clear hk); (try clear hi)) | ((with_reducible refine gate_callee (f := 17) rfl ?_); refine goesL_ (some 20) rfl rfl Tryd.func17 (by kernel_rfl) rfl #[.int .i64 (wrap64 ((Int.tmod (wrap64 (Int.tdiv a0 4)) 4) - 1))] rfl (by (try simp only [List.map_toArray, List.map_cons, List.map_nil]); first | done | rfl | (simp only [List.length_drop, List.length_take]; rfl)) ?_; (with_reducible refine (flintref25_letter.calls (wrap64 ((Int.tmod (wrap64 (Int.tdiv a0 4)) 4) - 1)) t155 _ A14.out).mono ?_); rintro e w23 ⟨rfl, hb⟩; refine ⟨_, rfl, ?_⟩; have n0_ := Aside0.mk (below_step (by repeat (first | (with_reducible first | exact HB.out | apply below_alloc | apply pw_below_drewN | apply below_drew1) | exact HB.out)) hb); clear HB; have HB := n0_; clear n0_; (try clear hb); (try clear hb2); (try clear hk); (try clear hi)) | ((with_reducible refine gate_callee (f := 17) rfl ?_); refine goesL_ (some 32) rfl rfl Tryd.func17 (by kernel_rfl) rfl #[.int .i64 (wrap64 ((Int.tmod (wrap64 (Int.tdiv a0 16)) 4) - 1))] rfl (by (try simp only [List.map_toArray, List.map_cons, List.map_nil]); first | done | rfl | (simp only [List.length_drop, List.length_take]; rfl)) ?_; (with_reducible refine (flintref25_letter.calls (wrap64 ((Int.tmod (wrap64 (Int.tdiv a0 16)) 4) - 1)) t156 _ A20.out).mono ?_); rintro e w24 ⟨rfl, hb⟩; refine ⟨_, rfl, ?_⟩; have n0_ := Aside0.mk (below_step (by repeat (first | (with_reducible first | exact HB.out | apply below_alloc | apply pw_below_drewN | apply below_drew1) | exact HB.out)) hb); clear HB; have HB := n0_; clear n0_; (try clear hb); (try clear hb2); (try clear hk); (try clear hi)))
                  go_ret
                  exact ⟨by first | rfl | (simp [errW_none, errW_some] <;> rfl) | (simp [*, errW_none, errW_some] <;> rfl), by repeat (first | (with_reducible first | exact HB.out | apply below_alloc | apply pw_below_drewN | apply below_drew1) | exact HB.out)⟩
                · rw [if_neg c21] at H
                  exact absurd H (by simp)
              · rw [if_neg c19] at H
                exact absurd H (by simp)
          · rw [if_neg c15] at H
            exact absurd H (by simp)
        · rw [if_neg c13] at H
          exact absurd H (by simp)
    · rw [if_neg c4] at H
      exact absurd H (by simp)

end Go.Proofs.YtdpnhjhbdobhjaaDoor.G
