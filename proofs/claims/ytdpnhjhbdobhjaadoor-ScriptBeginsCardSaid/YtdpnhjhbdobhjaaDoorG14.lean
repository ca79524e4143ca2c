-- Written by wip/gen.py: the kit's print.py, with this session's own texts where it takes a function not. Not trusted: Lean checks it.
import Derived.Test.YtdpnhjhbdobhjaaDoorG0
namespace Go.Proofs.YtdpnhjhbdobhjaaDoor.G
open Go.RowKit Go.Proofs.YtdpnhjhbdobhjaaDoorW.PrintWords Go.Proofs.YtdpnhjhbdobhjaaDoorW.PrintLast Go.Proofs.YtdpnhjhbdobhjaaDoorW.PrintMore
attribute [local go_sem] max2_int min2_int max_two min_two max_three min_three max_four min_four   -- for this text's walks alone
set_option linter.unusedVariables false
set_option linter.unusedSimpArgs false

/-! ### flintref20_Great: function 14 -/
def flintref20_Great.f (a0_0 : Int) (a0_1 : ByteArray) (a0_2 : ByteArray) (a0_3 : Int) (a0_4 : Int) (a0_5 : Int) (l0_6 : List Int) : Option (Bool) := if (a0_1.size : Int) > 600 then (some true) else (if (a0_2.size : Int) > 600 then (some true) else (some (decide ((l0_6.length : Int) > 1500))))
set_option maxHeartbeats 8000000 in
set_option maxRecDepth 100000 in
theorem flintref20_Great.calls (a0_0 : Int) (a0_1 : ByteArray) (a0_2 : ByteArray) (a0_3 : Int) (a0_4 : Int) (a0_5 : Int) (A0_6 : Option Addr) (c0_6 : Nat) (l0_6 : List Int) (r : Bool) (w : World) (hr0_6 : Kd.C (Kd.int .u8) w A0_6 l0_6.length l0_6) (hc0_6 : l0_6.length ≤ c0_6) (h : flintref20_Great.f a0_0 a0_1 a0_2 a0_3 a0_4 a0_5 l0_6 = some r) :
    Calls Tryd.prog 14 #[.agg #[.int .u8 a0_0, .string a0_1, .string a0_2, .int .i64 a0_3, .int .i64 a0_4, .int .i64 a0_5, .slice A0_6 l0_6.length c0_6]] w fun e w' => e = .returned (.bool r) ∧ Below w.heap.size w w' := by
  have hu28 := Tryd.underlying28
  have HR0_6 := Aside0.mk hr0_6
  have HC0_6 := Aside0.mk hc0_6
  clear hr0_6 hc0_6
  have HB := Aside0.mk (Below.refl w.heap.size w)
  have H : (if (a0_1.size : Int) > 600 then (some true) else (if (a0_2.size : Int) > 600 then (some true) else (some (decide ((l0_6.length : Int) > 1500))))) = some r := h
  clear h
  by_cases c2 : (a0_1.size : Int) > 600
  · rw [if_pos c2] at H
    have c2b0 : decide (600 < (a0_1.size : Int)) = true := decide_eq_true c2
    have c2b1 : decide (600 < a0_1.size) = true := decide_eq_true (by omega)
    clear c2
    obtain rfl := Option.some.inj H
    go_enter Tryd.func14, Tryd.ntmps14
    go_wp2_with (first | ((with_reducible refine gate_dst (N := 1) rfl ?_); (try (refine gate_guard (by rfl) ?_; dsimp only)); refine box_event ?hg (N := 1) ?hd (cs := #[.int .u8 a0_0, .string a0_1, .string a0_2, .int .i64 a0_3, .int .i64 a0_4, .int .i64 a0_5, .slice A0_6 l0_6.length c0_6]) (t := 28) ?hr ?_; (case hd => rfl); (case hg => rfl); (case hr => first | (go_simp; done) | (go_simp; rfl)); intro gb197 hg w3 hbox hb; have n0_ := Aside0.mk (below_step (by repeat (first | (with_reducible first | exact HB.out | apply below_alloc | apply pw_below_drewN | apply below_drew1) | exact HB.out)) hb); have n1_ := Aside0.mk (hbox); have n2_ := Aside0.mk ((by rw [hg]; exact (below_size (by repeat (first | (with_reducible first | exact HB.out | apply below_alloc | apply pw_below_drewN | apply below_drew1) | exact HB.out))) : w.heap.size ≤ gb197)); have n3_ := Aside0.mk ((by rw [hg]; exact (below_size (by repeat (first | (with_reducible first | exact HB.out | apply below_alloc | apply pw_below_drewN | apply below_drew1) | exact HB.out))) : w.heap.size ≤ gb197)); clear HB; have HB := n0_; have BK197 := n1_; have GW197 := n2_; have GE197 := n3_; clear n0_ n1_ n2_ n3_; clear hb hbox hg; have hcz4_0 : w3.cell? ⟨gb197, 0, none⟩ = some (.int .u8 a0_0) := (blk_cell BK197.out 0).trans rfl; have hcz4_1 : w3.cell? ⟨gb197, 1, none⟩ = some (.string a0_1) := (blk_cell BK197.out 1).trans rfl; have hcz4_2 : w3.cell? ⟨gb197, 2, none⟩ = some (.string a0_2) := (blk_cell BK197.out 2).trans rfl; have hcz4_3 : w3.cell? ⟨gb197, 3, none⟩ = some (.int .i64 a0_3) := (blk_cell BK197.out 3).trans rfl; have hcz4_4 : w3.cell? ⟨gb197, 4, none⟩ = some (.int .i64 a0_4) := (blk_cell BK197.out 4).trans rfl; have hcz4_5 : w3.cell? ⟨gb197, 5, none⟩ = some (.int .i64 a0_5) := (blk_cell BK197.out 5).trans rfl; have hcz4_6 : w3.cell? ⟨gb197, 6, none⟩ = some (.slice A0_6 l0_6.length c0_6) := (blk_cell BK197.out 6).trans rfl; have hfz4_0 := blk_frozen BK197.out 0; have hfz4_1 := blk_frozen BK197.out 1; have hfz4_2 := blk_frozen BK197.out 2; have hfz4_3 := blk_frozen BK197.out 3; have hfz4_4 := blk_frozen BK197.out 4; have hfz4_5 := blk_frozen BK197.out 5; have hfz4_6 := blk_frozen BK197.out 6))
    go_ret
    exact ⟨by first | rfl | (simp [errW_none, errW_some] <;> rfl) | (simp [*, errW_none, errW_some] <;> rfl), by repeat (first | (with_reducible first | exact HB.out | apply below_alloc | apply pw_below_drewN | apply below_drew1 | refine below_set ?_ GE197.out) | exact HB.out)⟩
  · rw [if_neg c2] at H
    have c2b0 : decide (600 < (a0_1.size : Int)) = false := decide_eq_false c2
    have c2b1 : decide (600 < a0_1.size) = false := decide_eq_false (by omega)
    clear c2
    by_cases c5 : (a0_2.size : Int) > 600
    · rw [if_pos c5] at H
      have c5b0 : decide (600 < (a0_2.size : Int)) = true := decide_eq_true c5
      have c5b1 : decide (600 < a0_2.size) = true := decide_eq_true (by omega)
      clear c5
      obtain rfl := Option.some.inj H
      go_enter Tryd.func14, Tryd.ntmps14
      go_wp2_with (first | ((with_reducible refine gate_dst (N := 1) rfl ?_); (try (refine gate_guard (by rfl) ?_; dsimp only)); refine box_event ?hg (N := 1) ?hd (cs := #[.int .u8 a0_0, .string a0_1, .string a0_2, .int .i64 a0_3, .int .i64 a0_4, .int .i64 a0_5, .slice A0_6 l0_6.length c0_6]) (t := 28) ?hr ?_; (case hd => rfl); (case hg => rfl); (case hr => first | (go_simp; done) | (go_simp; rfl)); intro gb197 hg w6 hbox hb; have n0_ := Aside0.mk (below_step (by repeat (first | (with_reducible first | exact HB.out | apply below_alloc | apply pw_below_drewN | apply below_drew1) | exact HB.out)) hb); have n1_ := Aside0.mk (hbox); have n2_ := Aside0.mk ((by rw [hg]; exact (below_size (by repeat (first | (with_reducible first | exact HB.out | apply below_alloc | apply pw_below_drewN | apply below_drew1) | exact HB.out))) : w.heap.size ≤ gb197)); have n3_ := Aside0.mk ((by rw [hg]; exact (below_size (by repeat (first | (with_reducible first | exact HB.out | apply below_alloc | apply pw_below_drewN | apply below_drew1) | exact HB.out))) : w.heap.size ≤ gb197)); clear HB; have HB := n0_; have BK197 := n1_; have GW197 := n2_; have GE197 := n3_; clear n0_ n1_ n2_ n3_; clear hb hbox hg; have hcz7_0 : w6.cell? ⟨gb197, 0, none⟩ = some (.int .u8 a0_0) := (blk_cell BK197.out 0).trans rfl; have hcz7_1 : w6.cell? ⟨gb197, 1, none⟩ = some (.string a0_1) := (blk_cell BK197.out 1).trans rfl; have hcz7_2 : w6.cell? ⟨gb197, 2, none⟩ = some (.string a0_2) := (blk_cell BK197.out 2).trans rfl; have hcz7_3 : w6.cell? ⟨gb197, 3, none⟩ = some (.int .i64 a0_3) := (blk_cell BK197.out 3).trans rfl; have hcz7_4 : w6.cell? ⟨gb197, 4, none⟩ = some (.int .i64 a0_4) := (blk_cell BK197.out 4).trans rfl; have hcz7_5 : w6.cell? ⟨gb197, 5, none⟩ = some (.int .i64 a0_5) := (blk_cell BK197.out 5).trans rfl; have hcz7_6 : w6.cell? ⟨gb197, 6, none⟩ = some (.slice A0_6 l0_6.length c0_6) := (blk_cell BK197.out 6).trans rfl; have hfz7_0 := blk_frozen BK197.out 0; have hfz7_1 := blk_frozen BK197.out 1; have hfz7_2 := blk_frozen BK197.out 2; have hfz7_3 := blk_frozen BK197.out 3; have hfz7_4 := blk_frozen BK197.out 4; have hfz7_5 := blk_frozen BK197.out 5; have hfz7_6 := blk_frozen BK197.out 6))
      go_ret
      exact ⟨by first | rfl | (simp [errW_none, errW_some] <;> rfl) | (simp [*, errW_none, errW_some] <;> rfl), by repeat (first | (with_reducible first | exact HB.out | apply below_alloc | apply pw_below_drewN | apply below_drew1 | refine below_set ?_ GE197.out) | exact HB.out)⟩
    · rw [if_neg c5] at H
      have c5b0 : decide (600 < (a0_2.size : Int)) = false := decide_eq_false c5
      have c5b1 : decide (600 < a0_2.size) = false := decide_eq_false (by omega)
      clear c5
      obtain rfl := Option.some.inj H
      go_enter Tryd.func14, Tryd.ntmps14
      go_wp2_with (first | ((with_reducible refine gate_dst (N := 1) rfl ?_); (try (refine gate_guard (by rfl) ?_; dsimp only)); refine box_event ?hg (N := 1) ?hd (cs := #[.int .u8 a0_0, .string a0_1, .string a0_2, .int .i64 a0_3, .int .i64 a0_4, .int .i64 a0_5, .slice A0_6 l0_6.length c0_6]) (t := 28) ?hr ?_; (case hd => rfl); (case hg => rfl); (case hr => first | (go_simp; done) | (go_simp; rfl)); intro gb197 hg w8 hbox hb; have n0_ := Aside0.mk (below_step (by repeat (first | (with_reducible first | exact HB.out | apply below_alloc | apply pw_below_drewN | apply below_drew1) | exact HB.out)) hb); have n1_ := Aside0.mk (hbox); have n2_ := Aside0.mk ((by rw [hg]; exact (below_size (by repeat (first | (with_reducible first | exact HB.out | apply below_alloc | apply pw_below_drewN | apply below_drew1) | exact HB.out))) : w.heap.size ≤ gb197)); have n3_ := Aside0.mk ((by rw [hg]; exact (below_size (by repeat (first | (with_reducible first | exact HB.out | apply below_alloc | apply pw_below_drewN | apply below_drew1) | exact HB.out))) : w.heap.size ≤ gb197)); clear HB; have HB := n0_; have BK197 := n1_; have GW197 := n2_; have GE197 := n3_; clear n0_ n1_ n2_ n3_; clear hb hbox hg; have hcz9_0 : w8.cell? ⟨gb197, 0, none⟩ = some (.int .u8 a0_0) := (blk_cell BK197.out 0).trans rfl; have hcz9_1 : w8.cell? ⟨gb197, 1, none⟩ = some (.string a0_1) := (blk_cell BK197.out 1).trans rfl; have hcz9_2 : w8.cell? ⟨gb197, 2, none⟩ = some (.string a0_2) := (blk_cell BK197.out 2).trans rfl; have hcz9_3 : w8.cell? ⟨gb197, 3, none⟩ = some (.int .i64 a0_3) := (blk_cell BK197.out 3).trans rfl; have hcz9_4 : w8.cell? ⟨gb197, 4, none⟩ = some (.int .i64 a0_4) := (blk_cell BK197.out 4).trans rfl; have hcz9_5 : w8.cell? ⟨gb197, 5, none⟩ = some (.int .i64 a0_5) := (blk_cell BK197.out 5).trans rfl; have hcz9_6 : w8.cell? ⟨gb197, 6, none⟩ = some (.slice A0_6 l0_6.length c0_6) := (blk_cell BK197.out 6).trans rfl; have hfz9_0 := blk_frozen BK197.out 0; have hfz9_1 := blk_frozen BK197.out 1; have hfz9_2 := blk_frozen BK197.out 2; have hfz9_3 := blk_frozen BK197.out 3; have hfz9_4 := blk_frozen BK197.out 4; have hfz9_5 := blk_frozen BK197.out 5; have hfz9_6 := blk_frozen BK197.out 6))
      go_ret
      exact ⟨by first | rfl | (simp [errW_none, errW_some] <;> rfl) | (simp [*, errW_none, errW_some] <;> rfl), by repeat (first | (with_reducible first | exact HB.out | apply below_alloc | apply pw_below_drewN | apply below_drew1 | refine below_set ?_ GE197.out) | exact HB.out)⟩

end Go.Proofs.YtdpnhjhbdobhjaaDoor.G
