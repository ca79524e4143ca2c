-- Written by wip/gen.py: the kit's print.py, with this session's own texts where it takes a function not. Not trusted: Lean checks it.
import Derived.Test.YtdpnhjhbdobhjaaDoorG0
import Derived.Test.YtdpnhjhbdobhjaaDoorG3
namespace Go.Proofs.YtdpnhjhbdobhjaaDoor.G
open Go.RowKit Go.Proofs.YtdpnhjhbdobhjaaDoorW.PrintWords Go.Proofs.YtdpnhjhbdobhjaaDoorW.PrintLast Go.Proofs.YtdpnhjhbdobhjaaDoorW.PrintMore
attribute [local go_sem] max2_int min2_int max_two min_two max_three min_three max_four min_four   -- for this text's walks alone
set_option linter.unusedVariables false
set_option linter.unusedSimpArgs false

/-! ### script_op: function 15 -/
mutual
def script_op.j1 : Nat → Int → Int → Int → Int → ByteArray → ByteArray → Int → Int → Int → Option (Int × ByteArray × ByteArray × Int × Int × Int × List Int)
  | 0, _, _, _, _, _, _, _, _, _ => none
  | k + 1, x0, x1, x2, x105000, x105001, x105002, x105003, x105004, x105005 => if x0 = 11 then (script_op.j2 k x1 x2 x0 (x0 == 11) x105000 x105001 x105002 x105003 x105004 x105005) else (script_op.j2 k x1 x2 x0 (x0 == 12) x105000 x105001 x105002 x105003 x105004 x105005)
def script_op.j2 : Nat → Int → Int → Int → Bool → Int → ByteArray → ByteArray → Int → Int → Int → Option (Int × ByteArray × ByteArray × Int × Int × Int × List Int)
  | 0, _, _, _, _, _, _, _, _, _, _ => none
  | k + 1, x1, x2, x29, x30, x105000, x105001, x105002, x105003, x105004, x105005 => if x30 = true then ((script_Path.f x2).bind fun t106 => (some (x105000, x105001, t106, x105003, x105004, x105005, ([] : List Int)))) else (if x29 = 10 then (some (x105000, x105001, x105002, x105003, x105004, wrap64 (2 * (wrap64 (x1))), ([] : List Int))) else (if x29 = 8 then (some (x105000, x105001, x105002, x105003, wrap64 (x1), wrap64 (x2), ([] : List Int))) else (if x29 = 9 then (script_op.l0 k x1 ((1 + (Int.tmod x2 70)) % 256) 0 x105000 x105001 x105002 x105003 (wrap64 (x1)) x105005 ([] : List Int)) else (some (x105000, x105001, x105002, x105003, x105004, x105005, ([] : List Int))))))
def script_op.l0 : Nat → Int → Int → Int → Int → ByteArray → ByteArray → Int → Int → Int → List Int → Option (Int × ByteArray × ByteArray × Int × Int × Int × List Int)
  | 0, _, _, _, _, _, _, _, _, _, _ => none
  | k + 1, x1, x57, x58, x105000, x105001, x105002, x105003, x105004, x105005, x105006 => if x58 < x57 then (if x105006.length < 140737488355328 then (script_op.l0 k x1 x57 ((x58 + 1) % 256) x105000 x105001 x105002 x105003 x105004 x105005 (x105006 ++ [(x1 + x58) % 256])) else (none)) else (some (x105000, x105001, x105002, x105003, x105004, x105005, x105006))
def script_op.j0 : Nat → Int → Int → Int → Int → Bool → Int → ByteArray → ByteArray → Int → Int → Int → Option (Int × ByteArray × ByteArray × Int × Int × Int × List Int)
  | 0, _, _, _, _, _, _, _, _, _, _, _ => none
  | k + 1, x0, x1, x2, x11, x15, x105000, x105001, x105002, x105003, x105004, x105005 => if x15 = true then (some (x105000, x105001, x105002, x105003, x105004, x105005, ([] : List Int))) else (if x11 = 7 then (script_op.j1 k x0 x1 x2 x105000 x105001 x105002 (wrap64 (Int.tmod x2 4)) x105004 x105005) else (if x11 = 8 then (script_op.j1 k x0 x1 x2 x105000 x105001 x105002 (wrap64 (Int.tmod x2 4)) x105004 x105005) else (if x11 = 9 then (script_op.j1 k x0 x1 x2 x105000 x105001 x105002 (wrap64 (Int.tmod x2 4)) x105004 x105005) else (if x11 = 10 then (script_op.j1 k x0 x1 x2 x105000 x105001 x105002 (wrap64 (Int.tmod x2 4)) x105004 x105005) else ((script_Path.f x1).bind fun t105 => (script_op.j1 k x0 x1 x2 x105000 t105 x105002 x105003 x105004 x105005))))))
end
def script_op.f (k : Nat) (a0 : Int) (a1 : Int) (a2 : Int) : Option (Int × ByteArray × ByteArray × Int × Int × Int × List Int) := if a0 = 1 then (script_op.j0 k a0 a1 a2 a0 (a0 == 1) a0 (⟨#[]⟩ : ByteArray) (⟨#[]⟩ : ByteArray) 0 0 0) else (if a0 = 2 then (script_op.j0 k a0 a1 a2 a0 (a0 == 2) a0 (⟨#[]⟩ : ByteArray) (⟨#[]⟩ : ByteArray) 0 0 0) else (script_op.j0 k a0 a1 a2 a0 (a0 == 3) a0 (⟨#[]⟩ : ByteArray) (⟨#[]⟩ : ByteArray) 0 0 0))
theorem script_op.mono_l : ∀ k, (∀ y0 y1 y2 y3 y4 y5 y6 y7 y8, LeO (script_op.j1 k y0 y1 y2 y3 y4 y5 y6 y7 y8) (script_op.j1 (k + 1) y0 y1 y2 y3 y4 y5 y6 y7 y8)) ∧ (∀ y0 y1 y2 y3 y4 y5 y6 y7 y8 y9, LeO (script_op.j2 k y0 y1 y2 y3 y4 y5 y6 y7 y8 y9) (script_op.j2 (k + 1) y0 y1 y2 y3 y4 y5 y6 y7 y8 y9)) ∧ (∀ y0 y1 y2 y3 y4 y5 y6 y7 y8 y9, LeO (script_op.l0 k y0 y1 y2 y3 y4 y5 y6 y7 y8 y9) (script_op.l0 (k + 1) y0 y1 y2 y3 y4 y5 y6 y7 y8 y9)) ∧ (∀ y0 y1 y2 y3 y4 y5 y6 y7 y8 y9 y10, LeO (script_op.j0 k y0 y1 y2 y3 y4 y5 y6 y7 y8 y9 y10) (script_op.j0 (k + 1) y0 y1 y2 y3 y4 y5 y6 y7 y8 y9 y10))
  | 0 => ⟨fun _ _ _ _ _ _ _ _ _ r h => by simp [script_op.j1] at h, fun _ _ _ _ _ _ _ _ _ _ r h => by simp [script_op.j2] at h, fun _ _ _ _ _ _ _ _ _ _ r h => by simp [script_op.l0] at h, fun _ _ _ _ _ _ _ _ _ _ _ r h => by simp [script_op.j0] at h⟩
  | k + 1 => by
    obtain ⟨ih0, ih1, ih2, ih3⟩ := script_op.mono_l k
    refine ⟨?_, ?_, ?_, ?_⟩
    · intro y0 y1 y2 y3 y4 y5 y6 y7 y8
      unfold script_op.j1
      repeat' first
      | (with_reducible exact ih0 _ _ _ _ _ _ _ _ _)
      | (with_reducible exact ih1 _ _ _ _ _ _ _ _ _ _)
      | (with_reducible exact ih2 _ _ _ _ _ _ _ _ _ _)
      | (with_reducible exact ih3 _ _ _ _ _ _ _ _ _ _ _)
      | (with_reducible exact LeO.refl _)
      | (with_reducible exact LeO.none _)
      | (with_reducible refine LeO.ite ?_ ?_)
      | (with_reducible refine LeO.bind ?_ (fun _ => ?_))
      | exact ih0 _ _ _ _ _ _ _ _ _
      | exact ih1 _ _ _ _ _ _ _ _ _ _
      | exact ih2 _ _ _ _ _ _ _ _ _ _
      | exact ih3 _ _ _ _ _ _ _ _ _ _ _
      | exact LeO.none _
      | refine LeO.ite ?_ ?_
      | refine LeO.bind ?_ (fun _ => ?_)
    · intro y0 y1 y2 y3 y4 y5 y6 y7 y8 y9
      unfold script_op.j2
      repeat' first
      | (with_reducible exact ih0 _ _ _ _ _ _ _ _ _)
      | (with_reducible exact ih1 _ _ _ _ _ _ _ _ _ _)
      | (with_reducible exact ih2 _ _ _ _ _ _ _ _ _ _)
      | (with_reducible exact ih3 _ _ _ _ _ _ _ _ _ _ _)
      | (with_reducible exact LeO.refl _)
      | (with_reducible exact LeO.none _)
      | (with_reducible refine LeO.ite ?_ ?_)
      | (with_reducible refine LeO.bind ?_ (fun _ => ?_))
      | exact ih0 _ _ _ _ _ _ _ _ _
      | exact ih1 _ _ _ _ _ _ _ _ _ _
      | exact ih2 _ _ _ _ _ _ _ _ _ _
      | exact ih3 _ _ _ _ _ _ _ _ _ _ _
      | exact LeO.none _
      | refine LeO.ite ?_ ?_
      | refine LeO.bind ?_ (fun _ => ?_)
    · intro y0 y1 y2 y3 y4 y5 y6 y7 y8 y9
      unfold script_op.l0
      repeat' first
      | (with_reducible exact ih0 _ _ _ _ _ _ _ _ _)
      | (with_reducible exact ih1 _ _ _ _ _ _ _ _ _ _)
      | (with_reducible exact ih2 _ _ _ _ _ _ _ _ _ _)
      | (with_reducible exact ih3 _ _ _ _ _ _ _ _ _ _ _)
      | (with_reducible exact LeO.refl _)
      | (with_reducible exact LeO.none _)
      | (with_reducible refine LeO.ite ?_ ?_)
      | (with_reducible refine LeO.bind ?_ (fun _ => ?_))
      | exact ih0 _ _ _ _ _ _ _ _ _
      | exact ih1 _ _ _ _ _ _ _ _ _ _
      | exact ih2 _ _ _ _ _ _ _ _ _ _
      | exact ih3 _ _ _ _ _ _ _ _ _ _ _
      | exact LeO.none _
      | refine LeO.ite ?_ ?_
      | refine LeO.bind ?_ (fun _ => ?_)
    · intro y0 y1 y2 y3 y4 y5 y6 y7 y8 y9 y10
      unfold script_op.j0
      repeat' first
      | (with_reducible exact ih0 _ _ _ _ _ _ _ _ _)
      | (with_reducible exact ih1 _ _ _ _ _ _ _ _ _ _)
      | (with_reducible exact ih2 _ _ _ _ _ _ _ _ _ _)
      | (with_reducible exact ih3 _ _ _ _ _ _ _ _ _ _ _)
      | (with_reducible exact LeO.refl _)
      | (with_reducible exact LeO.none _)
      | (with_reducible refine LeO.ite ?_ ?_)
      | (with_reducible refine LeO.bind ?_ (fun _ => ?_))
      | exact ih0 _ _ _ _ _ _ _ _ _
      | exact ih1 _ _ _ _ _ _ _ _ _ _
      | exact ih2 _ _ _ _ _ _ _ _ _ _
      | exact ih3 _ _ _ _ _ _ _ _ _ _ _
      | exact LeO.none _
      | refine LeO.ite ?_ ?_
      | refine LeO.bind ?_ (fun _ => ?_)
theorem script_op.mono : ∀ a0 a1 a2 k, LeO (script_op.f k a0 a1 a2) (script_op.f (k + 1) a0 a1 a2) := by
  intro a0 a1 a2 k
  obtain ⟨ih0, ih1, ih2, ih3⟩ := script_op.mono_l k
  unfold script_op.f
  repeat' first
      | (with_reducible exact ih0 _ _ _ _ _ _ _ _ _)
      | (with_reducible exact ih1 _ _ _ _ _ _ _ _ _ _)
      | (with_reducible exact ih2 _ _ _ _ _ _ _ _ _ _)
      | (with_reducible exact ih3 _ _ _ _ _ _ _ _ _ _ _)
      | (with_reducible exact LeO.refl _)
      | (with_reducible exact LeO.none _)
      | (with_reducible refine LeO.ite ?_ ?_)
      | (with_reducible refine LeO.bind ?_ (fun _ => ?_))
      | exact ih0 _ _ _ _ _ _ _ _ _
      | exact ih1 _ _ _ _ _ _ _ _ _ _
      | exact ih2 _ _ _ _ _ _ _ _ _ _
      | exact ih3 _ _ _ _ _ _ _ _ _ _ _
      | exact LeO.none _
      | refine LeO.ite ?_ ?_
      | refine LeO.bind ?_ (fun _ => ?_)
set_option maxHeartbeats 8000000 in
set_option maxRecDepth 100000 in
theorem script_op.calls (k : Nat) (a0 : Int) (a1 : Int) (a2 : Int) (r1 : Int) (r2 : ByteArray) (r3 : ByteArray) (r4 : Int) (r5 : Int) (r6 : Int) (r7 : List Int) (w : World) (h : script_op.f k a0 a1 a2 = some (r1, r2, r3, r4, r5, r6, r7)) :
    Calls Tryd.prog 15 #[.int .u8 a0, .int .u8 a1, .int .u8 a2] w fun e w' => ∃ v6_ : Value, e = .returned (.agg #[.int .u8 r1, .string r2, .string r3, .int .i64 r4, .int .i64 r5, .int .i64 r6, v6_]) ∧ Kd.R (Kd.int .u8) 5 w' w.heap.size (fun _ => True) v6_ r7 ∧ Below w.heap.size w w' := by
  have hu28 := Tryd.underlying28
  have HB := Aside0.mk (Below.refl w.heap.size w)
  have H : (if a0 = 1 then (script_op.j0 k a0 a1 a2 a0 (a0 == 1) a0 (⟨#[]⟩ : ByteArray) (⟨#[]⟩ : ByteArray) 0 0 0) else (if a0 = 2 then (script_op.j0 k a0 a1 a2 a0 (a0 == 2) a0 (⟨#[]⟩ : ByteArray) (⟨#[]⟩ : ByteArray) 0 0 0) else (script_op.j0 k a0 a1 a2 a0 (a0 == 3) a0 (⟨#[]⟩ : ByteArray) (⟨#[]⟩ : ByteArray) 0 0 0))) = some (r1, r2, r3, r4, r5, r6, r7) := h
  clear h
  have HC4 := Aside0.mk H
  clear H
  go_enter Tryd.func15, Tryd.ntmps15
  go_upto_block 0 with (first | ((with_reducible refine gate_dst (N := 6) rfl ?_); refine box_event ?hg (N := 6) ?hd (cs := #[.int .u8 0, .string (⟨#[]⟩ : ByteArray), .string (⟨#[]⟩ : ByteArray), .int .i64 0, .int .i64 0, .int .i64 0, .slice none 0 0]) (t := 28) ?hr ?_; (case hd => rfl); (case hg => rfl); (case hr => first | (go_simp; done) | (go_simp; rfl)); intro gb103 hg w5 hbox hb; have n0_ := Aside0.mk (below_step (by repeat (first | (with_reducible first | exact HB.out | apply below_alloc | apply pw_below_drewN | apply below_drew1) | exact HB.out)) hb); have n1_ := Aside0.mk (hbox); have n2_ := Aside0.mk ((by rw [hg]; exact (below_size (by repeat (first | (with_reducible first | exact HB.out | apply below_alloc | apply pw_below_drewN | apply below_drew1) | exact HB.out))) : w.heap.size ≤ gb103)); have n3_ := Aside0.mk ((by rw [hg]; exact (below_size (by repeat (first | (with_reducible first | exact HB.out | apply below_alloc | apply pw_below_drewN | apply below_drew1) | exact HB.out))) : w.heap.size ≤ gb103)); clear HB; have HB := n0_; have BK103 := n1_; have GW103 := n2_; have GE103 := n3_; clear n0_ n1_ n2_ n3_; clear hb hbox hg) | ((with_reducible refine gate_dst (N := 7) rfl ?_); refine box_event ?hg (N := 7) ?hd (cs := #[.int .u8 0, .string (⟨#[]⟩ : ByteArray), .string (⟨#[]⟩ : ByteArray), .int .i64 0, .int .i64 0, .int .i64 0, .slice none 0 0]) (t := 28) ?hr ?_; (case hd => rfl); (case hg => rfl); (case hr => first | (go_simp; done) | (go_simp; rfl)); intro gb104 hg w6 hbox hb; have n0_ := Aside0.mk (blk_below (g := gb103) (o := .cells #[.int .u8 0, .string (⟨#[]⟩ : ByteArray), .string (⟨#[]⟩ : ByteArray), .int .i64 0, .int .i64 0, .int .i64 0, .slice none 0 0] 28 (0, 0)) (by (with_reducible repeat (first | refine blk_drewN ?_ _ | refine blk_drew ?_ | refine blk_alloc ?_ _)); exact BK103.out) hb); have n1_ := Aside0.mk (below_step (by repeat (first | (with_reducible first | exact HB.out | apply below_alloc | apply pw_below_drewN | apply below_drew1 | refine below_set ?_ GE103.out) | exact HB.out)) hb); have n2_ := Aside0.mk (hbox); have n3_ := Aside0.mk ((by rw [hg]; exact (below_size (by repeat (first | (with_reducible first | exact HB.out | apply below_alloc | apply pw_below_drewN | apply below_drew1 | refine below_set ?_ GE103.out) | exact HB.out))) : w.heap.size ≤ gb104)); have n4_ := Aside0.mk ((by rw [hg]; exact (below_size (by repeat (first | (with_reducible first | exact HB.out | apply below_alloc | apply pw_below_drewN | apply below_drew1 | refine below_set ?_ GE103.out) | exact HB.out))) : w.heap.size ≤ gb104)); have n5_ := Aside0.mk ((by rw [hg]; exact Nat.ne_of_lt (blk_lt (g := gb103) (o := .cells #[.int .u8 0, .string (⟨#[]⟩ : ByteArray), .string (⟨#[]⟩ : ByteArray), .int .i64 0, .int .i64 0, .int .i64 0, .slice none 0 0] 28 (0, 0)) (by (with_reducible repeat (first | refine blk_drewN ?_ _ | refine blk_drew ?_ | refine blk_alloc ?_ _)); exact BK103.out)) : gb103 ≠ gb104)); have n6_ := Aside0.mk ((by rw [hg]; exact Nat.ne_of_gt (blk_lt (g := gb103) (o := .cells #[.int .u8 0, .string (⟨#[]⟩ : ByteArray), .string (⟨#[]⟩ : ByteArray), .int .i64 0, .int .i64 0, .int .i64 0, .slice none 0 0] 28 (0, 0)) (by (with_reducible repeat (first | refine blk_drewN ?_ _ | refine blk_drew ?_ | refine blk_alloc ?_ _)); exact BK103.out)) : gb104 ≠ gb103)); clear BK103; clear HB; have BK103 := n0_; have HB := n1_; have BK104 := n2_; have GW104 := n3_; have GE104 := n4_; have NB103_104 := n5_; have NB104_103 := n6_; clear n0_ n1_ n2_ n3_ n4_ n5_ n6_; clear hb hbox hg; have hnb7 := NB104_103.out; have hnc7 := NB103_104.out; have hcz8_0 : w6.cell? ⟨gb104, 0, none⟩ = some (.int .u8 0) := (blk_cell BK104.out 0).trans rfl; have hcz8_1 : w6.cell? ⟨gb104, 1, none⟩ = some (.string (⟨#[]⟩ : ByteArray)) := (blk_cell BK104.out 1).trans rfl; have hcz8_2 : w6.cell? ⟨gb104, 2, none⟩ = some (.string (⟨#[]⟩ : ByteArray)) := (blk_cell BK104.out 2).trans rfl; have hcz8_3 : w6.cell? ⟨gb104, 3, none⟩ = some (.int .i64 0) := (blk_cell BK104.out 3).trans rfl; have hcz8_4 : w6.cell? ⟨gb104, 4, none⟩ = some (.int .i64 0) := (blk_cell BK104.out 4).trans rfl; have hcz8_5 : w6.cell? ⟨gb104, 5, none⟩ = some (.int .i64 0) := (blk_cell BK104.out 5).trans rfl; have hcz8_6 : w6.cell? ⟨gb104, 6, none⟩ = some (.slice none 0 0) := (blk_cell BK104.out 6).trans rfl; have hfz8_0 := blk_frozen BK104.out 0; have hfz8_1 := blk_frozen BK104.out 1; have hfz8_2 := blk_frozen BK104.out 2; have hfz8_3 := blk_frozen BK104.out 3; have hfz8_4 := blk_frozen BK104.out 4; have hfz8_5 := blk_frozen BK104.out 5; have hfz8_6 := blk_frozen BK104.out 6))
  (try simp only [Act.put, List.setIfInBounds_toArray, List.set_cons_zero, List.set_cons_succ])
  go_cut [] (fun wc => ∃ (kq : Nat) (x104000_3 : Int) (x104001_3 : ByteArray) (x104002_3 : ByteArray) (x104003_3 : Int) (x104004_3 : Int) (x104005_3 : Int) (x105001_3 : ByteArray) (x105003_3 : Int), Aside0 (script_op.j1 kq a0 a1 a2 a0 x105001_3 (⟨#[]⟩ : ByteArray) x105003_3 0 0 = some (r1, r2, r3, r4, r5, r6, r7)) ∧ Aside0 (kq ≤ k) ∧ Aside0 (wc.heap[gb103]? = some (.cells #[.int .u8 x104000_3, .string x104001_3, .string x104002_3, .int .i64 x104003_3, .int .i64 x104004_3, .int .i64 x104005_3, (.slice none 0 0)] 28 (0, 0))) ∧ Aside0 (wc.heap[gb104]? = some (.cells #[.int .u8 a0, .string x105001_3, .string (⟨#[]⟩ : ByteArray), .int .i64 x105003_3, .int .i64 0, .int .i64 0, (.slice none 0 0)] 28 (0, 0))) ∧ Aside0 (Below w.heap.size w wc))
  case first =>
    have H := HC4.out
    clear HC4
    have HC9 := Aside0.mk H
    clear H
    go_upto_if 15 with (fail)
    go_cut [15] (fun v15 wc => ∃ (kq : Nat) (x15_8 : Bool), v15 = .bool x15_8 ∧ Aside0 (script_op.j0 kq a0 a1 a2 a0 x15_8 a0 (⟨#[]⟩ : ByteArray) (⟨#[]⟩ : ByteArray) 0 0 0 = some (r1, r2, r3, r4, r5, r6, r7)) ∧ Aside0 (kq ≤ k) ∧ Aside0 (wc.heap[gb103]? = some (.cells #[.int .u8 0, .string (⟨#[]⟩ : ByteArray), .string (⟨#[]⟩ : ByteArray), .int .i64 0, .int .i64 0, .int .i64 0, (.slice none 0 0)] 28 (0, 0))) ∧ Aside0 (wc.heap[gb104]? = some (.cells #[.int .u8 a0, .string (⟨#[]⟩ : ByteArray), .string (⟨#[]⟩ : ByteArray), .int .i64 0, .int .i64 0, .int .i64 0, (.slice none 0 0)] 28 (0, 0))) ∧ Aside0 (Below w.heap.size w wc))
    case first =>
      have H := HC9.out
      clear HC9
      by_cases c10 : a0 = 1
      · rw [if_pos c10] at H
        have c10b0 : (a0 == 1) = true := beq_iff_eq.mpr c10
        have c10b1 : (a0 != 1) = false := bne_eq_false_iff_eq.mpr c10
        clear c10
        (first | rw [c10b0] | (simp only [i64_w, i32_w]; rw [c10b0]) | skip)
        have H' := Aside0.mk H
        clear H
        go_wp2
        go_meet
        case rel => exact ⟨_, ((a0 == 1)), (by first | rfl | (simp; done) | (simp [*]; done)), H', ⟨by first | omega | exact Nat.le_refl _⟩, ⟨by (with_reducible repeat (first | refine blk_drewN ?_ _ | refine blk_drew ?_ | refine blk_alloc ?_ _)); refine blk_far ?_ NB103_104.out _; (with_reducible repeat (first | refine blk_drewN ?_ _ | refine blk_drew ?_ | refine blk_alloc ?_ _)); refine blk_far ?_ NB103_104.out _; (with_reducible repeat (first | refine blk_drewN ?_ _ | refine blk_drew ?_ | refine blk_alloc ?_ _)); refine blk_far ?_ NB103_104.out _; (with_reducible repeat (first | refine blk_drewN ?_ _ | refine blk_drew ?_ | refine blk_alloc ?_ _)); refine blk_far ?_ NB103_104.out _; (with_reducible repeat (first | refine blk_drewN ?_ _ | refine blk_drew ?_ | refine blk_alloc ?_ _)); refine blk_far ?_ NB103_104.out _; (with_reducible repeat (first | refine blk_drewN ?_ _ | refine blk_drew ?_ | refine blk_alloc ?_ _)); refine blk_far ?_ NB103_104.out _; (with_reducible repeat (first | refine blk_drewN ?_ _ | refine blk_drew ?_ | refine blk_alloc ?_ _)); refine blk_far ?_ NB103_104.out _; (with_reducible repeat (first | refine blk_drewN ?_ _ | refine blk_drew ?_ | refine blk_alloc ?_ _)); exact BK103.out⟩, ⟨by (with_reducible repeat (first | refine blk_drewN ?_ _ | refine blk_drew ?_ | refine blk_alloc ?_ _)); refine blk_put (cs := #[.int .u8 a0, .string (⟨#[]⟩ : ByteArray), .string (⟨#[]⟩ : ByteArray), .int .i64 0, .int .i64 0, .int .i64 0, .slice none 0 0]) ?_ 6 _ rfl; (with_reducible repeat (first | refine blk_drewN ?_ _ | refine blk_drew ?_ | refine blk_alloc ?_ _)); refine blk_put (cs := #[.int .u8 a0, .string (⟨#[]⟩ : ByteArray), .string (⟨#[]⟩ : ByteArray), .int .i64 0, .int .i64 0, .int .i64 0, .slice none 0 0]) ?_ 5 _ rfl; (with_reducible repeat (first | refine blk_drewN ?_ _ | refine blk_drew ?_ | refine blk_alloc ?_ _)); refine blk_put (cs := #[.int .u8 a0, .string (⟨#[]⟩ : ByteArray), .string (⟨#[]⟩ : ByteArray), .int .i64 0, .int .i64 0, .int .i64 0, .slice none 0 0]) ?_ 4 _ rfl; (with_reducible repeat (first | refine blk_drewN ?_ _ | refine blk_drew ?_ | refine blk_alloc ?_ _)); refine blk_put (cs := #[.int .u8 a0, .string (⟨#[]⟩ : ByteArray), .string (⟨#[]⟩ : ByteArray), .int .i64 0, .int .i64 0, .int .i64 0, .slice none 0 0]) ?_ 3 _ rfl; (with_reducible repeat (first | refine blk_drewN ?_ _ | refine blk_drew ?_ | refine blk_alloc ?_ _)); refine blk_put (cs := #[.int .u8 a0, .string (⟨#[]⟩ : ByteArray), .string (⟨#[]⟩ : ByteArray), .int .i64 0, .int .i64 0, .int .i64 0, .slice none 0 0]) ?_ 2 _ rfl; (with_reducible repeat (first | refine blk_drewN ?_ _ | refine blk_drew ?_ | refine blk_alloc ?_ _)); refine blk_put (cs := #[.int .u8 a0, .string (⟨#[]⟩ : ByteArray), .string (⟨#[]⟩ : ByteArray), .int .i64 0, .int .i64 0, .int .i64 0, .slice none 0 0]) ?_ 1 _ rfl; (with_reducible repeat (first | refine blk_drewN ?_ _ | refine blk_drew ?_ | refine blk_alloc ?_ _)); refine blk_put (cs := #[.int .u8 0, .string (⟨#[]⟩ : ByteArray), .string (⟨#[]⟩ : ByteArray), .int .i64 0, .int .i64 0, .int .i64 0, .slice none 0 0]) ?_ 0 _ rfl; (with_reducible repeat (first | refine blk_drewN ?_ _ | refine blk_drew ?_ | refine blk_alloc ?_ _)); exact BK104.out⟩, ⟨by repeat (first | (with_reducible first | exact HB.out | apply below_alloc | apply pw_below_drewN | apply below_drew1 | refine below_set ?_ GE103.out | refine below_set ?_ GE104.out) | exact HB.out)⟩⟩
      · rw [if_neg c10] at H
        have c10b0 : (a0 == 1) = false := beq_eq_false_iff_ne.mpr c10
        have c10b1 : (a0 != 1) = true := bne_iff_ne.mpr c10
        (first | rw [c10b0] | (simp only [i64_w, i32_w]; rw [c10b0]) | skip)
        by_cases c11 : a0 = 2
        · rw [if_pos c11] at H
          have c11b0 : (a0 == 2) = true := beq_iff_eq.mpr c11
          have c11b1 : (a0 != 2) = false := bne_eq_false_iff_eq.mpr c11
          clear c11
          have H' := Aside0.mk H
          clear H
          go_wp2
          go_meet
          case rel => exact ⟨_, ((a0 == 2)), (by first | rfl | (simp; done) | (simp [*]; done)), H', ⟨by first | omega | exact Nat.le_refl _⟩, ⟨by (with_reducible repeat (first | refine blk_drewN ?_ _ | refine blk_drew ?_ | refine blk_alloc ?_ _)); refine blk_far ?_ NB103_104.out _; (with_reducible repeat (first | refine blk_drewN ?_ _ | refine blk_drew ?_ | refine blk_alloc ?_ _)); refine blk_far ?_ NB103_104.out _; (with_reducible repeat (first | refine blk_drewN ?_ _ | refine blk_drew ?_ | refine blk_alloc ?_ _)); refine blk_far ?_ NB103_104.out _; (with_reducible repeat (first | refine blk_drewN ?_ _ | refine blk_drew ?_ | refine blk_alloc ?_ _)); refine blk_far ?_ NB103_104.out _; (with_reducible repeat (first | refine blk_drewN ?_ _ | refine blk_drew ?_ | refine blk_alloc ?_ _)); refine blk_far ?_ NB103_104.out _; (with_reducible repeat (first | refine blk_drewN ?_ _ | refine blk_drew ?_ | refine blk_alloc ?_ _)); refine blk_far ?_ NB103_104.out _; (with_reducible repeat (first | refine blk_drewN ?_ _ | refine blk_drew ?_ | refine blk_alloc ?_ _)); refine blk_far ?_ NB103_104.out _; (with_reducible repeat (first | refine blk_drewN ?_ _ | refine blk_drew ?_ | refine blk_alloc ?_ _)); exact BK103.out⟩, ⟨by (with_reducible repeat (first | refine blk_drewN ?_ _ | refine blk_drew ?_ | refine blk_alloc ?_ _)); refine blk_put (cs := #[.int .u8 a0, .string (⟨#[]⟩ : ByteArray), .string (⟨#[]⟩ : ByteArray), .int .i64 0, .int .i64 0, .int .i64 0, .slice none 0 0]) ?_ 6 _ rfl; (with_reducible repeat (first | refine blk_drewN ?_ _ | refine blk_drew ?_ | refine blk_alloc ?_ _)); refine blk_put (cs := #[.int .u8 a0, .string (⟨#[]⟩ : ByteArray), .string (⟨#[]⟩ : ByteArray), .int .i64 0, .int .i64 0, .int .i64 0, .slice none 0 0]) ?_ 5 _ rfl; (with_reducible repeat (first | refine blk_drewN ?_ _ | refine blk_drew ?_ | refine blk_alloc ?_ _)); refine blk_put (cs := #[.int .u8 a0, .string (⟨#[]⟩ : ByteArray), .string (⟨#[]⟩ : ByteArray), .int .i64 0, .int .i64 0, .int .i64 0, .slice none 0 0]) ?_ 4 _ rfl; (with_reducible repeat (first | refine blk_drewN ?_ _ | refine blk_drew ?_ | refine blk_alloc ?_ _)); refine blk_put (cs := #[.int .u8 a0, .string (⟨#[]⟩ : ByteArray), .string (⟨#[]⟩ : ByteArray), .int .i64 0, .int .i64 0, .int .i64 0, .slice none 0 0]) ?_ 3 _ rfl; (with_reducible repeat (first | refine blk_drewN ?_ _ | refine blk_drew ?_ | refine blk_alloc ?_ _)); refine blk_put (cs := #[.int .u8 a0, .string (⟨#[]⟩ : ByteArray), .string (⟨#[]⟩ : ByteArray), .int .i64 0, .int .i64 0, .int .i64 0, .slice none 0 0]) ?_ 2 _ rfl; (with_reducible repeat (first | refine blk_drewN ?_ _ | refine blk_drew ?_ | refine blk_alloc ?_ _)); refine blk_put (cs := #[.int .u8 a0, .string (⟨#[]⟩ : ByteArray), .string (⟨#[]⟩ : ByteArray), .int .i64 0, .int .i64 0, .int .i64 0, .slice none 0 0]) ?_ 1 _ rfl; (with_reducible repeat (first | refine blk_drewN ?_ _ | refine blk_drew ?_ | refine blk_alloc ?_ _)); refine blk_put (cs := #[.int .u8 0, .string (⟨#[]⟩ : ByteArray), .string (⟨#[]⟩ : ByteArray), .int .i64 0, .int .i64 0, .int .i64 0, .slice none 0 0]) ?_ 0 _ rfl; (with_reducible repeat (first | refine blk_drewN ?_ _ | refine blk_drew ?_ | refine blk_alloc ?_ _)); exact BK104.out⟩, ⟨by repeat (first | (with_reducible first | exact HB.out | apply below_alloc | apply pw_below_drewN | apply below_drew1 | refine below_set ?_ GE103.out | refine below_set ?_ GE104.out) | exact HB.out)⟩⟩
        · rw [if_neg c11] at H
          have c11b0 : (a0 == 2) = false := beq_eq_false_iff_ne.mpr c11
          have c11b1 : (a0 != 2) = true := bne_iff_ne.mpr c11
          have H' := Aside0.mk H
          clear H
          go_wp2
          go_meet
          case rel => exact ⟨_, ((a0 == 3)), (by first | rfl | (simp; done) | (simp [*]; done)), H', ⟨by first | omega | exact Nat.le_refl _⟩, ⟨by (with_reducible repeat (first | refine blk_drewN ?_ _ | refine blk_drew ?_ | refine blk_alloc ?_ _)); refine blk_far ?_ NB103_104.out _; (with_reducible repeat (first | refine blk_drewN ?_ _ | refine blk_drew ?_ | refine blk_alloc ?_ _)); refine blk_far ?_ NB103_104.out _; (with_reducible repeat (first | refine blk_drewN ?_ _ | refine blk_drew ?_ | refine blk_alloc ?_ _)); refine blk_far ?_ NB103_104.out _; (with_reducible repeat (first | refine blk_drewN ?_ _ | refine blk_drew ?_ | refine blk_alloc ?_ _)); refine blk_far ?_ NB103_104.out _; (with_reducible repeat (first | refine blk_drewN ?_ _ | refine blk_drew ?_ | refine blk_alloc ?_ _)); refine blk_far ?_ NB103_104.out _; (with_reducible repeat (first | refine blk_drewN ?_ _ | refine blk_drew ?_ | refine blk_alloc ?_ _)); refine blk_far ?_ NB103_104.out _; (with_reducible repeat (first | refine blk_drewN ?_ _ | refine blk_drew ?_ | refine blk_alloc ?_ _)); refine blk_far ?_ NB103_104.out _; (with_reducible repeat (first | refine blk_drewN ?_ _ | refine blk_drew ?_ | refine blk_alloc ?_ _)); exact BK103.out⟩, ⟨by (with_reducible repeat (first | refine blk_drewN ?_ _ | refine blk_drew ?_ | refine blk_alloc ?_ _)); refine blk_put (cs := #[.int .u8 a0, .string (⟨#[]⟩ : ByteArray), .string (⟨#[]⟩ : ByteArray), .int .i64 0, .int .i64 0, .int .i64 0, .slice none 0 0]) ?_ 6 _ rfl; (with_reducible repeat (first | refine blk_drewN ?_ _ | refine blk_drew ?_ | refine blk_alloc ?_ _)); refine blk_put (cs := #[.int .u8 a0, .string (⟨#[]⟩ : ByteArray), .string (⟨#[]⟩ : ByteArray), .int .i64 0, .int .i64 0, .int .i64 0, .slice none 0 0]) ?_ 5 _ rfl; (with_reducible repeat (first | refine blk_drewN ?_ _ | refine blk_drew ?_ | refine blk_alloc ?_ _)); refine blk_put (cs := #[.int .u8 a0, .string (⟨#[]⟩ : ByteArray), .string (⟨#[]⟩ : ByteArray), .int .i64 0, .int .i64 0, .int .i64 0, .slice none 0 0]) ?_ 4 _ rfl; (with_reducible repeat (first | refine blk_drewN ?_ _ | refine blk_drew ?_ | refine blk_alloc ?_ _)); refine blk_put (cs := #[.int .u8 a0, .string (⟨#[]⟩ : ByteArray), .string (⟨#[]⟩ : ByteArray), .int .i64 0, .int .i64 0, .int .i64 0, .slice none 0 0]) ?_ 3 _ rfl; (with_reducible repeat (first | refine blk_drewN ?_ _ | refine blk_drew ?_ | refine blk_alloc ?_ _)); refine blk_put (cs := #[.int .u8 a0, .string (⟨#[]⟩ : ByteArray), .string (⟨#[]⟩ : ByteArray), .int .i64 0, .int .i64 0, .int .i64 0, .slice none 0 0]) ?_ 2 _ rfl; (with_reducible repeat (first | refine blk_drewN ?_ _ | refine blk_drew ?_ | refine blk_alloc ?_ _)); refine blk_put (cs := #[.int .u8 a0, .string (⟨#[]⟩ : ByteArray), .string (⟨#[]⟩ : ByteArray), .int .i64 0, .int .i64 0, .int .i64 0, .slice none 0 0]) ?_ 1 _ rfl; (with_reducible repeat (first | refine blk_drewN ?_ _ | refine blk_drew ?_ | refine blk_alloc ?_ _)); refine blk_put (cs := #[.int .u8 0, .string (⟨#[]⟩ : ByteArray), .string (⟨#[]⟩ : ByteArray), .int .i64 0, .int .i64 0, .int .i64 0, .slice none 0 0]) ?_ 0 _ rfl; (with_reducible repeat (first | refine blk_drewN ?_ _ | refine blk_drew ?_ | refine blk_alloc ?_ _)); exact BK104.out⟩, ⟨by repeat (first | (with_reducible first | exact HB.out | apply below_alloc | apply pw_below_drewN | apply below_drew1 | refine below_set ?_ GE103.out | refine below_set ?_ GE104.out) | exact HB.out)⟩⟩
    case rest =>
      clear HC9
      try clear c1
      try clear p2
      try clear c7
      try clear c10
      try clear c10b0
      try clear c10b1
      try clear c11
      try clear c11b0
      try clear c11b1
      try clear hcz8_0
      try clear hcz8_1
      try clear hcz8_2
      try clear hcz8_3
      try clear hcz8_4
      try clear hcz8_5
      try clear hcz8_6
      try clear hfz8_0
      try clear hfz8_1
      try clear hfz8_2
      try clear hfz8_3
      try clear hfz8_4
      try clear hfz8_5
      try clear hfz8_6
      obtain ⟨kq, x15_8, rfl, HA, HJ8, BK103, BK104, HB⟩ := hcut
      cases kq with
      | zero => exact absurd HA.out (by simp [script_op.j0])
      | succ kj8 =>
        have H := HA.out
        clear HA
        simp only [script_op.j0] at H
        by_cases c12 : x15_8 = true
        · subst c12
          have H1 : (some (a0, (⟨#[]⟩ : ByteArray), (⟨#[]⟩ : ByteArray), 0, 0, 0, ([] : List Int))) = some (r1, r2, r3, r4, r5, r6, r7) := by rw [if_pos rfl] at H; exact H
          clear H
          have H := H1
          clear H1
          simp only [Option.some.injEq, Prod.mk.injEq] at H
          obtain ⟨rfl, rfl, rfl, rfl, rfl, rfl, rfl⟩ := H
          have hnb13 := NB104_103.out
          have hnc13 := NB103_104.out
          have hcz14_0 : wc.cell? ⟨gb104, 0, none⟩ = some (.int .u8 a0) := (blk_cell BK104.out 0).trans rfl
          have hcz14_1 : wc.cell? ⟨gb104, 1, none⟩ = some (.string (⟨#[]⟩ : ByteArray)) := (blk_cell BK104.out 1).trans rfl
          have hcz14_2 : wc.cell? ⟨gb104, 2, none⟩ = some (.string (⟨#[]⟩ : ByteArray)) := (blk_cell BK104.out 2).trans rfl
          have hcz14_3 : wc.cell? ⟨gb104, 3, none⟩ = some (.int .i64 0) := (blk_cell BK104.out 3).trans rfl
          have hcz14_4 : wc.cell? ⟨gb104, 4, none⟩ = some (.int .i64 0) := (blk_cell BK104.out 4).trans rfl
          have hcz14_5 : wc.cell? ⟨gb104, 5, none⟩ = some (.int .i64 0) := (blk_cell BK104.out 5).trans rfl
          have hcz14_6 : wc.cell? ⟨gb104, 6, none⟩ = some (.slice none 0 0) := (blk_cell BK104.out 6).trans rfl
          have hfz14_0 := blk_frozen BK104.out 0
          have hfz14_1 := blk_frozen BK104.out 1
          have hfz14_2 := blk_frozen BK104.out 2
          have hfz14_3 := blk_frozen BK104.out 3
          have hfz14_4 := blk_frozen BK104.out 4
          have hfz14_5 := blk_frozen BK104.out 5
          have hfz14_6 := blk_frozen BK104.out 6
          have hcz15_0 : wc.cell? ⟨gb103, 0, none⟩ = some (.int .u8 0) := (blk_cell BK103.out 0).trans rfl
          have hcz15_1 : wc.cell? ⟨gb103, 1, none⟩ = some (.string (⟨#[]⟩ : ByteArray)) := (blk_cell BK103.out 1).trans rfl
          have hcz15_2 : wc.cell? ⟨gb103, 2, none⟩ = some (.string (⟨#[]⟩ : ByteArray)) := (blk_cell BK103.out 2).trans rfl
          have hcz15_3 : wc.cell? ⟨gb103, 3, none⟩ = some (.int .i64 0) := (blk_cell BK103.out 3).trans rfl
          have hcz15_4 : wc.cell? ⟨gb103, 4, none⟩ = some (.int .i64 0) := (blk_cell BK103.out 4).trans rfl
          have hcz15_5 : wc.cell? ⟨gb103, 5, none⟩ = some (.int .i64 0) := (blk_cell BK103.out 5).trans rfl
          have hcz15_6 : wc.cell? ⟨gb103, 6, none⟩ = some (.slice none 0 0) := (blk_cell BK103.out 6).trans rfl
          have hfz15_0 := blk_frozen BK103.out 0
          have hfz15_1 := blk_frozen BK103.out 1
          have hfz15_2 := blk_frozen BK103.out 2
          have hfz15_3 := blk_frozen BK103.out 3
          have hfz15_4 := blk_frozen BK103.out 4
          have hfz15_5 := blk_frozen BK103.out 5
          have hfz15_6 := blk_frozen BK103.out 6
          go_wp2
          refine bodyPost_ret (results_cell_row rfl _ _ gb103 28 #[.int .u8 a0, .string (⟨#[]⟩ : ByteArray), .string (⟨#[]⟩ : ByteArray), .int .i64 0, .int .i64 0, .int .i64 0, .slice none 0 0] (0, 0) _ rfl (by (with_reducible repeat (first | refine blk_drewN ?_ _ | refine blk_drew ?_ | refine blk_alloc ?_ _)); refine blk_put (cs := #[.int .u8 a0, .string (⟨#[]⟩ : ByteArray), .string (⟨#[]⟩ : ByteArray), .int .i64 0, .int .i64 0, .int .i64 0, .slice none 0 0]) ?_ 6 _ rfl; (with_reducible repeat (first | refine blk_drewN ?_ _ | refine blk_drew ?_ | refine blk_alloc ?_ _)); refine blk_put (cs := #[.int .u8 a0, .string (⟨#[]⟩ : ByteArray), .string (⟨#[]⟩ : ByteArray), .int .i64 0, .int .i64 0, .int .i64 0, .slice none 0 0]) ?_ 5 _ rfl; (with_reducible repeat (first | refine blk_drewN ?_ _ | refine blk_drew ?_ | refine blk_alloc ?_ _)); refine blk_put (cs := #[.int .u8 a0, .string (⟨#[]⟩ : ByteArray), .string (⟨#[]⟩ : ByteArray), .int .i64 0, .int .i64 0, .int .i64 0, .slice none 0 0]) ?_ 4 _ rfl; (with_reducible repeat (first | refine blk_drewN ?_ _ | refine blk_drew ?_ | refine blk_alloc ?_ _)); refine blk_put (cs := #[.int .u8 a0, .string (⟨#[]⟩ : ByteArray), .string (⟨#[]⟩ : ByteArray), .int .i64 0, .int .i64 0, .int .i64 0, .slice none 0 0]) ?_ 3 _ rfl; (with_reducible repeat (first | refine blk_drewN ?_ _ | refine blk_drew ?_ | refine blk_alloc ?_ _)); refine blk_put (cs := #[.int .u8 a0, .string (⟨#[]⟩ : ByteArray), .string (⟨#[]⟩ : ByteArray), .int .i64 0, .int .i64 0, .int .i64 0, .slice none 0 0]) ?_ 2 _ rfl; (with_reducible repeat (first | refine blk_drewN ?_ _ | refine blk_drew ?_ | refine blk_alloc ?_ _)); refine blk_put (cs := #[.int .u8 a0, .string (⟨#[]⟩ : ByteArray), .string (⟨#[]⟩ : ByteArray), .int .i64 0, .int .i64 0, .int .i64 0, .slice none 0 0]) ?_ 1 _ rfl; (with_reducible repeat (first | refine blk_drewN ?_ _ | refine blk_drew ?_ | refine blk_alloc ?_ _)); refine blk_put (cs := #[.int .u8 0, .string (⟨#[]⟩ : ByteArray), .string (⟨#[]⟩ : ByteArray), .int .i64 0, .int .i64 0, .int .i64 0, .slice none 0 0]) ?_ 0 _ rfl; (with_reducible repeat (first | refine blk_drewN ?_ _ | refine blk_drew ?_ | refine blk_alloc ?_ _)); exact BK103.out) Tryd.underlying28 rfl (by kernel_rfl)) rfl ?_
          exact ⟨_, by first | rfl | (simp [errW_none, errW_some] <;> rfl) | (simp [*, errW_none, errW_some] <;> rfl), by first | exact Kd.R_nil _ _ _ _ _ | exact Kd.N_nil _ _ _ _ _ | exact Kd.V_nil _ _ _ _ _ | exact Kd.Q_nil _ _ _ _ _ | exact Kd.S_nil _ _ _ _ _, by repeat (first | (with_reducible first | exact HB.out | apply below_alloc | apply pw_below_drewN | apply below_drew1 | refine below_set ?_ GE103.out | refine below_set ?_ GE104.out) | exact HB.out)⟩
        · replace c12 := Bool.eq_false_iff.mpr c12
          subst c12
          have H1 : (if a0 = 7 then (script_op.j1 kj8 a0 a1 a2 a0 (⟨#[]⟩ : ByteArray) (⟨#[]⟩ : ByteArray) (wrap64 (Int.tmod a2 4)) 0 0) else (if a0 = 8 then (script_op.j1 kj8 a0 a1 a2 a0 (⟨#[]⟩ : ByteArray) (⟨#[]⟩ : ByteArray) (wrap64 (Int.tmod a2 4)) 0 0) else (if a0 = 9 then (script_op.j1 kj8 a0 a1 a2 a0 (⟨#[]⟩ : ByteArray) (⟨#[]⟩ : ByteArray) (wrap64 (Int.tmod a2 4)) 0 0) else (if a0 = 10 then (script_op.j1 kj8 a0 a1 a2 a0 (⟨#[]⟩ : ByteArray) (⟨#[]⟩ : ByteArray) (wrap64 (Int.tmod a2 4)) 0 0) else ((script_Path.f a1).bind fun t105 => (script_op.j1 kj8 a0 a1 a2 a0 t105 (⟨#[]⟩ : ByteArray) 0 0 0)))))) = some (r1, r2, r3, r4, r5, r6, r7) := by rw [if_neg (show ¬ (false = true) by decide)] at H; exact H
          clear H
          have H := H1
          clear H1
          by_cases c16 : a0 = 7
          · rw [if_pos c16] at H
            have c16b0 : (a0 == 7) = true := beq_iff_eq.mpr c16
            have c16b1 : (a0 != 7) = false := bne_eq_false_iff_eq.mpr c16
            clear c16
            have H' := Aside0.mk H
            clear H
            have hnb17 := NB104_103.out
            have hnc17 := NB103_104.out
            have hcz18_0 : wc.cell? ⟨gb104, 0, none⟩ = some (.int .u8 a0) := (blk_cell BK104.out 0).trans rfl
            have hcz18_1 : wc.cell? ⟨gb104, 1, none⟩ = some (.string (⟨#[]⟩ : ByteArray)) := (blk_cell BK104.out 1).trans rfl
            have hcz18_2 : wc.cell? ⟨gb104, 2, none⟩ = some (.string (⟨#[]⟩ : ByteArray)) := (blk_cell BK104.out 2).trans rfl
            have hcz18_3 : wc.cell? ⟨gb104, 3, none⟩ = some (.int .i64 0) := (blk_cell BK104.out 3).trans rfl
            have hcz18_4 : wc.cell? ⟨gb104, 4, none⟩ = some (.int .i64 0) := (blk_cell BK104.out 4).trans rfl
            have hcz18_5 : wc.cell? ⟨gb104, 5, none⟩ = some (.int .i64 0) := (blk_cell BK104.out 5).trans rfl
            have hcz18_6 : wc.cell? ⟨gb104, 6, none⟩ = some (.slice none 0 0) := (blk_cell BK104.out 6).trans rfl
            have hfz18_0 := blk_frozen BK104.out 0
            have hfz18_1 := blk_frozen BK104.out 1
            have hfz18_2 := blk_frozen BK104.out 2
            have hfz18_3 := blk_frozen BK104.out 3
            have hfz18_4 := blk_frozen BK104.out 4
            have hfz18_5 := blk_frozen BK104.out 5
            have hfz18_6 := blk_frozen BK104.out 6
            go_wp2
            go_meet
            case rel => exact ⟨_, (0), ((⟨#[]⟩ : ByteArray)), ((⟨#[]⟩ : ByteArray)), (0), (0), (0), ((⟨#[]⟩ : ByteArray)), (wrap64 (Int.tmod a2 4)), H', ⟨by have := HJ8.out; first | omega | exact Nat.le_refl _⟩, ⟨by (with_reducible repeat (first | refine blk_drewN ?_ _ | refine blk_drew ?_ | refine blk_alloc ?_ _)); refine blk_far ?_ NB103_104.out _; (with_reducible repeat (first | refine blk_drewN ?_ _ | refine blk_drew ?_ | refine blk_alloc ?_ _)); exact BK103.out⟩, ⟨by (with_reducible repeat (first | refine blk_drewN ?_ _ | refine blk_drew ?_ | refine blk_alloc ?_ _)); refine blk_put (cs := #[.int .u8 a0, .string (⟨#[]⟩ : ByteArray), .string (⟨#[]⟩ : ByteArray), .int .i64 0, .int .i64 0, .int .i64 0, .slice none 0 0]) ?_ 3 _ rfl; (with_reducible repeat (first | refine blk_drewN ?_ _ | refine blk_drew ?_ | refine blk_alloc ?_ _)); exact BK104.out⟩, ⟨by repeat (first | (with_reducible first | exact HB.out | apply below_alloc | apply pw_below_drewN | apply below_drew1 | refine below_set ?_ GE103.out | refine below_set ?_ GE104.out) | exact HB.out)⟩⟩
          · rw [if_neg c16] at H
            have c16b0 : (a0 == 7) = false := beq_eq_false_iff_ne.mpr c16
            have c16b1 : (a0 != 7) = true := bne_iff_ne.mpr c16
            by_cases c19 : a0 = 8
            · rw [if_pos c19] at H
              have c19b0 : (a0 == 8) = true := beq_iff_eq.mpr c19
              have c19b1 : (a0 != 8) = false := bne_eq_false_iff_eq.mpr c19
              clear c19
              have H' := Aside0.mk H
              clear H
              have hnb20 := NB104_103.out
              have hnc20 := NB103_104.out
              have hcz21_0 : wc.cell? ⟨gb104, 0, none⟩ = some (.int .u8 a0) := (blk_cell BK104.out 0).trans rfl
              have hcz21_1 : wc.cell? ⟨gb104, 1, none⟩ = some (.string (⟨#[]⟩ : ByteArray)) := (blk_cell BK104.out 1).trans rfl
              have hcz21_2 : wc.cell? ⟨gb104, 2, none⟩ = some (.string (⟨#[]⟩ : ByteArray)) := (blk_cell BK104.out 2).trans rfl
              have hcz21_3 : wc.cell? ⟨gb104, 3, none⟩ = some (.int .i64 0) := (blk_cell BK104.out 3).trans rfl
              have hcz21_4 : wc.cell? ⟨gb104, 4, none⟩ = some (.int .i64 0) := (blk_cell BK104.out 4).trans rfl
              have hcz21_5 : wc.cell? ⟨gb104, 5, none⟩ = some (.int .i64 0) := (blk_cell BK104.out 5).trans rfl
              have hcz21_6 : wc.cell? ⟨gb104, 6, none⟩ = some (.slice none 0 0) := (blk_cell BK104.out 6).trans rfl
              have hfz21_0 := blk_frozen BK104.out 0
              have hfz21_1 := blk_frozen BK104.out 1
              have hfz21_2 := blk_frozen BK104.out 2
              have hfz21_3 := blk_frozen BK104.out 3
              have hfz21_4 := blk_frozen BK104.out 4
              have hfz21_5 := blk_frozen BK104.out 5
              have hfz21_6 := blk_frozen BK104.out 6
              go_wp2
              go_meet
              case rel => exact ⟨_, (0), ((⟨#[]⟩ : ByteArray)), ((⟨#[]⟩ : ByteArray)), (0), (0), (0), ((⟨#[]⟩ : ByteArray)), (wrap64 (Int.tmod a2 4)), H', ⟨by have := HJ8.out; first | omega | exact Nat.le_refl _⟩, ⟨by (with_reducible repeat (first | refine blk_drewN ?_ _ | refine blk_drew ?_ | refine blk_alloc ?_ _)); refine blk_far ?_ NB103_104.out _; (with_reducible repeat (first | refine blk_drewN ?_ _ | refine blk_drew ?_ | refine blk_alloc ?_ _)); exact BK103.out⟩, ⟨by (with_reducible repeat (first | refine blk_drewN ?_ _ | refine blk_drew ?_ | refine blk_alloc ?_ _)); refine blk_put (cs := #[.int .u8 a0, .string (⟨#[]⟩ : ByteArray), .string (⟨#[]⟩ : ByteArray), .int .i64 0, .int .i64 0, .int .i64 0, .slice none 0 0]) ?_ 3 _ rfl; (with_reducible repeat (first | refine blk_drewN ?_ _ | refine blk_drew ?_ | refine blk_alloc ?_ _)); exact BK104.out⟩, ⟨by repeat (first | (with_reducible first | exact HB.out | apply below_alloc | apply pw_below_drewN | apply below_drew1 | refine below_set ?_ GE103.out | refine below_set ?_ GE104.out) | exact HB.out)⟩⟩
            · rw [if_neg c19] at H
              have c19b0 : (a0 == 8) = false := beq_eq_false_iff_ne.mpr c19
              have c19b1 : (a0 != 8) = true := bne_iff_ne.mpr c19
              by_cases c22 : a0 = 9
              · rw [if_pos c22] at H
                have c22b0 : (a0 == 9) = true := beq_iff_eq.mpr c22
                have c22b1 : (a0 != 9) = false := bne_eq_false_iff_eq.mpr c22
                clear c22
                have H' := Aside0.mk H
                clear H
                have hnb23 := NB104_103.out
                have hnc23 := NB103_104.out
                have hcz24_0 : wc.cell? ⟨gb104, 0, none⟩ = some (.int .u8 a0) := (blk_cell BK104.out 0).trans rfl
                have hcz24_1 : wc.cell? ⟨gb104, 1, none⟩ = some (.string (⟨#[]⟩ : ByteArray)) := (blk_cell BK104.out 1).trans rfl
                have hcz24_2 : wc.cell? ⟨gb104, 2, none⟩ = some (.string (⟨#[]⟩ : ByteArray)) := (blk_cell BK104.out 2).trans rfl
                have hcz24_3 : wc.cell? ⟨gb104, 3, none⟩ = some (.int .i64 0) := (blk_cell BK104.out 3).trans rfl
                have hcz24_4 : wc.cell? ⟨gb104, 4, none⟩ = some (.int .i64 0) := (blk_cell BK104.out 4).trans rfl
                have hcz24_5 : wc.cell? ⟨gb104, 5, none⟩ = some (.int .i64 0) := (blk_cell BK104.out 5).trans rfl
                have hcz24_6 : wc.cell? ⟨gb104, 6, none⟩ = some (.slice none 0 0) := (blk_cell BK104.out 6).trans rfl
                have hfz24_0 := blk_frozen BK104.out 0
                have hfz24_1 := blk_frozen BK104.out 1
                have hfz24_2 := blk_frozen BK104.out 2
                have hfz24_3 := blk_frozen BK104.out 3
                have hfz24_4 := blk_frozen BK104.out 4
                have hfz24_5 := blk_frozen BK104.out 5
                have hfz24_6 := blk_frozen BK104.out 6
                go_wp2
                go_meet
                case rel => exact ⟨_, (0), ((⟨#[]⟩ : ByteArray)), ((⟨#[]⟩ : ByteArray)), (0), (0), (0), ((⟨#[]⟩ : ByteArray)), (wrap64 (Int.tmod a2 4)), H', ⟨by have := HJ8.out; first | omega | exact Nat.le_refl _⟩, ⟨by (with_reducible repeat (first | refine blk_drewN ?_ _ | refine blk_drew ?_ | refine blk_alloc ?_ _)); refine blk_far ?_ NB103_104.out _; (with_reducible repeat (first | refine blk_drewN ?_ _ | refine blk_drew ?_ | refine blk_alloc ?_ _)); exact BK103.out⟩, ⟨by (with_reducible repeat (first | refine blk_drewN ?_ _ | refine blk_drew ?_ | refine blk_alloc ?_ _)); refine blk_put (cs := #[.int .u8 a0, .string (⟨#[]⟩ : ByteArray), .string (⟨#[]⟩ : ByteArray), .int .i64 0, .int .i64 0, .int .i64 0, .slice none 0 0]) ?_ 3 _ rfl; (with_reducible repeat (first | refine blk_drewN ?_ _ | refine blk_drew ?_ | refine blk_alloc ?_ _)); exact BK104.out⟩, ⟨by repeat (first | (with_reducible first | exact HB.out | apply below_alloc | apply pw_below_drewN | apply below_drew1 | refine below_set ?_ GE103.out | refine below_set ?_ GE104.out) | exact HB.out)⟩⟩
              · rw [if_neg c22] at H
                have c22b0 : (a0 == 9) = false := beq_eq_false_iff_ne.mpr c22
                have c22b1 : (a0 != 9) = true := bne_iff_ne.mpr c22
                by_cases c25 : a0 = 10
                · rw [if_pos c25] at H
                  have c25b0 : (a0 == 10) = true := beq_iff_eq.mpr c25
                  have c25b1 : (a0 != 10) = false := bne_eq_false_iff_eq.mpr c25
                  clear c25
                  have H' := Aside0.mk H
                  clear H
                  have hnb26 := NB104_103.out
                  have hnc26 := NB103_104.out
                  have hcz27_0 : wc.cell? ⟨gb104, 0, none⟩ = some (.int .u8 a0) := (blk_cell BK104.out 0).trans rfl
                  have hcz27_1 : wc.cell? ⟨gb104, 1, none⟩ = some (.string (⟨#[]⟩ : ByteArray)) := (blk_cell BK104.out 1).trans rfl
                  have hcz27_2 : wc.cell? ⟨gb104, 2, none⟩ = some (.string (⟨#[]⟩ : ByteArray)) := (blk_cell BK104.out 2).trans rfl
                  have hcz27_3 : wc.cell? ⟨gb104, 3, none⟩ = some (.int .i64 0) := (blk_cell BK104.out 3).trans rfl
                  have hcz27_4 : wc.cell? ⟨gb104, 4, none⟩ = some (.int .i64 0) := (blk_cell BK104.out 4).trans rfl
                  have hcz27_5 : wc.cell? ⟨gb104, 5, none⟩ = some (.int .i64 0) := (blk_cell BK104.out 5).trans rfl
                  have hcz27_6 : wc.cell? ⟨gb104, 6, none⟩ = some (.slice none 0 0) := (blk_cell BK104.out 6).trans rfl
                  have hfz27_0 := blk_frozen BK104.out 0
                  have hfz27_1 := blk_frozen BK104.out 1
                  have hfz27_2 := blk_frozen BK104.out 2
                  have hfz27_3 := blk_frozen BK104.out 3
                  have hfz27_4 := blk_frozen BK104.out 4
                  have hfz27_5 := blk_frozen BK104.out 5
                  have hfz27_6 := blk_frozen BK104.out 6
                  go_wp2
                  go_meet
                  case rel => exact ⟨_, (0), ((⟨#[]⟩ : ByteArray)), ((⟨#[]⟩ : ByteArray)), (0), (0), (0), ((⟨#[]⟩ : ByteArray)), (wrap64 (Int.tmod a2 4)), H', ⟨by have := HJ8.out; first | omega | exact Nat.le_refl _⟩, ⟨by (with_reducible repeat (first | refine blk_drewN ?_ _ | refine blk_drew ?_ | refine blk_alloc ?_ _)); refine blk_far ?_ NB103_104.out _; (with_reducible repeat (first | refine blk_drewN ?_ _ | refine blk_drew ?_ | refine blk_alloc ?_ _)); exact BK103.out⟩, ⟨by (with_reducible repeat (first | refine blk_drewN ?_ _ | refine blk_drew ?_ | refine blk_alloc ?_ _)); refine blk_put (cs := #[.int .u8 a0, .string (⟨#[]⟩ : ByteArray), .string (⟨#[]⟩ : ByteArray), .int .i64 0, .int .i64 0, .int .i64 0, .slice none 0 0]) ?_ 3 _ rfl; (with_reducible repeat (first | refine blk_drewN ?_ _ | refine blk_drew ?_ | refine blk_alloc ?_ _)); exact BK104.out⟩, ⟨by repeat (first | (with_reducible first | exact HB.out | apply below_alloc | apply pw_below_drewN | apply below_drew1 | refine below_set ?_ GE103.out | refine below_set ?_ GE104.out) | exact HB.out)⟩⟩
                · rw [if_neg c25] at H
                  have c25b0 : (a0 == 10) = false := beq_eq_false_iff_ne.mpr c25
                  have c25b1 : (a0 != 10) = true := bne_iff_ne.mpr c25
                  replace H := Option.bind_eq_some_iff.mp H
                  obtain ⟨t105, A280, H⟩ := H
                  replace H : (script_op.j1 kj8 a0 a1 a2 a0 t105 (⟨#[]⟩ : ByteArray) 0 0 0) = some (r1, r2, r3, r4, r5, r6, r7) := H
                  have A28 := Aside0.mk A280
                  clear A280
                  have H' := Aside0.mk H
                  clear H
                  go_wp2_with (first | ((with_reducible refine gate_callee (f := 9) rfl ?_); refine goesL_ (some 13) rfl rfl Tryd.func9 (by kernel_rfl) rfl #[.int .u8 a1] rfl (by (try simp only [List.map_toArray, List.map_cons, List.map_nil]); first | done | rfl | (simp only [List.length_drop, List.length_take]; rfl)) ?_; (with_reducible refine (script_Path.calls a1 t105 _ A28.out).mono ?_); rintro e w' ⟨rfl, ⟨nd, rfl⟩⟩; refine ⟨_, rfl, ?_⟩; (try (rw [drewN_self wc]; generalize hq_ : World.drewN wc _ = wc; have n0_ : Aside0 (wc.heap[gb103]? = some (.cells #[.int .u8 0, .string (⟨#[]⟩ : ByteArray), .string (⟨#[]⟩ : ByteArray), .int .i64 0, .int .i64 0, .int .i64 0, .slice none 0 0] 28 (0, 0))) := ⟨by rw [← hq_]; exact (by (with_reducible repeat (first | refine blk_drewN ?_ _ | refine blk_drew ?_ | refine blk_alloc ?_ _)); exact BK103.out)⟩; have n1_ : Aside0 (wc.heap[gb104]? = some (.cells #[.int .u8 a0, .string (⟨#[]⟩ : ByteArray), .string (⟨#[]⟩ : ByteArray), .int .i64 0, .int .i64 0, .int .i64 0, .slice none 0 0] 28 (0, 0))) := ⟨by rw [← hq_]; exact (by (with_reducible repeat (first | refine blk_drewN ?_ _ | refine blk_drew ?_ | refine blk_alloc ?_ _)); exact BK104.out)⟩; have n2_ : Aside0 (Below w.heap.size w wc) := ⟨by rw [← hq_]; exact (by repeat (first | (with_reducible first | exact HB.out | apply below_alloc | apply pw_below_drewN | apply below_drew1 | refine below_set ?_ GE103.out | refine below_set ?_ GE104.out) | exact HB.out))⟩; clear BK103 BK104 HB hq_; have BK103 := n0_; have BK104 := n1_; have HB := n2_; clear n0_ n1_ n2_)); have hnb29 := NB104_103.out; have hnc29 := NB103_104.out; have hcz30_0 : wc.cell? ⟨gb104, 0, none⟩ = some (.int .u8 a0) := (blk_cell BK104.out 0).trans rfl; have hcz30_1 : wc.cell? ⟨gb104, 1, none⟩ = some (.string (⟨#[]⟩ : ByteArray)) := (blk_cell BK104.out 1).trans rfl; have hcz30_2 : wc.cell? ⟨gb104, 2, none⟩ = some (.string (⟨#[]⟩ : ByteArray)) := (blk_cell BK104.out 2).trans rfl; have hcz30_3 : wc.cell? ⟨gb104, 3, none⟩ = some (.int .i64 0) := (blk_cell BK104.out 3).trans rfl; have hcz30_4 : wc.cell? ⟨gb104, 4, none⟩ = some (.int .i64 0) := (blk_cell BK104.out 4).trans rfl; have hcz30_5 : wc.cell? ⟨gb104, 5, none⟩ = some (.int .i64 0) := (blk_cell BK104.out 5).trans rfl; have hcz30_6 : wc.cell? ⟨gb104, 6, none⟩ = some (.slice none 0 0) := (blk_cell BK104.out 6).trans rfl; have hfz30_0 := blk_frozen BK104.out 0; have hfz30_1 := blk_frozen BK104.out 1; have hfz30_2 := blk_frozen BK104.out 2; have hfz30_3 := blk_frozen BK104.out 3; have hfz30_4 := blk_frozen BK104.out 4; have hfz30_5 := blk_frozen BK104.out 5; have hfz30_6 := blk_frozen BK104.out 6))
                  go_meet
                  case rel => exact ⟨_, (0), ((⟨#[]⟩ : ByteArray)), ((⟨#[]⟩ : ByteArray)), (0), (0), (0), (t105), (0), H', ⟨by have := HJ8.out; first | omega | exact Nat.le_refl _⟩, ⟨by (with_reducible repeat (first | refine blk_drewN ?_ _ | refine blk_drew ?_ | refine blk_alloc ?_ _)); refine blk_far ?_ NB103_104.out _; (with_reducible repeat (first | refine blk_drewN ?_ _ | refine blk_drew ?_ | refine blk_alloc ?_ _)); exact BK103.out⟩, ⟨by (with_reducible repeat (first | refine blk_drewN ?_ _ | refine blk_drew ?_ | refine blk_alloc ?_ _)); refine blk_put (cs := #[.int .u8 a0, .string (⟨#[]⟩ : ByteArray), .string (⟨#[]⟩ : ByteArray), .int .i64 0, .int .i64 0, .int .i64 0, .slice none 0 0]) ?_ 1 _ rfl; (with_reducible repeat (first | refine blk_drewN ?_ _ | refine blk_drew ?_ | refine blk_alloc ?_ _)); exact BK104.out⟩, ⟨by repeat (first | (with_reducible first | exact HB.out | apply below_alloc | apply pw_below_drewN | apply below_drew1 | refine below_set ?_ GE103.out | refine below_set ?_ GE104.out) | exact HB.out)⟩⟩
  case rest =>
    clear HC4
    try clear c1
    try clear c2
    try clear p2
    try clear p6
    try clear c7
    try clear c9
    try clear c10
    try clear c10b0
    try clear c10b1
    try clear c11
    try clear c11b0
    try clear c11b1
    try clear c12
    try clear c13
    try clear c15
    try clear c16
    try clear c16b0
    try clear c16b1
    try clear c17
    try clear c19
    try clear c19b0
    try clear c19b1
    try clear c20
    try clear c22
    try clear c22b0
    try clear c22b1
    try clear c23
    try clear c25
    try clear c25b0
    try clear c25b1
    try clear c26
    try clear c29
    try clear hcz14_0
    try clear hcz14_1
    try clear hcz14_2
    try clear hcz14_3
    try clear hcz14_4
    try clear hcz14_5
    try clear hcz14_6
    try clear hcz15_0
    try clear hcz15_1
    try clear hcz15_2
    try clear hcz15_3
    try clear hcz15_4
    try clear hcz15_5
    try clear hcz15_6
    try clear hcz18_0
    try clear hcz18_1
    try clear hcz18_2
    try clear hcz18_3
    try clear hcz18_4
    try clear hcz18_5
    try clear hcz18_6
    try clear hcz21_0
    try clear hcz21_1
    try clear hcz21_2
    try clear hcz21_3
    try clear hcz21_4
    try clear hcz21_5
    try clear hcz21_6
    try clear hcz24_0
    try clear hcz24_1
    try clear hcz24_2
    try clear hcz24_3
    try clear hcz24_4
    try clear hcz24_5
    try clear hcz24_6
    try clear hcz27_0
    try clear hcz27_1
    try clear hcz27_2
    try clear hcz27_3
    try clear hcz27_4
    try clear hcz27_5
    try clear hcz27_6
    try clear hcz30_0
    try clear hcz30_1
    try clear hcz30_2
    try clear hcz30_3
    try clear hcz30_4
    try clear hcz30_5
    try clear hcz30_6
    try clear hcz8_0
    try clear hcz8_1
    try clear hcz8_2
    try clear hcz8_3
    try clear hcz8_4
    try clear hcz8_5
    try clear hcz8_6
    try clear hfz14_0
    try clear hfz14_1
    try clear hfz14_2
    try clear hfz14_3
    try clear hfz14_4
    try clear hfz14_5
    try clear hfz14_6
    try clear hfz15_0
    try clear hfz15_1
    try clear hfz15_2
    try clear hfz15_3
    try clear hfz15_4
    try clear hfz15_5
    try clear hfz15_6
    try clear hfz18_0
    try clear hfz18_1
    try clear hfz18_2
    try clear hfz18_3
    try clear hfz18_4
    try clear hfz18_5
    try clear hfz18_6
    try clear hfz21_0
    try clear hfz21_1
    try clear hfz21_2
    try clear hfz21_3
    try clear hfz21_4
    try clear hfz21_5
    try clear hfz21_6
    try clear hfz24_0
    try clear hfz24_1
    try clear hfz24_2
    try clear hfz24_3
    try clear hfz24_4
    try clear hfz24_5
    try clear hfz24_6
    try clear hfz27_0
    try clear hfz27_1
    try clear hfz27_2
    try clear hfz27_3
    try clear hfz27_4
    try clear hfz27_5
    try clear hfz27_6
    try clear hfz30_0
    try clear hfz30_1
    try clear hfz30_2
    try clear hfz30_3
    try clear hfz30_4
    try clear hfz30_5
    try clear hfz30_6
    try clear hfz8_0
    try clear hfz8_1
    try clear hfz8_2
    try clear hfz8_3
    try clear hfz8_4
    try clear hfz8_5
    try clear hfz8_6
    try clear p2
    obtain ⟨kq, x104000_3, x104001_3, x104002_3, x104003_3, x104004_3, x104005_3, x105001_3, x105003_3, HA, HJ3, BK103, BK104, HB⟩ := hcut
    cases kq with
    | zero => exact absurd HA.out (by simp [script_op.j1])
    | succ kj3 =>
      have H := HA.out
      clear HA
      simp only [script_op.j1] at H
      have HC31 := Aside0.mk H
      clear H
      go_upto_if 30 with (fail)
      go_cut [30] (fun v30 wc => ∃ (kq : Nat) (x30_30 : Bool), v30 = .bool x30_30 ∧ Aside0 (script_op.j2 kq a1 a2 a0 x30_30 a0 x105001_3 (⟨#[]⟩ : ByteArray) x105003_3 0 0 = some (r1, r2, r3, r4, r5, r6, r7)) ∧ Aside0 (kq ≤ kj3) ∧ Aside0 (wc.heap[gb103]? = some (.cells #[.int .u8 x104000_3, .string x104001_3, .string x104002_3, .int .i64 x104003_3, .int .i64 x104004_3, .int .i64 x104005_3, (.slice none 0 0)] 28 (0, 0))) ∧ Aside0 (wc.heap[gb104]? = some (.cells #[.int .u8 a0, .string x105001_3, .string (⟨#[]⟩ : ByteArray), .int .i64 x105003_3, .int .i64 0, .int .i64 0, (.slice none 0 0)] 28 (0, 0))) ∧ Aside0 (Below w.heap.size w wc))
      case first =>
        have H := HC31.out
        clear HC31
        by_cases c32 : a0 = 11
        · rw [if_pos c32] at H
          have c32b0 : (a0 == 11) = true := beq_iff_eq.mpr c32
          have c32b1 : (a0 != 11) = false := bne_eq_false_iff_eq.mpr c32
          clear c32
          (first | rw [c32b0] | (simp only [i64_w, i32_w]; rw [c32b0]) | skip)
          have H' := Aside0.mk H
          clear H
          go_wp2
          go_meet
          case rel => exact ⟨_, ((a0 == 11)), (by first | rfl | (simp; done) | (simp [*]; done)), H', ⟨by have := HJ3.out; first | omega | exact Nat.le_refl _⟩, ⟨by (with_reducible repeat (first | refine blk_drewN ?_ _ | refine blk_drew ?_ | refine blk_alloc ?_ _)); exact BK103.out⟩, ⟨by (with_reducible repeat (first | refine blk_drewN ?_ _ | refine blk_drew ?_ | refine blk_alloc ?_ _)); exact BK104.out⟩, ⟨by repeat (first | (with_reducible first | exact HB.out | apply below_alloc | apply pw_below_drewN | apply below_drew1 | refine below_set ?_ GE103.out | refine below_set ?_ GE104.out) | exact HB.out)⟩⟩
        · rw [if_neg c32] at H
          have c32b0 : (a0 == 11) = false := beq_eq_false_iff_ne.mpr c32
          have c32b1 : (a0 != 11) = true := bne_iff_ne.mpr c32
          (first | rw [c32b0] | (simp only [i64_w, i32_w]; rw [c32b0]) | skip)
          have H' := Aside0.mk H
          clear H
          go_wp2
          go_meet
          case rel => exact ⟨_, ((a0 == 12)), (by first | rfl | (simp; done) | (simp [*]; done)), H', ⟨by have := HJ3.out; first | omega | exact Nat.le_refl _⟩, ⟨by (with_reducible repeat (first | refine blk_drewN ?_ _ | refine blk_drew ?_ | refine blk_alloc ?_ _)); exact BK103.out⟩, ⟨by (with_reducible repeat (first | refine blk_drewN ?_ _ | refine blk_drew ?_ | refine blk_alloc ?_ _)); exact BK104.out⟩, ⟨by repeat (first | (with_reducible first | exact HB.out | apply below_alloc | apply pw_below_drewN | apply below_drew1 | refine below_set ?_ GE103.out | refine below_set ?_ GE104.out) | exact HB.out)⟩⟩
      case rest =>
        clear HC31
        try clear c1
        try clear c2
        try clear p2
        try clear c3
        try clear p6
        try clear c7
        try clear c9
        try clear c10
        try clear c10b0
        try clear c10b1
        try clear c11
        try clear c11b0
        try clear c11b1
        try clear c12
        try clear c13
        try clear c15
        try clear c16
        try clear c16b0
        try clear c16b1
        try clear c17
        try clear c19
        try clear c19b0
        try clear c19b1
        try clear c20
        try clear c22
        try clear c22b0
        try clear c22b1
        try clear c23
        try clear c25
        try clear c25b0
        try clear c25b1
        try clear c26
        try clear c29
        try clear c32
        try clear c32b0
        try clear c32b1
        try clear hcz14_0
        try clear hcz14_1
        try clear hcz14_2
        try clear hcz14_3
        try clear hcz14_4
        try clear hcz14_5
        try clear hcz14_6
        try clear hcz15_0
        try clear hcz15_1
        try clear hcz15_2
        try clear hcz15_3
        try clear hcz15_4
        try clear hcz15_5
        try clear hcz15_6
        try clear hcz18_0
        try clear hcz18_1
        try clear hcz18_2
        try clear hcz18_3
        try clear hcz18_4
        try clear hcz18_5
        try clear hcz18_6
        try clear hcz21_0
        try clear hcz21_1
        try clear hcz21_2
        try clear hcz21_3
        try clear hcz21_4
        try clear hcz21_5
        try clear hcz21_6
        try clear hcz24_0
        try clear hcz24_1
        try clear hcz24_2
        try clear hcz24_3
        try clear hcz24_4
        try clear hcz24_5
        try clear hcz24_6
        try clear hcz27_0
        try clear hcz27_1
        try clear hcz27_2
        try clear hcz27_3
        try clear hcz27_4
        try clear hcz27_5
        try clear hcz27_6
        try clear hcz30_0
        try clear hcz30_1
        try clear hcz30_2
        try clear hcz30_3
        try clear hcz30_4
        try clear hcz30_5
        try clear hcz30_6
        try clear hcz8_0
        try clear hcz8_1
        try clear hcz8_2
        try clear hcz8_3
        try clear hcz8_4
        try clear hcz8_5
        try clear hcz8_6
        try clear hfz14_0
        try clear hfz14_1
        try clear hfz14_2
        try clear hfz14_3
        try clear hfz14_4
        try clear hfz14_5
        try clear hfz14_6
        try clear hfz15_0
        try clear hfz15_1
        try clear hfz15_2
        try clear hfz15_3
        try clear hfz15_4
        try clear hfz15_5
        try clear hfz15_6
        try clear hfz18_0
        try clear hfz18_1
        try clear hfz18_2
        try clear hfz18_3
        try clear hfz18_4
        try clear hfz18_5
        try clear hfz18_6
        try clear hfz21_0
        try clear hfz21_1
        try clear hfz21_2
        try clear hfz21_3
        try clear hfz21_4
        try clear hfz21_5
        try clear hfz21_6
        try clear hfz24_0
        try clear hfz24_1
        try clear hfz24_2
        try clear hfz24_3
        try clear hfz24_4
        try clear hfz24_5
        try clear hfz24_6
        try clear hfz27_0
        try clear hfz27_1
        try clear hfz27_2
        try clear hfz27_3
        try clear hfz27_4
        try clear hfz27_5
        try clear hfz27_6
        try clear hfz30_0
        try clear hfz30_1
        try clear hfz30_2
        try clear hfz30_3
        try clear hfz30_4
        try clear hfz30_5
        try clear hfz30_6
        try clear hfz8_0
        try clear hfz8_1
        try clear hfz8_2
        try clear hfz8_3
        try clear hfz8_4
        try clear hfz8_5
        try clear hfz8_6
        try clear p2
        try clear p6
        obtain ⟨kq, x30_30, rfl, HA, HJ30, BK103, BK104, HB⟩ := hcut
        cases kq with
        | zero => exact absurd HA.out (by simp [script_op.j2])
        | succ kj30 =>
          have H := HA.out
          clear HA
          simp only [script_op.j2] at H
          by_cases c33 : x30_30 = true
          · subst c33
            have H1 : ((script_Path.f a2).bind fun t106 => (some (a0, x105001_3, t106, x105003_3, 0, 0, ([] : List Int)))) = some (r1, r2, r3, r4, r5, r6, r7) := by rw [if_pos rfl] at H; exact H
            clear H
            have H := H1
            clear H1
            replace H := Option.bind_eq_some_iff.mp H
            obtain ⟨t106, A340, H⟩ := H
            replace H : (some (a0, x105001_3, t106, x105003_3, 0, 0, ([] : List Int))) = some (r1, r2, r3, r4, r5, r6, r7) := H
            have A34 := Aside0.mk A340
            clear A340
            simp only [Option.some.injEq, Prod.mk.injEq] at H
            obtain ⟨rfl, rfl, rfl, rfl, rfl, rfl, rfl⟩ := H
            go_wp2_with (first | ((with_reducible refine gate_callee (f := 9) rfl ?_); refine goesL_ (some 34) rfl rfl Tryd.func9 (by kernel_rfl) rfl #[.int .u8 a2] rfl (by (try simp only [List.map_toArray, List.map_cons, List.map_nil]); first | done | rfl | (simp only [List.length_drop, List.length_take]; rfl)) ?_; (with_reducible refine (script_Path.calls a2 t106 _ A34.out).mono ?_); rintro e w' ⟨rfl, ⟨nd, rfl⟩⟩; refine ⟨_, rfl, ?_⟩; (try (rw [drewN_self wc]; generalize hq_ : World.drewN wc _ = wc; have n0_ : Aside0 (wc.heap[gb103]? = some (.cells #[.int .u8 x104000_3, .string x104001_3, .string x104002_3, .int .i64 x104003_3, .int .i64 x104004_3, .int .i64 x104005_3, .slice none 0 0] 28 (0, 0))) := ⟨by rw [← hq_]; exact (by (with_reducible repeat (first | refine blk_drewN ?_ _ | refine blk_drew ?_ | refine blk_alloc ?_ _)); exact BK103.out)⟩; have n1_ : Aside0 (wc.heap[gb104]? = some (.cells #[.int .u8 a0, .string x105001_3, .string (⟨#[]⟩ : ByteArray), .int .i64 x105003_3, .int .i64 0, .int .i64 0, .slice none 0 0] 28 (0, 0))) := ⟨by rw [← hq_]; exact (by (with_reducible repeat (first | refine blk_drewN ?_ _ | refine blk_drew ?_ | refine blk_alloc ?_ _)); exact BK104.out)⟩; have n2_ : Aside0 (Below w.heap.size w wc) := ⟨by rw [← hq_]; exact (by repeat (first | (with_reducible first | exact HB.out | apply below_alloc | apply pw_below_drewN | apply below_drew1 | refine below_set ?_ GE103.out | refine below_set ?_ GE104.out) | exact HB.out))⟩; clear BK103 BK104 HB hq_; have BK103 := n0_; have BK104 := n1_; have HB := n2_; clear n0_ n1_ n2_)); have hnb35 := NB104_103.out; have hnc35 := NB103_104.out; have hcz36_0 : wc.cell? ⟨gb104, 0, none⟩ = some (.int .u8 a0) := (blk_cell BK104.out 0).trans rfl; have hcz36_1 : wc.cell? ⟨gb104, 1, none⟩ = some (.string x105001_3) := (blk_cell BK104.out 1).trans rfl; have hcz36_2 : wc.cell? ⟨gb104, 2, none⟩ = some (.string (⟨#[]⟩ : ByteArray)) := (blk_cell BK104.out 2).trans rfl; have hcz36_3 : wc.cell? ⟨gb104, 3, none⟩ = some (.int .i64 x105003_3) := (blk_cell BK104.out 3).trans rfl; have hcz36_4 : wc.cell? ⟨gb104, 4, none⟩ = some (.int .i64 0) := (blk_cell BK104.out 4).trans rfl; have hcz36_5 : wc.cell? ⟨gb104, 5, none⟩ = some (.int .i64 0) := (blk_cell BK104.out 5).trans rfl; have hcz36_6 : wc.cell? ⟨gb104, 6, none⟩ = some (.slice none 0 0) := (blk_cell BK104.out 6).trans rfl; have hfz36_0 := blk_frozen BK104.out 0; have hfz36_1 := blk_frozen BK104.out 1; have hfz36_2 := blk_frozen BK104.out 2; have hfz36_3 := blk_frozen BK104.out 3; have hfz36_4 := blk_frozen BK104.out 4; have hfz36_5 := blk_frozen BK104.out 5; have hfz36_6 := blk_frozen BK104.out 6; have hcz37_0 : wc.cell? ⟨gb103, 0, none⟩ = some (.int .u8 x104000_3) := (blk_cell BK103.out 0).trans rfl; have hcz37_1 : wc.cell? ⟨gb103, 1, none⟩ = some (.string x104001_3) := (blk_cell BK103.out 1).trans rfl; have hcz37_2 : wc.cell? ⟨gb103, 2, none⟩ = some (.string x104002_3) := (blk_cell BK103.out 2).trans rfl; have hcz37_3 : wc.cell? ⟨gb103, 3, none⟩ = some (.int .i64 x104003_3) := (blk_cell BK103.out 3).trans rfl; have hcz37_4 : wc.cell? ⟨gb103, 4, none⟩ = some (.int .i64 x104004_3) := (blk_cell BK103.out 4).trans rfl; have hcz37_5 : wc.cell? ⟨gb103, 5, none⟩ = some (.int .i64 x104005_3) := (blk_cell BK103.out 5).trans rfl; have hcz37_6 : wc.cell? ⟨gb103, 6, none⟩ = some (.slice none 0 0) := (blk_cell BK103.out 6).trans rfl; have hfz37_0 := blk_frozen BK103.out 0; have hfz37_1 := blk_frozen BK103.out 1; have hfz37_2 := blk_frozen BK103.out 2; have hfz37_3 := blk_frozen BK103.out 3; have hfz37_4 := blk_frozen BK103.out 4; have hfz37_5 := blk_frozen BK103.out 5; have hfz37_6 := blk_frozen BK103.out 6))
            refine bodyPost_ret (results_cell_row rfl _ _ gb103 28 #[.int .u8 a0, .string x105001_3, .string t106, .int .i64 x105003_3, .int .i64 0, .int .i64 0, .slice none 0 0] (0, 0) _ rfl (by (with_reducible repeat (first | refine blk_drewN ?_ _ | refine blk_drew ?_ | refine blk_alloc ?_ _)); refine blk_put (cs := #[.int .u8 a0, .string x105001_3, .string t106, .int .i64 x105003_3, .int .i64 0, .int .i64 0, .slice none 0 0]) ?_ 6 _ rfl; (with_reducible repeat (first | refine blk_drewN ?_ _ | refine blk_drew ?_ | refine blk_alloc ?_ _)); refine blk_put (cs := #[.int .u8 a0, .string x105001_3, .string t106, .int .i64 x105003_3, .int .i64 0, .int .i64 x104005_3, .slice none 0 0]) ?_ 5 _ rfl; (with_reducible repeat (first | refine blk_drewN ?_ _ | refine blk_drew ?_ | refine blk_alloc ?_ _)); refine blk_put (cs := #[.int .u8 a0, .string x105001_3, .string t106, .int .i64 x105003_3, .int .i64 x104004_3, .int .i64 x104005_3, .slice none 0 0]) ?_ 4 _ rfl; (with_reducible repeat (first | refine blk_drewN ?_ _ | refine blk_drew ?_ | refine blk_alloc ?_ _)); refine blk_put (cs := #[.int .u8 a0, .string x105001_3, .string t106, .int .i64 x104003_3, .int .i64 x104004_3, .int .i64 x104005_3, .slice none 0 0]) ?_ 3 _ rfl; (with_reducible repeat (first | refine blk_drewN ?_ _ | refine blk_drew ?_ | refine blk_alloc ?_ _)); refine blk_put (cs := #[.int .u8 a0, .string x105001_3, .string x104002_3, .int .i64 x104003_3, .int .i64 x104004_3, .int .i64 x104005_3, .slice none 0 0]) ?_ 2 _ rfl; (with_reducible repeat (first | refine blk_drewN ?_ _ | refine blk_drew ?_ | refine blk_alloc ?_ _)); refine blk_put (cs := #[.int .u8 a0, .string x104001_3, .string x104002_3, .int .i64 x104003_3, .int .i64 x104004_3, .int .i64 x104005_3, .slice none 0 0]) ?_ 1 _ rfl; (with_reducible repeat (first | refine blk_drewN ?_ _ | refine blk_drew ?_ | refine blk_alloc ?_ _)); refine blk_put (cs := #[.int .u8 x104000_3, .string x104001_3, .string x104002_3, .int .i64 x104003_3, .int .i64 x104004_3, .int .i64 x104005_3, .slice none 0 0]) ?_ 0 _ rfl; (with_reducible repeat (first | refine blk_drewN ?_ _ | refine blk_drew ?_ | refine blk_alloc ?_ _)); refine blk_far ?_ NB103_104.out _; (with_reducible repeat (first | refine blk_drewN ?_ _ | refine blk_drew ?_ | refine blk_alloc ?_ _)); exact BK103.out) Tryd.underlying28 rfl (by kernel_rfl)) rfl ?_
            exact ⟨_, by first | rfl | (simp [errW_none, errW_some] <;> rfl) | (simp [*, errW_none, errW_some] <;> rfl), by first | exact Kd.R_nil _ _ _ _ _ | exact Kd.N_nil _ _ _ _ _ | exact Kd.V_nil _ _ _ _ _ | exact Kd.Q_nil _ _ _ _ _ | exact Kd.S_nil _ _ _ _ _, by repeat (first | (with_reducible first | exact HB.out | apply below_alloc | apply pw_below_drewN | apply below_drew1 | refine below_set ?_ GE103.out | refine below_set ?_ GE104.out) | exact HB.out)⟩
          · replace c33 := Bool.eq_false_iff.mpr c33
            subst c33
            have H1 : (if a0 = 10 then (some (a0, x105001_3, (⟨#[]⟩ : ByteArray), x105003_3, 0, wrap64 (2 * (wrap64 (a1))), ([] : List Int))) else (if a0 = 8 then (some (a0, x105001_3, (⟨#[]⟩ : ByteArray), x105003_3, wrap64 (a1), wrap64 (a2), ([] : List Int))) else (if a0 = 9 then (script_op.l0 kj30 a1 ((1 + (Int.tmod a2 70)) % 256) 0 a0 x105001_3 (⟨#[]⟩ : ByteArray) x105003_3 (wrap64 (a1)) 0 ([] : List Int)) else (some (a0, x105001_3, (⟨#[]⟩ : ByteArray), x105003_3, 0, 0, ([] : List Int)))))) = some (r1, r2, r3, r4, r5, r6, r7) := by rw [if_neg (show ¬ (false = true) by decide)] at H; exact H
            clear H
            have H := H1
            clear H1
            by_cases c38 : a0 = 10
            · rw [if_pos c38] at H
              have c38b0 : (a0 == 10) = true := beq_iff_eq.mpr c38
              have c38b1 : (a0 != 10) = false := bne_eq_false_iff_eq.mpr c38
              clear c38
              simp only [Option.some.injEq, Prod.mk.injEq] at H
              obtain ⟨rfl, rfl, rfl, rfl, rfl, rfl, rfl⟩ := H
              have hnb39 := NB104_103.out
              have hnc39 := NB103_104.out
              have hcz40_0 : wc.cell? ⟨gb104, 0, none⟩ = some (.int .u8 a0) := (blk_cell BK104.out 0).trans rfl
              have hcz40_1 : wc.cell? ⟨gb104, 1, none⟩ = some (.string x105001_3) := (blk_cell BK104.out 1).trans rfl
              have hcz40_2 : wc.cell? ⟨gb104, 2, none⟩ = some (.string (⟨#[]⟩ : ByteArray)) := (blk_cell BK104.out 2).trans rfl
              have hcz40_3 : wc.cell? ⟨gb104, 3, none⟩ = some (.int .i64 x105003_3) := (blk_cell BK104.out 3).trans rfl
              have hcz40_4 : wc.cell? ⟨gb104, 4, none⟩ = some (.int .i64 0) := (blk_cell BK104.out 4).trans rfl
              have hcz40_5 : wc.cell? ⟨gb104, 5, none⟩ = some (.int .i64 0) := (blk_cell BK104.out 5).trans rfl
              have hcz40_6 : wc.cell? ⟨gb104, 6, none⟩ = some (.slice none 0 0) := (blk_cell BK104.out 6).trans rfl
              have hfz40_0 := blk_frozen BK104.out 0
              have hfz40_1 := blk_frozen BK104.out 1
              have hfz40_2 := blk_frozen BK104.out 2
              have hfz40_3 := blk_frozen BK104.out 3
              have hfz40_4 := blk_frozen BK104.out 4
              have hfz40_5 := blk_frozen BK104.out 5
              have hfz40_6 := blk_frozen BK104.out 6
              have hcz41_0 : wc.cell? ⟨gb103, 0, none⟩ = some (.int .u8 x104000_3) := (blk_cell BK103.out 0).trans rfl
              have hcz41_1 : wc.cell? ⟨gb103, 1, none⟩ = some (.string x104001_3) := (blk_cell BK103.out 1).trans rfl
              have hcz41_2 : wc.cell? ⟨gb103, 2, none⟩ = some (.string x104002_3) := (blk_cell BK103.out 2).trans rfl
              have hcz41_3 : wc.cell? ⟨gb103, 3, none⟩ = some (.int .i64 x104003_3) := (blk_cell BK103.out 3).trans rfl
              have hcz41_4 : wc.cell? ⟨gb103, 4, none⟩ = some (.int .i64 x104004_3) := (blk_cell BK103.out 4).trans rfl
              have hcz41_5 : wc.cell? ⟨gb103, 5, none⟩ = some (.int .i64 x104005_3) := (blk_cell BK103.out 5).trans rfl
              have hcz41_6 : wc.cell? ⟨gb103, 6, none⟩ = some (.slice none 0 0) := (blk_cell BK103.out 6).trans rfl
              have hfz41_0 := blk_frozen BK103.out 0
              have hfz41_1 := blk_frozen BK103.out 1
              have hfz41_2 := blk_frozen BK103.out 2
              have hfz41_3 := blk_frozen BK103.out 3
              have hfz41_4 := blk_frozen BK103.out 4
              have hfz41_5 := blk_frozen BK103.out 5
              have hfz41_6 := blk_frozen BK103.out 6
              go_wp2
              refine bodyPost_ret (results_cell_row rfl _ _ gb103 28 #[.int .u8 a0, .string x105001_3, .string (⟨#[]⟩ : ByteArray), .int .i64 x105003_3, .int .i64 0, .int .i64 (wrap64 (2 * (wrap64 (a1)))), .slice none 0 0] (0, 0) _ rfl (by (with_reducible repeat (first | refine blk_drewN ?_ _ | refine blk_drew ?_ | refine blk_alloc ?_ _)); refine blk_put (cs := #[.int .u8 a0, .string x105001_3, .string (⟨#[]⟩ : ByteArray), .int .i64 x105003_3, .int .i64 0, .int .i64 (wrap64 (2 * (wrap64 (a1)))), .slice none 0 0]) ?_ 6 _ rfl; (with_reducible repeat (first | refine blk_drewN ?_ _ | refine blk_drew ?_ | refine blk_alloc ?_ _)); refine blk_put (cs := #[.int .u8 a0, .string x105001_3, .string (⟨#[]⟩ : ByteArray), .int .i64 x105003_3, .int .i64 0, .int .i64 x104005_3, .slice none 0 0]) ?_ 5 _ rfl; (with_reducible repeat (first | refine blk_drewN ?_ _ | refine blk_drew ?_ | refine blk_alloc ?_ _)); refine blk_put (cs := #[.int .u8 a0, .string x105001_3, .string (⟨#[]⟩ : ByteArray), .int .i64 x105003_3, .int .i64 x104004_3, .int .i64 x104005_3, .slice none 0 0]) ?_ 4 _ rfl; (with_reducible repeat (first | refine blk_drewN ?_ _ | refine blk_drew ?_ | refine blk_alloc ?_ _)); refine blk_put (cs := #[.int .u8 a0, .string x105001_3, .string (⟨#[]⟩ : ByteArray), .int .i64 x104003_3, .int .i64 x104004_3, .int .i64 x104005_3, .slice none 0 0]) ?_ 3 _ rfl; (with_reducible repeat (first | refine blk_drewN ?_ _ | refine blk_drew ?_ | refine blk_alloc ?_ _)); refine blk_put (cs := #[.int .u8 a0, .string x105001_3, .string x104002_3, .int .i64 x104003_3, .int .i64 x104004_3, .int .i64 x104005_3, .slice none 0 0]) ?_ 2 _ rfl; (with_reducible repeat (first | refine blk_drewN ?_ _ | refine blk_drew ?_ | refine blk_alloc ?_ _)); refine blk_put (cs := #[.int .u8 a0, .string x104001_3, .string x104002_3, .int .i64 x104003_3, .int .i64 x104004_3, .int .i64 x104005_3, .slice none 0 0]) ?_ 1 _ rfl; (with_reducible repeat (first | refine blk_drewN ?_ _ | refine blk_drew ?_ | refine blk_alloc ?_ _)); refine blk_put (cs := #[.int .u8 x104000_3, .string x104001_3, .string x104002_3, .int .i64 x104003_3, .int .i64 x104004_3, .int .i64 x104005_3, .slice none 0 0]) ?_ 0 _ rfl; (with_reducible repeat (first | refine blk_drewN ?_ _ | refine blk_drew ?_ | refine blk_alloc ?_ _)); refine blk_far ?_ NB103_104.out _; (with_reducible repeat (first | refine blk_drewN ?_ _ | refine blk_drew ?_ | refine blk_alloc ?_ _)); exact BK103.out) Tryd.underlying28 rfl (by kernel_rfl)) rfl ?_
              exact ⟨_, by first | rfl | (simp [errW_none, errW_some] <;> rfl) | (simp [*, errW_none, errW_some] <;> rfl), by first | exact Kd.R_nil _ _ _ _ _ | exact Kd.N_nil _ _ _ _ _ | exact Kd.V_nil _ _ _ _ _ | exact Kd.Q_nil _ _ _ _ _ | exact Kd.S_nil _ _ _ _ _, by repeat (first | (with_reducible first | exact HB.out | apply below_alloc | apply pw_below_drewN | apply below_drew1 | refine below_set ?_ GE103.out | refine below_set ?_ GE104.out) | exact HB.out)⟩
            · rw [if_neg c38] at H
              have c38b0 : (a0 == 10) = false := beq_eq_false_iff_ne.mpr c38
              have c38b1 : (a0 != 10) = true := bne_iff_ne.mpr c38
              by_cases c42 : a0 = 8
              · rw [if_pos c42] at H
                have c42b0 : (a0 == 8) = true := beq_iff_eq.mpr c42
                have c42b1 : (a0 != 8) = false := bne_eq_false_iff_eq.mpr c42
                clear c42
                simp only [Option.some.injEq, Prod.mk.injEq] at H
                obtain ⟨rfl, rfl, rfl, rfl, rfl, rfl, rfl⟩ := H
                have hnb43 := NB104_103.out
                have hnc43 := NB103_104.out
                have hcz44_0 : wc.cell? ⟨gb104, 0, none⟩ = some (.int .u8 a0) := (blk_cell BK104.out 0).trans rfl
                have hcz44_1 : wc.cell? ⟨gb104, 1, none⟩ = some (.string x105001_3) := (blk_cell BK104.out 1).trans rfl
                have hcz44_2 : wc.cell? ⟨gb104, 2, none⟩ = some (.string (⟨#[]⟩ : ByteArray)) := (blk_cell BK104.out 2).trans rfl
                have hcz44_3 : wc.cell? ⟨gb104, 3, none⟩ = some (.int .i64 x105003_3) := (blk_cell BK104.out 3).trans rfl
                have hcz44_4 : wc.cell? ⟨gb104, 4, none⟩ = some (.int .i64 0) := (blk_cell BK104.out 4).trans rfl
                have hcz44_5 : wc.cell? ⟨gb104, 5, none⟩ = some (.int .i64 0) := (blk_cell BK104.out 5).trans rfl
                have hcz44_6 : wc.cell? ⟨gb104, 6, none⟩ = some (.slice none 0 0) := (blk_cell BK104.out 6).trans rfl
                have hfz44_0 := blk_frozen BK104.out 0
                have hfz44_1 := blk_frozen BK104.out 1
                have hfz44_2 := blk_frozen BK104.out 2
                have hfz44_3 := blk_frozen BK104.out 3
                have hfz44_4 := blk_frozen BK104.out 4
                have hfz44_5 := blk_frozen BK104.out 5
                have hfz44_6 := blk_frozen BK104.out 6
                have hcz45_0 : wc.cell? ⟨gb103, 0, none⟩ = some (.int .u8 x104000_3) := (blk_cell BK103.out 0).trans rfl
                have hcz45_1 : wc.cell? ⟨gb103, 1, none⟩ = some (.string x104001_3) := (blk_cell BK103.out 1).trans rfl
                have hcz45_2 : wc.cell? ⟨gb103, 2, none⟩ = some (.string x104002_3) := (blk_cell BK103.out 2).trans rfl
                have hcz45_3 : wc.cell? ⟨gb103, 3, none⟩ = some (.int .i64 x104003_3) := (blk_cell BK103.out 3).trans rfl
                have hcz45_4 : wc.cell? ⟨gb103, 4, none⟩ = some (.int .i64 x104004_3) := (blk_cell BK103.out 4).trans rfl
                have hcz45_5 : wc.cell? ⟨gb103, 5, none⟩ = some (.int .i64 x104005_3) := (blk_cell BK103.out 5).trans rfl
                have hcz45_6 : wc.cell? ⟨gb103, 6, none⟩ = some (.slice none 0 0) := (blk_cell BK103.out 6).trans rfl
                have hfz45_0 := blk_frozen BK103.out 0
                have hfz45_1 := blk_frozen BK103.out 1
                have hfz45_2 := blk_frozen BK103.out 2
                have hfz45_3 := blk_frozen BK103.out 3
                have hfz45_4 := blk_frozen BK103.out 4
                have hfz45_5 := blk_frozen BK103.out 5
                have hfz45_6 := blk_frozen BK103.out 6
                go_wp2
                refine bodyPost_ret (results_cell_row rfl _ _ gb103 28 #[.int .u8 a0, .string x105001_3, .string (⟨#[]⟩ : ByteArray), .int .i64 x105003_3, .int .i64 (wrap64 (a1)), .int .i64 (wrap64 (a2)), .slice none 0 0] (0, 0) _ rfl (by (with_reducible repeat (first | refine blk_drewN ?_ _ | refine blk_drew ?_ | refine blk_alloc ?_ _)); refine blk_put (cs := #[.int .u8 a0, .string x105001_3, .string (⟨#[]⟩ : ByteArray), .int .i64 x105003_3, .int .i64 (wrap64 (a1)), .int .i64 (wrap64 (a2)), .slice none 0 0]) ?_ 6 _ rfl; (with_reducible repeat (first | refine blk_drewN ?_ _ | refine blk_drew ?_ | refine blk_alloc ?_ _)); refine blk_put (cs := #[.int .u8 a0, .string x105001_3, .string (⟨#[]⟩ : ByteArray), .int .i64 x105003_3, .int .i64 (wrap64 (a1)), .int .i64 x104005_3, .slice none 0 0]) ?_ 5 _ rfl; (with_reducible repeat (first | refine blk_drewN ?_ _ | refine blk_drew ?_ | refine blk_alloc ?_ _)); refine blk_put (cs := #[.int .u8 a0, .string x105001_3, .string (⟨#[]⟩ : ByteArray), .int .i64 x105003_3, .int .i64 x104004_3, .int .i64 x104005_3, .slice none 0 0]) ?_ 4 _ rfl; (with_reducible repeat (first | refine blk_drewN ?_ _ | refine blk_drew ?_ | refine blk_alloc ?_ _)); refine blk_put (cs := #[.int .u8 a0, .string x105001_3, .string (⟨#[]⟩ : ByteArray), .int .i64 x104003_3, .int .i64 x104004_3, .int .i64 x104005_3, .slice none 0 0]) ?_ 3 _ rfl; (with_reducible repeat (first | refine blk_drewN ?_ _ | refine blk_drew ?_ | refine blk_alloc ?_ _)); refine blk_put (cs := #[.int .u8 a0, .string x105001_3, .string x104002_3, .int .i64 x104003_3, .int .i64 x104004_3, .int .i64 x104005_3, .slice none 0 0]) ?_ 2 _ rfl; (with_reducible repeat (first | refine blk_drewN ?_ _ | refine blk_drew ?_ | refine blk_alloc ?_ _)); refine blk_put (cs := #[.int .u8 a0, .string x104001_3, .string x104002_3, .int .i64 x104003_3, .int .i64 x104004_3, .int .i64 x104005_3, .slice none 0 0]) ?_ 1 _ rfl; (with_reducible repeat (first | refine blk_drewN ?_ _ | refine blk_drew ?_ | refine blk_alloc ?_ _)); refine blk_put (cs := #[.int .u8 x104000_3, .string x104001_3, .string x104002_3, .int .i64 x104003_3, .int .i64 x104004_3, .int .i64 x104005_3, .slice none 0 0]) ?_ 0 _ rfl; (with_reducible repeat (first | refine blk_drewN ?_ _ | refine blk_drew ?_ | refine blk_alloc ?_ _)); refine blk_far ?_ NB103_104.out _; (with_reducible repeat (first | refine blk_drewN ?_ _ | refine blk_drew ?_ | refine blk_alloc ?_ _)); refine blk_far ?_ NB103_104.out _; (with_reducible repeat (first | refine blk_drewN ?_ _ | refine blk_drew ?_ | refine blk_alloc ?_ _)); exact BK103.out) Tryd.underlying28 rfl (by kernel_rfl)) rfl ?_
                exact ⟨_, by first | rfl | (simp [errW_none, errW_some] <;> rfl) | (simp [*, errW_none, errW_some] <;> rfl), by first | exact Kd.R_nil _ _ _ _ _ | exact Kd.N_nil _ _ _ _ _ | exact Kd.V_nil _ _ _ _ _ | exact Kd.Q_nil _ _ _ _ _ | exact Kd.S_nil _ _ _ _ _, by repeat (first | (with_reducible first | exact HB.out | apply below_alloc | apply pw_below_drewN | apply below_drew1 | refine below_set ?_ GE103.out | refine below_set ?_ GE104.out) | exact HB.out)⟩
              · rw [if_neg c42] at H
                have c42b0 : (a0 == 8) = false := beq_eq_false_iff_ne.mpr c42
                have c42b1 : (a0 != 8) = true := bne_iff_ne.mpr c42
                by_cases c46 : a0 = 9
                · rw [if_pos c46] at H
                  have c46b0 : (a0 == 9) = true := beq_iff_eq.mpr c46
                  have c46b1 : (a0 != 9) = false := bne_eq_false_iff_eq.mpr c46
                  clear c46
                  have H' := Aside0.mk H
                  clear H
                  have hnb47 := NB104_103.out
                  have hnc47 := NB103_104.out
                  have hcz48_0 : wc.cell? ⟨gb104, 0, none⟩ = some (.int .u8 a0) := (blk_cell BK104.out 0).trans rfl
                  have hcz48_1 : wc.cell? ⟨gb104, 1, none⟩ = some (.string x105001_3) := (blk_cell BK104.out 1).trans rfl
                  have hcz48_2 : wc.cell? ⟨gb104, 2, none⟩ = some (.string (⟨#[]⟩ : ByteArray)) := (blk_cell BK104.out 2).trans rfl
                  have hcz48_3 : wc.cell? ⟨gb104, 3, none⟩ = some (.int .i64 x105003_3) := (blk_cell BK104.out 3).trans rfl
                  have hcz48_4 : wc.cell? ⟨gb104, 4, none⟩ = some (.int .i64 0) := (blk_cell BK104.out 4).trans rfl
                  have hcz48_5 : wc.cell? ⟨gb104, 5, none⟩ = some (.int .i64 0) := (blk_cell BK104.out 5).trans rfl
                  have hcz48_6 : wc.cell? ⟨gb104, 6, none⟩ = some (.slice none 0 0) := (blk_cell BK104.out 6).trans rfl
                  have hfz48_0 := blk_frozen BK104.out 0
                  have hfz48_1 := blk_frozen BK104.out 1
                  have hfz48_2 := blk_frozen BK104.out 2
                  have hfz48_3 := blk_frozen BK104.out 3
                  have hfz48_4 := blk_frozen BK104.out 4
                  have hfz48_5 := blk_frozen BK104.out 5
                  have hfz48_6 := blk_frozen BK104.out 6
                  go_wp2
                  go_loopg [58] kj30 (fun kq v58 w' => ∃ (x58_3 : Int) (x105006_3 : List Int) (u105006 : Value), v58 = .int .u8 x58_3 ∧ Aside0 (script_op.l0 kq a1 ((1 + (Int.tmod a2 70)) % 256) x58_3 a0 x105001_3 (⟨#[]⟩ : ByteArray) x105003_3 (wrap64 (a1)) 0 x105006_3 = some (r1, r2, r3, r4, r5, r6, r7)) ∧ Aside0 (kq ≤ kj30) ∧ Aside0 (Kd.R (Kd.int .u8) 5 w' w.heap.size (fun _ => True) u105006 x105006_3) ∧ Aside0 (w'.heap[gb103]? = some (.cells #[.int .u8 x104000_3, .string x104001_3, .string x104002_3, .int .i64 x104003_3, .int .i64 x104004_3, .int .i64 x104005_3, (.slice none 0 0)] 28 (0, 0))) ∧ Aside0 (w'.heap[gb104]? = some (.cells #[.int .u8 a0, .string x105001_3, .string (⟨#[]⟩ : ByteArray), .int .i64 x105003_3, .int .i64 (wrap64 (a1)), .int .i64 0, u105006] 28 (0, 0))) ∧ Aside0 (Below w.heap.size w w'))
                  case atStart => exact ⟨(0), (([] : List Int)), (.slice none 0 0), (by first | rfl | (simp; done) | (simp [*]; done)), H', ⟨Nat.le_refl _⟩, ⟨by first | exact Kd.R_nil _ _ _ _ _ | exact Kd.N_nil _ _ _ _ _ | exact Kd.V_nil _ _ _ _ _ | exact Kd.Q_nil _ _ _ _ _ | exact Kd.S_nil _ _ _ _ _⟩, ⟨by (with_reducible repeat (first | refine blk_drewN ?_ _ | refine blk_drew ?_ | refine blk_alloc ?_ _)); refine blk_far ?_ NB103_104.out _; (with_reducible repeat (first | refine blk_drewN ?_ _ | refine blk_drew ?_ | refine blk_alloc ?_ _)); exact BK103.out⟩, ⟨by (with_reducible repeat (first | refine blk_drewN ?_ _ | refine blk_drew ?_ | refine blk_alloc ?_ _)); refine blk_put (cs := #[.int .u8 a0, .string x105001_3, .string (⟨#[]⟩ : ByteArray), .int .i64 x105003_3, .int .i64 0, .int .i64 0, .slice none 0 0]) ?_ 4 _ rfl; (with_reducible repeat (first | refine blk_drewN ?_ _ | refine blk_drew ?_ | refine blk_alloc ?_ _)); exact BK104.out⟩, ⟨by repeat (first | (with_reducible first | exact HB.out | apply below_alloc | apply pw_below_drewN | apply below_drew1 | refine below_set ?_ GE103.out | refine below_set ?_ GE104.out) | exact HB.out)⟩⟩
                  case round =>
                    clear H'
                    try clear c1
                    try clear c2
                    try clear p2
                    try clear c3
                    try clear c4
                    try clear p6
                    try clear c7
                    try clear c9
                    try clear c10
                    try clear c10b0
                    try clear c10b1
                    try clear c11
                    try clear c11b0
                    try clear c11b1
                    try clear c12
                    try clear c13
                    try clear c15
                    try clear c16
                    try clear c16b0
                    try clear c16b1
                    try clear c17
                    try clear c19
                    try clear c19b0
                    try clear c19b1
                    try clear c20
                    try clear c22
                    try clear c22b0
                    try clear c22b1
                    try clear c23
                    try clear c25
                    try clear c25b0
                    try clear c25b1
                    try clear c26
                    try clear c29
                    try clear c32
                    try clear c32b0
                    try clear c32b1
                    try clear c33
                    try clear c35
                    try clear c38
                    try clear c38b0
                    try clear c38b1
                    try clear c39
                    try clear c42
                    try clear c42b0
                    try clear c42b1
                    try clear c43
                    try clear c46
                    try clear c46b0
                    try clear c46b1
                    try clear c47
                    try clear hcz14_0
                    try clear hcz14_1
                    try clear hcz14_2
                    try clear hcz14_3
                    try clear hcz14_4
                    try clear hcz14_5
                    try clear hcz14_6
                    try clear hcz15_0
                    try clear hcz15_1
                    try clear hcz15_2
                    try clear hcz15_3
                    try clear hcz15_4
                    try clear hcz15_5
                    try clear hcz15_6
                    try clear hcz18_0
                    try clear hcz18_1
                    try clear hcz18_2
                    try clear hcz18_3
                    try clear hcz18_4
                    try clear hcz18_5
                    try clear hcz18_6
                    try clear hcz21_0
                    try clear hcz21_1
                    try clear hcz21_2
                    try clear hcz21_3
                    try clear hcz21_4
                    try clear hcz21_5
                    try clear hcz21_6
                    try clear hcz24_0
                    try clear hcz24_1
                    try clear hcz24_2
                    try clear hcz24_3
                    try clear hcz24_4
                    try clear hcz24_5
                    try clear hcz24_6
                    try clear hcz27_0
                    try clear hcz27_1
                    try clear hcz27_2
                    try clear hcz27_3
                    try clear hcz27_4
                    try clear hcz27_5
                    try clear hcz27_6
                    try clear hcz30_0
                    try clear hcz30_1
                    try clear hcz30_2
                    try clear hcz30_3
                    try clear hcz30_4
                    try clear hcz30_5
                    try clear hcz30_6
                    try clear hcz36_0
                    try clear hcz36_1
                    try clear hcz36_2
                    try clear hcz36_3
                    try clear hcz36_4
                    try clear hcz36_5
                    try clear hcz36_6
                    try clear hcz37_0
                    try clear hcz37_1
                    try clear hcz37_2
                    try clear hcz37_3
                    try clear hcz37_4
                    try clear hcz37_5
                    try clear hcz37_6
                    try clear hcz40_0
                    try clear hcz40_1
                    try clear hcz40_2
                    try clear hcz40_3
                    try clear hcz40_4
                    try clear hcz40_5
                    try clear hcz40_6
                    try clear hcz41_0
                    try clear hcz41_1
                    try clear hcz41_2
                    try clear hcz41_3
                    try clear hcz41_4
                    try clear hcz41_5
                    try clear hcz41_6
                    try clear hcz44_0
                    try clear hcz44_1
                    try clear hcz44_2
                    try clear hcz44_3
                    try clear hcz44_4
                    try clear hcz44_5
                    try clear hcz44_6
                    try clear hcz45_0
                    try clear hcz45_1
                    try clear hcz45_2
                    try clear hcz45_3
                    try clear hcz45_4
                    try clear hcz45_5
                    try clear hcz45_6
                    try clear hcz48_0
                    try clear hcz48_1
                    try clear hcz48_2
                    try clear hcz48_3
                    try clear hcz48_4
                    try clear hcz48_5
                    try clear hcz48_6
                    try clear hcz8_0
                    try clear hcz8_1
                    try clear hcz8_2
                    try clear hcz8_3
                    try clear hcz8_4
                    try clear hcz8_5
                    try clear hcz8_6
                    try clear hfz14_0
                    try clear hfz14_1
                    try clear hfz14_2
                    try clear hfz14_3
                    try clear hfz14_4
                    try clear hfz14_5
                    try clear hfz14_6
                    try clear hfz15_0
                    try clear hfz15_1
                    try clear hfz15_2
                    try clear hfz15_3
                    try clear hfz15_4
                    try clear hfz15_5
                    try clear hfz15_6
                    try clear hfz18_0
                    try clear hfz18_1
                    try clear hfz18_2
                    try clear hfz18_3
                    try clear hfz18_4
                    try clear hfz18_5
                    try clear hfz18_6
                    try clear hfz21_0
                    try clear hfz21_1
                    try clear hfz21_2
                    try clear hfz21_3
                    try clear hfz21_4
                    try clear hfz21_5
                    try clear hfz21_6
                    try clear hfz24_0
                    try clear hfz24_1
                    try clear hfz24_2
                    try clear hfz24_3
                    try clear hfz24_4
                    try clear hfz24_5
                    try clear hfz24_6
                    try clear hfz27_0
                    try clear hfz27_1
                    try clear hfz27_2
                    try clear hfz27_3
                    try clear hfz27_4
                    try clear hfz27_5
                    try clear hfz27_6
                    try clear hfz30_0
                    try clear hfz30_1
                    try clear hfz30_2
                    try clear hfz30_3
                    try clear hfz30_4
                    try clear hfz30_5
                    try clear hfz30_6
                    try clear hfz36_0
                    try clear hfz36_1
                    try clear hfz36_2
                    try clear hfz36_3
                    try clear hfz36_4
                    try clear hfz36_5
                    try clear hfz36_6
                    try clear hfz37_0
                    try clear hfz37_1
                    try clear hfz37_2
                    try clear hfz37_3
                    try clear hfz37_4
                    try clear hfz37_5
                    try clear hfz37_6
                    try clear hfz40_0
                    try clear hfz40_1
                    try clear hfz40_2
                    try clear hfz40_3
                    try clear hfz40_4
                    try clear hfz40_5
                    try clear hfz40_6
                    try clear hfz41_0
                    try clear hfz41_1
                    try clear hfz41_2
                    try clear hfz41_3
                    try clear hfz41_4
                    try clear hfz41_5
                    try clear hfz41_6
                    try clear hfz44_0
                    try clear hfz44_1
                    try clear hfz44_2
                    try clear hfz44_3
                    try clear hfz44_4
                    try clear hfz44_5
                    try clear hfz44_6
                    try clear hfz45_0
                    try clear hfz45_1
                    try clear hfz45_2
                    try clear hfz45_3
                    try clear hfz45_4
                    try clear hfz45_5
                    try clear hfz45_6
                    try clear hfz48_0
                    try clear hfz48_1
                    try clear hfz48_2
                    try clear hfz48_3
                    try clear hfz48_4
                    try clear hfz48_5
                    try clear hfz48_6
                    try clear hfz8_0
                    try clear hfz8_1
                    try clear hfz8_2
                    try clear hfz8_3
                    try clear hfz8_4
                    try clear hfz8_5
                    try clear hfz8_6
                    try clear p2
                    try clear p6
                    obtain ⟨x58_3, x105006_3, u105006, rfl, HA, HK3, HO_105006, BK103, BK104, HB⟩ := hrel
                    cases gk with
                    | zero => exact absurd HA.out (by simp [script_op.l0])
                    | succ k3 =>
                      have H := HA.out
                      clear HA
                      simp only [script_op.l0] at H
                      by_cases c49 : x58_3 < ((1 + (Int.tmod a2 70)) % 256)
                      · rw [if_pos c49] at H
                        have c49b0 : decide (x58_3 < ((1 + (Int.tmod a2 70)) % 256)) = true := decide_eq_true c49
                        clear c49
                        by_cases c50 : x105006_3.length < 140737488355328
                        · rw [if_pos c50] at H
                          have LMc50 := Aside0.mk c50
                          clear c50
                          obtain ⟨y107, hy107⟩ : ∃ y_ : List Int, y_ = (x105006_3 ++ [(a1 + x58_3) % 256]) := ⟨_, rfl⟩
                          replace H : (script_op.l0 k3 a1 ((1 + (Int.tmod a2 70)) % 256) ((x58_3 + 1) % 256) a0 x105001_3 (⟨#[]⟩ : ByteArray) x105003_3 (wrap64 (a1)) 0 y107) = some (r1, r2, r3, r4, r5, r6, r7) := by first | (rw [hy107]; with_reducible exact H) | (have H2_ := (Option.bind_some _ _).symm.trans H; rw [hy107]; with_reducible exact H2_) | (have H2_ := (Option.bind_some _ _).symm.trans H; with_reducible exact H2_) | with_reducible exact H | (rw [hy107]; exact H) | exact H
                          have Ny107 := Aside0.mk hy107
                          clear hy107
                          have H' := Aside0.mk H
                          clear H
                          have hnb51 := NB104_103.out
                          have hnc51 := NB103_104.out
                          have hcz52_0 : wr.cell? ⟨gb104, 0, none⟩ = some (.int .u8 a0) := (blk_cell BK104.out 0).trans rfl
                          have hcz52_1 : wr.cell? ⟨gb104, 1, none⟩ = some (.string x105001_3) := (blk_cell BK104.out 1).trans rfl
                          have hcz52_2 : wr.cell? ⟨gb104, 2, none⟩ = some (.string (⟨#[]⟩ : ByteArray)) := (blk_cell BK104.out 2).trans rfl
                          have hcz52_3 : wr.cell? ⟨gb104, 3, none⟩ = some (.int .i64 x105003_3) := (blk_cell BK104.out 3).trans rfl
                          have hcz52_4 : wr.cell? ⟨gb104, 4, none⟩ = some (.int .i64 (wrap64 (a1))) := (blk_cell BK104.out 4).trans rfl
                          have hcz52_5 : wr.cell? ⟨gb104, 5, none⟩ = some (.int .i64 0) := (blk_cell BK104.out 5).trans rfl
                          have hcz52_6 : wr.cell? ⟨gb104, 6, none⟩ = some (u105006) := (blk_cell BK104.out 6).trans rfl
                          have hfz52_0 := blk_frozen BK104.out 0
                          have hfz52_1 := blk_frozen BK104.out 1
                          have hfz52_2 := blk_frozen BK104.out 2
                          have hfz52_3 := blk_frozen BK104.out 3
                          have hfz52_4 := blk_frozen BK104.out 4
                          have hfz52_5 := blk_frozen BK104.out 5
                          have hfz52_6 := blk_frozen BK104.out 6
                          go_wp2_with (first | ((with_reducible refine gate_builtin (b := .append) (xs := #[.tmp 62, .tmp 66]) rfl ?_); at_builtin; refine Kd.R_append (Kd.int .u8) (w0 := w) w.heap.size rfl (.tmp 62) (.tmp 66) 22 5 (.int .u8 0) 1 rfl Tryd.underlying22 info5 rfl (by decide) (by omega) u105006 x105006_3 ((a1 + x58_3) % 256) [.int .u8 ((a1 + x58_3) % 256)] (fun _ => True) (fun _ => False) rfl rfl ?aP (fun _ hk => hk.elim) ?aF ?aO ?aB ?aS ?aL ?_; (case aP => exact rfl); (case aB => exact (by repeat (first | (with_reducible first | exact HB.out | apply below_alloc | apply pw_below_drewN | apply below_drew1 | refine below_set ?_ GE103.out | refine below_set ?_ GE104.out) | exact HB.out))); (case aF => exact (fun _ _ => trivial)); (case aO => exact (by (with_reducible repeat (first | apply Kd.R_alloc | apply Kd.R_drewN | apply Kd.R_drew)); exact HO_105006.out)); (case aS => exact (below_size (by repeat (first | (with_reducible first | exact HB.out | apply below_alloc | apply pw_below_drewN | apply below_drew1 | refine below_set ?_ GE103.out | refine below_set ?_ GE104.out) | exact HB.out)))); (case aL => have := LMc50.out; omega); intro v108 w53 ho hb hg hat; rw [← Ny107.out] at ho; have n0_ := Aside0.mk (blk_grown (g := gb103) (o := .cells #[.int .u8 x104000_3, .string x104001_3, .string x104002_3, .int .i64 x104003_3, .int .i64 x104004_3, .int .i64 x104005_3, .slice none 0 0] 28 (0, 0)) (by (with_reducible repeat (first | refine blk_drewN ?_ _ | refine blk_drew ?_ | refine blk_alloc ?_ _)); exact BK103.out) hg (Kd.R_ne HO_105006.out BK103.out (by decide))); have n1_ := Aside0.mk (blk_grown (g := gb104) (o := .cells #[.int .u8 a0, .string x105001_3, .string (⟨#[]⟩ : ByteArray), .int .i64 x105003_3, .int .i64 (wrap64 (a1)), .int .i64 0, u105006] 28 (0, 0)) (by (with_reducible repeat (first | refine blk_drewN ?_ _ | refine blk_drew ?_ | refine blk_alloc ?_ _)); exact BK104.out) hg (Kd.R_ne HO_105006.out BK104.out (by decide))); have n2_ := Aside0.mk (hb); have n3_ := Aside0.mk (ho); clear BK103; clear BK104; clear HB; clear HO_105006; have BK103 := n0_; have BK104 := n1_; have HB := n2_; have HO109 := n3_; clear n0_ n1_ n2_ n3_; clear ho hb hg hat; obtain ⟨Ao54, co54, eo54⟩ := Kd.R_slice HO109.out; subst eo54; have hcz55_0 : w53.cell? ⟨gb104, 0, none⟩ = some (.int .u8 a0) := (blk_cell BK104.out 0).trans rfl; have hcz55_1 : w53.cell? ⟨gb104, 1, none⟩ = some (.string x105001_3) := (blk_cell BK104.out 1).trans rfl; have hcz55_2 : w53.cell? ⟨gb104, 2, none⟩ = some (.string (⟨#[]⟩ : ByteArray)) := (blk_cell BK104.out 2).trans rfl; have hcz55_3 : w53.cell? ⟨gb104, 3, none⟩ = some (.int .i64 x105003_3) := (blk_cell BK104.out 3).trans rfl; have hcz55_4 : w53.cell? ⟨gb104, 4, none⟩ = some (.int .i64 (wrap64 (a1))) := (blk_cell BK104.out 4).trans rfl; have hcz55_5 : w53.cell? ⟨gb104, 5, none⟩ = some (.int .i64 0) := (blk_cell BK104.out 5).trans rfl; have hcz55_6 : w53.cell? ⟨gb104, 6, none⟩ = some (u105006) := (blk_cell BK104.out 6).trans rfl; have hfz55_0 := blk_frozen BK104.out 0; have hfz55_1 := blk_frozen BK104.out 1; have hfz55_2 := blk_frozen BK104.out 2; have hfz55_3 := blk_frozen BK104.out 3; have hfz55_4 := blk_frozen BK104.out 4; have hfz55_5 := blk_frozen BK104.out 5; have hfz55_6 := blk_frozen BK104.out 6))
                          go_roundg k3
                          case measure => have := HJ3.out; have := HJ30.out; have := HK3.out; omega
                          case rel => exact ⟨((x58_3 + 1) % 256), (y107), (.slice Ao54 y107.length co54), (by first | rfl | (simp; done) | (simp [*]; done)), H', ⟨by have := HJ3.out; have := HJ30.out; have := HK3.out; omega⟩, ⟨by (with_reducible repeat (first | apply Kd.R_alloc | apply Kd.R_drewN | apply Kd.R_drew)); exact Kd.R_mono (Kd.R_far (p := ⟨gb104, 6, none⟩) (Kd.R_types HO109.out BK104.out (by decide)) (fun _ hk => hk.2) (.slice Ao54 y107.length co54)) (fun _ hk => trivial)⟩, ⟨by (with_reducible repeat (first | refine blk_drewN ?_ _ | refine blk_drew ?_ | refine blk_alloc ?_ _)); refine blk_far ?_ NB103_104.out _; (with_reducible repeat (first | refine blk_drewN ?_ _ | refine blk_drew ?_ | refine blk_alloc ?_ _)); exact BK103.out⟩, ⟨by (with_reducible repeat (first | refine blk_drewN ?_ _ | refine blk_drew ?_ | refine blk_alloc ?_ _)); refine blk_put (cs := #[.int .u8 a0, .string x105001_3, .string (⟨#[]⟩ : ByteArray), .int .i64 x105003_3, .int .i64 (wrap64 (a1)), .int .i64 0, u105006]) ?_ 6 _ rfl; (with_reducible repeat (first | refine blk_drewN ?_ _ | refine blk_drew ?_ | refine blk_alloc ?_ _)); exact BK104.out⟩, ⟨by repeat (first | (with_reducible first | exact HB.out | apply below_alloc | apply pw_below_drewN | apply below_drew1 | refine below_set ?_ GE103.out | refine below_set ?_ GE104.out) | exact HB.out)⟩⟩
                        · rw [if_neg c50] at H
                          exact absurd H (by simp)
                      · rw [if_neg c49] at H
                        have c49b0 : decide (x58_3 < ((1 + (Int.tmod a2 70)) % 256)) = false := decide_eq_false c49
                        clear c49
                        simp only [Option.some.injEq, Prod.mk.injEq] at H
                        obtain ⟨rfl, rfl, rfl, rfl, rfl, rfl, rfl⟩ := H
                        have hnb56 := NB104_103.out
                        have hnc56 := NB103_104.out
                        have hcz57_0 : wr.cell? ⟨gb104, 0, none⟩ = some (.int .u8 a0) := (blk_cell BK104.out 0).trans rfl
                        have hcz57_1 : wr.cell? ⟨gb104, 1, none⟩ = some (.string x105001_3) := (blk_cell BK104.out 1).trans rfl
                        have hcz57_2 : wr.cell? ⟨gb104, 2, none⟩ = some (.string (⟨#[]⟩ : ByteArray)) := (blk_cell BK104.out 2).trans rfl
                        have hcz57_3 : wr.cell? ⟨gb104, 3, none⟩ = some (.int .i64 x105003_3) := (blk_cell BK104.out 3).trans rfl
                        have hcz57_4 : wr.cell? ⟨gb104, 4, none⟩ = some (.int .i64 (wrap64 (a1))) := (blk_cell BK104.out 4).trans rfl
                        have hcz57_5 : wr.cell? ⟨gb104, 5, none⟩ = some (.int .i64 0) := (blk_cell BK104.out 5).trans rfl
                        have hcz57_6 : wr.cell? ⟨gb104, 6, none⟩ = some (u105006) := (blk_cell BK104.out 6).trans rfl
                        have hfz57_0 := blk_frozen BK104.out 0
                        have hfz57_1 := blk_frozen BK104.out 1
                        have hfz57_2 := blk_frozen BK104.out 2
                        have hfz57_3 := blk_frozen BK104.out 3
                        have hfz57_4 := blk_frozen BK104.out 4
                        have hfz57_5 := blk_frozen BK104.out 5
                        have hfz57_6 := blk_frozen BK104.out 6
                        have hcz58_0 : wr.cell? ⟨gb103, 0, none⟩ = some (.int .u8 x104000_3) := (blk_cell BK103.out 0).trans rfl
                        have hcz58_1 : wr.cell? ⟨gb103, 1, none⟩ = some (.string x104001_3) := (blk_cell BK103.out 1).trans rfl
                        have hcz58_2 : wr.cell? ⟨gb103, 2, none⟩ = some (.string x104002_3) := (blk_cell BK103.out 2).trans rfl
                        have hcz58_3 : wr.cell? ⟨gb103, 3, none⟩ = some (.int .i64 x104003_3) := (blk_cell BK103.out 3).trans rfl
                        have hcz58_4 : wr.cell? ⟨gb103, 4, none⟩ = some (.int .i64 x104004_3) := (blk_cell BK103.out 4).trans rfl
                        have hcz58_5 : wr.cell? ⟨gb103, 5, none⟩ = some (.int .i64 x104005_3) := (blk_cell BK103.out 5).trans rfl
                        have hcz58_6 : wr.cell? ⟨gb103, 6, none⟩ = some (.slice none 0 0) := (blk_cell BK103.out 6).trans rfl
                        have hfz58_0 := blk_frozen BK103.out 0
                        have hfz58_1 := blk_frozen BK103.out 1
                        have hfz58_2 := blk_frozen BK103.out 2
                        have hfz58_3 := blk_frozen BK103.out 3
                        have hfz58_4 := blk_frozen BK103.out 4
                        have hfz58_5 := blk_frozen BK103.out 5
                        have hfz58_6 := blk_frozen BK103.out 6
                        obtain ⟨Ao59, co59, eo59⟩ := Kd.R_slice HO_105006.out
                        subst eo59
                        go_wp2
                        refine bodyPost_ret (results_cell_row rfl _ _ gb103 28 #[.int .u8 a0, .string x105001_3, .string (⟨#[]⟩ : ByteArray), .int .i64 x105003_3, .int .i64 (wrap64 (a1)), .int .i64 0, .slice Ao59 x105006_3.length co59] (0, 0) _ rfl (by (with_reducible repeat (first | refine blk_drewN ?_ _ | refine blk_drew ?_ | refine blk_alloc ?_ _)); refine blk_put (cs := #[.int .u8 a0, .string x105001_3, .string (⟨#[]⟩ : ByteArray), .int .i64 x105003_3, .int .i64 (wrap64 (a1)), .int .i64 0, .slice none 0 0]) ?_ 6 _ rfl; (with_reducible repeat (first | refine blk_drewN ?_ _ | refine blk_drew ?_ | refine blk_alloc ?_ _)); refine blk_put (cs := #[.int .u8 a0, .string x105001_3, .string (⟨#[]⟩ : ByteArray), .int .i64 x105003_3, .int .i64 (wrap64 (a1)), .int .i64 x104005_3, .slice none 0 0]) ?_ 5 _ rfl; (with_reducible repeat (first | refine blk_drewN ?_ _ | refine blk_drew ?_ | refine blk_alloc ?_ _)); refine blk_put (cs := #[.int .u8 a0, .string x105001_3, .string (⟨#[]⟩ : ByteArray), .int .i64 x105003_3, .int .i64 x104004_3, .int .i64 x104005_3, .slice none 0 0]) ?_ 4 _ rfl; (with_reducible repeat (first | refine blk_drewN ?_ _ | refine blk_drew ?_ | refine blk_alloc ?_ _)); refine blk_put (cs := #[.int .u8 a0, .string x105001_3, .string (⟨#[]⟩ : ByteArray), .int .i64 x104003_3, .int .i64 x104004_3, .int .i64 x104005_3, .slice none 0 0]) ?_ 3 _ rfl; (with_reducible repeat (first | refine blk_drewN ?_ _ | refine blk_drew ?_ | refine blk_alloc ?_ _)); refine blk_put (cs := #[.int .u8 a0, .string x105001_3, .string x104002_3, .int .i64 x104003_3, .int .i64 x104004_3, .int .i64 x104005_3, .slice none 0 0]) ?_ 2 _ rfl; (with_reducible repeat (first | refine blk_drewN ?_ _ | refine blk_drew ?_ | refine blk_alloc ?_ _)); refine blk_put (cs := #[.int .u8 a0, .string x104001_3, .string x104002_3, .int .i64 x104003_3, .int .i64 x104004_3, .int .i64 x104005_3, .slice none 0 0]) ?_ 1 _ rfl; (with_reducible repeat (first | refine blk_drewN ?_ _ | refine blk_drew ?_ | refine blk_alloc ?_ _)); refine blk_put (cs := #[.int .u8 x104000_3, .string x104001_3, .string x104002_3, .int .i64 x104003_3, .int .i64 x104004_3, .int .i64 x104005_3, .slice none 0 0]) ?_ 0 _ rfl; (with_reducible repeat (first | refine blk_drewN ?_ _ | refine blk_drew ?_ | refine blk_alloc ?_ _)); exact BK103.out) Tryd.underlying28 rfl (by kernel_rfl)) rfl ?_
                        exact ⟨_, by first | rfl | (simp [errW_none, errW_some] <;> rfl) | (simp [*, errW_none, errW_some] <;> rfl), by (with_reducible repeat (first | apply Kd.R_alloc | apply Kd.R_drewN | apply Kd.R_drew)); exact Kd.R_mono (Kd.R_far (p := ⟨gb103, 6, none⟩) (Kd.R_far (p := ⟨gb103, 5, none⟩) (Kd.R_far (p := ⟨gb103, 4, none⟩) (Kd.R_far (p := ⟨gb103, 3, none⟩) (Kd.R_far (p := ⟨gb103, 2, none⟩) (Kd.R_far (p := ⟨gb103, 1, none⟩) (Kd.R_far (p := ⟨gb103, 0, none⟩) (Kd.R_types HO_105006.out BK103.out (by decide)) (fun _ hk => hk.2) (.int .u8 a0)) (fun _ hk => hk.2) (.string x105001_3)) (fun _ hk => hk.2) (.string (⟨#[]⟩ : ByteArray))) (fun _ hk => hk.2) (.int .i64 x105003_3)) (fun _ hk => hk.2) (.int .i64 (wrap64 (a1)))) (fun _ hk => hk.2) (.int .i64 0)) (fun _ hk => hk.2) (.slice Ao59 x105006_3.length co59)) (fun _ hk => trivial), by repeat (first | (with_reducible first | exact HB.out | apply below_alloc | apply pw_below_drewN | apply below_drew1 | refine below_set ?_ GE103.out | refine below_set ?_ GE104.out) | exact HB.out)⟩
                · rw [if_neg c46] at H
                  have c46b0 : (a0 == 9) = false := beq_eq_false_iff_ne.mpr c46
                  have c46b1 : (a0 != 9) = true := bne_iff_ne.mpr c46
                  simp only [Option.some.injEq, Prod.mk.injEq] at H
                  obtain ⟨rfl, rfl, rfl, rfl, rfl, rfl, rfl⟩ := H
                  have hnb60 := NB104_103.out
                  have hnc60 := NB103_104.out
                  have hcz61_0 : wc.cell? ⟨gb104, 0, none⟩ = some (.int .u8 a0) := (blk_cell BK104.out 0).trans rfl
                  have hcz61_1 : wc.cell? ⟨gb104, 1, none⟩ = some (.string x105001_3) := (blk_cell BK104.out 1).trans rfl
                  have hcz61_2 : wc.cell? ⟨gb104, 2, none⟩ = some (.string (⟨#[]⟩ : ByteArray)) := (blk_cell BK104.out 2).trans rfl
                  have hcz61_3 : wc.cell? ⟨gb104, 3, none⟩ = some (.int .i64 x105003_3) := (blk_cell BK104.out 3).trans rfl
                  have hcz61_4 : wc.cell? ⟨gb104, 4, none⟩ = some (.int .i64 0) := (blk_cell BK104.out 4).trans rfl
                  have hcz61_5 : wc.cell? ⟨gb104, 5, none⟩ = some (.int .i64 0) := (blk_cell BK104.out 5).trans rfl
                  have hcz61_6 : wc.cell? ⟨gb104, 6, none⟩ = some (.slice none 0 0) := (blk_cell BK104.out 6).trans rfl
                  have hfz61_0 := blk_frozen BK104.out 0
                  have hfz61_1 := blk_frozen BK104.out 1
                  have hfz61_2 := blk_frozen BK104.out 2
                  have hfz61_3 := blk_frozen BK104.out 3
                  have hfz61_4 := blk_frozen BK104.out 4
                  have hfz61_5 := blk_frozen BK104.out 5
                  have hfz61_6 := blk_frozen BK104.out 6
                  have hcz62_0 : wc.cell? ⟨gb103, 0, none⟩ = some (.int .u8 x104000_3) := (blk_cell BK103.out 0).trans rfl
                  have hcz62_1 : wc.cell? ⟨gb103, 1, none⟩ = some (.string x104001_3) := (blk_cell BK103.out 1).trans rfl
                  have hcz62_2 : wc.cell? ⟨gb103, 2, none⟩ = some (.string x104002_3) := (blk_cell BK103.out 2).trans rfl
                  have hcz62_3 : wc.cell? ⟨gb103, 3, none⟩ = some (.int .i64 x104003_3) := (blk_cell BK103.out 3).trans rfl
                  have hcz62_4 : wc.cell? ⟨gb103, 4, none⟩ = some (.int .i64 x104004_3) := (blk_cell BK103.out 4).trans rfl
                  have hcz62_5 : wc.cell? ⟨gb103, 5, none⟩ = some (.int .i64 x104005_3) := (blk_cell BK103.out 5).trans rfl
                  have hcz62_6 : wc.cell? ⟨gb103, 6, none⟩ = some (.slice none 0 0) := (blk_cell BK103.out 6).trans rfl
                  have hfz62_0 := blk_frozen BK103.out 0
                  have hfz62_1 := blk_frozen BK103.out 1
                  have hfz62_2 := blk_frozen BK103.out 2
                  have hfz62_3 := blk_frozen BK103.out 3
                  have hfz62_4 := blk_frozen BK103.out 4
                  have hfz62_5 := blk_frozen BK103.out 5
                  have hfz62_6 := blk_frozen BK103.out 6
                  go_wp2
                  refine bodyPost_ret (results_cell_row rfl _ _ gb103 28 #[.int .u8 a0, .string x105001_3, .string (⟨#[]⟩ : ByteArray), .int .i64 x105003_3, .int .i64 0, .int .i64 0, .slice none 0 0] (0, 0) _ rfl (by (with_reducible repeat (first | refine blk_drewN ?_ _ | refine blk_drew ?_ | refine blk_alloc ?_ _)); refine blk_put (cs := #[.int .u8 a0, .string x105001_3, .string (⟨#[]⟩ : ByteArray), .int .i64 x105003_3, .int .i64 0, .int .i64 0, .slice none 0 0]) ?_ 6 _ rfl; (with_reducible repeat (first | refine blk_drewN ?_ _ | refine blk_drew ?_ | refine blk_alloc ?_ _)); refine blk_put (cs := #[.int .u8 a0, .string x105001_3, .string (⟨#[]⟩ : ByteArray), .int .i64 x105003_3, .int .i64 0, .int .i64 x104005_3, .slice none 0 0]) ?_ 5 _ rfl; (with_reducible repeat (first | refine blk_drewN ?_ _ | refine blk_drew ?_ | refine blk_alloc ?_ _)); refine blk_put (cs := #[.int .u8 a0, .string x105001_3, .string (⟨#[]⟩ : ByteArray), .int .i64 x105003_3, .int .i64 x104004_3, .int .i64 x104005_3, .slice none 0 0]) ?_ 4 _ rfl; (with_reducible repeat (first | refine blk_drewN ?_ _ | refine blk_drew ?_ | refine blk_alloc ?_ _)); refine blk_put (cs := #[.int .u8 a0, .string x105001_3, .string (⟨#[]⟩ : ByteArray), .int .i64 x104003_3, .int .i64 x104004_3, .int .i64 x104005_3, .slice none 0 0]) ?_ 3 _ rfl; (with_reducible repeat (first | refine blk_drewN ?_ _ | refine blk_drew ?_ | refine blk_alloc ?_ _)); refine blk_put (cs := #[.int .u8 a0, .string x105001_3, .string x104002_3, .int .i64 x104003_3, .int .i64 x104004_3, .int .i64 x104005_3, .slice none 0 0]) ?_ 2 _ rfl; (with_reducible repeat (first | refine blk_drewN ?_ _ | refine blk_drew ?_ | refine blk_alloc ?_ _)); refine blk_put (cs := #[.int .u8 a0, .string x104001_3, .string x104002_3, .int .i64 x104003_3, .int .i64 x104004_3, .int .i64 x104005_3, .slice none 0 0]) ?_ 1 _ rfl; (with_reducible repeat (first | refine blk_drewN ?_ _ | refine blk_drew ?_ | refine blk_alloc ?_ _)); refine blk_put (cs := #[.int .u8 x104000_3, .string x104001_3, .string x104002_3, .int .i64 x104003_3, .int .i64 x104004_3, .int .i64 x104005_3, .slice none 0 0]) ?_ 0 _ rfl; (with_reducible repeat (first | refine blk_drewN ?_ _ | refine blk_drew ?_ | refine blk_alloc ?_ _)); exact BK103.out) Tryd.underlying28 rfl (by kernel_rfl)) rfl ?_
                  exact ⟨_, by first | rfl | (simp [errW_none, errW_some] <;> rfl) | (simp [*, errW_none, errW_some] <;> rfl), by first | exact Kd.R_nil _ _ _ _ _ | exact Kd.N_nil _ _ _ _ _ | exact Kd.V_nil _ _ _ _ _ | exact Kd.Q_nil _ _ _ _ _ | exact Kd.S_nil _ _ _ _ _, by repeat (first | (with_reducible first | exact HB.out | apply below_alloc | apply pw_below_drewN | apply below_drew1 | refine below_set ?_ GE103.out | refine below_set ?_ GE104.out) | exact HB.out)⟩

end Go.Proofs.YtdpnhjhbdobhjaaDoor.G
