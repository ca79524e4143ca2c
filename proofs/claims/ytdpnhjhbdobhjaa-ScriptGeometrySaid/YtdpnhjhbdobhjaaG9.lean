-- Written by wip/gen.py: the kit's print.py, with this session's own texts where it takes a function not. Not trusted: Lean checks it.
import Derived.Test.YtdpnhjhbdobhjaaG0
namespace Go.Proofs.Ytdpnhjhbdobhjaa.G
open Go.RowKit Go.Proofs.YtdpnhjhbdobhjaaW.PrintWords Go.Proofs.YtdpnhjhbdobhjaaW.PrintLast Go.Proofs.YtdpnhjhbdobhjaaW.PrintMore
attribute [local go_sem] max2_int min2_int max_two min_two max_three min_three max_four min_four   -- for this text's walks alone
set_option linter.unusedVariables false
set_option linter.unusedSimpArgs false

/-! ### script_Geometry: function 9 -/
def octet (l : List Int) (i : Nat) : Int := (Kit.cpy [0, 0] l)[i]?.getD 0
def script_Geometry.f (l0 : List Int) : Option (Int × Int) := some (wrap64 (6 + wrap64 (Int.tmod (octet l0 0) 7)), wrap64 (512 + wrap64 (64 * wrap64 (Int.tmod (octet l0 1) 9))))
set_option maxHeartbeats 8000000 in
set_option maxRecDepth 100000 in
theorem script_Geometry.calls (A0 : Option Addr) (c0 : Nat) (l0 : List Int) (r1 : Int) (r2 : Int) (w : World) (hr0 : Kd.C (Kd.int .u8) w A0 l0.length l0) (hc0 : l0.length ≤ c0) (h : script_Geometry.f l0 = some (r1, r2)) :
    Calls Try.prog 9 #[.slice A0 l0.length c0] w fun e w' => e = .returned (.agg #[.int .i64 r1, .int .i64 r2]) ∧ Below w.heap.size w w' := by
  have HR0 := Aside0.mk hr0
  have HC0 := Aside0.mk hc0
  clear hr0 hc0
  simp only [script_Geometry.f, octet, Option.some.injEq, Prod.mk.injEq] at h
  obtain ⟨rfl, rfl⟩ := h
  have hu31 := Try.underlying31
  have hu35 := Try.underlying35
  have HB := Aside0.mk (Below.refl w.heap.size w)
  go_enter Try.func9, Try.ntmps9
  go_wp2_with (first
    | ((with_reducible refine gate_dst (N := 2) rfl ?_); refine box_event ?hg (N := 2) ?hd (cs := #[.int .i64 0, .int .i64 0]) (t := 31) ?hr ?_; (case hd => rfl); (case hg => rfl); (case hr => first | (go_simp; done) | (go_simp; rfl)); intro g2 hg w2 hbox hb; have BK2 := Aside0.mk hbox; have GE2 := Aside0.mk (show w.heap.size ≤ g2 from by rw [hg]; exact Nat.le_refl _); have n0_ := Aside0.mk (below_step HB.out hb); clear HB; have HB := n0_; clear n0_ hb hbox hg)
    | ((with_reducible refine gate_dst (N := 3) rfl ?_); refine box_event ?hg (N := 3) ?hd (cs := #[.int .u8 0, .int .u8 0]) (t := 35) ?hr ?_; (case hd => rfl); (case hg => rfl); (case hr => first | (go_simp; done) | (go_simp; rfl)); intro g3 hg w3 hbox hb; have BK3 := Aside0.mk (show Arr.IsArr .u8 w3 g3 35 [0, 0] from hbox); have GE3 := Aside0.mk (show w.heap.size ≤ g3 from by rw [hg]; exact below_size HB.out); have NE := Aside0.mk (show g2 ≠ g3 from by rw [hg]; exact Nat.ne_of_lt (blk_lt BK2.out)); have n1_ := Aside0.mk ((hb.block g2 (blk_lt BK2.out)).trans BK2.out); have n0_ := Aside0.mk (below_step HB.out hb); clear HB BK2; have HB := n0_; have BK2 := n1_; clear n0_ n1_ hb hbox hg)
    | ((with_reducible refine gate_builtin (b := .copy) (xs := #[.tmp 4, .tmp 5]) rfl ?_); refine Arr.A_copy .u8 rfl (.tmp 4) (.tmp 5) 29 29 5 35 rfl Try.underlying29 (by kernel_rfl) (xs := [0, 0]) (ys := l0) rfl rfl BK3.out rfl (Kd.C_below HR0.out HB.out) ?_; intro z w4 ha hg; have n1_ := Aside0.mk (blk_grown BK2.out hg (by intro e; injection e with e; exact NE.out e)); have n0_ := Aside0.mk (HB.out.grown hg (below_size HB.out) (by intro q hq; injection hq with hq; subst hq; exact GE3.out)); clear HB BK2 BK3; have HB := n0_; have BK2 := n1_; have hc0 := ha.cell 0 (by rw [Kit.cpy_length]; decide); have hc1 := ha.cell 1 (by rw [Kit.cpy_length]; decide); have BK3 := Aside0.mk ha; have hk0 := blk_cell BK2.out 0; have hk1 := blk_cell BK2.out 1; have hf0 := blk_frozen BK2.out 0; have hf1 := blk_frozen BK2.out 1; simp only [List.getElem?_toArray, List.getElem?_cons_zero, List.getElem?_cons_succ] at hk0 hk1; clear n0_ n1_ ha hg))
  refine bodyPost_ret (results_cell_row rfl _ _ g2 31 #[.int .i64 (wrap64 (6 + wrap64 (((Kit.cpy [0, 0] l0)[0]?.getD 0).tmod 7))), .int .i64 (wrap64 (512 + wrap64 (64 * wrap64 (((Kit.cpy [0, 0] l0)[1]?.getD 0).tmod 9))))] (0, 0) _ rfl (by (with_reducible repeat (first | refine blk_drewN ?_ _ | refine blk_drew ?_ | refine blk_alloc ?_ _)); refine blk_put (cs := #[.int .i64 (wrap64 (6 + wrap64 (((Kit.cpy [0, 0] l0)[0]?.getD 0).tmod 7))), .int .i64 0]) ?_ 1 _ rfl; (with_reducible repeat (first | refine blk_drewN ?_ _ | refine blk_drew ?_ | refine blk_alloc ?_ _)); refine blk_put (cs := #[.int .i64 0, .int .i64 0]) ?_ 0 _ rfl; (with_reducible repeat (first | refine blk_drewN ?_ _ | refine blk_drew ?_ | refine blk_alloc ?_ _)); exact BK2.out) Try.underlying31 rfl (by kernel_rfl)) rfl ?_
  exact ⟨rfl, by repeat (first | (with_reducible first | exact HB.out | apply below_alloc | apply pw_below_drewN | apply below_drew1 | refine below_set ?_ GE2.out) | exact HB.out)⟩

end Go.Proofs.Ytdpnhjhbdobhjaa.G
