-- Written by wip/gen.py: the kit's print.py, with this session's own texts where it takes a function not. Not trusted: Lean checks it.
import Derived.Test.YtconcmobjkpkcaaDoorG0
import Derived.Test.YtconcmobjkpkcaaDoorG2
import Derived.Test.YtconcmobjkpkcaaDoorG5
import Derived.Test.YtconcmobjkpkcaaDoorG9
namespace Go.Proofs.YtconcmobjkpkcaaDoor.G
open Go.RowKit Go.Proofs.YtconcmobjkpkcaaDoorW.PrintWords Go.Proofs.YtconcmobjkpkcaaDoorW.PrintLast Go.Proofs.YtconcmobjkpkcaaDoorW.PrintMore
attribute [local go_sem] max2_int min2_int max_two min_two max_three min_three max_four min_four   -- for this text's walks alone
set_option linter.unusedVariables false
set_option linter.unusedSimpArgs false

/-! ### head_Of: function 13 -/
def head_Of.f (k : Nat) (a0_0 : Int) (a0_1 : Int) : Option (List Int) := (place_May.f a0_0 a0_1).bind fun t1 => (if t1 = true then ((pack_Put.f k [84, 120, 78, 82] 2 (IntKind.u64.wrap a0_0)).bind fun t2 => ((pack_Put.f k t2 2 (IntKind.u64.wrap a0_1)).bind fun t3 => (if 4 ≤ (t3.length : Int) then ((sum_Sum.f k t3).bind fun t4 => ((pack_Put.f k (t3.take 4) 4 (IntKind.u64.wrap t4)).bind fun t5 => (some (Kit.cpy (List.replicate 8 0) t5)))) else none))) else (some (List.replicate 8 0)))
theorem head_Of.mono : ∀ a0 a1 k, LeO (head_Of.f k a0 a1) (head_Of.f (k + 1) a0 a1) := by
  intro a0 a1 k
  unfold head_Of.f
  repeat' first
      | (with_reducible exact sum_Sum.mono _ _)
      | (with_reducible exact pack_Put.mono _ _ _ _)
      | (with_reducible exact LeO.refl _)
      | (with_reducible exact LeO.none _)
      | (with_reducible refine LeO.ite ?_ ?_)
      | (with_reducible refine LeO.bind ?_ (fun _ => ?_))
      | exact sum_Sum.mono _ _
      | exact pack_Put.mono _ _ _ _
theorem head_Of.length {k : Nat} {a0 a1 : Int} {r : List Int} (h : head_Of.f k a0 a1 = some r) : r.length = 8 := by
  unfold head_Of.f at h
  obtain ⟨t1, _, h⟩ := Option.bind_eq_some_iff.mp h
  split at h
  · obtain ⟨t2, _, h⟩ := Option.bind_eq_some_iff.mp h
    obtain ⟨t3, _, h⟩ := Option.bind_eq_some_iff.mp h
    split at h
    · obtain ⟨t4, _, h⟩ := Option.bind_eq_some_iff.mp h
      obtain ⟨t5, _, h⟩ := Option.bind_eq_some_iff.mp h
      obtain rfl := Option.some.inj h
      rw [Kit.cpy_length]; rfl
    · cases h
  · obtain rfl := Option.some.inj h
    rfl
set_option maxHeartbeats 8000000 in
set_option maxRecDepth 100000 in
theorem head_Of.calls (k : Nat) (a0_0 : Int) (a0_1 : Int) (r : List Int) (w : World) (h : head_Of.f k a0_0 a0_1 = some r) :
    Calls Tryd.prog 13 #[.agg #[.int .i64 a0_0, .int .i64 a0_1]] w fun e w' => e = .returned (.agg (Arr.arr .u8 r)) ∧ Below w.heap.size w w' := by
  have hu1 := Tryd.underlying23
  have hu2 := Tryd.underlying31
  have HB := Aside0.mk (Below.refl w.heap.size w)
  unfold head_Of.f at h
  have H := h
  clear h
  replace H := Option.bind_eq_some_iff.mp H
  obtain ⟨t1, A10, H⟩ := H
  have A1 := Aside0.mk A10
  clear A10
  by_cases c : t1 = true
  · rw [if_pos c] at H
    subst c
    replace H := Option.bind_eq_some_iff.mp H
    obtain ⟨t2, A20, H⟩ := H
    have A2 := Aside0.mk A20
    clear A20
    replace H := Option.bind_eq_some_iff.mp H
    obtain ⟨t3, A30, H⟩ := H
    have A3 := Aside0.mk A30
    clear A30
    by_cases c4 : 4 ≤ (t3.length : Int)
    rotate_left
    · rw [if_neg c4] at H; cases H
    rw [if_pos c4] at H
    replace H := Option.bind_eq_some_iff.mp H
    obtain ⟨t4, A40, H⟩ := H
    have A4 := Aside0.mk A40
    clear A40
    replace H := Option.bind_eq_some_iff.mp H
    obtain ⟨t5, A50, H⟩ := H
    have A5 := Aside0.mk A50
    clear A50
    have HR := Aside0.mk (Option.some.inj H)
    clear H
    go_enter Tryd.func13, Tryd.ntmps13
    go_wp2_with (first
      | ((with_reducible refine gate_dst (N := 1) rfl ?_); refine box_event ?hg (N := 1) ?hd (cs := #[.int .i64 a0_0, .int .i64 a0_1]) (t := 23) ?hr ?_; (case hd => rfl); (case hg => rfl); (case hr => first | (go_simp; done) | (go_simp; rfl)); intro g1 hg w1 hbox hb; have BK1 := Aside0.mk hbox; have n0_ := Aside0.mk (below_step HB.out hb); clear HB; have HB := n0_; clear n0_ hb hbox hg)
      | ((with_reducible refine gate_dst (N := 2) rfl ?_); refine box_event ?hg (N := 2) ?hd (cs := Arr.arr .u8 (List.replicate 8 0)) (t := 31) ?hr ?_; (case hd => rfl); (case hg => rfl); (case hr => first | (go_simp; done) | (go_simp; rfl)); intro g2 hg w2 hbox hb; have BK2 := Aside0.mk (show Arr.IsArr .u8 w2 g2 31 (List.replicate 8 0) from hbox); have GE2 := Aside0.mk (show w.heap.size ≤ g2 from by rw [hg]; exact below_size HB.out); have n1_ := Aside0.mk (blk_below BK1.out hb); have n0_ := Aside0.mk (below_step HB.out hb); clear HB BK1; have HB := n0_; have BK1 := n1_; clear n0_ n1_ hb hbox hg)
      | ((with_reducible refine gate_dst (N := 3) rfl ?_); refine box_event ?hg (N := 3) ?hd (cs := Arr.arr .u8 (List.replicate 8 0)) (t := 31) ?hr ?_; (case hd => rfl); (case hg => rfl); (case hr => first | (go_simp; done) | (go_simp; rfl)); intro g3 hg w3 hbox hb; have BK3 := Aside0.mk (show Arr.IsArr .u8 w3 g3 31 (List.replicate 8 0) from hbox); have GE3 := Aside0.mk (show w.heap.size ≤ g3 from by rw [hg]; exact below_size HB.out); have NE := Aside0.mk (show g2 ≠ g3 from by rw [hg]; exact Nat.ne_of_lt (blk_lt BK2.out)); have n2_ := Aside0.mk (BK2.out.below hb); have n1_ := Aside0.mk (blk_below BK1.out hb); have n0_ := Aside0.mk (below_step HB.out hb); clear HB BK1 BK2; have HB := n0_; have BK1 := n1_; have BK2 := n2_; clear n0_ n1_ n2_ hb hbox hg; have hk0 := (blk_cell BK1.out 0).trans rfl; have hk1 := (blk_cell BK1.out 1).trans rfl)
      | ((with_reducible refine gate_callee (f := 18) rfl ?_); refine goesL_ (some 6) rfl rfl Tryd.func18 (by kernel_rfl) rfl #[.agg #[.int .i64 a0_0, .int .i64 a0_1]] rfl (by (try simp only [List.map_toArray, List.map_cons, List.map_nil]); first | done | rfl) ?_; (with_reducible refine (place_May.calls a0_0 a0_1 true _ A1.out).mono ?_); rintro e w4 ⟨rfl, hb⟩; refine ⟨_, rfl, ?_⟩; have n3_ := Aside0.mk (BK3.out.below hb); have n2_ := Aside0.mk (BK2.out.below hb); have n1_ := Aside0.mk (blk_below BK1.out hb); have n0_ := Aside0.mk (below_step HB.out hb); clear HB BK1 BK2 BK3 hk0 hk1; have HB := n0_; have BK1 := n1_; have BK2 := n2_; have BK3 := n3_; clear n0_ n1_ n2_ n3_ hb))
    have n3_ := Aside0.mk (show Arr.IsArr .u8 w4.drew g3 31 (List.replicate 8 0) from BK3.out)
    have n2_ := Aside0.mk (show Arr.IsArr .u8 w4.drew g2 31 (List.replicate 8 0) from BK2.out)
    have n1_ := Aside0.mk (blk_drew BK1.out)
    have n0_ := Aside0.mk (below_drew1 HB.out)
    clear HB BK1 BK2 BK3
    have HB := n0_
    have BK1 := n1_
    have BK2 := n2_
    have BK3 := n3_
    clear n0_ n1_ n2_ n3_
    refine start_ (n := 11) (S := fun w' => w'.cell? ⟨g1, 0, none⟩ = some (.int .i64 a0_0) ∧ w'.cell? ⟨g1, 1, none⟩ = some (.int .i64 a0_1)) (ds := []) #[false, false, false, false, false, false, false, false, false, false, false] (by kernel_rfl) rfl rfl ⟨(blk_cell BK1.out 0).trans rfl, (blk_cell BK1.out 1).trans rfl⟩ (fun hHeld => ?_)
    generalize w4.drew = w5 at BK1 BK2 BK3 HB hHeld ⊢
    refine pure_ (i := 2) (N := some 11) (v := ?_) (a' := ?_) #[false, false, true, false, false, false, false, false, false, false, false] rfl rfl (by kernel_rfl) (fun _ _ _ h => h) (Or.inl ⟨by rfl, ?_⟩) ?_ ?_
    rotate_left
    · intro w'
      go_simp
      with_reducible rfl
    rotate_left
    · simp only [Act.put, List.setIfInBounds_toArray, List.set_cons_zero, List.set_cons_succ, i64_w, i32_w]
      rfl
    refine take_ (i := 3) (N := some 12) (v := ?_) (a' := ?_) #[false, false, true, true, false, false, false, false, false, false, false] rfl rfl (by kernel_rfl) (fun _ _ _ h => h) (Or.inl ⟨by rfl, ?_⟩) hHeld ?_ ?_
    rotate_left
    · rintro w' ⟨s0, s1⟩
      go_simp
      with_reducible rfl
    rotate_left
    · simp only [Act.put, List.setIfInBounds_toArray, List.set_cons_zero, List.set_cons_succ, i64_w, i32_w]
      rfl
    refine pure_ (i := 4) (N := some 13) (v := ?_) (a' := ?_) #[false, false, true, true, true, false, false, false, false, false, false] rfl rfl (by kernel_rfl) (fun _ _ _ h => h) (Or.inl ⟨by rfl, ?_⟩) ?_ ?_
    rotate_left
    · intro w'
      go_simp
      with_reducible rfl
    rotate_left
    · simp only [Act.put, List.setIfInBounds_toArray, List.set_cons_zero, List.set_cons_succ, i64_w, i32_w]
      rfl
    refine pure_ (i := 6) (N := some 15) (v := ?_) (a' := ?_) #[false, false, true, true, true, false, true, false, false, false, false] rfl rfl (by kernel_rfl) (fun _ _ _ h => h) (Or.inl ⟨by rfl, ?_⟩) ?_ ?_
    rotate_left
    · intro w'
      go_simp
      with_reducible rfl
    rotate_left
    · simp only [Act.put, List.setIfInBounds_toArray, List.set_cons_zero, List.set_cons_succ, i64_w, i32_w]
      rfl
    refine take_ (i := 7) (N := some 16) (v := ?_) (a' := ?_) #[false, false, true, true, true, false, true, true, false, false, false] rfl rfl (by kernel_rfl) (fun _ _ _ h => h) (Or.inl ⟨by rfl, ?_⟩) hHeld ?_ ?_
    rotate_left
    · rintro w' ⟨s0, s1⟩
      go_simp
      with_reducible rfl
    rotate_left
    · simp only [Act.put, List.setIfInBounds_toArray, List.set_cons_zero, List.set_cons_succ, i64_w, i32_w]
      rfl
    refine pure_ (i := 8) (N := some 17) (v := ?_) (a' := ?_) #[false, false, true, true, true, false, true, true, true, false, false] rfl rfl (by kernel_rfl) (fun _ _ _ h => h) (Or.inl ⟨by rfl, ?_⟩) ?_ ?_
    rotate_left
    · intro w'
      go_simp
      with_reducible rfl
    rotate_left
    · simp only [Act.put, List.setIfInBounds_toArray, List.set_cons_zero, List.set_cons_succ, i64_w, i32_w]
      rfl
    refine one_ (i := 0) (N := some 9) #[true, false, true, true, true, false, true, true, true, false, false] rfl rfl (by kernel_rfl) (by decide) (fun K hK => ?_)
    refine event_step (by rfl) (v := .slice (some ⟨w5.heap.size, 0, none⟩) 4 4) (w1 := w5.alloc (.cells #[.int .u8 84, .int .u8 120, .int .u8 78, .int .u8 82] 5)) (by go_simp; try rfl) ?_
    refine hK.out _ _ ⟨(blk_cell (blk_alloc BK1.out _) 0).trans rfl, (blk_cell (blk_alloc BK1.out _) 1).trans rfl⟩ (fun hHeld => ?_)
    clear hK K
    refine norm_ (a' := ?_) ?_ ?_
    rotate_left
    · show Act.put _ (some 9) _ = _
      simp only [Act.put, List.setIfInBounds_toArray, List.set_cons_zero, List.set_cons_succ, i64_w, i32_w]
      rfl
    refine one_ (i := 1) (N := some 10) #[true, true, true, true, true, false, true, true, true, false, false] rfl rfl (by kernel_rfl) (by decide) (fun K hK => ?_)
    have kc := Lib.run_convert_bytes_const (P := Tryd.prog) w5 24 5 #[.int .u8 84, .int .u8 120, .int .u8 78, .int .u8 82] 4 4 Tryd.underlying24 Tryd.underlying5
    refine event_step (by rfl) (v := .slice (some ⟨w5.heap.size, 0, none⟩) 4 4) (w1 := w5.alloc (.cells #[.int .u8 84, .int .u8 120, .int .u8 78, .int .u8 82] 5 (4, 5))) (by go_simp; try rfl) ?_
    clear kc
    refine hK.out _ _ ⟨(blk_cell (blk_alloc BK1.out _) 0).trans rfl, (blk_cell (blk_alloc BK1.out _) 1).trans rfl⟩ (fun hHeld => ?_)
    clear hK K
    refine norm_ (a' := ?_) ?_ ?_
    rotate_left
    · show Act.put _ (some 10) _ = _
      simp only [Act.put, List.setIfInBounds_toArray, List.set_cons_zero, List.set_cons_succ, i64_w, i32_w]
      rfl
    have HC := Aside0.mk (show (Kd.int .u8).C (w5.alloc (.cells #[.int .u8 84, .int .u8 120, .int .u8 78, .int .u8 82] 5 (4, 5))) (some ⟨w5.heap.size, 0, none⟩) ([84, 120, 78, 82] : List Int).length [84, 120, 78, 82] from Kit.C_blk (blk_new _ _) (by rfl) (by simp))
    have hb := below_alloc (Below.refl w5.heap.size w5) (.cells #[.int .u8 84, .int .u8 120, .int .u8 78, .int .u8 82] 5 (4, 5))
    have n3_ := Aside0.mk (BK3.out.below hb)
    have n2_ := Aside0.mk (BK2.out.below hb)
    have n1_ := Aside0.mk (blk_below BK1.out hb)
    have n0_ := Aside0.mk (below_step HB.out hb)
    clear HB BK1 BK2 BK3 hb
    have HB := n0_
    have BK1 := n1_
    have BK2 := n2_
    have BK3 := n3_
    clear n0_ n1_ n2_ n3_
    generalize w5.alloc (.cells #[.int .u8 84, .int .u8 120, .int .u8 78, .int .u8 82] 5 (4, 5)) = w6 at BK1 BK2 BK3 HB HC hHeld ⊢
    generalize (some ⟨w5.heap.size, 0, none⟩ : Option Addr) = A0 at HC ⊢
    refine one_ (i := 5) (N := some 14) #[true, true, true, true, true, true, true, true, true, false, false] rfl rfl (by kernel_rfl) (by decide) (fun K hK => ?_)
    refine goes_ Tryd.func21 (by kernel_rfl) rfl #[.slice A0 ([84, 120, 78, 82] : List Int).length 4, .int .i64 2, .int .u64 (IntKind.u64.wrap a0_0)] (by rfl) rfl rfl (by (try simp only [List.map_toArray, List.map_cons, List.map_nil]); first | done | rfl) ?_
    with_reducible refine (pack_Put.calls k _ _ [84, 120, 78, 82] 2 (IntKind.u64.wrap a0_0) t2 _ HC.out (by decide) A2.out).mono ?_
    rintro e w7 ⟨v_, rfl, ho, hb⟩
    refine ⟨_, rfl, ?_⟩
    obtain ⟨At2, ct2, rfl⟩ := Kd.R_slice ho
    have HOt2 := Aside0.mk ho
    have n3_ := Aside0.mk (BK3.out.below hb)
    have n2_ := Aside0.mk (BK2.out.below hb)
    have n1_ := Aside0.mk (blk_below BK1.out hb)
    have n0_ := Aside0.mk (below_step HB.out hb)
    clear HB BK1 BK2 BK3 hb ho
    have HB := n0_
    have BK1 := n1_
    have BK2 := n2_
    have BK3 := n3_
    clear n0_ n1_ n2_ n3_
    refine hK.out _ _ ⟨(blk_cell BK1.out 0).trans rfl, (blk_cell BK1.out 1).trans rfl⟩ (fun hHeld => ?_)
    clear hK K
    refine norm_ (a' := ?_) ?_ ?_
    rotate_left
    · show Act.put _ (some 14) _ = _
      simp only [Act.put, List.setIfInBounds_toArray, List.set_cons_zero, List.set_cons_succ, i64_w, i32_w]
      rfl
    refine one_ (i := 9) (N := some 18) #[true, true, true, true, true, true, true, true, true, true, false] rfl rfl (by kernel_rfl) (by decide) (fun K hK => ?_)
    refine goes_ Tryd.func21 (by kernel_rfl) rfl #[.slice At2 t2.length ct2, .int .i64 2, .int .u64 (IntKind.u64.wrap a0_1)] (by rfl) rfl rfl (by (try simp only [List.map_toArray, List.map_cons, List.map_nil]); first | done | rfl) ?_
    with_reducible refine (pack_Put.calls k _ _ t2 2 (IntKind.u64.wrap a0_1) t3 _ (Kd.R_reads' HOt2.out).2.2 (Kd.R_reads' HOt2.out).2.1 A3.out).mono ?_
    rintro e w8 ⟨v_, rfl, ho, hb⟩
    refine ⟨_, rfl, ?_⟩
    obtain ⟨At3, ct3, rfl⟩ := Kd.R_slice ho
    have HOt3 := Aside0.mk ho
    have n3_ := Aside0.mk (BK3.out.below hb)
    have n2_ := Aside0.mk (BK2.out.below hb)
    have n1_ := Aside0.mk (blk_below BK1.out hb)
    have n0_ := Aside0.mk (below_step HB.out hb)
    clear HB BK1 BK2 BK3 hb ho
    have HB := n0_
    have BK1 := n1_
    have BK2 := n2_
    have BK3 := n3_
    clear n0_ n1_ n2_ n3_
    refine hK.out _ _ ⟨(blk_cell BK1.out 0).trans rfl, (blk_cell BK1.out 1).trans rfl⟩ (fun hHeld => ?_)
    clear hK K
    refine norm_ (a' := ?_) ?_ ?_
    rotate_left
    · show Act.put _ (some 18) _ = _
      simp only [Act.put, List.setIfInBounds_toArray, List.set_cons_zero, List.set_cons_succ, i64_w, i32_w]
      rfl
    refine pure_ (i := 10) (N := some 4) (v := ?_) (a' := ?_) #[true, true, true, true, true, true, true, true, true, true, true] rfl rfl (by kernel_rfl) (fun _ _ _ h => h) (Or.inl ⟨by rfl, ?_⟩) ?_ ?_
    rotate_left
    · intro w'
      go_simp
      with_reducible rfl
    rotate_left
    · simp only [Act.put, List.setIfInBounds_toArray, List.set_cons_zero, List.set_cons_succ, i64_w, i32_w]
      rfl
    refine done_ (by kernel_rfl) ?_
    clear HC HOt2 hHeld
    try go_wp2
    have n0_ := Aside0.mk (below_drew1 HB.out)
    have n1_ := Aside0.mk (show Arr.IsArr .u8 w8.drew g2 31 (List.replicate 8 0) from BK2.out)
    have n2_ := Aside0.mk (show Arr.IsArr .u8 w8.drew g3 31 (List.replicate 8 0) from BK3.out)
    have n3_ := Aside0.mk (Kd.R_below HOt3.out (below_drew1 (Below.refl _ _)))
    clear HB BK2 BK3 HOt3 BK1
    have HB := n0_
    have BK2 := n1_
    have BK3 := n2_
    have HOt3 := n3_
    clear n0_ n1_ n2_ n3_
    obtain ⟨i05, hi05, _, hsz5, _⟩ := info_parts info5
    obtain ⟨hcut, hCT, hCC⟩ := print_take_of (P := Tryd.prog) (Value.int .u8) 0 24 5 .i64 Tryd.underlying24 hi05 hsz5 At3 ct3 t3 4 (by omega) c4 (Kd.R_reads' HOt3.out).2.1
    clear hCT hi05 hsz5
    have HCC := Aside0.mk hCC
    clear hCC
    have hlen4 : (t3.take (4 : Int).toNat).length = (t3.take 4).length := rfl
    rw [hlen4] at hcut HCC
    clear hlen4
    obtain ⟨y4, hy4⟩ : ∃ y : List Int, y = t3.take 4 := ⟨_, rfl⟩
    rw [← hy4] at hcut HCC
    have A5' := Aside0.mk (show pack_Put.f k y4 4 (IntKind.u64.wrap t4) = some t5 by rw [hy4]; exact A5.out)
    clear A5
    have Ny4 := Aside0.mk hy4
    clear hy4
    refine start_ (n := 8) (S := fun _ => True) (ds := []) #[false, false, false, false, false, false, false, false] (by kernel_rfl) rfl rfl trivial (fun hHeld => ?_)
    generalize w8.drew = w9 at HB BK2 BK3 HOt3 hHeld ⊢
    refine pure_ (i := 0) (N := some 19) (v := ?_) (a' := ?_) #[true, false, false, false, false, false, false, false] rfl rfl (by kernel_rfl) (fun _ _ _ h => h) (Or.inl ⟨by rfl, ?_⟩) ?_ ?_
    rotate_left
    · intro w'
      go_simp
      with_reducible rfl
    rotate_left
    · simp only [Act.put, List.setIfInBounds_toArray, List.set_cons_zero, List.set_cons_succ, i64_w, i32_w]
      rfl
    refine pure_ (i := 1) (N := some 20) (v := ?_) (a' := ?_) #[true, true, false, false, false, false, false, false] rfl rfl (by kernel_rfl) (fun _ _ _ h => h) (Or.inl ⟨by rfl, ?_⟩) ?_ ?_
    rotate_left
    · intro w'
      go_simp
      with_reducible rfl
    rotate_left
    · simp only [Act.put, List.setIfInBounds_toArray, List.set_cons_zero, List.set_cons_succ, i64_w, i32_w]
      rfl
    refine pure_ (i := 2) (N := some 21) (v := ?_) (a' := ?_) #[true, true, true, false, false, false, false, false] rfl rfl (by kernel_rfl) (fun _ _ _ h => h) (Or.inl ⟨by rfl, ?_⟩) ?_ ?_
    rotate_left
    · intro w'
      go_simp
      with_reducible rfl
    rotate_left
    · simp only [Act.put, List.setIfInBounds_toArray, List.set_cons_zero, List.set_cons_succ, i64_w, i32_w]
      rfl
    refine pure_ (i := 3) (N := some 22) (v := ?_) (a' := ?_) #[true, true, true, true, false, false, false, false] rfl rfl (by kernel_rfl) (fun _ _ _ h => h) (Or.inl ⟨by rfl, ?_⟩) ?_ ?_
    rotate_left
    · intro w'
      go_simp
      with_reducible rfl
    rotate_left
    · simp only [Act.put, List.setIfInBounds_toArray, List.set_cons_zero, List.set_cons_succ, i64_w, i32_w]
      rfl
    refine one_ (i := 4) (N := some 23) #[true, true, true, true, true, false, false, false] rfl rfl (by kernel_rfl) (by decide) (fun K hK => ?_)
    refine goes_ Tryd.func22 (by kernel_rfl) rfl #[.slice At3 t3.length ct3] (by rfl) rfl rfl (by (try simp only [List.map_toArray, List.map_cons, List.map_nil]); first | done | rfl) ?_
    with_reducible refine (sum_Sum.calls k _ _ t3 t4 _ (Kd.R_reads' HOt3.out).2.2 (Kd.R_reads' HOt3.out).2.1 A4.out).mono ?_
    rintro e w10 ⟨rfl, hb⟩
    refine ⟨_, rfl, ?_⟩
    have n0_ := Aside0.mk (below_step HB.out hb)
    have n1_ := Aside0.mk (BK2.out.below hb)
    have n2_ := Aside0.mk (BK3.out.below hb)
    have n3_ := Aside0.mk (Kd.R_below HOt3.out hb)
    clear HB BK2 BK3 HOt3 hb
    have HB := n0_
    have BK2 := n1_
    have BK3 := n2_
    have HOt3 := n3_
    clear n0_ n1_ n2_ n3_
    refine hK.out _ _ trivial (fun hHeld => ?_)
    clear hK K
    refine norm_ (a' := ?_) ?_ ?_
    rotate_left
    · show Act.put _ (some 23) _ = _
      simp only [Act.put, List.setIfInBounds_toArray, List.set_cons_zero, List.set_cons_succ, i64_w, i32_w]
      rfl
    refine pure_ (i := 5) (N := some 24) (v := ?_) (a' := ?_) #[true, true, true, true, true, true, false, false] rfl rfl (by kernel_rfl) (fun _ _ _ h => h) (Or.inl ⟨by rfl, ?_⟩) ?_ ?_
    rotate_left
    · intro w'
      go_simp
      with_reducible rfl
    rotate_left
    · simp only [Act.put, List.setIfInBounds_toArray, List.set_cons_zero, List.set_cons_succ, i64_w, i32_w]
      rfl
    refine one_ (i := 6) (N := some 25) #[true, true, true, true, true, true, true, false] rfl rfl (by kernel_rfl) (by decide) (fun K hK => ?_)
    refine goes_ Tryd.func21 (by kernel_rfl) rfl #[.slice At3 y4.length ct3, .int .i64 4, .int .u64 (IntKind.u64.wrap t4)] (by rfl) rfl rfl (by (try simp only [List.map_toArray, List.map_cons, List.map_nil]); first | done | rfl) ?_
    with_reducible refine (pack_Put.calls k _ _ y4 4 (IntKind.u64.wrap t4) t5 _ (by rw [Ny4.out]; exact Kd.C_take (Kd.R_reads' HOt3.out).2.2 (by omega)) HCC.out A5'.out).mono ?_
    rintro e w11 ⟨v_, rfl, ho, hb⟩
    refine ⟨_, rfl, ?_⟩
    obtain ⟨At5, ct5, rfl⟩ := Kd.R_slice ho
    have HOt5 := Aside0.mk ho
    clear ho
    have n0_ := Aside0.mk (below_step HB.out hb)
    have n1_ := Aside0.mk (BK2.out.below hb)
    have n2_ := Aside0.mk (BK3.out.below hb)
    clear HB BK2 BK3 HOt3 hcut hb
    have HB := n0_
    have BK2 := n1_
    have BK3 := n2_
    clear n0_ n1_ n2_
    refine hK.out _ _ trivial (fun hHeld => ?_)
    clear hK K
    refine norm_ (a' := ?_) ?_ ?_
    rotate_left
    · show Act.put _ (some 25) _ = _
      simp only [Act.put, List.setIfInBounds_toArray, List.set_cons_zero, List.set_cons_succ, i64_w, i32_w]
      rfl
    refine one_ (i := 7) (N := some 26) #[true, true, true, true, true, true, true, true] rfl rfl (by kernel_rfl) (by decide) (fun K hK => ?_)
    refine Arr.A_copy_step .u8 rfl (.tmp 19) (.tmp 25) 24 24 5 31 rfl Tryd.underlying24 (by kernel_rfl) (xs := List.replicate 8 0) (ys := t5) rfl rfl BK3.out rfl (Kd.R_reads' HOt5.out).2.2 ?_
    intro z w12 ha hg
    have n1_ := Aside0.mk (BK2.out.grown hg (by intro e; injection e with e; exact NE.out e))
    have n0_ := Aside0.mk (HB.out.grown hg (below_size HB.out) (by intro q hq; injection hq with hq; subst hq; exact GE3.out))
    clear HB BK2 BK3 HOt5 hg
    have HB := n0_
    have BK2 := n1_
    rw [HR.out] at ha
    have BK3 := Aside0.mk ha
    clear n0_ n1_ ha
    refine hK.out _ _ trivial (fun hHeld => ?_)
    clear hK K
    refine norm_ (a' := ?_) ?_ ?_
    rotate_left
    · show Act.put _ (some 26) _ = _
      simp only [Act.put, List.setIfInBounds_toArray, List.set_cons_zero, List.set_cons_succ, i64_w, i32_w]
      rfl
    refine done_ (by kernel_rfl) ?_
    have HL := Aside0.mk (show r.length = 8 by rw [← HR.out, Kit.cpy_length]; rfl)
    clear hHeld
    obtain ⟨e0, e1, e2, e3, e4, e5, e6, e7, rfl⟩ := Arr.len8 HL.out
    clear HL HR
    have hc0 : w12.cell? ⟨g3, 0, none⟩ = some (.int .u8 e0) := (blk_cell BK3.out 0).trans rfl
    have hc1 : w12.cell? ⟨g3, 1, none⟩ = some (.int .u8 e1) := (blk_cell BK3.out 1).trans rfl
    have hc2 : w12.cell? ⟨g3, 2, none⟩ = some (.int .u8 e2) := (blk_cell BK3.out 2).trans rfl
    have hc3 : w12.cell? ⟨g3, 3, none⟩ = some (.int .u8 e3) := (blk_cell BK3.out 3).trans rfl
    have hc4 : w12.cell? ⟨g3, 4, none⟩ = some (.int .u8 e4) := (blk_cell BK3.out 4).trans rfl
    have hc5 : w12.cell? ⟨g3, 5, none⟩ = some (.int .u8 e5) := (blk_cell BK3.out 5).trans rfl
    have hc6 : w12.cell? ⟨g3, 6, none⟩ = some (.int .u8 e6) := (blk_cell BK3.out 6).trans rfl
    have hc7 : w12.cell? ⟨g3, 7, none⟩ = some (.int .u8 e7) := (blk_cell BK3.out 7).trans rfl
    go_wp2_with (first | ((with_reducible refine gate_store (t := 31) (p := 2) rfl ?_); refine Arr.row_event rfl 31 (.tmp 2) (.tmp 27) rfl g2 #[.int .u8 e0, .int .u8 e1, .int .u8 e2, .int .u8 e3, .int .u8 e4, .int .u8 e5, .int .u8 e6, .int .u8 e7] rfl rfl 31 (Arr.arr .u8 (List.replicate 8 0)) BK2.out (by kernel_rfl) rfl (by first | rfl | (simp [Value.oneCell']; done) | (simp; rfl)) ?_; intro w13 hb_ hg_; have nb_ := Aside0.mk (HB.out.grown hg_ (below_size HB.out) (by intro q hq; injection hq with hq; subst hq; exact GE2.out)); clear HB BK2 BK3; have HB := nb_; have BK2 := Aside0.mk hb_; clear nb_ hb_ hg_))
    refine bodyPost_ret (results_cell_row rfl _ _ g2 31 #[.int .u8 e0, .int .u8 e1, .int .u8 e2, .int .u8 e3, .int .u8 e4, .int .u8 e5, .int .u8 e6, .int .u8 e7] (0, 0) _ rfl BK2.out Tryd.underlying31 rfl (by kernel_rfl)) rfl ?_
    exact ⟨rfl, HB.out⟩
  · rw [if_neg c] at H
    obtain rfl : t1 = false := by simpa using c
    clear c
    obtain rfl := Option.some.inj H
    clear H
    go_enter Tryd.func13, Tryd.ntmps13
    go_wp2_with (first
      | ((with_reducible refine gate_dst (N := 1) rfl ?_); refine box_event ?hg (N := 1) ?hd (cs := #[.int .i64 a0_0, .int .i64 a0_1]) (t := 23) ?hr ?_; (case hd => rfl); (case hg => rfl); (case hr => first | (go_simp; done) | (go_simp; rfl)); intro g1 hg w1 hbox hb; have BK1 := Aside0.mk hbox; have n0_ := Aside0.mk (below_step HB.out hb); clear HB; have HB := n0_; clear n0_ hb hbox hg)
      | ((with_reducible refine gate_dst (N := 2) rfl ?_); refine box_event ?hg (N := 2) ?hd (cs := Arr.arr .u8 (List.replicate 8 0)) (t := 31) ?hr ?_; (case hd => rfl); (case hg => rfl); (case hr => first | (go_simp; done) | (go_simp; rfl)); intro g2 hg w2 hbox hb; have BK2 := Aside0.mk (show Arr.IsArr .u8 w2 g2 31 (List.replicate 8 0) from hbox); have GE2 := Aside0.mk (show w.heap.size ≤ g2 from by rw [hg]; exact below_size HB.out); have n1_ := Aside0.mk (blk_below BK1.out hb); have n0_ := Aside0.mk (below_step HB.out hb); clear HB BK1; have HB := n0_; have BK1 := n1_; clear n0_ n1_ hb hbox hg)
      | ((with_reducible refine gate_dst (N := 3) rfl ?_); refine box_event ?hg (N := 3) ?hd (cs := Arr.arr .u8 (List.replicate 8 0)) (t := 31) ?hr ?_; (case hd => rfl); (case hg => rfl); (case hr => first | (go_simp; done) | (go_simp; rfl)); intro g3 hg w3 hbox hb; have BK3 := Aside0.mk (show Arr.IsArr .u8 w3 g3 31 (List.replicate 8 0) from hbox); have GE3 := Aside0.mk (show w.heap.size ≤ g3 from by rw [hg]; exact below_size HB.out); have NE := Aside0.mk (show g2 ≠ g3 from by rw [hg]; exact Nat.ne_of_lt (blk_lt BK2.out)); have n2_ := Aside0.mk (BK2.out.below hb); have n1_ := Aside0.mk (blk_below BK1.out hb); have n0_ := Aside0.mk (below_step HB.out hb); clear HB BK1 BK2; have HB := n0_; have BK1 := n1_; have BK2 := n2_; clear n0_ n1_ n2_ hb hbox hg; have hk0 := (blk_cell BK1.out 0).trans rfl; have hk1 := (blk_cell BK1.out 1).trans rfl)
      | ((with_reducible refine gate_callee (f := 18) rfl ?_); refine goesL_ (some 6) rfl rfl Tryd.func18 (by kernel_rfl) rfl #[.agg #[.int .i64 a0_0, .int .i64 a0_1]] rfl (by (try simp only [List.map_toArray, List.map_cons, List.map_nil]); first | done | rfl) ?_; (with_reducible refine (place_May.calls a0_0 a0_1 false _ A1.out).mono ?_); rintro e w4 ⟨rfl, hb⟩; refine ⟨_, rfl, ?_⟩; have n3_ := Aside0.mk (BK3.out.below hb); have n2_ := Aside0.mk (BK2.out.below hb); have n1_ := Aside0.mk (blk_below BK1.out hb); have n0_ := Aside0.mk (below_step HB.out hb); clear HB BK1 BK2 BK3 hk0 hk1; have HB := n0_; have BK1 := n1_; have BK2 := n2_; have BK3 := n3_; clear n0_ n1_ n2_ n3_ hb; have hc0 : w4.cell? ⟨g3, 0, none⟩ = some (.int .u8 0) := (blk_cell BK3.out 0).trans rfl; have hc1 : w4.cell? ⟨g3, 1, none⟩ = some (.int .u8 0) := (blk_cell BK3.out 1).trans rfl; have hc2 : w4.cell? ⟨g3, 2, none⟩ = some (.int .u8 0) := (blk_cell BK3.out 2).trans rfl; have hc3 : w4.cell? ⟨g3, 3, none⟩ = some (.int .u8 0) := (blk_cell BK3.out 3).trans rfl; have hc4 : w4.cell? ⟨g3, 4, none⟩ = some (.int .u8 0) := (blk_cell BK3.out 4).trans rfl; have hc5 : w4.cell? ⟨g3, 5, none⟩ = some (.int .u8 0) := (blk_cell BK3.out 5).trans rfl; have hc6 : w4.cell? ⟨g3, 6, none⟩ = some (.int .u8 0) := (blk_cell BK3.out 6).trans rfl; have hc7 : w4.cell? ⟨g3, 7, none⟩ = some (.int .u8 0) := (blk_cell BK3.out 7).trans rfl)
      | ((with_reducible refine gate_store (t := 31) (p := 2) rfl ?_); refine Arr.row_event rfl 31 (.tmp 2) (.tmp 8) rfl g2 #[.int .u8 0, .int .u8 0, .int .u8 0, .int .u8 0, .int .u8 0, .int .u8 0, .int .u8 0, .int .u8 0] rfl rfl 31 (Arr.arr .u8 (List.replicate 8 0)) BK2.out (by kernel_rfl) rfl (by first | rfl | (simp [Value.oneCell']; done) | (simp; rfl)) ?_; intro w13 hb_ hg_; have nb_ := Aside0.mk (HB.out.grown hg_ (below_size HB.out) (by intro q hq; injection hq with hq; subst hq; exact GE2.out)); clear HB BK2 BK3; have HB := nb_; have BK2 := Aside0.mk hb_; clear nb_ hb_ hg_))
    refine bodyPost_ret (results_cell_row rfl _ _ g2 31 #[.int .u8 0, .int .u8 0, .int .u8 0, .int .u8 0, .int .u8 0, .int .u8 0, .int .u8 0, .int .u8 0] (0, 0) _ rfl BK2.out Tryd.underlying31 rfl (by kernel_rfl)) rfl ?_
    exact ⟨rfl, HB.out⟩

end Go.Proofs.YtconcmobjkpkcaaDoor.G
