-- Written by wip/gen.py: the kit's print.py, with this session's own texts where it takes a function not. Not trusted: Lean checks it.
import Derived.Test.YtconcmobjkpkcaaDoorG0
import Derived.Test.YtconcmobjkpkcaaDoorG1
namespace Go.Proofs.YtconcmobjkpkcaaDoor.G
open Go.RowKit Go.Proofs.YtconcmobjkpkcaaDoorW.PrintWords Go.Proofs.YtconcmobjkpkcaaDoorW.PrintLast Go.Proofs.YtconcmobjkpkcaaDoorW.PrintMore
attribute [local go_sem] max2_int min2_int max_two min_two max_three min_three max_four min_four   -- for this text's walks alone
set_option linter.unusedVariables false
set_option linter.unusedSimpArgs false

/-! ### head_Of: function 13 -/
def head_Of.f (k : Nat) (a0_0 : Int) (a0_1 : Int) : Option (List Int) := (place_May.f a0_0 a0_1).bind fun t1 => (if t1 = true then ((pack_Put.f k [84, 120, 78, 82] 2 (IntKind.u64.wrap a0_0)).bind fun t2 => ((pack_Put.f k t2 2 (IntKind.u64.wrap a0_1)).bind fun t3 => (if 4 ≤ (t3.length : Int) then ((sum_Sum.f k t3).bind fun t4 => ((pack_Put.f k (t3.take 4) 4 (IntKind.u64.wrap t4)).bind fun t5 => (some (Kit.cpy (List.replicate 8 0) t5)))) else none))) else (some (List.replicate 8 0)))
theorem head_Of.mono : ∀ a0 a1 k, LeO (head_Of.f k a0 a1) (head_Of.f (k + 1) a0 a1) := by
  intro a0 a1 k
  unfold head_Of.f
  repeat' first
      | (with_reducible exact sum_Sum.mono _ _)
      | (with_reducible exact pack_Put.mono _ _ _ _)
      | (with_reducible exact LeO.refl _)
      | (with_reducible exact LeO.none _)
      | (with_reducible refine LeO.ite ?_ ?_)
      | (with_reducible refine LeO.bind ?_ (fun _ => ?_))
      | exact sum_Sum.mono _ _
      | exact pack_Put.mono _ _ _ _
theorem head_Of.length {k : Nat} {a0 a1 : Int} {r : List Int} (h : head_Of.f k a0 a1 = some r) : r.length = 8 := by
  unfold head_Of.f at h
  obtain ⟨t1, _, h⟩ := Option.bind_eq_some_iff.mp h
  split at h
  · obtain ⟨t2, _, h⟩ := Option.bind_eq_some_iff.mp h
    obtain ⟨t3, _, h⟩ := Option.bind_eq_some_iff.mp h
    split at h
    · obtain ⟨t4, _, h⟩ := Option.bind_eq_some_iff.mp h
      obtain ⟨t5, _, h⟩ := Option.bind_eq_some_iff.mp h
      obtain rfl := Option.some.inj h
      rw [Kit.cpy_length]; rfl
    · cases h
  · obtain rfl := Option.some.inj h
    rfl
set_option maxHeartbeats 8000000 in
set_option maxRecDepth 100000 in
theorem head_Of.calls (k : Nat) (a0_0 : Int) (a0_1 : Int) (r : List Int) (w : World) (h : head_Of.f k a0_0 a0_1 = some r) :
    Calls Tryd.prog 13 #[.agg #[.int .i64 a0_0, .int .i64 a0_1]] w fun e w' => e = .returned (.agg (Arr.arr .u8 r)) ∧ Below w.heap.size w w' := by
  have hu1 := Tryd.underlying23
  have hu2 := Tryd.underlying31
  have HB := Aside0.mk (Below.refl w.heap.size w)
  unfold head_Of.f at h
  have H := h
  clear h
  replace H := Option.bind_eq_some_iff.mp H
  obtain ⟨t1, A10, H⟩ := H
  have A1 := Aside0.mk A10
  clear A10
  by_cases c : t1 = true
  · rw [if_pos c] at H
    subst c
    replace H := Option.bind_eq_some_iff.mp H
    obtain ⟨t2, A20, H⟩ := H
    have A2 := Aside0.mk A20
    clear A20
    replace H := Option.bind_eq_some_iff.mp H
    obtain ⟨t3, A30, H⟩ := H
    have A3 := Aside0.mk A30
    clear A30
    by_cases c4 : 4 ≤ (t3.length : Int)
    rotate_left
    · rw [if_neg c4] at H; cases H
    rw [if_pos c4] at H
    replace H := Option.bind_eq_some_iff.mp H
    obtain ⟨t4, A40, H⟩ := H
    have A4 := Aside0.mk A40
    clear A40
    replace H := Option.bind_eq_some_iff.mp H
    obtain ⟨t5, A50, H⟩ := H
    have A5 := Aside0.mk A50
    clear A50
    have HR := Aside0.mk (Option.some.inj H)
    clear H
    go_enter Tryd.func13, Tryd.ntmps13
    go_wp2_with (first
      | ((with_reducible refine gate_dst (N := 1) rfl ?_); refine box_event ?hg (N := 1) ?hd (cs := #[.int .i64 a0_0, .int .i64 a0_1]) (t := 23) ?hr ?_; (case hd => rfl); (case hg => rfl); (case hr => first | (go_simp; done) | (go_simp; rfl)); intro g1 hg w1 hbox hb; have BK1 := Aside0.mk hbox; have n0_ := Aside0.mk (below_step HB.out hb); clear HB; have HB := n0_; clear n0_ hb hbox hg)
      | ((with_reducible refine gate_dst (N := 2) rfl ?_); refine box_event ?hg (N := 2) ?hd (cs := Arr.arr .u8 (List.replicate 8 0)) (t := 31) ?hr ?_; (case hd => rfl); (case hg => rfl); (case hr => first | (go_simp; done) | (go_simp; rfl)); intro g2 hg w2 hbox hb; have BK2 := Aside0.mk (show Arr.IsArr .u8 w2 g2 31 (List.replicate 8 0) from hbox); have GE2 := Aside0.mk (show w.heap.size ≤ g2 from by rw [hg]; exact below_size HB.out); have n1_ := Aside0.mk (blk_below BK1.out hb); have n0_ := Aside0.mk (below_step HB.out hb); clear HB BK1; have HB := n0_; have BK1 := n1_; clear n0_ n1_ hb hbox hg)
      | ((with_reducible refine gate_dst (N := 3) rfl ?_); refine box_event ?hg (N := 3) ?hd (cs := Arr.arr .u8 (List.replicate 8 0)) (t := 31) ?hr ?_; (case hd => rfl); (case hg => rfl); (case hr => first | (go_simp; done) | (go_simp; rfl)); intro g3 hg w3 hbox hb; have BK3 := Aside0.mk (show Arr.IsArr .u8 w3 g3 31 (List.replicate 8 0) from hbox); have GE3 := Aside0.mk (show w.heap.size ≤ g3 from by rw [hg]; exact below_size HB.out); have NE := Aside0.mk (show g2 ≠ g3 from by rw [hg]; exact Nat.ne_of_lt (blk_lt BK2.out)); have n2_ := Aside0.mk (BK2.out.below hb); have n1_ := Aside0.mk (blk_below BK1.out hb); have n0_ := Aside0.mk (below_step HB.out hb); clear HB BK1 BK2; have HB := n0_; have BK1 := n1_; have BK2 := n2_; clear n0_ n1_ n2_ hb hbox hg; have hk0 := (blk_cell BK1.out 0).trans rfl; have hk1 := (blk_cell BK1.out 1).trans rfl)
      | ((with_reducible refine gate_callee (f := 18) rfl ?_); refine goesL_ (some 6) rfl rfl Tryd.func18 (by kernel_rfl) rfl #[.agg #[.int .i64 a0_0, .int .i64 a0_1]] rfl (by (try simp only [List.map_toArray, List.map_cons, List.map_nil]); first | done | rfl) ?_; (with_reducible refine (place_May.calls a0_0 a0_1 true _ A1.out).mono ?_); rintro e w4 ⟨rfl, hb⟩; refine ⟨_, rfl, ?_⟩; have n3_ := Aside0.mk (BK3.out.below hb); have n2_ := Aside0.mk (BK2.out.below hb); have n1_ := Aside0.mk (blk_below BK1.out hb); have n0_ := Aside0.mk (below_step HB.out hb); clear HB BK1 BK2 BK3 hk0 hk1; have HB := n0_; have BK1 := n1_; have BK2 := n2_; have BK3 := n3_; clear n0_ n1_ n2_ n3_ hb))
    have n3_ := Aside0.mk (show Arr.IsArr .u8 w4.drew g3 31 (List.replicate 8 0) from BK3.out)
    have n2_ := Aside0.mk (show Arr.IsArr .u8 w4.drew g2 31 (List.replicate 8 0) from BK2.out)
    have n1_ := Aside0.mk (blk_drew BK1.out)
    have n0_ := Aside0.mk (below_drew1 HB.out)
    clear HB BK1 BK2 BK3
    have HB := n0_
    have BK1 := n1_
    have BK2 := n2_
    have BK3 := n3_
    clear n0_ n1_ n2_ n3_
    refine start_ (n := 11) (S := fun w' => w'.cell? ⟨g1, 0, none⟩ = some (.int .i64 a0_0) ∧ w'.cell? ⟨g1, 1, none⟩ = some (.int .i64 a0_1)) (ds := []) #[false, false, false, false, false, false, false, false, false, false, false] (by kernel_rfl) rfl rfl ⟨(blk_cell BK1.out 0).trans rfl, (blk_cell BK1.out 1).trans rfl⟩ (fun hHeld => ?_)
    generalize w4.drew = w5 at BK1 BK2 BK3 HB hHeld ⊢
    refine pure_ (i := 2) (N := some 11) (v := ?_) (a' := ?_) #[false, false, true, false, false, false, false, false, false, false, false] rfl rfl (by kernel_rfl) (fun _ _ _ h => h) (Or.inl ⟨by rfl, ?_⟩) ?_ ?_
    rotate_left
    · intro w'
      go_simp
      with_reducible rfl
    rotate_left
    · simp only [Act.put, List.setIfInBounds_toArray, List.set_cons_zero, List.set_cons_succ, i64_w, i32_w]
      rfl
    refine take_ (i := 3) (N := some 12) (v := ?_) (a' := ?_) #[false, false, true, true, false, false, false, false, false, false, false] rfl rfl (by kernel_rfl) (fun _ _ _ h => h) (Or.inl ⟨by rfl, ?_⟩) hHeld ?_ ?_
    rotate_left
    · rintro w' ⟨s0, s1⟩
      go_simp
      with_reducible rfl
    rotate_left
    · simp only [Act.put, List.setIfInBounds_toArray, List.set_cons_zero, List.set_cons_succ, i64_w, i32_w]
      rfl
    refine pure_ (i := 4) (N := some 13) (v := ?_) (a' := ?_) #[false, false, true, true, true, false, false, false, false, false, false] rfl rfl (by kernel_rfl) (fun _ _ _ h => h) (Or.inl ⟨by rfl, ?_⟩) ?_ ?_
    rotate_left
    · intro w'
      go_simp
      with_reducible rfl
    rotate_left
    · simp only [Act.put, List.setIfInBounds_toArray, List.set_cons_zero, List.set_cons_succ, i64_w, i32_w]
      rfl
    refine pure_ (i := 6) (N := some 15) (v := ?_) (a' := ?_) #[false, false, true, true, true, false, true, false, false, false, false] rfl rfl (by kernel_rfl) (fun _ _ _ h => h) (Or.inl ⟨by rfl, ?_⟩) ?_ ?_
    rotate_left
    · intro w'
      go_simp
      with_reducible rfl
    rotate_left
    · simp only [Act.put, List.setIfInBounds_toArray, List.set_cons_zero, List.set_cons_succ, i64_w, i32_w]
      rfl
    refine take_ (i := 7) (N := some 16) (v := ?_) (a' := ?_) #[false, false, true, true, true, false, true, true, false, false, false] rfl rfl (by kernel_rfl) (fun _ _ _ h => h) (Or.inl ⟨by rfl, ?_⟩) hHeld ?_ ?_
    rotate_left
    · rintro w' ⟨s0, s1⟩
      go_simp
      with_reducible rfl
    rotate_left
    · simp only [Act.put, List.setIfInBounds_toArray, List.set_cons_zero, List.set_cons_succ, i64_w, i32_w]
      rfl
    refine pure_ (i := 8) (N := some 17) (v := ?_) (a' := ?_) #[false, false, true, true, true, false, true, true, true, false, false] rfl rfl (by kernel_rfl) (fun _ _ _ h => h) (Or.inl ⟨by rfl, ?_⟩) ?_ ?_
    rotate_left
    · intro w'
      go_simp
      with_reducible rfl
    rotate_left
    · simp only [Act.put, List.setIfInBounds_toArray, List.set_cons_zero, List.set_cons_succ, i64_w, i32_w]
      rfl
    refine one_ (i := 0) (N := some 9) #[true, false, true, true, true, false, true, true, true, false, false] rfl rfl (by kernel_rfl) (by decide) (fun K hK => ?_)
    refine event_step (by rfl) (v := .slice (some ⟨w5.heap.size, 0, none⟩) 4 4) (w1 := w5.alloc (.cells #[.int .u8 84, .int .u8 120, .int .u8 78, .int .u8 82] 5)) (by go_simp; try rfl) ?_
    refine hK.out _ _ ⟨(blk_cell (blk_alloc BK1.out _) 0).trans rfl, (blk_cell (blk_alloc BK1.out _) 1).trans rfl⟩ (fun hHeld => ?_)
    clear hK K
    refine norm_ (a' := ?_) ?_ ?_
    rotate_left
    · show Act.put _ (some 9) _ = _
      simp only [Act.put, List.setIfInBounds_toArray, List.set_cons_zero, List.set_cons_succ, i64_w, i32_w]
      rfl
    refine one_ (i := 1) (N := some 10) #[true, true, true, true, true, false, true, true, true, false, false] rfl rfl (by kernel_rfl) (by decide) (fun K hK => ?_)
    have kc := Lib.run_convert_bytes_const (P := Tryd.prog) w5 24 5 #[.int .u8 84, .int .u8 120, .int .u8 78, .int .u8 82] 4 4 Tryd.underlying24 Tryd.underlying5
    refine event_step (by rfl) (v := .slice (some ⟨w5.heap.size, 0, none⟩) 4 4) (w1 := w5.alloc (.cells #[.int .u8 84, .int .u8 120, .int .u8 78, .int .u8 82] 5 (4, 5))) (by go_simp; try rfl) ?_
    clear kc
    refine hK.out _ _ ⟨(blk_cell (blk_alloc BK1.out _) 0).trans rfl, (blk_cell (blk_alloc BK1.out _) 1).trans rfl⟩ (fun hHeld => ?_)
    clear hK K
    refine norm_ (a' := ?_) ?_ ?_
    rotate_left
    · show Act.put _ (some 10) _ = _
      simp only [Act.put, List.setIfInBounds_toArray, List.set_cons_zero, List.set_cons_succ, i64_w, i32_w]
      rfl
    have HC := Aside0.mk (show (Kd.int .u8).C (w5.alloc (.cells #[.int .u8 84, .int .u8 120, .int .u8 78, .int .u8 82] 5 (4, 5))) (some ⟨w5.heap.size, 0, none⟩) ([84, 120, 78, 82] : List Int).length [84, 120, 78, 82] from Kit.C_blk (blk_new _ _) (by rfl) (by simp))
    have hb := below_alloc (Below.refl w5.heap.size w5) (.cells #[.int .u8 84, .int .u8 120, .int .u8 78, .int .u8 82] 5 (4, 5))
    have n3_ := Aside0.mk (BK3.out.below hb)
    have n2_ := Aside0.mk (BK2.out.below hb)
    have n1_ := Aside0.mk (blk_below BK1.out hb)
    have n0_ := Aside0.mk (below_step HB.out hb)
    clear HB BK1 BK2 BK3 hb
    have HB := n0_
    have BK1 := n1_
    have BK2 := n2_
    have BK3 := n3_
    clear n0_ n1_ n2_ n3_
    generalize w5.alloc (.cells #[.int .u8 84, .int .u8 120, .int .u8 78, .int .u8 82] 5 (4, 5)) = w6 at BK1 BK2 BK3 HB HC hHeld ⊢
    generalize (some ⟨w5.heap.size, 0, none⟩ : Option Addr) = A0 at HC ⊢
    refine one_ (i := 5) (N := some 14) #[true, true, true, true, true, true, true, true, true, false, false] rfl rfl (by kernel_rfl) (by decide) (fun K hK => ?_)
    refine goes_ Tryd.func21 (by kernel_rfl) rfl #[.slice A0 ([84, 120, 78, 82] : List Int).length 4, .int .i64 2, .int .u64 (IntKind.u64.wrap a0_0)] (by rfl) rfl rfl (by (try simp only [List.map_toArray, List.map_cons, List.map_nil]); first | done | rfl) ?_
    with_reducible refine (pack_Put.calls k _ _ [84, 120, 78, 82] 2 (IntKind.u64.wrap a0_0) t2 _ HC.out (by decide) A2.out).mono ?_
    rintro e w7 ⟨v_, rfl, ho, hb⟩
    refine ⟨_, rfl, ?_⟩
    obtain ⟨At2, ct2, rfl⟩ := Kd.R_slice ho
    have HOt2 := Aside0.mk ho
    have n3_ := Aside0.mk (BK3.out.below hb)
    have n2_ := Aside0.mk (BK2.out.below hb)
    have n1_ := Aside0.mk (blk_below BK1.out hb)
    have n0_ := Aside0.mk (below_step HB.out hb)
    clear HB BK1 BK2 BK3 hb ho
    have HB := n0_
    have BK1 := n1_
    have BK2 := n2_
    have BK3 := n3_
    clear n0_ n1_ n2_ n3_
    refine hK.out _ _ ⟨(blk_cell BK1.out 0).trans rfl, (blk_cell BK1.out 1).trans rfl⟩ (fun hHeld => ?_)
    clear hK K
    refine norm_ (a' := ?_) ?_ ?_
    rotate_left
    · show Act.put _ (some 14) _ = _
      simp only [Act.put, List.setIfInBounds_toArray, List.set_cons_zero, List.set_cons_succ, i64_w, i32_w]
      rfl
    refine one_ (i := 9) (N := some 18) #[true, true, true, true, true, true, true, true, true, true, false] rfl rfl (by kernel_rfl) (by decide) (fun K hK => ?_)
    refine goes_ Tryd.func21 (by kernel_rfl) rfl #[.slice At2 t2.length ct2, .int .i64 2, .int .u64 (IntKind.u64.wrap a0_1)] (by rfl) rfl rfl (by (try simp only [List.map_toArray, List.map_cons, List.map_nil]); first | done | rfl) ?_
    with_reducible refine (pack_Put.calls k _ _ t2 2 (IntKind.u64.wrap a0_1) t3 _ (Kd.R_reads' HOt2.out).2.2 (Kd.R_reads' HOt2.out).2.1 A3.out).mono ?_
    rintro e w8 ⟨v_, rfl, ho, hb⟩
    refine ⟨_, rfl, ?_⟩
    obtain ⟨At3, ct3, rfl⟩ := Kd.R_slice ho
    have HOt3 := Aside0.mk ho
    have n3_ := Aside0.mk (BK3.out.below hb)
    have n2_ := Aside0.mk (BK2.out.below hb)
    have n1_ := Aside0.mk (blk_below BK1.out hb)
    have n0_ := Aside0.mk (below_step HB.out hb)
    clear HB BK1 BK2 BK3 hb ho
    have HB := n0_
    have BK1 := n1_
    have BK2 := n2_
    have BK3 := n3_
    clear n0_ n1_ n2_ n3_
    refine hK.out _ _ ⟨(blk_cell BK1.out 0).trans rfl, (blk_cell BK1.out 1).trans rfl⟩ (fun hHeld => ?_)
    clear hK K
    refine norm_ (a' := ?_) ?_ ?_
    rotate_left
    · show Act.put _ (some 18) _ = _
      simp only [Act.put, List.setIfInBounds_toArray, List.set_cons_zero, List.set_cons_succ, i64_w, i32_w]
      rfl
    refine pure_ (i := 10) (N := some 4) (v := ?_) (a' := ?_) #[true, true, true, true, true, true, true, true, true, true, true] rfl rfl (by kernel_rfl) (fun _ _ _ h => h) (Or.inl ⟨by rfl, ?_⟩) ?_ ?_
    rotate_left
    · intro w'
      go_simp
      with_reducible rfl
    rotate_left
    · simp only [Act.put, List.setIfInBounds_toArray, List.set_cons_zero, List.set_cons_succ, i64_w, i32_w]
      rfl
    refine done_ (by kernel_rfl) ?_
    clear HC HOt2 hHeld
    try go_wp2
    have n0_ := Aside0.mk (below_drew1 HB.out)
    have n1_ := Aside0.mk (show Arr.IsArr .u8 w8.drew g2 31 (List.replicate 8 0) from BK2.out)
    have n2_ := Aside0.mk (show Arr.IsArr .u8 w8.drew g3 31 (List.replicate 8 0) from BK3.out)
    have n3_ := Aside0.mk (Kd.R_below HOt3.out (below_drew1 (Below.refl _ _)))
    clear HB BK2 BK3 HOt3 BK1
    have HB := n0_
    have BK2 := n1_
    have BK3 := n2_
    have HOt3 := n3_
    clear n0_ n1_ n2_ n3_
    obtain ⟨i05, hi05, _, hsz5, _⟩ := info_parts info5
    obtain ⟨hcut, hCT, hCC⟩ := print_take_of (P := Tryd.prog) (Value.int .u8) 0 24 5 .i64 Tryd.underlying24 hi05 hsz5 At3 ct3 t3 4 (by omega) c4 (Kd.R_reads' HOt3.out).2.1
    clear hCT hi05 hsz5
    have HCC := Aside0.mk hCC
    clear hCC
    have hlen4 : (t3.take (4 : Int).toNat).length = (t3.take 4).length := rfl
    rw [hlen4] at hcut HCC
    clear hlen4
    obtain ⟨y4, hy4⟩ : ∃ y : List Int, y = t3.take 4 := ⟨_, rfl⟩
    rw [← hy4] at hcut HCC
    have A5' := Aside0.mk (show pack_Put.f k y4 4 (IntKind.u64.wrap t4) = some t5 by rw [hy4]; exact A5.out)
    clear A5
    have Ny4 := Aside0.mk hy4
    clear hy4
    refine start_ (n := 8) (S := fun _ => True) (ds := []) #[false, false, false, false, false, false, false, false] (by kernel_rfl) rfl rfl trivial (fun hHeld => ?_)
    generalize w8.drew = w9 at HB BK2 BK3 HOt3 hHeld ⊢
    refine pure_ (i := 0) (N := some 19) (v := ?_) (a' := ?_) #[true, false, false, false, false, false, false, false] rfl rfl (by kernel_rfl) (fun _ _ _ h => h) (Or.inl ⟨by rfl, ?_⟩) ?_ ?_
    rotate_left
    · intro w'
      go_simp
      with_reducible rfl
    rotate_left
    · simp only [Act.put, List.setIfInBounds_toArray, List.set_cons_zero, List.set_cons_succ, i64_w, i32_w]
      rfl
    refine pure_ (i := 1) (N := some 20) (v := ?_) (a' := ?_) #[true, true, false, false, false, false, false, false] rfl rfl (by kernel_rfl) (fun _ _ _ h => h) (Or.inl ⟨by rfl, ?_⟩) ?_ ?_
    rotate_left
    · intro w'
      go_simp
      with_reducible rfl
    rotate_left
    · simp only [Act.put, List.setIfInBounds_toArray, List.set_cons_zero, List.set_cons_succ, i64_w, i32_w]
      rfl
    refine pure_ (i := 2) (N := some 21) (v := ?_) (a' := ?_) #[true, true, true, false, false, false, false, false] rfl rfl (by kernel_rfl) (fun _ _ _ h => h) (Or.inl ⟨by rfl, ?_⟩) ?_ ?_
    rotate_left
    · intro w'
      go_simp
      with_reducible rfl
    rotate_left
    · simp only [Act.put, List.setIfInBounds_toArray, List.set_cons_zero, List.set_cons_succ, i64_w, i32_w]
      rfl
    refine pure_ (i := 3) (N := some 22) (v := ?_) (a' := ?_) #[true, true, true, true, false, false, false, false] rfl rfl (by kernel_rfl) (fun _ _ _ h => h) (Or.inl ⟨by rfl, ?_⟩) ?_ ?_
    rotate_left
    · intro w'
      go_simp
      with_reducible rfl
    rotate_left
    · simp only [Act.put, List.setIfInBounds_toArray, List.set_cons_zero, List.set_cons_succ, i64_w, i32_w]
      rfl
    refine one_ (i := 4) (N := some 23) #[true, true, true, true, true, false, false, false] rfl rfl (by kernel_rfl) (by decide) (fun K hK => ?_)
    refine goes_ Tryd.func22 (by kernel_rfl) rfl #[.slice At3 t3.length ct3] (by rfl) rfl rfl (by (try simp only [List.map_toArray, List.map_cons, List.map_nil]); first | done | rfl) ?_
    with_reducible refine (sum_Sum.calls k _ _ t3 t4 _ (Kd.R_reads' HOt3.out).2.2 (Kd.R_reads' HOt3.out).2.1 A4.out).mono ?_
    rintro e w10 ⟨rfl, hb⟩
    refine ⟨_, rfl, ?_⟩
    have n0_ := Aside0.mk (below_step HB.out hb)
    have n1_ := Aside0.mk (BK2.out.below hb)
    have n2_ := Aside0.mk (BK3.out.below hb)
    have n3_ := Aside0.mk (Kd.R_below HOt3.out hb)
    clear HB BK2 BK3 HOt3 hb
    have HB := n0_
    have BK2 := n1_
    have BK3 := n2_
    have HOt3 := n3_
    clear n0_ n1_ n2_ n3_
    refine hK.out _ _ trivial (fun hHeld => ?_)
    clear hK K
    refine norm_ (a' := ?_) ?_ ?_
    rotate_left
    · show Act.put _ (some 23) _ = _
      simp only [Act.put, List.setIfInBounds_toArray, List.set_cons_zero, List.set_cons_succ, i64_w, i32_w]
      rfl
    refine pure_ (i := 5) (N := some 24) (v := ?_) (a' := ?_) #[true, true, true, true, true, true, false, false] rfl rfl (by kernel_rfl) (fun _ _ _ h => h) (Or.inl ⟨by rfl, ?_⟩) ?_ ?_
    rotate_left
    · intro w'
      go_simp
      with_reducible rfl
    rotate_left
    · simp only [Act.put, List.setIfInBounds_toArray, List.set_cons_zero, List.set_cons_succ, i64_w, i32_w]
      rfl
    refine one_ (i := 6) (N := some 25) #[true, true, true, true, true, true, true, false] rfl rfl (by kernel_rfl) (by decide) (fun K hK => ?_)
    refine goes_ Tryd.func21 (by kernel_rfl) rfl #[.slice At3 y4.length ct3, .int .i64 4, .int .u64 (IntKind.u64.wrap t4)] (by rfl) rfl rfl (by (try simp only [List.map_toArray, List.map_cons, List.map_nil]); first | done | rfl) ?_
    with_reducible refine (pack_Put.calls k _ _ y4 4 (IntKind.u64.wrap t4) t5 _ (by rw [Ny4.out]; exact Kd.C_take (Kd.R_reads' HOt3.out).2.2 (by omega)) HCC.out A5'.out).mono ?_
    rintro e w11 ⟨v_, rfl, ho, hb⟩
    refine ⟨_, rfl, ?_⟩
    obtain ⟨At5, ct5, rfl⟩ := Kd.R_slice ho
    have HOt5 := Aside0.mk ho
    clear ho
    have n0_ := Aside0.mk (below_step HB.out hb)
    have n1_ := Aside0.mk (BK2.out.below hb)
    have n2_ := Aside0.mk (BK3.out.below hb)
    clear HB BK2 BK3 HOt3 hcut hb
    have HB := n0_
    have BK2 := n1_
    have BK3 := n2_
    clear n0_ n1_ n2_
    refine hK.out _ _ trivial (fun hHeld => ?_)
    clear hK K
    refine norm_ (a' := ?_) ?_ ?_
    rotate_left
    · show Act.put _ (some 25) _ = _
      simp only [Act.put, List.setIfInBounds_toArray, List.set_cons_zero, List.set_cons_succ, i64_w, i32_w]
      rfl
    refine one_ (i := 7) (N := some 26) #[true, true, true, true, true, true, true, true] rfl rfl (by kernel_rfl) (by decide) (fun K hK => ?_)
    refine Arr.A_copy_step .u8 rfl (.tmp 19) (.tmp 25) 24 24 5 31 rfl Tryd.underlying24 (by kernel_rfl) (xs := List.replicate 8 0) (ys := t5) rfl rfl BK3.out rfl (Kd.R_reads' HOt5.out).2.2 ?_
    intro z w12 ha hg
    have n1_ := Aside0.mk (BK2.out.grown hg (by intro e; injection e with e; exact NE.out e))
    have n0_ := Aside0.mk (HB.out.grown hg (below_size HB.out) (by intro q hq; injection hq with hq; subst hq; exact GE3.out))
    clear HB BK2 BK3 HOt5 hg
    have HB := n0_
    have BK2 := n1_
    rw [HR.out] at ha
    have BK3 := Aside0.mk ha
    clear n0_ n1_ ha
    refine hK.out _ _ trivial (fun hHeld => ?_)
    clear hK K
    refine norm_ (a' := ?_) ?_ ?_
    rotate_left
    · show Act.put _ (some 26) _ = _
      simp only [Act.put, List.setIfInBounds_toArray, List.set_cons_zero, List.set_cons_succ, i64_w, i32_w]
      rfl
    refine done_ (by kernel_rfl) ?_
    have HL := Aside0.mk (show r.length = 8 by rw [← HR.out, Kit.cpy_length]; rfl)
    clear hHeld
    obtain ⟨e0, e1, e2, e3, e4, e5, e6, e7, rfl⟩ := Arr.len8 HL.out
    clear HL HR
    have hc0 : w12.cell? ⟨g3, 0, none⟩ = some (.int .u8 e0) := (blk_cell BK3.out 0).trans rfl
    have hc1 : w12.cell? ⟨g3, 1, none⟩ = some (.int .u8 e1) := (blk_cell BK3.out 1).trans rfl
    have hc2 : w12.cell? ⟨g3, 2, none⟩ = some (.int .u8 e2) := (blk_cell BK3.out 2).trans rfl
    have hc3 : w12.cell? ⟨g3, 3, none⟩ = some (.int .u8 e3) := (blk_cell BK3.out 3).trans rfl
    have hc4 : w12.cell? ⟨g3, 4, none⟩ = some (.int .u8 e4) := (blk_cell BK3.out 4).trans rfl
    have hc5 : w12.cell? ⟨g3, 5, none⟩ = some (.int .u8 e5) := (blk_cell BK3.out 5).trans rfl
    have hc6 : w12.cell? ⟨g3, 6, none⟩ = some (.int .u8 e6) := (blk_cell BK3.out 6).trans rfl
    have hc7 : w12.cell? ⟨g3, 7, none⟩ = some (.int .u8 e7) := (blk_cell BK3.out 7).trans rfl
    go_wp2_with (first | ((with_reducible refine gate_store (t := 31) (p := 2) rfl ?_); refine Arr.row_event rfl 31 (.tmp 2) (.tmp 27) rfl g2 #[.int .u8 e0, .int .u8 e1, .int .u8 e2, .int .u8 e3, .int .u8 e4, .int .u8 e5, .int .u8 e6, .int .u8 e7] rfl rfl 31 (Arr.arr .u8 (List.replicate 8 0)) BK2.out (by kernel_rfl) rfl (by first | rfl | (simp [Value.oneCell']; done) | (simp; rfl)) ?_; intro w13 hb_ hg_; have nb_ := Aside0.mk (HB.out.grown hg_ (below_size HB.out) (by intro q hq; injection hq with hq; subst hq; exact GE2.out)); clear HB BK2 BK3; have HB := nb_; have BK2 := Aside0.mk hb_; clear nb_ hb_ hg_))
    refine bodyPost_ret (results_cell_row rfl _ _ g2 31 #[.int .u8 e0, .int .u8 e1, .int .u8 e2, .int .u8 e3, .int .u8 e4, .int .u8 e5, .int .u8 e6, .int .u8 e7] (0, 0) _ rfl BK2.out Tryd.underlying31 rfl (by kernel_rfl)) rfl ?_
    exact ⟨rfl, HB.out⟩
  · rw [if_neg c] at H
    obtain rfl : t1 = false := by simpa using c
    clear c
    obtain rfl := Option.some.inj H
    clear H
    go_enter Tryd.func13, Tryd.ntmps13
    go_wp2_with (first
      | ((with_reducible refine gate_dst (N := 1) rfl ?_); refine box_event ?hg (N := 1) ?hd (cs := #[.int .i64 a0_0, .int .i64 a0_1]) (t := 23) ?hr ?_; (case hd => rfl); (case hg => rfl); (case hr => first | (go_simp; done) | (go_simp; rfl)); intro g1 hg w1 hbox hb; have BK1 := Aside0.mk hbox; have n0_ := Aside0.mk (below_step HB.out hb); clear HB; have HB := n0_; clear n0_ hb hbox hg)
      | ((with_reducible refine gate_dst (N := 2) rfl ?_); refine box_event ?hg (N := 2) ?hd (cs := Arr.arr .u8 (List.replicate 8 0)) (t := 31) ?hr ?_; (case hd => rfl); (case hg => rfl); (case hr => first | (go_simp; done) | (go_simp; rfl)); intro g2 hg w2 hbox hb; have BK2 := Aside0.mk (show Arr.IsArr .u8 w2 g2 31 (List.replicate 8 0) from hbox); have GE2 := Aside0.mk (show w.heap.size ≤ g2 from by rw [hg]; exact below_size HB.out); have n1_ := Aside0.mk (blk_below BK1.out hb); have n0_ := Aside0.mk (below_step HB.out hb); clear HB BK1; have HB := n0_; have BK1 := n1_; clear n0_ n1_ hb hbox hg)
      | ((with_reducible refine gate_dst (N := 3) rfl ?_); refine box_event ?hg (N := 3) ?hd (cs := Arr.arr .u8 (List.replicate 8 0)) (t := 31) ?hr ?_; (case hd => rfl); (case hg => rfl); (case hr => first | (go_simp; done) | (go_simp; rfl)); intro g3 hg w3 hbox hb; have BK3 := Aside0.mk (show Arr.IsArr .u8 w3 g3 31 (List.replicate 8 0) from hbox); have GE3 := Aside0.mk (show w.heap.size ≤ g3 from by rw [hg]; exact below_size HB.out); have NE := Aside0.mk (show g2 ≠ g3 from by rw [hg]; exact Nat.ne_of_lt (blk_lt BK2.out)); have n2_ := Aside0.mk (BK2.out.below hb); have n1_ := Aside0.mk (blk_below BK1.out hb); have n0_ := Aside0.mk (below_step HB.out hb); clear HB BK1 BK2; have HB := n0_; have BK1 := n1_; have BK2 := n2_; clear n0_ n1_ n2_ hb hbox hg; have hk0 := (blk_cell BK1.out 0).trans rfl; have hk1 := (blk_cell BK1.out 1).trans rfl)
      | ((with_reducible refine gate_callee (f := 18) rfl ?_); refine goesL_ (some 6) rfl rfl Tryd.func18 (by kernel_rfl) rfl #[.agg #[.int .i64 a0_0, .int .i64 a0_1]] rfl (by (try simp only [List.map_toArray, List.map_cons, List.map_nil]); first | done | rfl) ?_; (with_reducible refine (place_May.calls a0_0 a0_1 false _ A1.out).mono ?_); rintro e w4 ⟨rfl, hb⟩; refine ⟨_, rfl, ?_⟩; have n3_ := Aside0.mk (BK3.out.below hb); have n2_ := Aside0.mk (BK2.out.below hb); have n1_ := Aside0.mk (blk_below BK1.out hb); have n0_ := Aside0.mk (below_step HB.out hb); clear HB BK1 BK2 BK3 hk0 hk1; have HB := n0_; have BK1 := n1_; have BK2 := n2_; have BK3 := n3_; clear n0_ n1_ n2_ n3_ hb; have hc0 : w4.cell? ⟨g3, 0, none⟩ = some (.int .u8 0) := (blk_cell BK3.out 0).trans rfl; have hc1 : w4.cell? ⟨g3, 1, none⟩ = some (.int .u8 0) := (blk_cell BK3.out 1).trans rfl; have hc2 : w4.cell? ⟨g3, 2, none⟩ = some (.int .u8 0) := (blk_cell BK3.out 2).trans rfl; have hc3 : w4.cell? ⟨g3, 3, none⟩ = some (.int .u8 0) := (blk_cell BK3.out 3).trans rfl; have hc4 : w4.cell? ⟨g3, 4, none⟩ = some (.int .u8 0) := (blk_cell BK3.out 4).trans rfl; have hc5 : w4.cell? ⟨g3, 5, none⟩ = some (.int .u8 0) := (blk_cell BK3.out 5).trans rfl; have hc6 : w4.cell? ⟨g3, 6, none⟩ = some (.int .u8 0) := (blk_cell BK3.out 6).trans rfl; have hc7 : w4.cell? ⟨g3, 7, none⟩ = some (.int .u8 0) := (blk_cell BK3.out 7).trans rfl)
      | ((with_reducible refine gate_store (t := 31) (p := 2) rfl ?_); refine Arr.row_event rfl 31 (.tmp 2) (.tmp 8) rfl g2 #[.int .u8 0, .int .u8 0, .int .u8 0, .int .u8 0, .int .u8 0, .int .u8 0, .int .u8 0, .int .u8 0] rfl rfl 31 (Arr.arr .u8 (List.replicate 8 0)) BK2.out (by kernel_rfl) rfl (by first | rfl | (simp [Value.oneCell']; done) | (simp; rfl)) ?_; intro w13 hb_ hg_; have nb_ := Aside0.mk (HB.out.grown hg_ (below_size HB.out) (by intro q hq; injection hq with hq; subst hq; exact GE2.out)); clear HB BK2 BK3; have HB := nb_; have BK2 := Aside0.mk hb_; clear nb_ hb_ hg_))
    refine bodyPost_ret (results_cell_row rfl _ _ g2 31 #[.int .u8 0, .int .u8 0, .int .u8 0, .int .u8 0, .int .u8 0, .int .u8 0, .int .u8 0, .int .u8 0] (0, 0) _ rfl BK2.out Tryd.underlying31 rfl (by kernel_rfl)) rfl ?_
    exact ⟨rfl, HB.out⟩

-- NOT PRINTED: function 27 (slices_IndexFunc_byte_byte)

-- NOT PRINTED: function 19 (slices_ContainsFunc_byte_byte)

/-! ### head_Class: function 11 -/
/-- The first place at which no 255 stands; -1: none. -/
def idx255 : List Int → Int → Int
  | [], _ => -1
  | x :: t, i => if x = 255 then idx255 t (i + 1) else i
theorem idx255_step {l : List Int} {m : Nat} (h : m < l.length) : idx255 (l.drop m) m = if rd l m = 255 then idx255 (l.drop (m + 1)) ((m + 1 : Nat) : Int) else m := by
  have e : l.drop m = rd l m :: l.drop (m + 1) := by
    have e : rd l m = l[m] := by simp [rd, h]
    rw [e]; exact List.drop_eq_getElem_cons h
  rw [e]; rfl
theorem idx255_all (l : List Int) : ∀ (i : Int), 0 ≤ i → (if idx255 l i ≥ 0 then true else false) = !(l.all fun c => c == 255) := by
  induction l with
  | nil => intro i _; rfl
  | cons x t ih =>
    intro i hi
    unfold idx255
    by_cases c : x = 255
    · rw [if_pos c, ih (i + 1) (by omega)]; simp [c]
    · rw [if_neg c, if_pos hi]; simp [c]
theorem idx255_bound (l : List Int) (m : Int) (hm : l.length + m ≤ 9223372036854775807) : ∀ (i : Int), 0 ≤ i → i + l.length ≤ 9223372036854775807 → -1 ≤ idx255 l i ∧ idx255 l i ≤ 9223372036854775807 := by
  induction l with
  | nil => intro i _ _; simp [idx255]
  | cons x t ih =>
    intro i hi hb
    simp only [List.length_cons] at hm hb
    unfold idx255
    split
    · exact ih (by omega) (i + 1) (by omega) (by omega)
    · omega
set_option maxHeartbeats 1000000 in
set_option maxRecDepth 100000 in
theorem slices_IndexFunc.calls (A0 : Option Addr) (c0 : Nat) (l0 : List Int) (w : World) (hr0 : Kd.C (Kd.int .u8) w A0 l0.length l0) :
    Calls Tryd.prog 27 #[.slice A0 l0.length c0, .func (.func 20) #[] #[]] w fun e w' => e = .returned (.int .i64 (idx255 l0 0)) ∧ w' = w := by
  have HR := Aside0.mk hr0
  have hmax : l0.length ≤ 9223372036854775807 := Kd.C_max hr0
  clear hr0
  go_enter Tryd.func27, Tryd.ntmps27
  go_wp2
  go_loop [8] (fun c => ∃ m : Nat, m ≤ l0.length ∧ c = .int .i64 m ∧ Aside0 (idx255 (l0.drop m) m = idx255 l0 0)) (fun c => l0.length - (Kit.numOf c).toNat)
  case atStart => exact ⟨0, Nat.zero_le _, rfl, ⟨rfl⟩⟩
  case round =>
    obtain ⟨m, hm, rfl, HM⟩ := hrel
    by_cases hlt : m < l0.length
    · obtain ⟨ad, rfl, hx⟩ := Kd.at_int HR.out (m : Int) (by omega) (by omega)
      rw [Int.toNat_natCast] at hx
      have H0 := HM.out
      rw [idx255_step hlt] at H0
      clear HM
      by_cases h255 : rd l0 m = 255
      · have hb : (rd l0 m != 255) = false := by simp [h255]
        rw [if_pos h255] at H0
        have HM := Aside0.mk H0
        clear h255 H0
        go_wp2
        go_round
        case rel => exact ⟨m + 1, by omega, by go_num, HM⟩
        case measure => simp [Kit.numOf]; omega
      · have hb : (rd l0 m != 255) = true := by simp [h255]
        rw [if_neg h255] at H0
        have HM := Aside0.mk H0
        clear h255 H0
        go_wp2
        go_ret
        exact ⟨by rw [HM.out]; rfl, rfl⟩
    · obtain rfl : m = l0.length := by omega
      have H0 := HM.out
      rw [List.drop_length] at H0
      have HM := Aside0.mk (show (-1 : Int) = idx255 l0 0 from H0)
      clear H0
      go_wp2
      go_ret
      exact ⟨by rw [← HM.out]; rfl, rfl⟩
set_option maxHeartbeats 1000000 in
set_option maxRecDepth 100000 in
theorem slices_ContainsFunc.calls (A0 : Option Addr) (c0 : Nat) (l0 : List Int) (r : Bool) (w : World) (hr0 : Kd.C (Kd.int .u8) w A0 l0.length l0) (hr : (!(l0.all fun c => c == 255)) = r) :
    Calls Tryd.prog 19 #[.slice A0 l0.length c0, .func (.func 20) #[] #[]] w fun e w' => e = .returned (.bool r) ∧ w' = w := by
  have HA := idx255_all l0 0 (by omega)
  rw [hr] at HA
  have HR := Aside0.mk hr0
  clear hr0 hr
  by_cases c : idx255 l0 0 ≥ 0
  · rw [if_pos c] at HA
    subst HA
    have cb := decide_eq_true c
    go_enter Tryd.func19, Tryd.ntmps19
    go_wp2_with (((with_reducible refine gate_callee (f := 27) rfl ?_); refine goesL_ (some 7) rfl rfl Tryd.func27 (by kernel_rfl) rfl #[.slice A0 l0.length c0, .func (.func 20) #[] #[]] rfl (by (try simp only [List.map_toArray, List.map_cons, List.map_nil]); first | done | rfl) ?_; (with_reducible refine (slices_IndexFunc.calls A0 c0 l0 _ HR.out).mono ?_); rintro e w4 ⟨rfl, rfl⟩; refine ⟨_, rfl, ?_⟩))
    go_ret
    exact ⟨rfl, rfl⟩
  · rw [if_neg c] at HA
    subst HA
    have cb := decide_eq_false c
    go_enter Tryd.func19, Tryd.ntmps19
    go_wp2_with (((with_reducible refine gate_callee (f := 27) rfl ?_); refine goesL_ (some 7) rfl rfl Tryd.func27 (by kernel_rfl) rfl #[.slice A0 l0.length c0, .func (.func 20) #[] #[]] rfl (by (try simp only [List.map_toArray, List.map_cons, List.map_nil]); first | done | rfl) ?_; (with_reducible refine (slices_IndexFunc.calls A0 c0 l0 _ HR.out).mono ?_); rintro e w4 ⟨rfl, rfl⟩; refine ⟨_, rfl, ?_⟩))
    go_ret
    exact ⟨rfl, rfl⟩
def head_Class.f (k : Nat) (a0_0 : Int) (a0_1 : Int) (l1 : List Int) : Option Int := (place_May.f a0_0 a0_1).bind fun t1 => (if t1 = true then (if (l1.length : Int) = a0_1 then ((head_Of.f k a0_0 a0_1).bind fun t2 => (if Kit.cpy (List.replicate 8 0) l1 = t2 then (some 1) else (if (!(l1.all fun c => c == 255)) = true then (some 2) else (some 0)))) else (some 2)) else (some 2))
theorem head_Class.mono : ∀ a0 a1 a2 k, LeO (head_Class.f k a0 a1 a2) (head_Class.f (k + 1) a0 a1 a2) := by
  intro a0 a1 a2 k
  unfold head_Class.f
  repeat' first
      | (with_reducible exact head_Of.mono _ _ _)
      | (with_reducible exact LeO.refl _)
      | (with_reducible refine LeO.ite ?_ ?_)
      | (with_reducible refine LeO.bind ?_ (fun _ => ?_))
set_option maxHeartbeats 8000000 in
set_option maxRecDepth 100000 in
theorem head_Class.calls (k : Nat) (a0_0 : Int) (a0_1 : Int) (A1 : Option Addr) (c1 : Nat) (l1 : List Int) (r : Int) (w : World) (hr1 : Kd.C (Kd.int .u8) w A1 l1.length l1) (hc1 : l1.length ≤ c1) (h : head_Class.f k a0_0 a0_1 l1 = some r) :
    Calls Tryd.prog 11 #[.agg #[.int .i64 a0_0, .int .i64 a0_1], .slice A1 l1.length c1] w fun e w' => e = .returned (.int .i64 r) ∧ Below w.heap.size w w' := by
  have hu1 := Tryd.underlying23
  have hu2 := Tryd.underlying31
  have HR1 := Aside0.mk hr1
  clear hr1
  have HB := Aside0.mk (Below.refl w.heap.size w)
  unfold head_Class.f at h
  have H := h
  clear h
  replace H := Option.bind_eq_some_iff.mp H
  obtain ⟨t1, A10, H⟩ := H
  have A1_ := Aside0.mk A10
  clear A10
  by_cases c : t1 = true
  · rw [if_pos c] at H
    subst c
    by_cases cl : (l1.length : Int) = a0_1
    · rw [if_pos cl] at H
      have clb : ((l1.length : Int) != a0_1) = false := by simp [cl]
      clear cl
      replace H := Option.bind_eq_some_iff.mp H
      obtain ⟨t2, A20, H⟩ := H
      have A2 := Aside0.mk A20
      clear A20
      have HL2 := Aside0.mk (head_Of.length A2.out)
      obtain ⟨x8, hx8⟩ : ∃ x : List Int, x = Kit.cpy (List.replicate 8 0) l1 := ⟨_, rfl⟩
      rw [← hx8] at H
      have hl8 : x8.length = 8 := by rw [hx8, Kit.cpy_length]; rfl
      obtain ⟨e0, e1, e2, e3, e4, e5, e6, e7, rfl⟩ := Arr.len8 hl8
      have HX := Aside0.mk hx8
      clear hx8 hl8
      have hg8 : Tryd.prog.eqGuardType Tryd.prog.depth 31 = false := by kernel_rfl
      have heq : ∀ W : World, (Op.equalIn 10000 31 (.agg #[.int .u8 e0, .int .u8 e1, .int .u8 e2, .int .u8 e3, .int .u8 e4, .int .u8 e5, .int .u8 e6, .int .u8 e7]) (.agg (Arr.arr .u8 t2))).run Tryd.prog W = .ok (decide ([e0, e1, e2, e3, e4, e5, e6, e7] = t2)) W := fun (W : World) => Arr.run_equalIn_arr (P := Tryd.prog) 9998 8 31 5 .u8 [e0, e1, e2, e3, e4, e5, e6, e7] t2 W Tryd.underlying31 Tryd.underlying5 (by kernel_rfl) rfl HL2.out
      by_cases ce : [e0, e1, e2, e3, e4, e5, e6, e7] = t2
      · rw [if_pos ce] at H
        obtain rfl := Option.some.inj H
        clear H
        rw [decide_eq_true ce] at heq
        clear ce
        go_enter Tryd.func11, Tryd.ntmps11
        go_wp2_with (first
          | ((with_reducible refine gate_dst (N := 2) rfl ?_); refine box_event ?hg (N := 2) ?hd (cs := #[.int .i64 a0_0, .int .i64 a0_1]) (t := 23) ?hr ?_; (case hd => rfl); (case hg => rfl); (case hr => first | (go_simp; done) | (go_simp; rfl)); intro g1 hg w1 hbox hb; have BK1 := Aside0.mk hbox; have GE1 := Aside0.mk (show w.heap.size ≤ g1 from by rw [hg]; exact below_size HB.out); have n0_ := Aside0.mk (below_step HB.out hb); clear HB; have HB := n0_; clear n0_ hb hbox hg; have hk0 := (blk_cell BK1.out 0).trans rfl; have hk1 := (blk_cell BK1.out 1).trans rfl)
          | ((with_reducible refine gate_callee (f := 18) rfl ?_); refine goesL_ (some 7) rfl rfl Tryd.func18 (by kernel_rfl) rfl #[.agg #[.int .i64 a0_0, .int .i64 a0_1]] rfl (by (try simp only [List.map_toArray, List.map_cons, List.map_nil]); first | done | rfl) ?_; (with_reducible refine (place_May.calls a0_0 a0_1 true _ A1_.out).mono ?_); rintro e w4 ⟨rfl, hb⟩; refine ⟨_, rfl, ?_⟩; have n1_ := Aside0.mk (blk_below BK1.out hb); have n0_ := Aside0.mk (below_step HB.out hb); clear HB BK1 hk0 hk1; have HB := n0_; have BK1 := n1_; clear n0_ n1_ hb; have hk0 := (blk_cell BK1.out 0).trans rfl; have hk1 := (blk_cell BK1.out 1).trans rfl)
          | ((with_reducible refine gate_dst (N := 5) rfl ?_); refine box_event ?hg (N := 5) ?hd (cs := Arr.arr .u8 (List.replicate 8 0)) (t := 31) ?hr ?_; (case hd => rfl); (case hg => rfl); (case hr => first | (go_simp; done) | (go_simp; rfl)); intro g5 hg w5 hbox hb; have BK5 := Aside0.mk (show Arr.IsArr .u8 w5 g5 31 (List.replicate 8 0) from hbox); have GE5 := Aside0.mk (show w.heap.size ≤ g5 from by rw [hg]; exact below_size HB.out); have NE := Aside0.mk (show g1 ≠ g5 from by rw [hg]; exact Nat.ne_of_lt (blk_lt BK1.out)); have n1_ := Aside0.mk (blk_below BK1.out hb); have n0_ := Aside0.mk (below_step HB.out hb); clear HB BK1 hk0 hk1; have HB := n0_; have BK1 := n1_; clear n0_ n1_ hb hbox hg)
          | ((with_reducible refine gate_builtin (b := .copy) (xs := #[.tmp 16, .tmp 17]) rfl ?_); refine Arr.A_copy .u8 rfl (.tmp 16) (.tmp 17) 24 24 5 31 rfl Tryd.underlying24 (by kernel_rfl) (xs := List.replicate 8 0) (ys := l1) rfl rfl BK5.out rfl (Kd.C_below HR1.out HB.out) ?_; intro z w6 ha hg; rw [← HX.out] at ha; have n1_ := Aside0.mk (blk_grown BK1.out hg (by intro e; injection e with e; exact NE.out e)); have n0_ := Aside0.mk (HB.out.grown hg (below_size HB.out) (by intro q hq; injection hq with hq; subst hq; exact GE5.out)); clear HB BK1 BK5; have HB := n0_; have BK1 := n1_; have BK5 := Aside0.mk ha; clear n0_ n1_ ha hg))
        have n0_ := Aside0.mk (below_drew1 HB.out)
        have n1_ := Aside0.mk (blk_drew BK1.out)
        have n2_ := Aside0.mk (show Arr.IsArr .u8 w6.drew g5 31 [e0, e1, e2, e3, e4, e5, e6, e7] from BK5.out)
        clear HB BK1 BK5 
        have HB := n0_
        have BK1 := n1_
        have BK5 := n2_
        clear n0_ n1_ n2_
        refine start_ (n := 4) (S := (fun w' => w'.cell? ⟨g5, 0, none⟩ = some (.int .u8 e0) ∧ w'.cell? ⟨g5, 1, none⟩ = some (.int .u8 e1) ∧ w'.cell? ⟨g5, 2, none⟩ = some (.int .u8 e2) ∧ w'.cell? ⟨g5, 3, none⟩ = some (.int .u8 e3) ∧ w'.cell? ⟨g5, 4, none⟩ = some (.int .u8 e4) ∧ w'.cell? ⟨g5, 5, none⟩ = some (.int .u8 e5) ∧ w'.cell? ⟨g5, 6, none⟩ = some (.int .u8 e6) ∧ w'.cell? ⟨g5, 7, none⟩ = some (.int .u8 e7) ∧ w'.cell? ⟨g1, 0, none⟩ = some (.int .i64 a0_0) ∧ w'.cell? ⟨g1, 1, none⟩ = some (.int .i64 a0_1))) (ds := []) #[false, false, false, false] (by kernel_rfl) rfl rfl ⟨(blk_cell BK5.out 0).trans rfl, (blk_cell BK5.out 1).trans rfl, (blk_cell BK5.out 2).trans rfl, (blk_cell BK5.out 3).trans rfl, (blk_cell BK5.out 4).trans rfl, (blk_cell BK5.out 5).trans rfl, (blk_cell BK5.out 6).trans rfl, (blk_cell BK5.out 7).trans rfl, (blk_cell BK1.out 0).trans rfl, (blk_cell BK1.out 1).trans rfl⟩ (fun hHeld => ?_)
        generalize w6.drew = w7 at HB BK1 BK5 hHeld ⊢
        refine take_ (i := 0) (N := some 19) (v := ?_) (a' := ?_) #[true, false, false, false] rfl rfl (by kernel_rfl) (fun _ _ _ h => h) (Or.inl ⟨by rfl, ?_⟩) hHeld ?_ ?_
        rotate_left
        · rintro w' ⟨s0, s1, s2, s3, s4, s5, s6, s7, s8, s9⟩
          go_simp
          with_reducible rfl
        rotate_left
        · simp only [Act.put, List.setIfInBounds_toArray, List.set_cons_zero, List.set_cons_succ, i64_w, i32_w]
          rfl
        refine take_ (i := 1) (N := some 20) (v := ?_) (a' := ?_) #[true, true, false, false] rfl rfl (by kernel_rfl) (fun _ _ _ h => h) (Or.inl ⟨by rfl, ?_⟩) hHeld ?_ ?_
        rotate_left
        · rintro w' ⟨s0, s1, s2, s3, s4, s5, s6, s7, s8, s9⟩
          go_simp
          with_reducible rfl
        rotate_left
        · simp only [Act.put, List.setIfInBounds_toArray, List.set_cons_zero, List.set_cons_succ, i64_w, i32_w]
          rfl
        refine one_ (i := 2) (N := some 21) #[true, true, true, false] rfl rfl (by kernel_rfl) (by decide) (fun K hK => ?_)
        refine goes_ Tryd.func13 (by kernel_rfl) rfl #[.agg #[.int .i64 a0_0, .int .i64 a0_1]] (by rfl) rfl rfl (by (try simp only [List.map_toArray, List.map_cons, List.map_nil]); first | done | rfl) ?_
        with_reducible refine (head_Of.calls k a0_0 a0_1 t2 _ A2.out).mono ?_
        rintro e w8 ⟨rfl, hb⟩
        refine ⟨_, rfl, ?_⟩
        have n0_ := Aside0.mk (below_step HB.out hb)
        have n1_ := Aside0.mk (blk_below BK1.out hb)
        have n2_ := Aside0.mk (BK5.out.below hb)
        clear HB BK1 BK5 hb
        have HB := n0_
        have BK1 := n1_
        have BK5 := n2_
        clear n0_ n1_ n2_
        refine hK.out _ _ ⟨(blk_cell BK5.out 0).trans rfl, (blk_cell BK5.out 1).trans rfl, (blk_cell BK5.out 2).trans rfl, (blk_cell BK5.out 3).trans rfl, (blk_cell BK5.out 4).trans rfl, (blk_cell BK5.out 5).trans rfl, (blk_cell BK5.out 6).trans rfl, (blk_cell BK5.out 7).trans rfl, (blk_cell BK1.out 0).trans rfl, (blk_cell BK1.out 1).trans rfl⟩ (fun hHeld => ?_)
        clear hK K
        refine norm_ (a' := ?_) ?_ ?_
        rotate_left
        · show Act.put _ (some 21) _ = _
          simp only [Act.put, List.setIfInBounds_toArray, List.set_cons_zero, List.set_cons_succ, i64_w, i32_w]
          rfl
        refine pure_ (i := 3) (N := some 22) (v := ?_) (a' := ?_) #[true, true, true, true] rfl rfl (by kernel_rfl) (fun _ _ _ h => h) (Or.inl ⟨by rfl, ?_⟩) ?_ ?_
        rotate_left
        · intro w'
          go_simp
          with_reducible rfl
        rotate_left
        · simp only [Act.put, List.setIfInBounds_toArray, List.set_cons_zero, List.set_cons_succ, i64_w, i32_w]
          rfl
        refine done_ (by kernel_rfl) ?_
        clear hHeld
        try go_wp2
        go_ret
        exact ⟨rfl, HB.out⟩
      · rw [if_neg ce] at H
        rw [decide_eq_false ce] at heq
        clear ce
        by_cases ca : (!(l1.all fun c => c == 255)) = true
        · rw [if_pos ca] at H
          obtain rfl := Option.some.inj H
          clear H
          have HA := Aside0.mk ca
          clear ca
          go_enter Tryd.func11, Tryd.ntmps11
          go_wp2_with (first
            | ((with_reducible refine gate_dst (N := 2) rfl ?_); refine box_event ?hg (N := 2) ?hd (cs := #[.int .i64 a0_0, .int .i64 a0_1]) (t := 23) ?hr ?_; (case hd => rfl); (case hg => rfl); (case hr => first | (go_simp; done) | (go_simp; rfl)); intro g1 hg w1 hbox hb; have BK1 := Aside0.mk hbox; have GE1 := Aside0.mk (show w.heap.size ≤ g1 from by rw [hg]; exact below_size HB.out); have n0_ := Aside0.mk (below_step HB.out hb); clear HB; have HB := n0_; clear n0_ hb hbox hg; have hk0 := (blk_cell BK1.out 0).trans rfl; have hk1 := (blk_cell BK1.out 1).trans rfl)
            | ((with_reducible refine gate_callee (f := 18) rfl ?_); refine goesL_ (some 7) rfl rfl Tryd.func18 (by kernel_rfl) rfl #[.agg #[.int .i64 a0_0, .int .i64 a0_1]] rfl (by (try simp only [List.map_toArray, List.map_cons, List.map_nil]); first | done | rfl) ?_; (with_reducible refine (place_May.calls a0_0 a0_1 true _ A1_.out).mono ?_); rintro e w4 ⟨rfl, hb⟩; refine ⟨_, rfl, ?_⟩; have n1_ := Aside0.mk (blk_below BK1.out hb); have n0_ := Aside0.mk (below_step HB.out hb); clear HB BK1 hk0 hk1; have HB := n0_; have BK1 := n1_; clear n0_ n1_ hb; have hk0 := (blk_cell BK1.out 0).trans rfl; have hk1 := (blk_cell BK1.out 1).trans rfl)
            | ((with_reducible refine gate_dst (N := 5) rfl ?_); refine box_event ?hg (N := 5) ?hd (cs := Arr.arr .u8 (List.replicate 8 0)) (t := 31) ?hr ?_; (case hd => rfl); (case hg => rfl); (case hr => first | (go_simp; done) | (go_simp; rfl)); intro g5 hg w5 hbox hb; have BK5 := Aside0.mk (show Arr.IsArr .u8 w5 g5 31 (List.replicate 8 0) from hbox); have GE5 := Aside0.mk (show w.heap.size ≤ g5 from by rw [hg]; exact below_size HB.out); have NE := Aside0.mk (show g1 ≠ g5 from by rw [hg]; exact Nat.ne_of_lt (blk_lt BK1.out)); have n1_ := Aside0.mk (blk_below BK1.out hb); have n0_ := Aside0.mk (below_step HB.out hb); clear HB BK1 hk0 hk1; have HB := n0_; have BK1 := n1_; clear n0_ n1_ hb hbox hg)
            | ((with_reducible refine gate_builtin (b := .copy) (xs := #[.tmp 16, .tmp 17]) rfl ?_); refine Arr.A_copy .u8 rfl (.tmp 16) (.tmp 17) 24 24 5 31 rfl Tryd.underlying24 (by kernel_rfl) (xs := List.replicate 8 0) (ys := l1) rfl rfl BK5.out rfl (Kd.C_below HR1.out HB.out) ?_; intro z w6 ha hg; rw [← HX.out] at ha; have n1_ := Aside0.mk (blk_grown BK1.out hg (by intro e; injection e with e; exact NE.out e)); have n0_ := Aside0.mk (HB.out.grown hg (below_size HB.out) (by intro q hq; injection hq with hq; subst hq; exact GE5.out)); clear HB BK1 BK5; have HB := n0_; have BK1 := n1_; have BK5 := Aside0.mk ha; clear n0_ n1_ ha hg))
          have n0_ := Aside0.mk (below_drew1 HB.out)
          have n1_ := Aside0.mk (blk_drew BK1.out)
          have n2_ := Aside0.mk (show Arr.IsArr .u8 w6.drew g5 31 [e0, e1, e2, e3, e4, e5, e6, e7] from BK5.out)
          clear HB BK1 BK5 
          have HB := n0_
          have BK1 := n1_
          have BK5 := n2_
          clear n0_ n1_ n2_
          refine start_ (n := 4) (S := (fun w' => w'.cell? ⟨g5, 0, none⟩ = some (.int .u8 e0) ∧ w'.cell? ⟨g5, 1, none⟩ = some (.int .u8 e1) ∧ w'.cell? ⟨g5, 2, none⟩ = some (.int .u8 e2) ∧ w'.cell? ⟨g5, 3, none⟩ = some (.int .u8 e3) ∧ w'.cell? ⟨g5, 4, none⟩ = some (.int .u8 e4) ∧ w'.cell? ⟨g5, 5, none⟩ = some (.int .u8 e5) ∧ w'.cell? ⟨g5, 6, none⟩ = some (.int .u8 e6) ∧ w'.cell? ⟨g5, 7, none⟩ = some (.int .u8 e7) ∧ w'.cell? ⟨g1, 0, none⟩ = some (.int .i64 a0_0) ∧ w'.cell? ⟨g1, 1, none⟩ = some (.int .i64 a0_1))) (ds := []) #[false, false, false, false] (by kernel_rfl) rfl rfl ⟨(blk_cell BK5.out 0).trans rfl, (blk_cell BK5.out 1).trans rfl, (blk_cell BK5.out 2).trans rfl, (blk_cell BK5.out 3).trans rfl, (blk_cell BK5.out 4).trans rfl, (blk_cell BK5.out 5).trans rfl, (blk_cell BK5.out 6).trans rfl, (blk_cell BK5.out 7).trans rfl, (blk_cell BK1.out 0).trans rfl, (blk_cell BK1.out 1).trans rfl⟩ (fun hHeld => ?_)
          generalize w6.drew = w7 at HB BK1 BK5 hHeld ⊢
          refine take_ (i := 0) (N := some 19) (v := ?_) (a' := ?_) #[true, false, false, false] rfl rfl (by kernel_rfl) (fun _ _ _ h => h) (Or.inl ⟨by rfl, ?_⟩) hHeld ?_ ?_
          rotate_left
          · rintro w' ⟨s0, s1, s2, s3, s4, s5, s6, s7, s8, s9⟩
            go_simp
            with_reducible rfl
          rotate_left
          · simp only [Act.put, List.setIfInBounds_toArray, List.set_cons_zero, List.set_cons_succ, i64_w, i32_w]
            rfl
          refine take_ (i := 1) (N := some 20) (v := ?_) (a' := ?_) #[true, true, false, false] rfl rfl (by kernel_rfl) (fun _ _ _ h => h) (Or.inl ⟨by rfl, ?_⟩) hHeld ?_ ?_
          rotate_left
          · rintro w' ⟨s0, s1, s2, s3, s4, s5, s6, s7, s8, s9⟩
            go_simp
            with_reducible rfl
          rotate_left
          · simp only [Act.put, List.setIfInBounds_toArray, List.set_cons_zero, List.set_cons_succ, i64_w, i32_w]
            rfl
          refine one_ (i := 2) (N := some 21) #[true, true, true, false] rfl rfl (by kernel_rfl) (by decide) (fun K hK => ?_)
          refine goes_ Tryd.func13 (by kernel_rfl) rfl #[.agg #[.int .i64 a0_0, .int .i64 a0_1]] (by rfl) rfl rfl (by (try simp only [List.map_toArray, List.map_cons, List.map_nil]); first | done | rfl) ?_
          with_reducible refine (head_Of.calls k a0_0 a0_1 t2 _ A2.out).mono ?_
          rintro e w8 ⟨rfl, hb⟩
          refine ⟨_, rfl, ?_⟩
          have n0_ := Aside0.mk (below_step HB.out hb)
          have n1_ := Aside0.mk (blk_below BK1.out hb)
          have n2_ := Aside0.mk (BK5.out.below hb)
          clear HB BK1 BK5 hb
          have HB := n0_
          have BK1 := n1_
          have BK5 := n2_
          clear n0_ n1_ n2_
          refine hK.out _ _ ⟨(blk_cell BK5.out 0).trans rfl, (blk_cell BK5.out 1).trans rfl, (blk_cell BK5.out 2).trans rfl, (blk_cell BK5.out 3).trans rfl, (blk_cell BK5.out 4).trans rfl, (blk_cell BK5.out 5).trans rfl, (blk_cell BK5.out 6).trans rfl, (blk_cell BK5.out 7).trans rfl, (blk_cell BK1.out 0).trans rfl, (blk_cell BK1.out 1).trans rfl⟩ (fun hHeld => ?_)
          clear hK K
          refine norm_ (a' := ?_) ?_ ?_
          rotate_left
          · show Act.put _ (some 21) _ = _
            simp only [Act.put, List.setIfInBounds_toArray, List.set_cons_zero, List.set_cons_succ, i64_w, i32_w]
            rfl
          refine pure_ (i := 3) (N := some 22) (v := ?_) (a' := ?_) #[true, true, true, true] rfl rfl (by kernel_rfl) (fun _ _ _ h => h) (Or.inl ⟨by rfl, ?_⟩) ?_ ?_
          rotate_left
          · intro w'
            go_simp
            with_reducible rfl
          rotate_left
          · simp only [Act.put, List.setIfInBounds_toArray, List.set_cons_zero, List.set_cons_succ, i64_w, i32_w]
            rfl
          refine done_ (by kernel_rfl) ?_
          clear hHeld
          go_wp2_with (((with_reducible refine gate_callee (f := 19) rfl ?_); refine goesL_ (some 24) rfl rfl Tryd.func19 (by kernel_rfl) rfl #[.slice A1 l1.length c1, .func (.func 20) #[] #[]] rfl (by (try simp only [List.map_toArray, List.map_cons, List.map_nil]); first | done | rfl) ?_; (with_reducible refine (slices_ContainsFunc.calls A1 c1 l1 true _ (Kd.C_below HR1.out HB.out) HA.out).mono ?_); rintro e w9 ⟨rfl, rfl⟩; refine ⟨_, rfl, ?_⟩))
          go_ret
          exact ⟨rfl, HB.out⟩
        · rw [if_neg ca] at H
          obtain rfl := Option.some.inj H
          clear H
          have HA := Aside0.mk (show (!(l1.all fun c => c == 255)) = false by simpa using ca)
          clear ca
          go_enter Tryd.func11, Tryd.ntmps11
          go_wp2_with (first
            | ((with_reducible refine gate_dst (N := 2) rfl ?_); refine box_event ?hg (N := 2) ?hd (cs := #[.int .i64 a0_0, .int .i64 a0_1]) (t := 23) ?hr ?_; (case hd => rfl); (case hg => rfl); (case hr => first | (go_simp; done) | (go_simp; rfl)); intro g1 hg w1 hbox hb; have BK1 := Aside0.mk hbox; have GE1 := Aside0.mk (show w.heap.size ≤ g1 from by rw [hg]; exact below_size HB.out); have n0_ := Aside0.mk (below_step HB.out hb); clear HB; have HB := n0_; clear n0_ hb hbox hg; have hk0 := (blk_cell BK1.out 0).trans rfl; have hk1 := (blk_cell BK1.out 1).trans rfl)
            | ((with_reducible refine gate_callee (f := 18) rfl ?_); refine goesL_ (some 7) rfl rfl Tryd.func18 (by kernel_rfl) rfl #[.agg #[.int .i64 a0_0, .int .i64 a0_1]] rfl (by (try simp only [List.map_toArray, List.map_cons, List.map_nil]); first | done | rfl) ?_; (with_reducible refine (place_May.calls a0_0 a0_1 true _ A1_.out).mono ?_); rintro e w4 ⟨rfl, hb⟩; refine ⟨_, rfl, ?_⟩; have n1_ := Aside0.mk (blk_below BK1.out hb); have n0_ := Aside0.mk (below_step HB.out hb); clear HB BK1 hk0 hk1; have HB := n0_; have BK1 := n1_; clear n0_ n1_ hb; have hk0 := (blk_cell BK1.out 0).trans rfl; have hk1 := (blk_cell BK1.out 1).trans rfl)
            | ((with_reducible refine gate_dst (N := 5) rfl ?_); refine box_event ?hg (N := 5) ?hd (cs := Arr.arr .u8 (List.replicate 8 0)) (t := 31) ?hr ?_; (case hd => rfl); (case hg => rfl); (case hr => first | (go_simp; done) | (go_simp; rfl)); intro g5 hg w5 hbox hb; have BK5 := Aside0.mk (show Arr.IsArr .u8 w5 g5 31 (List.replicate 8 0) from hbox); have GE5 := Aside0.mk (show w.heap.size ≤ g5 from by rw [hg]; exact below_size HB.out); have NE := Aside0.mk (show g1 ≠ g5 from by rw [hg]; exact Nat.ne_of_lt (blk_lt BK1.out)); have n1_ := Aside0.mk (blk_below BK1.out hb); have n0_ := Aside0.mk (below_step HB.out hb); clear HB BK1 hk0 hk1; have HB := n0_; have BK1 := n1_; clear n0_ n1_ hb hbox hg)
            | ((with_reducible refine gate_builtin (b := .copy) (xs := #[.tmp 16, .tmp 17]) rfl ?_); refine Arr.A_copy .u8 rfl (.tmp 16) (.tmp 17) 24 24 5 31 rfl Tryd.underlying24 (by kernel_rfl) (xs := List.replicate 8 0) (ys := l1) rfl rfl BK5.out rfl (Kd.C_below HR1.out HB.out) ?_; intro z w6 ha hg; rw [← HX.out] at ha; have n1_ := Aside0.mk (blk_grown BK1.out hg (by intro e; injection e with e; exact NE.out e)); have n0_ := Aside0.mk (HB.out.grown hg (below_size HB.out) (by intro q hq; injection hq with hq; subst hq; exact GE5.out)); clear HB BK1 BK5; have HB := n0_; have BK1 := n1_; have BK5 := Aside0.mk ha; clear n0_ n1_ ha hg))
          have n0_ := Aside0.mk (below_drew1 HB.out)
          have n1_ := Aside0.mk (blk_drew BK1.out)
          have n2_ := Aside0.mk (show Arr.IsArr .u8 w6.drew g5 31 [e0, e1, e2, e3, e4, e5, e6, e7] from BK5.out)
          clear HB BK1 BK5 
          have HB := n0_
          have BK1 := n1_
          have BK5 := n2_
          clear n0_ n1_ n2_
          refine start_ (n := 4) (S := (fun w' => w'.cell? ⟨g5, 0, none⟩ = some (.int .u8 e0) ∧ w'.cell? ⟨g5, 1, none⟩ = some (.int .u8 e1) ∧ w'.cell? ⟨g5, 2, none⟩ = some (.int .u8 e2) ∧ w'.cell? ⟨g5, 3, none⟩ = some (.int .u8 e3) ∧ w'.cell? ⟨g5, 4, none⟩ = some (.int .u8 e4) ∧ w'.cell? ⟨g5, 5, none⟩ = some (.int .u8 e5) ∧ w'.cell? ⟨g5, 6, none⟩ = some (.int .u8 e6) ∧ w'.cell? ⟨g5, 7, none⟩ = some (.int .u8 e7) ∧ w'.cell? ⟨g1, 0, none⟩ = some (.int .i64 a0_0) ∧ w'.cell? ⟨g1, 1, none⟩ = some (.int .i64 a0_1))) (ds := []) #[false, false, false, false] (by kernel_rfl) rfl rfl ⟨(blk_cell BK5.out 0).trans rfl, (blk_cell BK5.out 1).trans rfl, (blk_cell BK5.out 2).trans rfl, (blk_cell BK5.out 3).trans rfl, (blk_cell BK5.out 4).trans rfl, (blk_cell BK5.out 5).trans rfl, (blk_cell BK5.out 6).trans rfl, (blk_cell BK5.out 7).trans rfl, (blk_cell BK1.out 0).trans rfl, (blk_cell BK1.out 1).trans rfl⟩ (fun hHeld => ?_)
          generalize w6.drew = w7 at HB BK1 BK5 hHeld ⊢
          refine take_ (i := 0) (N := some 19) (v := ?_) (a' := ?_) #[true, false, false, false] rfl rfl (by kernel_rfl) (fun _ _ _ h => h) (Or.inl ⟨by rfl, ?_⟩) hHeld ?_ ?_
          rotate_left
          · rintro w' ⟨s0, s1, s2, s3, s4, s5, s6, s7, s8, s9⟩
            go_simp
            with_reducible rfl
          rotate_left
          · simp only [Act.put, List.setIfInBounds_toArray, List.set_cons_zero, List.set_cons_succ, i64_w, i32_w]
            rfl
          refine take_ (i := 1) (N := some 20) (v := ?_) (a' := ?_) #[true, true, false, false] rfl rfl (by kernel_rfl) (fun _ _ _ h => h) (Or.inl ⟨by rfl, ?_⟩) hHeld ?_ ?_
          rotate_left
          · rintro w' ⟨s0, s1, s2, s3, s4, s5, s6, s7, s8, s9⟩
            go_simp
            with_reducible rfl
          rotate_left
          · simp only [Act.put, List.setIfInBounds_toArray, List.set_cons_zero, List.set_cons_succ, i64_w, i32_w]
            rfl
          refine one_ (i := 2) (N := some 21) #[true, true, true, false] rfl rfl (by kernel_rfl) (by decide) (fun K hK => ?_)
          refine goes_ Tryd.func13 (by kernel_rfl) rfl #[.agg #[.int .i64 a0_0, .int .i64 a0_1]] (by rfl) rfl rfl (by (try simp only [List.map_toArray, List.map_cons, List.map_nil]); first | done | rfl) ?_
          with_reducible refine (head_Of.calls k a0_0 a0_1 t2 _ A2.out).mono ?_
          rintro e w8 ⟨rfl, hb⟩
          refine ⟨_, rfl, ?_⟩
          have n0_ := Aside0.mk (below_step HB.out hb)
          have n1_ := Aside0.mk (blk_below BK1.out hb)
          have n2_ := Aside0.mk (BK5.out.below hb)
          clear HB BK1 BK5 hb
          have HB := n0_
          have BK1 := n1_
          have BK5 := n2_
          clear n0_ n1_ n2_
          refine hK.out _ _ ⟨(blk_cell BK5.out 0).trans rfl, (blk_cell BK5.out 1).trans rfl, (blk_cell BK5.out 2).trans rfl, (blk_cell BK5.out 3).trans rfl, (blk_cell BK5.out 4).trans rfl, (blk_cell BK5.out 5).trans rfl, (blk_cell BK5.out 6).trans rfl, (blk_cell BK5.out 7).trans rfl, (blk_cell BK1.out 0).trans rfl, (blk_cell BK1.out 1).trans rfl⟩ (fun hHeld => ?_)
          clear hK K
          refine norm_ (a' := ?_) ?_ ?_
          rotate_left
          · show Act.put _ (some 21) _ = _
            simp only [Act.put, List.setIfInBounds_toArray, List.set_cons_zero, List.set_cons_succ, i64_w, i32_w]
            rfl
          refine pure_ (i := 3) (N := some 22) (v := ?_) (a' := ?_) #[true, true, true, true] rfl rfl (by kernel_rfl) (fun _ _ _ h => h) (Or.inl ⟨by rfl, ?_⟩) ?_ ?_
          rotate_left
          · intro w'
            go_simp
            with_reducible rfl
          rotate_left
          · simp only [Act.put, List.setIfInBounds_toArray, List.set_cons_zero, List.set_cons_succ, i64_w, i32_w]
            rfl
          refine done_ (by kernel_rfl) ?_
          clear hHeld
          go_wp2_with (((with_reducible refine gate_callee (f := 19) rfl ?_); refine goesL_ (some 24) rfl rfl Tryd.func19 (by kernel_rfl) rfl #[.slice A1 l1.length c1, .func (.func 20) #[] #[]] rfl (by (try simp only [List.map_toArray, List.map_cons, List.map_nil]); first | done | rfl) ?_; (with_reducible refine (slices_ContainsFunc.calls A1 c1 l1 false _ (Kd.C_below HR1.out HB.out) HA.out).mono ?_); rintro e w9 ⟨rfl, rfl⟩; refine ⟨_, rfl, ?_⟩))
          go_ret
          exact ⟨rfl, HB.out⟩
    · rw [if_neg cl] at H
      have clb : ((l1.length : Int) != a0_1) = true := by simp [cl]
      clear cl
      obtain rfl := Option.some.inj H
      clear H
      go_enter Tryd.func11, Tryd.ntmps11
      go_wp2_with (first
        | ((with_reducible refine gate_dst (N := 2) rfl ?_); refine box_event ?hg (N := 2) ?hd (cs := #[.int .i64 a0_0, .int .i64 a0_1]) (t := 23) ?hr ?_; (case hd => rfl); (case hg => rfl); (case hr => first | (go_simp; done) | (go_simp; rfl)); intro g1 hg w1 hbox hb; have BK1 := Aside0.mk hbox; have GE1 := Aside0.mk (show w.heap.size ≤ g1 from by rw [hg]; exact below_size HB.out); have n0_ := Aside0.mk (below_step HB.out hb); clear HB; have HB := n0_; clear n0_ hb hbox hg; have hk0 := (blk_cell BK1.out 0).trans rfl; have hk1 := (blk_cell BK1.out 1).trans rfl)
        | ((with_reducible refine gate_callee (f := 18) rfl ?_); refine goesL_ (some 7) rfl rfl Tryd.func18 (by kernel_rfl) rfl #[.agg #[.int .i64 a0_0, .int .i64 a0_1]] rfl (by (try simp only [List.map_toArray, List.map_cons, List.map_nil]); first | done | rfl) ?_; (with_reducible refine (place_May.calls a0_0 a0_1 true _ A1_.out).mono ?_); rintro e w4 ⟨rfl, hb⟩; refine ⟨_, rfl, ?_⟩; have n1_ := Aside0.mk (blk_below BK1.out hb); have n0_ := Aside0.mk (below_step HB.out hb); clear HB BK1 hk0 hk1; have HB := n0_; have BK1 := n1_; clear n0_ n1_ hb; have hk0 := (blk_cell BK1.out 0).trans rfl; have hk1 := (blk_cell BK1.out 1).trans rfl))
      go_ret
      exact ⟨rfl, HB.out⟩
  · rw [if_neg c] at H
    obtain rfl : t1 = false := by simpa using c
    clear c
    obtain rfl := Option.some.inj H
    clear H
    go_enter Tryd.func11, Tryd.ntmps11
    go_wp2_with (first
      | ((with_reducible refine gate_dst (N := 2) rfl ?_); refine box_event ?hg (N := 2) ?hd (cs := #[.int .i64 a0_0, .int .i64 a0_1]) (t := 23) ?hr ?_; (case hd => rfl); (case hg => rfl); (case hr => first | (go_simp; done) | (go_simp; rfl)); intro g1 hg w1 hbox hb; have BK1 := Aside0.mk hbox; have GE1 := Aside0.mk (show w.heap.size ≤ g1 from by rw [hg]; exact below_size HB.out); have n0_ := Aside0.mk (below_step HB.out hb); clear HB; have HB := n0_; clear n0_ hb hbox hg; have hk0 := (blk_cell BK1.out 0).trans rfl; have hk1 := (blk_cell BK1.out 1).trans rfl)
      | ((with_reducible refine gate_callee (f := 18) rfl ?_); refine goesL_ (some 7) rfl rfl Tryd.func18 (by kernel_rfl) rfl #[.agg #[.int .i64 a0_0, .int .i64 a0_1]] rfl (by (try simp only [List.map_toArray, List.map_cons, List.map_nil]); first | done | rfl) ?_; (with_reducible refine (place_May.calls a0_0 a0_1 false _ A1_.out).mono ?_); rintro e w4 ⟨rfl, hb⟩; refine ⟨_, rfl, ?_⟩; have n1_ := Aside0.mk (blk_below BK1.out hb); have n0_ := Aside0.mk (below_step HB.out hb); clear HB BK1 hk0 hk1; have HB := n0_; have BK1 := n1_; clear n0_ n1_ hb; have hk0 := (blk_cell BK1.out 0).trans rfl; have hk1 := (blk_cell BK1.out 1).trans rfl))
    go_ret
    exact ⟨rfl, HB.out⟩

end Go.Proofs.YtconcmobjkpkcaaDoor.G
