-- Written by wip/gen.py: the kit's print.py, with this session's own texts where it takes a function not. Not trusted: Lean checks it.
import Derived.Test.YtconcmobjkpkcaaDoorG0
import Derived.Test.YtconcmobjkpkcaaDoorG2
import Derived.Test.YtconcmobjkpkcaaDoorG3
import Derived.Test.YtconcmobjkpkcaaDoorG5
import Derived.Test.YtconcmobjkpkcaaDoorG6
namespace Go.Proofs.YtconcmobjkpkcaaDoor.G
open Go.RowKit Go.Proofs.YtconcmobjkpkcaaDoorW.PrintWords Go.Proofs.YtconcmobjkpkcaaDoorW.PrintLast Go.Proofs.YtconcmobjkpkcaaDoorW.PrintMore
attribute [local go_sem] max2_int min2_int max_two min_two max_three min_three max_four min_four   -- for this text's walks alone
set_option linter.unusedVariables false
set_option linter.unusedSimpArgs false

/-! ### flintlaw05_HeadOf: function 4 -/
/-- Told only where it is true. -/
def flintlaw05_HeadOf.f (k : Nat) (a0_0 : Int) (a0_1 : Int) : Option (Bool) := (head_Of.f k a0_0 a0_1).bind fun t1 => (head_Death.f.bind fun t2 => ((flintlaw05_fixed.f k).bind fun t3 => (if t3 = true then ((flintref05_Of.f k a0_0 a0_1).bind fun t4 => (if (strOfNums t1).toList = t4.toList then (if (strOfNums t2).toList = [0, 0, 0, 0, 0, 0, 0, 0] then some true else none) else none)) else none)))
set_option maxHeartbeats 8000000 in
set_option maxRecDepth 100000 in
theorem flintlaw05_HeadOf.calls (k : Nat) (a0_0 : Int) (a0_1 : Int) (r : Bool) (w : World) (h : flintlaw05_HeadOf.f k a0_0 a0_1 = some r) (hT0 : Ex w) :
    Calls Tryd.prog 4 #[.agg #[.int .i64 a0_0, .int .i64 a0_1]] w fun e w' => e = .returned (.bool r) ∧ Below w.heap.size w w' := by
  have hu1 := Tryd.underlying23
  have hu2 := Tryd.underlying31
  have HB := Aside0.mk (Below.refl w.heap.size w)
  have HE := Aside0.mk hT0
  clear hT0
  unfold flintlaw05_HeadOf.f at h
  have H := h
  clear h
  replace H := Option.bind_eq_some_iff.mp H
  obtain ⟨t1, A10, H⟩ := H
  have A1 := Aside0.mk A10
  clear A10
  replace H := Option.bind_eq_some_iff.mp H
  obtain ⟨t2, A20, H⟩ := H
  have A2 := Aside0.mk A20
  clear A20
  replace H := Option.bind_eq_some_iff.mp H
  obtain ⟨t3, A30, H⟩ := H
  by_cases c3 : t3 = true
  rotate_left
  · rw [if_neg c3] at H; cases H
  rw [if_pos c3] at H
  subst c3
  have A3 := Aside0.mk A30
  clear A30
  replace H := Option.bind_eq_some_iff.mp H
  obtain ⟨t4, A40, H⟩ := H
  have A4 := Aside0.mk A40
  clear A40
  by_cases c4 : (strOfNums t1).toList = t4.toList
  rotate_left
  · rw [if_neg c4] at H; cases H
  rw [if_pos c4] at H
  by_cases c5 : (strOfNums t2).toList = [0, 0, 0, 0, 0, 0, 0, 0]
  rotate_left
  · rw [if_neg c5] at H; cases H
  rw [if_pos c5] at H
  obtain rfl := Option.some.inj H
  clear H
  have HL := Aside0.mk (head_Of.length A1.out)
  obtain ⟨e0, e1, e2, e3, e4, e5, e6, e7, rfl⟩ := Arr.len8 HL.out
  have hs1 := Aside0.mk (show ((strOfNums [e0, e1, e2, e3, e4, e5, e6, e7]).toList == t4.toList) = true from beq_iff_eq.mpr c4)
  have hs2 := Aside0.mk (show ((strOfNums t2).toList == [0, 0, 0, 0, 0, 0, 0, 0]) = true from beq_iff_eq.mpr c5)
  clear c4 c5 HL
  go_enter Tryd.func4, Tryd.ntmps4
  go_wp2_with (first
    | ((with_reducible refine gate_dst (N := 1) rfl ?_); refine box_event ?hg (N := 1) ?hd (cs := #[.int .i64 a0_0, .int .i64 a0_1]) (t := 23) ?hr ?_; (case hd => rfl); (case hg => rfl); (case hr => first | (go_simp; done) | (go_simp; rfl)); intro g1 hg w1 hbox hb; have BK1 := Aside0.mk hbox; have n1_ := Aside0.mk (HE.out.below hb); have n0_ := Aside0.mk (below_step HB.out hb); clear HB HE; have HB := n0_; have HE := n1_; clear n0_ n1_ hb hbox hg; have hk0 := (blk_cell BK1.out 0).trans rfl; have hk1 := (blk_cell BK1.out 1).trans rfl)
    | ((with_reducible refine gate_callee (f := 13) rfl ?_); refine goesL_ (some 6) rfl rfl Tryd.func13 (by kernel_rfl) rfl #[.agg #[.int .i64 a0_0, .int .i64 a0_1]] rfl (by (try simp only [List.map_toArray, List.map_cons, List.map_nil]); first | done | rfl) ?_; (with_reducible refine (head_Of.calls k a0_0 a0_1 [e0, e1, e2, e3, e4, e5, e6, e7] _ A1.out).mono ?_); rintro e w4 ⟨rfl, hb⟩; refine ⟨_, rfl, ?_⟩; have n2_ := Aside0.mk (blk_below BK1.out hb); have n1_ := Aside0.mk (HE.out.below hb); have n0_ := Aside0.mk (below_step HB.out hb); clear HB HE BK1 hk0 hk1; have HB := n0_; have HE := n1_; have BK1 := n2_; clear n0_ n1_ n2_ hb)
    | ((with_reducible refine gate_dst (N := 3) rfl ?_); refine box_event ?hg (N := 3) ?hd (cs := Arr.arr .u8 (List.replicate 8 0)) (t := 31) ?hr ?_; (case hd => rfl); (case hg => rfl); (case hr => first | (go_simp; done) | (go_simp; rfl)); intro g3 hg w5 hbox hb; have BK3 := Aside0.mk hbox; have NE := Aside0.mk (show g1 ≠ g3 from by rw [hg]; exact Nat.ne_of_lt (blk_lt BK1.out)); have NE0 := Aside0.mk (show 0 ≠ g3 from by rw [hg]; exact Nat.ne_of_lt HE.out.lt); have GE3 := Aside0.mk (show w.heap.size ≤ g3 from by rw [hg]; exact below_size HB.out); have n2_ := Aside0.mk (blk_below BK1.out hb); have n1_ := Aside0.mk (HE.out.below hb); have n0_ := Aside0.mk (below_step HB.out hb); clear HB HE BK1; have HB := n0_; have HE := n1_; have BK1 := n2_; clear n0_ n1_ n2_ hb hbox hg)
    | ((with_reducible refine gate_store (t := 31) (p := 3) rfl ?_); refine Arr.row_event rfl 31 (.tmp 3) (.tmp 6) rfl g3 #[.int .u8 e0, .int .u8 e1, .int .u8 e2, .int .u8 e3, .int .u8 e4, .int .u8 e5, .int .u8 e6, .int .u8 e7] rfl rfl 31 (Arr.arr .u8 (List.replicate 8 0)) BK3.out (by kernel_rfl) rfl (by first | rfl | (simp [Value.oneCell']; done) | (simp; rfl)) ?_; intro w6 hb_ hg_; have n2_ := Aside0.mk (blk_grown BK1.out hg_ (by intro e; injection e with e; exact NE.out e)); have n1_ := Aside0.mk (HE.out.grown hg_ NE0.out); have nb_ := Aside0.mk (HB.out.grown hg_ (below_size HB.out) (by intro q hq; injection hq with hq; subst hq; exact GE3.out)); clear HB HE BK1 BK3; have HB := nb_; have HE := n1_; have BK1 := n2_; have BK3 := Aside0.mk (show Arr.IsArr .u8 w6 g3 31 [e0, e1, e2, e3, e4, e5, e6, e7] from hb_); clear nb_ n1_ n2_ hb_ hg_)
    | ((with_reducible refine gate_callee (f := 14) rfl ?_); refine goesL_ (some 7) rfl rfl Tryd.func14 (by kernel_rfl) rfl #[] rfl (by (try simp only [List.map_toArray, List.map_cons, List.map_nil]); first | done | rfl) ?_; (with_reducible refine (head_Death.calls t2 _ A2.out).mono ?_); rintro e w7 ⟨v_, rfl, ho, hb⟩; refine ⟨_, rfl, ?_⟩; obtain ⟨At2, ct2, rfl⟩ := Kd.R_slice ho; have HC2 := Aside0.mk (Kd.R_reads' ho).2.2; have n3_ := Aside0.mk (BK3.out.below hb); have n2_ := Aside0.mk (blk_below BK1.out hb); have n1_ := Aside0.mk (HE.out.below hb); have n0_ := Aside0.mk (below_step HB.out hb); clear HB HE BK1 BK3; have HB := n0_; have HE := n1_; have BK1 := n2_; have BK3 := n3_; clear n0_ n1_ n2_ n3_ hb ho))
  try simp only [Act.put, List.setIfInBounds_toArray, List.set_cons_zero, List.set_cons_succ, i64_w, i32_w]
  have n0_ := Aside0.mk (below_drew1 HB.out)
  have n1_ := Aside0.mk (show Ex w7.drew from HE.out)
  have n2_ := Aside0.mk (blk_drew BK1.out)
  have n3_ := Aside0.mk (show Arr.IsArr .u8 w7.drew g3 31 [e0, e1, e2, e3, e4, e5, e6, e7] from BK3.out)
  have n4_ := Aside0.mk (Kd.C_drew HC2.out)
  clear HB HE BK1 BK3 HC2 
  have HB := n0_
  have HE := n1_
  have BK1 := n2_
  have BK3 := n3_
  have HC2 := n4_
  clear n0_ n1_ n2_ n3_ n4_
  refine start_ (n := 14) (S := fun w' => Arr.IsArr .u8 w' g3 31 [e0, e1, e2, e3, e4, e5, e6, e7] ∧ w'.cell? ⟨g1, 0, none⟩ = some (.int .i64 a0_0) ∧ w'.cell? ⟨g1, 1, none⟩ = some (.int .i64 a0_1) ∧ (Kd.int .u8).C w' At2 t2.length t2) (ds := []) #[false, false, false, false, false, false, false, false, false, false, false, false, false, false] (by kernel_rfl) rfl rfl ⟨BK3.out, (blk_cell BK1.out 0).trans rfl, (blk_cell BK1.out 1).trans rfl, HC2.out⟩ (fun hHeld => ?_)
  generalize w7.drew = w8 at HB HE BK1 BK3 HC2 hHeld ⊢
  refine one_ (i := 0) (N := some 8) #[true, false, false, false, false, false, false, false, false, false, false, false, false, false] rfl rfl (by kernel_rfl) (by decide) (fun K hK => ?_)
  refine goes_ Tryd.func7 (by kernel_rfl) rfl #[] (by rfl) rfl rfl (by (try simp only [List.map_toArray, List.map_cons, List.map_nil]); first | done | rfl) ?_
  with_reducible refine (flintlaw05_fixed.calls k true _ A3.out HE.out).mono ?_
  rintro e w9 ⟨rfl, hb⟩
  clear HE
  refine ⟨_, rfl, ?_⟩
  have n0_ := Aside0.mk (below_step HB.out hb)
  have n1_ := Aside0.mk (blk_below BK1.out hb)
  have n2_ := Aside0.mk (BK3.out.below hb)
  have n3_ := Aside0.mk (Kd.C_below HC2.out hb)
  clear HB BK1 BK3 HC2 hb
  have HB := n0_
  have BK1 := n1_
  have BK3 := n2_
  have HC2 := n3_
  clear n0_ n1_ n2_ n3_
  refine hK.out _ _ ⟨BK3.out, (blk_cell BK1.out 0).trans rfl, (blk_cell BK1.out 1).trans rfl, HC2.out⟩ (fun hHeld => ?_)
  clear hK K
  refine norm_ (a' := ?_) ?_ ?_
  rotate_left
  · show Act.put _ (some 8) _ = _
    simp only [Act.put, List.setIfInBounds_toArray, List.set_cons_zero, List.set_cons_succ, i64_w, i32_w]
    rfl
  refine pure_ (i := 1) (N := some 9) (v := ?_) (a' := ?_) #[true, true, false, false, false, false, false, false, false, false, false, false, false, false] rfl rfl (by kernel_rfl) (fun _ _ _ h => h) (Or.inl ⟨by rfl, ?_⟩) ?_ ?_
  rotate_left
  · intro w'
    go_simp
    with_reducible rfl
  rotate_left
  · simp only [Act.put, List.setIfInBounds_toArray, List.set_cons_zero, List.set_cons_succ, i64_w, i32_w]
    rfl
  refine pure_ (i := 2) (N := some 10) (v := ?_) (a' := ?_) #[true, true, true, false, false, false, false, false, false, false, false, false, false, false] rfl rfl (by kernel_rfl) (fun _ _ _ h => h) (Or.inl ⟨by rfl, ?_⟩) ?_ ?_
  rotate_left
  · intro w'
    go_simp
    with_reducible rfl
  rotate_left
  · simp only [Act.put, List.setIfInBounds_toArray, List.set_cons_zero, List.set_cons_succ, i64_w, i32_w]
    rfl
  refine take_ (i := 3) (N := some 11) (v := ?_) (a' := ?_) #[true, true, true, true, false, false, false, false, false, false, false, false, false, false] rfl rfl (by kernel_rfl) (fun _ _ _ h => h) (Or.inl ⟨by rfl, ?_⟩) hHeld ?_ ?_
  rotate_left
  · rintro w' ⟨sA, s0, s1, sC⟩
    have hcv_ := Kd.C_string (P := Tryd.prog) (c := 8) Tryd.underlying24 Tryd.underlying5 Tryd.underlying9 (sA.reads (n := 8) (by simp) (by decide))
    go_simp
    with_reducible rfl
  rotate_left
  · simp only [Act.put, List.setIfInBounds_toArray, List.set_cons_zero, List.set_cons_succ, i64_w, i32_w]
    rfl
  refine take_ (i := 4) (N := some 12) (v := ?_) (a' := ?_) #[true, true, true, true, true, false, false, false, false, false, false, false, false, false] rfl rfl (by kernel_rfl) (fun _ _ _ h => h) (Or.inl ⟨by rfl, ?_⟩) hHeld ?_ ?_
  rotate_left
  · rintro w' ⟨sA, s0, s1, sC⟩
    go_simp
    with_reducible rfl
  rotate_left
  · simp only [Act.put, List.setIfInBounds_toArray, List.set_cons_zero, List.set_cons_succ, i64_w, i32_w]
    rfl
  refine one_ (i := 5) (N := some 13) #[true, true, true, true, true, true, false, false, false, false, false, false, false, false] rfl rfl (by kernel_rfl) (by decide) (fun K hK => ?_)
  refine goes_ Tryd.func9 (by kernel_rfl) rfl #[.agg #[.int .i64 a0_0, .int .i64 a0_1]] (by rfl) rfl rfl (by (try simp only [List.map_toArray, List.map_cons, List.map_nil]); first | done | rfl) ?_
  with_reducible refine (flintref05_Of.calls k a0_0 a0_1 t4 _ A4.out).mono ?_
  rintro e w10 ⟨rfl, hb⟩
  refine ⟨_, rfl, ?_⟩
  have n0_ := Aside0.mk (below_step HB.out hb)
  have n1_ := Aside0.mk (blk_below BK1.out hb)
  have n2_ := Aside0.mk (BK3.out.below hb)
  have n3_ := Aside0.mk (Kd.C_below HC2.out hb)
  clear HB BK1 BK3 HC2 hb
  have HB := n0_
  have BK1 := n1_
  have BK3 := n2_
  have HC2 := n3_
  clear n0_ n1_ n2_ n3_
  refine hK.out _ _ ⟨BK3.out, (blk_cell BK1.out 0).trans rfl, (blk_cell BK1.out 1).trans rfl, HC2.out⟩ (fun hHeld => ?_)
  clear hK K
  refine norm_ (a' := ?_) ?_ ?_
  rotate_left
  · show Act.put _ (some 13) _ = _
    simp only [Act.put, List.setIfInBounds_toArray, List.set_cons_zero, List.set_cons_succ, i64_w, i32_w]
    rfl
  refine pure_ (i := 6) (N := some 14) (v := ?_) (a' := ?_) #[true, true, true, true, true, true, true, false, false, false, false, false, false, false] rfl rfl (by kernel_rfl) (fun _ _ _ h => h) (Or.inl ⟨by rfl, ?_⟩) ?_ ?_
  rotate_left
  · intro w'
    have hs_ := hs1.out
    go_simp
    with_reducible rfl
  rotate_left
  · simp only [Act.put, List.setIfInBounds_toArray, List.set_cons_zero, List.set_cons_succ, i64_w, i32_w]
    rfl
  refine pure_ (i := 7) (N := some 15) (v := ?_) (a' := ?_) #[true, true, true, true, true, true, true, true, false, false, false, false, false, false] rfl rfl (by kernel_rfl) (fun _ _ _ h => h) (Or.inl ⟨by rfl, ?_⟩) ?_ ?_
  rotate_left
  · intro w'
    go_simp
    with_reducible rfl
  rotate_left
  · simp only [Act.put, List.setIfInBounds_toArray, List.set_cons_zero, List.set_cons_succ, i64_w, i32_w]
    rfl
  refine pure_ (i := 8) (N := some 16) (v := ?_) (a' := ?_) #[true, true, true, true, true, true, true, true, true, false, false, false, false, false] rfl rfl (by kernel_rfl) (fun _ _ _ h => h) (Or.inl ⟨by rfl, ?_⟩) ?_ ?_
  rotate_left
  · intro w'
    go_simp
    with_reducible rfl
  rotate_left
  · simp only [Act.put, List.setIfInBounds_toArray, List.set_cons_zero, List.set_cons_succ, i64_w, i32_w]
    rfl
  refine pure_ (i := 9) (N := some 17) (v := ?_) (a' := ?_) #[true, true, true, true, true, true, true, true, true, true, false, false, false, false] rfl rfl (by kernel_rfl) (fun _ _ _ h => h) (Or.inl ⟨by rfl, ?_⟩) ?_ ?_
  rotate_left
  · intro w'
    go_simp
    with_reducible rfl
  rotate_left
  · simp only [Act.put, List.setIfInBounds_toArray, List.set_cons_zero, List.set_cons_succ, i64_w, i32_w]
    rfl
  refine take_ (i := 10) (N := some 18) (v := ?_) (a' := ?_) #[true, true, true, true, true, true, true, true, true, true, true, false, false, false] rfl rfl (by kernel_rfl) (fun _ _ _ h => h) (Or.inl ⟨by rfl, ?_⟩) hHeld ?_ ?_
  rotate_left
  · rintro w' ⟨sA, s0, s1, sC⟩
    have hcv_ := Kd.C_string (P := Tryd.prog) (c := ct2) Tryd.underlying24 Tryd.underlying5 Tryd.underlying9 sC
    go_simp
    with_reducible rfl
  rotate_left
  · simp only [Act.put, List.setIfInBounds_toArray, List.set_cons_zero, List.set_cons_succ, i64_w, i32_w]
    rfl
  refine pure_ (i := 11) (N := some 19) (v := ?_) (a' := ?_) #[true, true, true, true, true, true, true, true, true, true, true, true, false, false] rfl rfl (by kernel_rfl) (fun _ _ _ h => h) (Or.inl ⟨by rfl, ?_⟩) ?_ ?_
  rotate_left
  · intro w'
    have hs_ := hs2.out
    go_simp
    with_reducible rfl
  rotate_left
  · simp only [Act.put, List.setIfInBounds_toArray, List.set_cons_zero, List.set_cons_succ, i64_w, i32_w]
    rfl
  refine pure_ (i := 12) (N := some 20) (v := ?_) (a' := ?_) #[true, true, true, true, true, true, true, true, true, true, true, true, true, false] rfl rfl (by kernel_rfl) (fun _ _ _ h => h) (Or.inl ⟨by rfl, ?_⟩) ?_ ?_
  rotate_left
  · intro w'
    go_simp
    with_reducible rfl
  rotate_left
  · simp only [Act.put, List.setIfInBounds_toArray, List.set_cons_zero, List.set_cons_succ, i64_w, i32_w]
    rfl
  refine pure_ (i := 13) (N := some 2) (v := ?_) (a' := ?_) #[true, true, true, true, true, true, true, true, true, true, true, true, true, true] rfl rfl (by kernel_rfl) (fun _ _ _ h => h) (Or.inl ⟨by rfl, ?_⟩) ?_ ?_
  rotate_left
  · intro w'
    go_simp
    with_reducible rfl
  rotate_left
  · simp only [Act.put, List.setIfInBounds_toArray, List.set_cons_zero, List.set_cons_succ, i64_w, i32_w]
    rfl
  refine done_ (by kernel_rfl) ?_
  clear hHeld
  try go_wp2
  go_ret
  exact ⟨rfl, HB.out⟩
/-- THE ONE PURE STATEMENT of flintlaw05_HeadOf. -/
def flintlaw05_HeadOf.Pure : Prop := ∀ (a0_0 a0_1 : Int), (Lit.int .i64 a0_0).wf = true → (Lit.int .i64 a0_1).wf = true → ∃ k, flintlaw05_HeadOf.f k a0_0 a0_1 = some true
theorem flintlaw05_HeadOf.walk (P : flintlaw05_HeadOf.Pure) (a0_0 a0_1 : Int) (w : World) (w0 : (Lit.int .i64 a0_0).wf = true) (w1 : (Lit.int .i64 a0_1).wf = true) (hT0 : Ex w) :
    Calls Tryd.prog 4 #[.agg #[.int .i64 a0_0, .int .i64 a0_1]] w fun e w' => e = .returned (.bool true) ∧ Below w.heap.size w w' := by
  obtain ⟨k, h⟩ := P a0_0 a0_1 w0 w1
  exact flintlaw05_HeadOf.calls k a0_0 a0_1 true w h hT0

end Go.Proofs.YtconcmobjkpkcaaDoor.G
