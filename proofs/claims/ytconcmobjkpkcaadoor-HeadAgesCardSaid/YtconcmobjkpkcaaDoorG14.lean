-- Written by wip/gen.py: the kit's print.py, with this session's own texts where it takes a function not. Not trusted: Lean checks it.
import Derived.Test.YtconcmobjkpkcaaDoorG0
import Derived.Test.YtconcmobjkpkcaaDoorG1
import Derived.Test.YtconcmobjkpkcaaDoorG10
import Derived.Test.YtconcmobjkpkcaaDoorG13
namespace Go.Proofs.YtconcmobjkpkcaaDoor.G
open Go.RowKit Go.Proofs.YtconcmobjkpkcaaDoorW.PrintWords Go.Proofs.YtconcmobjkpkcaaDoorW.PrintLast Go.Proofs.YtconcmobjkpkcaaDoorW.PrintMore
attribute [local go_sem] max2_int min2_int max_two min_two max_three min_three max_four min_four   -- for this text's walks alone
set_option linter.unusedVariables false
set_option linter.unusedSimpArgs false

/-! ### flintlaw05_fixed: function 7 -/
/-- The law's example, as its own initialiser lays it. -/
def Ex (w : World) : Prop := w.cell? ⟨0, 0, none⟩ = some (.int .i64 6) ∧ w.cell? ⟨0, 1, none⟩ = some (.int .i64 512)
theorem Ex.below {w W : World} (h : Ex w) (hb : Below w.heap.size w W) : Ex W := ⟨pw_cell_below hb h.1, pw_cell_below hb h.2⟩
theorem Ex.lt {w : World} (h : Ex w) : 0 < w.heap.size := by
  refine Nat.lt_of_not_le fun hle => ?_
  have := h.1
  simp [World.cell?, Array.getElem?_eq_none hle] at this
theorem Ex.grown {w W : World} {g : Nat} (h : Ex w) (hg : w.grownBy W (some g)) (hne : 0 ≠ g) : Ex W := by
  have hb := hg.block 0 h.lt (by intro e; injection e with e; exact hne e)
  unfold Ex World.cell? at h ⊢
  simp only [hb]
  exact h
/-- Told only where it is true. -/
def flintlaw05_fixed.f (k : Nat) : Option (Bool) := (head_Of.f k 6 512).bind fun t1 => (if t1.take 4 = [84, 120, 78, 82] then ((flintlaw05_sector.f k 6 512 t1).bind fun t2 => ((head_Class.f k 6 512 t2).bind fun t3 => (if t3 = 1 then ((flintlaw05_sector.f k 6 512 []).bind fun t4 => ((head_Class.f k 6 512 t4).bind fun t5 => (if t5 = 0 then some true else none))) else none))) else none)
theorem flintlaw05_fixed.mono : ∀ k, LeO (flintlaw05_fixed.f k) (flintlaw05_fixed.f (k + 1)) := by
  intro k
  unfold flintlaw05_fixed.f
  repeat' first
      | (with_reducible exact head_Of.mono _ _ _)
      | (with_reducible exact head_Class.mono _ _ _ _)
      | (with_reducible exact flintlaw05_sector.mono _ _ _ _)
      | (with_reducible exact LeO.refl _)
      | (with_reducible refine LeO.ite ?_ ?_)
      | (with_reducible refine LeO.bind ?_ (fun _ => ?_))
theorem txnr : (strOfNums [84, 120, 78, 82]).toList = [84, 120, 78, 82] := by decide +kernel
set_option maxHeartbeats 8000000 in
set_option maxRecDepth 100000 in
theorem flintlaw05_fixed.calls (k : Nat) (r : Bool) (w : World) (h : flintlaw05_fixed.f k = some r) (hT0 : Ex w) :
    Calls Tryd.prog 7 #[] w fun e w' => e = .returned (.bool r) ∧ Below w.heap.size w w' := by
  have hu1 := Tryd.underlying23
  have hu2 := Tryd.underlying31
  have HB := Aside0.mk (Below.refl w.heap.size w)
  have HE := Aside0.mk hT0
  have hk0 := hT0.1
  have hk1 := hT0.2
  clear hT0
  unfold flintlaw05_fixed.f at h
  have H := h
  clear h
  replace H := Option.bind_eq_some_iff.mp H
  obtain ⟨t1, A10, H⟩ := H
  have A1 := Aside0.mk A10
  clear A10
  by_cases c4 : t1.take 4 = [84, 120, 78, 82]
  rotate_left
  · rw [if_neg c4] at H; cases H
  rw [if_pos c4] at H
  have HL := Aside0.mk (head_Of.length A1.out)
  obtain ⟨t2, A20, H⟩ := Option.bind_eq_some_iff.mp H
  have A2 := Aside0.mk A20
  clear A20
  obtain ⟨t3, A30, H⟩ := Option.bind_eq_some_iff.mp H
  by_cases c3 : t3 = 1
  rotate_left
  · rw [if_neg c3] at H; cases H
  rw [if_pos c3] at H
  subst c3
  have A3 := Aside0.mk A30
  clear A30
  obtain ⟨t4, A40, H⟩ := Option.bind_eq_some_iff.mp H
  have A4 := Aside0.mk A40
  clear A40
  obtain ⟨t5, A50, H⟩ := Option.bind_eq_some_iff.mp H
  by_cases c5 : t5 = 0
  rotate_left
  · rw [if_neg c5] at H; cases H
  rw [if_pos c5] at H
  subst c5
  have A5 := Aside0.mk A50
  clear A50
  obtain rfl := Option.some.inj H
  clear H
  obtain ⟨e0, e1, e2, e3, e4, e5, e6, e7, rfl⟩ := Arr.len8 HL.out
  have c4' : ([e0, e1, e2, e3] : List Int) = [84, 120, 78, 82] := c4
  simp only [List.cons.injEq, and_true] at c4'
  obtain ⟨rfl, rfl, rfl, rfl⟩ := c4'
  clear c4 HL
  go_enter Tryd.func7, Tryd.ntmps7
  go_wp2_with (first
    | ((with_reducible refine gate_callee (f := 13) rfl ?_); refine goesL_ (some 3) rfl rfl Tryd.func13 (by kernel_rfl) rfl #[.agg #[.int .i64 6, .int .i64 512]] rfl (by (try simp only [List.map_toArray, List.map_cons, List.map_nil]); first | done | rfl) ?_; (with_reducible refine (head_Of.calls k 6 512 [84, 120, 78, 82, e4, e5, e6, e7] _ A1.out).mono ?_); rintro e w4 ⟨rfl, hb⟩; refine ⟨_, rfl, ?_⟩; have n1_ := Aside0.mk (HE.out.below hb); have n0_ := Aside0.mk (below_step HB.out hb); clear HB HE hk0 hk1; have HB := n0_; have HE := n1_; clear n0_ n1_ hb)
    | ((with_reducible refine gate_dst (N := 1) rfl ?_); refine box_event ?hg (N := 1) ?hd (cs := Arr.arr .u8 (List.replicate 8 0)) (t := 31) ?hr ?_; (case hd => rfl); (case hg => rfl); (case hr => first | (go_simp; done) | (go_simp; rfl)); intro g1 hg w5 hbox hb; have BK1 := Aside0.mk hbox; have NE0 := Aside0.mk (show 0 ≠ g1 from by rw [hg]; exact Nat.ne_of_lt HE.out.lt); have GE1 := Aside0.mk (show w.heap.size ≤ g1 from by rw [hg]; exact below_size HB.out); have n1_ := Aside0.mk (HE.out.below hb); have n0_ := Aside0.mk (below_step HB.out hb); clear HB HE; have HB := n0_; have HE := n1_; clear n0_ n1_ hb hbox hg)
    | ((with_reducible refine gate_store (t := 31) (p := 1) rfl ?_); refine Arr.row_event rfl 31 (.tmp 1) (.tmp 3) rfl g1 #[.int .u8 84, .int .u8 120, .int .u8 78, .int .u8 82, .int .u8 e4, .int .u8 e5, .int .u8 e6, .int .u8 e7] rfl rfl 31 (Arr.arr .u8 (List.replicate 8 0)) BK1.out (by kernel_rfl) rfl (by first | rfl | (simp [Value.oneCell']; done) | (simp; rfl)) ?_; intro w6 hb_ hg_; have n1_ := Aside0.mk (HE.out.grown hg_ NE0.out); have nb_ := Aside0.mk (HB.out.grown hg_ (below_size HB.out) (by intro q hq; injection hq with hq; subst hq; exact GE1.out)); clear HB HE BK1; have HB := nb_; have HE := n1_; have BK1 := Aside0.mk hb_; clear nb_ n1_ hb_ hg_))
  simp only [Act.put, List.setIfInBounds_toArray, List.set_cons_zero, List.set_cons_succ, i64_w, i32_w]
  have n0_ := Aside0.mk (below_drew1 HB.out)
  have n1_ := Aside0.mk (show Ex w6.drew from HE.out)
  have n2_ := Aside0.mk (show Arr.IsArr .u8 w6.drew g1 31 [84, 120, 78, 82, e4, e5, e6, e7] from BK1.out)
  clear HB HE BK1 
  have HB := n0_
  have HE := n1_
  have BK1 := n2_
  clear n0_ n1_ n2_
  refine start_ (n := 19) (S := fun w' => Ex w' ∧ Arr.IsArr .u8 w' g1 31 [84, 120, 78, 82, e4, e5, e6, e7]) (ds := []) #[false, false, false, false, false, false, false, false, false, false, false, false, false, false, false, false, false, false, false] (by kernel_rfl) rfl rfl ⟨HE.out, BK1.out⟩ (fun hHeld => ?_)
  generalize w6.drew = w7 at HB HE BK1 hHeld ⊢
  refine pure_ (i := 0) (N := some 4) (v := ?_) (a' := ?_) #[true, false, false, false, false, false, false, false, false, false, false, false, false, false, false, false, false, false, false] rfl rfl (by kernel_rfl) (fun _ _ _ h => h) (Or.inl ⟨by rfl, ?_⟩) ?_ ?_
  rotate_left
  · intro w'
    go_simp
    with_reducible rfl
  rotate_left
  · simp only [Act.put, List.setIfInBounds_toArray, List.set_cons_zero, List.set_cons_succ, i64_w, i32_w]
    rfl
  refine take_ (i := 1) (N := some 5) (v := ?_) (a' := ?_) #[true, true, false, false, false, false, false, false, false, false, false, false, false, false, false, false, false, false, false] rfl rfl (by kernel_rfl) (fun _ _ _ h => h) (Or.inl ⟨by rfl, ?_⟩) hHeld ?_ ?_
  rotate_left
  · rintro w' ⟨sE, sA⟩
    have hcv_ := Kd.C_string (P := Tryd.prog) (c := 8) Tryd.underlying24 Tryd.underlying5 Tryd.underlying9 (sA.reads (n := 4) (by simp) (by decide))
    go_simp
    with_reducible rfl
  rotate_left
  · simp only [Act.put, List.setIfInBounds_toArray, List.set_cons_zero, List.set_cons_succ, i64_w, i32_w]
    rfl
  refine pure_ (i := 2) (N := some 6) (v := ?_) (a' := ?_) #[true, true, true, false, false, false, false, false, false, false, false, false, false, false, false, false, false, false, false] rfl rfl (by kernel_rfl) (fun _ _ _ h => h) (Or.inl ⟨by rfl, ?_⟩) ?_ ?_
  rotate_left
  · intro w'
    have hs_ : ((strOfNums [84, 120, 78, 82]).toList == [84, 120, 78, 82]) = true := by rw [txnr]; rfl
    go_simp
    with_reducible rfl
  rotate_left
  · simp only [Act.put, List.setIfInBounds_toArray, List.set_cons_zero, List.set_cons_succ, i64_w, i32_w]
    rfl
  refine pure_ (i := 3) (N := some 7) (v := ?_) (a' := ?_) #[true, true, true, true, false, false, false, false, false, false, false, false, false, false, false, false, false, false, false] rfl rfl (by kernel_rfl) (fun _ _ _ h => h) (Or.inl ⟨by rfl, ?_⟩) ?_ ?_
  rotate_left
  · intro w'
    go_simp
    with_reducible rfl
  rotate_left
  · simp only [Act.put, List.setIfInBounds_toArray, List.set_cons_zero, List.set_cons_succ, i64_w, i32_w]
    rfl
  refine take_ (i := 4) (N := some 8) (v := ?_) (a' := ?_) #[true, true, true, true, true, false, false, false, false, false, false, false, false, false, false, false, false, false, false] rfl rfl (by kernel_rfl) (fun _ _ _ h => h) (Or.inl ⟨by rfl, ?_⟩) hHeld ?_ ?_
  rotate_left
  · rintro w' ⟨⟨s0, s1⟩, sA⟩
    go_simp
    with_reducible rfl
  rotate_left
  · simp only [Act.put, List.setIfInBounds_toArray, List.set_cons_zero, List.set_cons_succ, i64_w, i32_w]
    rfl
  refine take_ (i := 5) (N := some 9) (v := ?_) (a' := ?_) #[true, true, true, true, true, true, false, false, false, false, false, false, false, false, false, false, false, false, false] rfl rfl (by kernel_rfl) (fun _ _ _ h => h) (Or.inl ⟨by rfl, ?_⟩) hHeld ?_ ?_
  rotate_left
  · rintro w' ⟨⟨s0, s1⟩, sA⟩
    go_simp
    with_reducible rfl
  rotate_left
  · simp only [Act.put, List.setIfInBounds_toArray, List.set_cons_zero, List.set_cons_succ, i64_w, i32_w]
    rfl
  refine pure_ (i := 6) (N := some 10) (v := ?_) (a' := ?_) #[true, true, true, true, true, true, true, false, false, false, false, false, false, false, false, false, false, false, false] rfl rfl (by kernel_rfl) (fun _ _ _ h => h) (Or.inl ⟨by rfl, ?_⟩) ?_ ?_
  rotate_left
  · intro w'
    go_simp
    with_reducible rfl
  rotate_left
  · simp only [Act.put, List.setIfInBounds_toArray, List.set_cons_zero, List.set_cons_succ, i64_w, i32_w]
    rfl
  have HC8 := Aside0.mk (show (Kd.int .u8).C w7 (some ⟨g1, 0, none⟩) ([84, 120, 78, 82, e4, e5, e6, e7] : List Int).length [84, 120, 78, 82, e4, e5, e6, e7] from BK1.out.reads (n := 8) (by simp) (by decide))
  have HL8 := Aside0.mk (show ([84, 120, 78, 82, e4, e5, e6, e7] : List Int).length ≤ 8 from Nat.le_refl 8)
  refine one_ (i := 7) (N := some 11) #[true, true, true, true, true, true, true, true, false, false, false, false, false, false, false, false, false, false, false] rfl rfl (by kernel_rfl) (by decide) (fun K hK => ?_)
  refine goes_ Tryd.func10 (by kernel_rfl) rfl #[.agg #[.int .i64 6, .int .i64 512], .slice (some ⟨g1, 0, none⟩) ([84, 120, 78, 82, e4, e5, e6, e7] : List Int).length 8] (by rfl) rfl rfl (by (try simp only [List.map_toArray, List.map_cons, List.map_nil]); first | done | rfl) ?_
  with_reducible refine (flintlaw05_sector.calls k 6 512 _ 8 [84, 120, 78, 82, e4, e5, e6, e7] t2 _ HC8.out HL8.out A2.out).mono ?_
  rintro e w8 ⟨v_, rfl, ho, hb⟩
  refine ⟨_, rfl, ?_⟩
  obtain ⟨At2, ct2, rfl⟩ := Kd.R_slice ho
  have HOt2 := Aside0.mk ho
  clear ho
  have n0_ := Aside0.mk (below_step HB.out hb)
  have n1_ := Aside0.mk (HE.out.below hb)
  have n2_ := Aside0.mk (BK1.out.below hb)
  clear HB HE BK1 hb
  have HB := n0_
  have HE := n1_
  have BK1 := n2_
  clear n0_ n1_ n2_
  refine hK.out _ _ ⟨HE.out, BK1.out⟩ (fun hHeld => ?_)
  clear hK K
  refine norm_ (a' := ?_) ?_ ?_
  rotate_left
  · show Act.put _ (some 11) _ = _
    simp only [Act.put, List.setIfInBounds_toArray, List.set_cons_zero, List.set_cons_succ, i64_w, i32_w]
    rfl
  refine one_ (i := 8) (N := some 12) #[true, true, true, true, true, true, true, true, true, false, false, false, false, false, false, false, false, false, false] rfl rfl (by kernel_rfl) (by decide) (fun K hK => ?_)
  refine goes_ Tryd.func11 (by kernel_rfl) rfl #[.agg #[.int .i64 6, .int .i64 512], .slice At2 t2.length ct2] (by rfl) rfl rfl (by (try simp only [List.map_toArray, List.map_cons, List.map_nil]); first | done | rfl) ?_
  with_reducible refine (head_Class.calls k 6 512 _ _ t2 1 _ (Kd.R_reads' HOt2.out).2.2 (Kd.R_reads' HOt2.out).2.1 A3.out).mono ?_
  rintro e w9 ⟨rfl, hb⟩
  refine ⟨_, rfl, ?_⟩
  clear HOt2
  have n0_ := Aside0.mk (below_step HB.out hb)
  have n1_ := Aside0.mk (HE.out.below hb)
  have n2_ := Aside0.mk (BK1.out.below hb)
  clear HB HE BK1 hb
  have HB := n0_
  have HE := n1_
  have BK1 := n2_
  clear n0_ n1_ n2_
  refine hK.out _ _ ⟨HE.out, BK1.out⟩ (fun hHeld => ?_)
  clear hK K
  refine norm_ (a' := ?_) ?_ ?_
  rotate_left
  · show Act.put _ (some 12) _ = _
    simp only [Act.put, List.setIfInBounds_toArray, List.set_cons_zero, List.set_cons_succ, i64_w, i32_w]
    rfl
  refine pure_ (i := 9) (N := some 13) (v := ?_) (a' := ?_) #[true, true, true, true, true, true, true, true, true, true, false, false, false, false, false, false, false, false, false] rfl rfl (by kernel_rfl) (fun _ _ _ h => h) (Or.inl ⟨by rfl, ?_⟩) ?_ ?_
  rotate_left
  · intro w'
    go_simp
    with_reducible rfl
  rotate_left
  · simp only [Act.put, List.setIfInBounds_toArray, List.set_cons_zero, List.set_cons_succ, i64_w, i32_w]
    rfl
  refine pure_ (i := 10) (N := some 14) (v := ?_) (a' := ?_) #[true, true, true, true, true, true, true, true, true, true, true, false, false, false, false, false, false, false, false] rfl rfl (by kernel_rfl) (fun _ _ _ h => h) (Or.inl ⟨by rfl, ?_⟩) ?_ ?_
  rotate_left
  · intro w'
    go_simp
    with_reducible rfl
  rotate_left
  · simp only [Act.put, List.setIfInBounds_toArray, List.set_cons_zero, List.set_cons_succ, i64_w, i32_w]
    rfl
  refine pure_ (i := 11) (N := some 15) (v := ?_) (a' := ?_) #[true, true, true, true, true, true, true, true, true, true, true, true, false, false, false, false, false, false, false] rfl rfl (by kernel_rfl) (fun _ _ _ h => h) (Or.inl ⟨by rfl, ?_⟩) ?_ ?_
  rotate_left
  · intro w'
    go_simp
    with_reducible rfl
  rotate_left
  · simp only [Act.put, List.setIfInBounds_toArray, List.set_cons_zero, List.set_cons_succ, i64_w, i32_w]
    rfl
  refine take_ (i := 12) (N := some 16) (v := ?_) (a' := ?_) #[true, true, true, true, true, true, true, true, true, true, true, true, true, false, false, false, false, false, false] rfl rfl (by kernel_rfl) (fun _ _ _ h => h) (Or.inl ⟨by rfl, ?_⟩) hHeld ?_ ?_
  rotate_left
  · rintro w' ⟨⟨s0, s1⟩, sA⟩
    go_simp
    with_reducible rfl
  rotate_left
  · simp only [Act.put, List.setIfInBounds_toArray, List.set_cons_zero, List.set_cons_succ, i64_w, i32_w]
    rfl
  refine take_ (i := 13) (N := some 17) (v := ?_) (a' := ?_) #[true, true, true, true, true, true, true, true, true, true, true, true, true, true, false, false, false, false, false] rfl rfl (by kernel_rfl) (fun _ _ _ h => h) (Or.inl ⟨by rfl, ?_⟩) hHeld ?_ ?_
  rotate_left
  · rintro w' ⟨⟨s0, s1⟩, sA⟩
    go_simp
    with_reducible rfl
  rotate_left
  · simp only [Act.put, List.setIfInBounds_toArray, List.set_cons_zero, List.set_cons_succ, i64_w, i32_w]
    rfl
  refine one_ (i := 14) (N := some 18) #[true, true, true, true, true, true, true, true, true, true, true, true, true, true, true, false, false, false, false] rfl rfl (by kernel_rfl) (by decide) (fun K hK => ?_)
  refine goes_ Tryd.func10 (by kernel_rfl) rfl #[.agg #[.int .i64 6, .int .i64 512], .slice none ([] : List Int).length 0] (by rfl) rfl rfl (by (try simp only [List.map_toArray, List.map_cons, List.map_nil]); first | done | rfl) ?_
  with_reducible refine (flintlaw05_sector.calls k 6 512 none 0 [] t4 _ (Kd.C_nil _ _) (Nat.le_refl _) A4.out).mono ?_
  rintro e w10 ⟨v_, rfl, ho, hb⟩
  refine ⟨_, rfl, ?_⟩
  obtain ⟨At4, ct4, rfl⟩ := Kd.R_slice ho
  have HOt4 := Aside0.mk ho
  clear ho
  have n0_ := Aside0.mk (below_step HB.out hb)
  have n1_ := Aside0.mk (HE.out.below hb)
  have n2_ := Aside0.mk (BK1.out.below hb)
  clear HB HE BK1 hb
  have HB := n0_
  have HE := n1_
  have BK1 := n2_
  clear n0_ n1_ n2_
  refine hK.out _ _ ⟨HE.out, BK1.out⟩ (fun hHeld => ?_)
  clear hK K
  refine norm_ (a' := ?_) ?_ ?_
  rotate_left
  · show Act.put _ (some 18) _ = _
    simp only [Act.put, List.setIfInBounds_toArray, List.set_cons_zero, List.set_cons_succ, i64_w, i32_w]
    rfl
  refine one_ (i := 15) (N := some 19) #[true, true, true, true, true, true, true, true, true, true, true, true, true, true, true, true, false, false, false] rfl rfl (by kernel_rfl) (by decide) (fun K hK => ?_)
  refine goes_ Tryd.func11 (by kernel_rfl) rfl #[.agg #[.int .i64 6, .int .i64 512], .slice At4 t4.length ct4] (by rfl) rfl rfl (by (try simp only [List.map_toArray, List.map_cons, List.map_nil]); first | done | rfl) ?_
  with_reducible refine (head_Class.calls k 6 512 _ _ t4 0 _ (Kd.R_reads' HOt4.out).2.2 (Kd.R_reads' HOt4.out).2.1 A5.out).mono ?_
  rintro e w11 ⟨rfl, hb⟩
  refine ⟨_, rfl, ?_⟩
  clear HOt4
  have n0_ := Aside0.mk (below_step HB.out hb)
  have n1_ := Aside0.mk (HE.out.below hb)
  have n2_ := Aside0.mk (BK1.out.below hb)
  clear HB HE BK1 hb
  have HB := n0_
  have HE := n1_
  have BK1 := n2_
  clear n0_ n1_ n2_
  refine hK.out _ _ ⟨HE.out, BK1.out⟩ (fun hHeld => ?_)
  clear hK K
  refine norm_ (a' := ?_) ?_ ?_
  rotate_left
  · show Act.put _ (some 19) _ = _
    simp only [Act.put, List.setIfInBounds_toArray, List.set_cons_zero, List.set_cons_succ, i64_w, i32_w]
    rfl
  refine pure_ (i := 16) (N := some 20) (v := ?_) (a' := ?_) #[true, true, true, true, true, true, true, true, true, true, true, true, true, true, true, true, true, false, false] rfl rfl (by kernel_rfl) (fun _ _ _ h => h) (Or.inl ⟨by rfl, ?_⟩) ?_ ?_
  rotate_left
  · intro w'
    go_simp
    with_reducible rfl
  rotate_left
  · simp only [Act.put, List.setIfInBounds_toArray, List.set_cons_zero, List.set_cons_succ, i64_w, i32_w]
    rfl
  refine pure_ (i := 17) (N := some 21) (v := ?_) (a' := ?_) #[true, true, true, true, true, true, true, true, true, true, true, true, true, true, true, true, true, true, false] rfl rfl (by kernel_rfl) (fun _ _ _ h => h) (Or.inl ⟨by rfl, ?_⟩) ?_ ?_
  rotate_left
  · intro w'
    go_simp
    with_reducible rfl
  rotate_left
  · simp only [Act.put, List.setIfInBounds_toArray, List.set_cons_zero, List.set_cons_succ, i64_w, i32_w]
    rfl
  refine pure_ (i := 18) (N := some 0) (v := ?_) (a' := ?_) #[true, true, true, true, true, true, true, true, true, true, true, true, true, true, true, true, true, true, true] rfl rfl (by kernel_rfl) (fun _ _ _ h => h) (Or.inl ⟨by rfl, ?_⟩) ?_ ?_
  rotate_left
  · intro w'
    go_simp
    with_reducible rfl
  rotate_left
  · simp only [Act.put, List.setIfInBounds_toArray, List.set_cons_zero, List.set_cons_succ, i64_w, i32_w]
    rfl
  refine done_ (by kernel_rfl) ?_
  clear hHeld
  try go_wp2
  go_ret
  exact ⟨rfl, HB.out⟩

end Go.Proofs.YtconcmobjkpkcaaDoor.G
