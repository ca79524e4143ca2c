-- Written by wip/gen.py: the kit's print.py, with this session's own texts where it takes a function not. Not trusted: Lean checks it.
import Derived.Test.YtconcmobjkpkcaaDoorG0
import Derived.Test.YtconcmobjkpkcaaDoorG1
import Derived.Test.YtconcmobjkpkcaaDoorG2
import Derived.Test.YtconcmobjkpkcaaDoorG3
import Derived.Test.YtconcmobjkpkcaaDoorG4
import Derived.Test.YtconcmobjkpkcaaDoorG5
namespace Go.Proofs.YtconcmobjkpkcaaDoor.G
open Go.RowKit Go.Proofs.YtconcmobjkpkcaaDoorW.PrintWords Go.Proofs.YtconcmobjkpkcaaDoorW.PrintLast Go.Proofs.YtconcmobjkpkcaaDoorW.PrintMore
attribute [local go_sem] max2_int min2_int max_two min_two max_three min_three max_four min_four   -- for this text's walks alone
set_option linter.unusedVariables false
set_option linter.unusedSimpArgs false

/-! ### flintlaw05_HeadClass: function 3 -/
/-- The end, told only where it is true. -/
def flintlaw05_HeadClass.tail (k : Nat) (a0_0 a0_1 : Int) (y : List Int) : Option Bool := (flintlaw05_fixed.f k).bind fun t3 => (if t3 = true then ((head_Class.f k a0_0 a0_1 y).bind fun t5 => ((flintref05_Class.f k a0_0 a0_1 y).bind fun t6 => (if t5 = t6 then some true else none))) else none)
/-- The bytes that are asked of. -/
def flintlaw05_HeadClass.row (k : Nat) (a0_0 a0_1 : Int) (l1 : List Int) (a2 a3 : Bool) : Option (List Int) := if a2 = true then ((flintref02_May.f a0_0 a0_1).bind fun m => (if m = true then (if a3 = true then ((flintref05_Of.f k a0_0 a0_1).bind fun s => (if s.size ≤ 8 then (flintlaw05_sector.f k a0_0 a0_1 (bytesOf s ++ l1)) else none)) else (flintlaw05_sector.f k a0_0 a0_1 l1)) else some l1)) else some l1
def flintlaw05_HeadClass.f (k : Nat) (a0_0 a0_1 : Int) (l1 : List Int) (a2 a3 : Bool) : Option Bool := if (l1.length : Int) > 5000 then (flintlaw05_fixed.f k) else ((flintlaw05_HeadClass.row k a0_0 a0_1 l1 a2 a3).bind fun y => (flintlaw05_HeadClass.tail k a0_0 a0_1 y))
theorem flintlaw05_HeadClass.tail_open {k : Nat} {a0_0 a0_1 : Int} {y : List Int} (h : flintlaw05_HeadClass.tail k a0_0 a0_1 y = some true) : flintlaw05_fixed.f k = some true ∧ ∃ t5, head_Class.f k a0_0 a0_1 y = some t5 ∧ flintref05_Class.f k a0_0 a0_1 y = some t5 := by
  unfold flintlaw05_HeadClass.tail at h
  obtain ⟨t3, h3, h⟩ := Option.bind_eq_some_iff.mp h
  by_cases c : t3 = true
  rotate_left
  · rw [if_neg c] at h; cases h
  rw [if_pos c] at h
  subst c
  obtain ⟨t5, h5, h⟩ := Option.bind_eq_some_iff.mp h
  obtain ⟨t6, h6, h⟩ := Option.bind_eq_some_iff.mp h
  by_cases c : t5 = t6
  rotate_left
  · rw [if_neg c] at h; cases h
  subst c
  exact ⟨h3, t5, h5, h6⟩
set_option maxHeartbeats 8000000 in
set_option maxRecDepth 100000 in
theorem flintlaw05_HeadClass.calls (k : Nat) (a0_0 a0_1 : Int) (A1 : Option Addr) (c1 : Nat) (l1 : List Int) (a2 a3 : Bool) (w : World) (hr1 : Kd.C (Kd.int .u8) w A1 l1.length l1) (hc1 : l1.length ≤ c1) (h : flintlaw05_HeadClass.f k a0_0 a0_1 l1 a2 a3 = some true) (hT0 : Ex w) :
    Calls Tryd.prog 3 #[.agg #[.int .i64 a0_0, .int .i64 a0_1], .slice A1 l1.length c1, .bool a2, .bool a3] w fun e w' => e = .returned (.bool true) ∧ Below w.heap.size w w' := by
  have hu1 := Tryd.underlying23
  have HB := Aside0.mk (Below.refl w.heap.size w)
  have HT := Aside0.mk hT0
  have HR1 := Aside0.mk hr1
  clear hT0 hr1
  unfold flintlaw05_HeadClass.f at h
  by_cases cl : (l1.length : Int) > 5000
  · rw [if_pos cl] at h
    have clb := decide_eq_true cl
    clear cl
    have AF := Aside0.mk h
    clear h
    go_enter Tryd.func3, Tryd.ntmps3
    go_wp2_with (first
      | ((with_reducible refine gate_dst (N := 4) rfl ?_); refine box_event ?hg (N := 4) ?hd (cs := #[.int .i64 a0_0, .int .i64 a0_1]) (t := 23) ?hr ?_; (case hd => rfl); (case hg => rfl); (case hr => first | (go_simp; done) | (go_simp; rfl)); intro g1 hg w1 hbox hb; have BK1 := Aside0.mk hbox; have n0_ := Aside0.mk (below_step HB.out hb); clear HB; have HB := n0_; clear n0_ hb hbox hg)
      | ((with_reducible refine gate_callee (f := 7) rfl ?_); refine goesL_ (some 13) rfl rfl Tryd.func7 (by kernel_rfl) rfl #[] rfl (by (try simp only [List.map_toArray, List.map_cons, List.map_nil]); first | done | rfl) ?_; (with_reducible refine (flintlaw05_fixed.calls k true _ AF.out (Ex.below HT.out HB.out)).mono ?_); rintro e w2 ⟨rfl, hb⟩; refine ⟨_, rfl, ?_⟩; have n0_ := Aside0.mk (below_step HB.out hb); clear HB hb; have HB := n0_; clear n0_))
    go_ret
    exact ⟨rfl, HB.out⟩
  rw [if_neg cl] at h
  have HLen := Aside0.mk (show l1.length ≤ 5000 by omega)
  have clb := decide_eq_false cl
  clear cl
  obtain ⟨y, hrow, h⟩ := Option.bind_eq_some_iff.mp h
  obtain ⟨AF0, t5, A50, A60⟩ := flintlaw05_HeadClass.tail_open h
  clear h
  have AF := Aside0.mk AF0
  have A5 := Aside0.mk A50
  have A6 := Aside0.mk A60
  clear AF0 A50 A60
  obtain ⟨y1, hy1⟩ : ∃ y_ : List Int, y_ = [] := ⟨_, rfl⟩
  have N1 := Aside0.mk hy1
  clear hy1
  unfold flintlaw05_HeadClass.row at hrow
  cases a2 with
  | false =>
    rw [if_neg (by decide)] at hrow
    obtain rfl := Option.some.inj hrow
    clear hrow
    go_enter Tryd.func3, Tryd.ntmps3
    go_wp2_with (first
      | ((with_reducible refine gate_dst (N := 4) rfl ?_); refine box_event ?hg (N := 4) ?hd (cs := #[.int .i64 a0_0, .int .i64 a0_1]) (t := 23) ?hr ?_; (case hd => rfl); (case hg => rfl); (case hr => first | (go_simp; done) | (go_simp; rfl)); intro g1 hg w1 hbox hb; have BK1 := Aside0.mk hbox; have n0_ := Aside0.mk (below_step HB.out hb); clear HB; have HB := n0_; clear n0_ hb hbox hg)
      | ((with_reducible refine gate_dst (N := 14) rfl ?_); refine Kd.R_lit (Kd.int .u8) (w0 := w) w.heap.size 5 ?hg (N := 14) ?hd (xs := ([] : List Int)) (inner := []) (ok := fun _ => True) (okp := fun _ => True) ?hr ?hp (fun _ hk => hk) trivial HB.out (below_size HB.out) (by simp) ?_; (case hd => rfl); (case hg => rfl); (case hr => first | (go_simp; done) | (go_simp; rfl)); (case hp => exact (Reps.none _ _)); intro v2 w3 ho3 hb hg_ hnew_; rw [← N1.out] at ho3; have n1_ := Aside0.mk (blk_grown BK1.out hg_ (by simp)); clear hg_ hnew_; have HO := Aside0.mk ho3; clear HB BK1 ho3; have HB := Aside0.mk hb; have BK1 := n1_; clear n1_ hb)
      | ((with_reducible refine gate_builtin (b := .append) (xs := #[.tmp 14, .tmp 15]) rfl ?_); refine Kd.R_append_rows (Kd.int .u8) (w0 := w) w.heap.size rfl (.tmp 14) (.tmp 15) 24 5 (.int .u8 0) 1 rfl Tryd.underlying24 info5 rfl (by decide) (by omega) v2 y1 l1 _ _ _ (fun _ => True) (fun _ => False) rfl rfl ?aO ?aR (fun _ _ h => h) (fun _ h => h.elim) ?aF ?aB ?aS ?aL ?_; (case aR => exact Kd.C_below HR1.out HB.out); (case aB => exact HB.out); (case aF => exact (fun _ _ => trivial)); (case aO => exact HO.out); (case aS => exact (below_size HB.out)); (case aL => have := HLen.out; rw [N1.out]; simp; omega); intro v4 w4 ho hb hg hat; have n1_ := Aside0.mk (blk_grown BK1.out hg (Kd.R_ne HO.out BK1.out (by decide))); rw [N1.out, List.nil_append] at ho; obtain ⟨Al, cl, rfl⟩ := Kd.R_slice ho; have HC := Aside0.mk (Kd.R_reads' ho).2.2; have hcl := Aside0.mk (Kd.R_reads' ho).2.1; clear HB BK1 HO ho hg hat; have HB := Aside0.mk hb; have BK1 := n1_; clear n1_ hb; have hk0 := (blk_cell BK1.out 0).trans rfl; have hk1 := (blk_cell BK1.out 1).trans rfl))
    clear hk0 hk1
    have n0_ := Aside0.mk (below_drew1 HB.out)
    have n1_ := Aside0.mk (blk_drew BK1.out)
    have n2_ := Aside0.mk (Kd.C_drew HC.out)
    clear HB BK1 HC 
    have HB := n0_
    have BK1 := n1_
    have HC := n2_
    clear n0_ n1_ n2_
    refine start_ (n := 11) (S := fun w' => w'.cell? ⟨g1, 0, none⟩ = some (.int .i64 a0_0) ∧ w'.cell? ⟨g1, 1, none⟩ = some (.int .i64 a0_1)) (ds := []) #[false, false, false, false, false, false, false, false, false, false, false] (by kernel_rfl) rfl rfl ⟨(blk_cell BK1.out 0).trans rfl, (blk_cell BK1.out 1).trans rfl⟩ (fun hHeld => ?_)
    generalize w4.drew = wd at HB BK1 HC hHeld ⊢
    refine one_ (i := 0) (N := some 31) #[true, false, false, false, false, false, false, false, false, false, false] rfl rfl (by kernel_rfl) (by decide) (fun K hK => ?_)
    refine goes_ Tryd.func7 (by kernel_rfl) rfl #[] (by rfl) rfl rfl (by (try simp only [List.map_toArray, List.map_cons, List.map_nil]); first | done | rfl) ?_
    with_reducible refine (flintlaw05_fixed.calls k true _ AF.out (Ex.below HT.out HB.out)).mono ?_
    rintro e we ⟨rfl, hb⟩
    refine ⟨_, rfl, ?_⟩
    have n0_ := Aside0.mk (below_step HB.out hb)
    have n1_ := Aside0.mk (blk_below BK1.out hb)
    have n2_ := Aside0.mk (Kd.C_below HC.out hb)
    clear HB BK1 HC hb
    have HB := n0_
    have BK1 := n1_
    have HC := n2_
    clear n0_ n1_ n2_
    refine hK.out _ _ ⟨(blk_cell BK1.out 0).trans rfl, (blk_cell BK1.out 1).trans rfl⟩ (fun hHeld => ?_)
    clear hK K
    refine norm_ (a' := ?_) ?_ ?_
    rotate_left
    · show Act.put _ (some 31) _ = _
      simp only [Act.put, List.setIfInBounds_toArray, List.set_cons_zero, List.set_cons_succ, i64_w, i32_w]
      rfl
    refine pure_ (i := 1) (N := some 32) (v := ?_) (a' := ?_) #[true, true, false, false, false, false, false, false, false, false, false] rfl rfl (by kernel_rfl) (fun _ _ _ h => h) (Or.inl ⟨by rfl, ?_⟩) ?_ ?_
    rotate_left
    · intro w'
      go_simp
      with_reducible rfl
    rotate_left
    · simp only [Act.put, List.setIfInBounds_toArray, List.set_cons_zero, List.set_cons_succ, i64_w, i32_w]
      rfl
    refine take_ (i := 2) (N := some 33) (v := ?_) (a' := ?_) #[true, true, true, false, false, false, false, false, false, false, false] rfl rfl (by kernel_rfl) (fun _ _ _ h => h) (Or.inl ⟨by rfl, ?_⟩) hHeld ?_ ?_
    rotate_left
    · rintro w' ⟨s0, s1⟩
      go_simp
      with_reducible rfl
    rotate_left
    · simp only [Act.put, List.setIfInBounds_toArray, List.set_cons_zero, List.set_cons_succ, i64_w, i32_w]
      rfl
    refine pure_ (i := 3) (N := some 34) (v := ?_) (a' := ?_) #[true, true, true, true, false, false, false, false, false, false, false] rfl rfl (by kernel_rfl) (fun _ _ _ h => h) (Or.inl ⟨by rfl, ?_⟩) ?_ ?_
    rotate_left
    · intro w'
      go_simp
      with_reducible rfl
    rotate_left
    · simp only [Act.put, List.setIfInBounds_toArray, List.set_cons_zero, List.set_cons_succ, i64_w, i32_w]
      rfl
    refine take_ (i := 5) (N := some 36) (v := ?_) (a' := ?_) #[true, true, true, true, false, true, false, false, false, false, false] rfl rfl (by kernel_rfl) (fun _ _ _ h => h) (Or.inl ⟨by rfl, ?_⟩) hHeld ?_ ?_
    rotate_left
    · rintro w' ⟨s0, s1⟩
      go_simp
      with_reducible rfl
    rotate_left
    · simp only [Act.put, List.setIfInBounds_toArray, List.set_cons_zero, List.set_cons_succ, i64_w, i32_w]
      rfl
    refine pure_ (i := 6) (N := some 37) (v := ?_) (a' := ?_) #[true, true, true, true, false, true, true, false, false, false, false] rfl rfl (by kernel_rfl) (fun _ _ _ h => h) (Or.inl ⟨by rfl, ?_⟩) ?_ ?_
    rotate_left
    · intro w'
      go_simp
      with_reducible rfl
    rotate_left
    · simp only [Act.put, List.setIfInBounds_toArray, List.set_cons_zero, List.set_cons_succ, i64_w, i32_w]
      rfl
    refine one_ (i := 4) (N := some 35) #[true, true, true, true, true, true, true, false, false, false, false] rfl rfl (by kernel_rfl) (by decide) (fun K hK => ?_)
    refine goes_ Tryd.func11 (by kernel_rfl) rfl #[.agg #[.int .i64 a0_0, .int .i64 a0_1], .slice Al l1.length cl] (by rfl) rfl rfl (by (try simp only [List.map_toArray, List.map_cons, List.map_nil]); first | done | rfl) ?_
    with_reducible refine (head_Class.calls k a0_0 a0_1 Al cl l1 t5 _ HC.out hcl.out A5.out).mono ?_
    rintro e wf ⟨rfl, hb⟩
    refine ⟨_, rfl, ?_⟩
    have n0_ := Aside0.mk (below_step HB.out hb)
    have n1_ := Aside0.mk (blk_below BK1.out hb)
    have n2_ := Aside0.mk (Kd.C_below HC.out hb)
    clear HB BK1 HC hb
    have HB := n0_
    have BK1 := n1_
    have HC := n2_
    clear n0_ n1_ n2_
    refine hK.out _ _ ⟨(blk_cell BK1.out 0).trans rfl, (blk_cell BK1.out 1).trans rfl⟩ (fun hHeld => ?_)
    clear hK K
    refine norm_ (a' := ?_) ?_ ?_
    rotate_left
    · show Act.put _ (some 35) _ = _
      simp only [Act.put, List.setIfInBounds_toArray, List.set_cons_zero, List.set_cons_succ, i64_w, i32_w]
      rfl
    refine one_ (i := 7) (N := some 38) #[true, true, true, true, true, true, true, true, false, false, false] rfl rfl (by kernel_rfl) (by decide) (fun K hK => ?_)
    refine goes_ Tryd.func12 (by kernel_rfl) rfl #[.agg #[.int .i64 a0_0, .int .i64 a0_1], .slice Al l1.length cl] (by rfl) rfl rfl (by (try simp only [List.map_toArray, List.map_cons, List.map_nil]); first | done | rfl) ?_
    with_reducible refine (flintref05_Class.calls k a0_0 a0_1 Al cl l1 t5 _ HC.out hcl.out A6.out).mono ?_
    rintro e wg ⟨rfl, hb⟩
    refine ⟨_, rfl, ?_⟩
    have n0_ := Aside0.mk (below_step HB.out hb)
    have n1_ := Aside0.mk (blk_below BK1.out hb)
    have n2_ := Aside0.mk (Kd.C_below HC.out hb)
    clear HB BK1 HC hb
    have HB := n0_
    have BK1 := n1_
    have HC := n2_
    clear n0_ n1_ n2_
    refine hK.out _ _ ⟨(blk_cell BK1.out 0).trans rfl, (blk_cell BK1.out 1).trans rfl⟩ (fun hHeld => ?_)
    clear hK K
    refine norm_ (a' := ?_) ?_ ?_
    rotate_left
    · show Act.put _ (some 38) _ = _
      simp only [Act.put, List.setIfInBounds_toArray, List.set_cons_zero, List.set_cons_succ, i64_w, i32_w]
      rfl
    refine pure_ (i := 8) (N := some 39) (v := ?_) (a' := ?_) #[true, true, true, true, true, true, true, true, true, false, false] rfl rfl (by kernel_rfl) (fun _ _ _ h => h) (Or.inl ⟨by rfl, ?_⟩) ?_ ?_
    rotate_left
    · intro w'
      go_simp
      with_reducible rfl
    rotate_left
    · simp only [Act.put, List.setIfInBounds_toArray, List.set_cons_zero, List.set_cons_succ, i64_w, i32_w]
      rfl
    refine pure_ (i := 9) (N := some 40) (v := ?_) (a' := ?_) #[true, true, true, true, true, true, true, true, true, true, false] rfl rfl (by kernel_rfl) (fun _ _ _ h => h) (Or.inl ⟨by rfl, ?_⟩) ?_ ?_
    rotate_left
    · intro w'
      go_simp
      with_reducible rfl
    rotate_left
    · simp only [Act.put, List.setIfInBounds_toArray, List.set_cons_zero, List.set_cons_succ, i64_w, i32_w]
      rfl
    refine pure_ (i := 10) (N := some 8) (v := ?_) (a' := ?_) #[true, true, true, true, true, true, true, true, true, true, true] rfl rfl (by kernel_rfl) (fun _ _ _ h => h) (Or.inl ⟨by rfl, ?_⟩) ?_ ?_
    rotate_left
    · intro w'
      go_simp
      with_reducible rfl
    rotate_left
    · simp only [Act.put, List.setIfInBounds_toArray, List.set_cons_zero, List.set_cons_succ, i64_w, i32_w]
      rfl
    refine done_ (by kernel_rfl) ?_
    clear hHeld
    try go_wp2
    go_ret
    exact ⟨rfl, HB.out⟩
  | true =>
    rw [if_pos rfl] at hrow
    obtain ⟨m, hm, hrow⟩ := Option.bind_eq_some_iff.mp hrow
    have AM := Aside0.mk hm
    clear hm
    cases m with
    | false =>
      rw [if_neg (by decide)] at hrow
      obtain rfl := Option.some.inj hrow
      clear hrow
      go_enter Tryd.func3, Tryd.ntmps3
      go_wp2_with (first
        | ((with_reducible refine gate_dst (N := 4) rfl ?_); refine box_event ?hg (N := 4) ?hd (cs := #[.int .i64 a0_0, .int .i64 a0_1]) (t := 23) ?hr ?_; (case hd => rfl); (case hg => rfl); (case hr => first | (go_simp; done) | (go_simp; rfl)); intro g1 hg w1 hbox hb; have BK1 := Aside0.mk hbox; have n0_ := Aside0.mk (below_step HB.out hb); clear HB; have HB := n0_; clear n0_ hb hbox hg)
        | ((with_reducible refine gate_dst (N := 14) rfl ?_); refine Kd.R_lit (Kd.int .u8) (w0 := w) w.heap.size 5 ?hg (N := 14) ?hd (xs := ([] : List Int)) (inner := []) (ok := fun _ => True) (okp := fun _ => True) ?hr ?hp (fun _ hk => hk) trivial HB.out (below_size HB.out) (by simp) ?_; (case hd => rfl); (case hg => rfl); (case hr => first | (go_simp; done) | (go_simp; rfl)); (case hp => exact (Reps.none _ _)); intro v2 w3 ho3 hb hg_ hnew_; rw [← N1.out] at ho3; have n1_ := Aside0.mk (blk_grown BK1.out hg_ (by simp)); clear hg_ hnew_; have HO := Aside0.mk ho3; clear HB BK1 ho3; have HB := Aside0.mk hb; have BK1 := n1_; clear n1_ hb)
        | ((with_reducible refine gate_builtin (b := .append) (xs := #[.tmp 14, .tmp 15]) rfl ?_); refine Kd.R_append_rows (Kd.int .u8) (w0 := w) w.heap.size rfl (.tmp 14) (.tmp 15) 24 5 (.int .u8 0) 1 rfl Tryd.underlying24 info5 rfl (by decide) (by omega) v2 y1 l1 _ _ _ (fun _ => True) (fun _ => False) rfl rfl ?aO ?aR (fun _ _ h => h) (fun _ h => h.elim) ?aF ?aB ?aS ?aL ?_; (case aR => exact Kd.C_below HR1.out HB.out); (case aB => exact HB.out); (case aF => exact (fun _ _ => trivial)); (case aO => exact HO.out); (case aS => exact (below_size HB.out)); (case aL => have := HLen.out; rw [N1.out]; simp; omega); intro v4 w4 ho hb hg hat; have n1_ := Aside0.mk (blk_grown BK1.out hg (Kd.R_ne HO.out BK1.out (by decide))); rw [N1.out, List.nil_append] at ho; obtain ⟨Al, cl, rfl⟩ := Kd.R_slice ho; have HC := Aside0.mk (Kd.R_reads' ho).2.2; have hcl := Aside0.mk (Kd.R_reads' ho).2.1; clear HB BK1 HO ho hg hat; have HB := Aside0.mk hb; have BK1 := n1_; clear n1_ hb; have hk0 := (blk_cell BK1.out 0).trans rfl; have hk1 := (blk_cell BK1.out 1).trans rfl)
        | ((with_reducible refine (flintref02_May.calls a0_0 a0_1 false _ AM.out).mono ?_); rintro e w5 ⟨rfl, hb⟩; clear hk0 hk1; have n0_ := Aside0.mk (below_step HB.out hb); have n1_ := Aside0.mk (blk_below BK1.out hb); have n2_ := Aside0.mk (Kd.C_below HC.out hb); clear HB BK1 HC hb; have HB := n0_; have BK1 := n1_; have HC := n2_; clear n0_ n1_ n2_; have hk0 := (blk_cell BK1.out 0).trans rfl; have hk1 := (blk_cell BK1.out 1).trans rfl))
      clear hk0 hk1
      have n0_ := Aside0.mk (below_drew1 HB.out)
      have n1_ := Aside0.mk (blk_drew BK1.out)
      have n2_ := Aside0.mk (Kd.C_drew HC.out)
      clear HB BK1 HC 
      have HB := n0_
      have BK1 := n1_
      have HC := n2_
      clear n0_ n1_ n2_
      refine start_ (n := 11) (S := fun w' => w'.cell? ⟨g1, 0, none⟩ = some (.int .i64 a0_0) ∧ w'.cell? ⟨g1, 1, none⟩ = some (.int .i64 a0_1)) (ds := []) #[false, false, false, false, false, false, false, false, false, false, false] (by kernel_rfl) rfl rfl ⟨(blk_cell BK1.out 0).trans rfl, (blk_cell BK1.out 1).trans rfl⟩ (fun hHeld => ?_)
      generalize w5.drew = wd at HB BK1 HC hHeld ⊢
      refine one_ (i := 0) (N := some 31) #[true, false, false, false, false, false, false, false, false, false, false] rfl rfl (by kernel_rfl) (by decide) (fun K hK => ?_)
      refine goes_ Tryd.func7 (by kernel_rfl) rfl #[] (by rfl) rfl rfl (by (try simp only [List.map_toArray, List.map_cons, List.map_nil]); first | done | rfl) ?_
      with_reducible refine (flintlaw05_fixed.calls k true _ AF.out (Ex.below HT.out HB.out)).mono ?_
      rintro e we ⟨rfl, hb⟩
      refine ⟨_, rfl, ?_⟩
      have n0_ := Aside0.mk (below_step HB.out hb)
      have n1_ := Aside0.mk (blk_below BK1.out hb)
      have n2_ := Aside0.mk (Kd.C_below HC.out hb)
      clear HB BK1 HC hb
      have HB := n0_
      have BK1 := n1_
      have HC := n2_
      clear n0_ n1_ n2_
      refine hK.out _ _ ⟨(blk_cell BK1.out 0).trans rfl, (blk_cell BK1.out 1).trans rfl⟩ (fun hHeld => ?_)
      clear hK K
      refine norm_ (a' := ?_) ?_ ?_
      rotate_left
      · show Act.put _ (some 31) _ = _
        simp only [Act.put, List.setIfInBounds_toArray, List.set_cons_zero, List.set_cons_succ, i64_w, i32_w]
        rfl
      refine pure_ (i := 1) (N := some 32) (v := ?_) (a' := ?_) #[true, true, false, false, false, false, false, false, false, false, false] rfl rfl (by kernel_rfl) (fun _ _ _ h => h) (Or.inl ⟨by rfl, ?_⟩) ?_ ?_
      rotate_left
      · intro w'
        go_simp
        with_reducible rfl
      rotate_left
      · simp only [Act.put, List.setIfInBounds_toArray, List.set_cons_zero, List.set_cons_succ, i64_w, i32_w]
        rfl
      refine take_ (i := 2) (N := some 33) (v := ?_) (a' := ?_) #[true, true, true, false, false, false, false, false, false, false, false] rfl rfl (by kernel_rfl) (fun _ _ _ h => h) (Or.inl ⟨by rfl, ?_⟩) hHeld ?_ ?_
      rotate_left
      · rintro w' ⟨s0, s1⟩
        go_simp
        with_reducible rfl
      rotate_left
      · simp only [Act.put, List.setIfInBounds_toArray, List.set_cons_zero, List.set_cons_succ, i64_w, i32_w]
        rfl
      refine pure_ (i := 3) (N := some 34) (v := ?_) (a' := ?_) #[true, true, true, true, false, false, false, false, false, false, false] rfl rfl (by kernel_rfl) (fun _ _ _ h => h) (Or.inl ⟨by rfl, ?_⟩) ?_ ?_
      rotate_left
      · intro w'
        go_simp
        with_reducible rfl
      rotate_left
      · simp only [Act.put, List.setIfInBounds_toArray, List.set_cons_zero, List.set_cons_succ, i64_w, i32_w]
        rfl
      refine take_ (i := 5) (N := some 36) (v := ?_) (a' := ?_) #[true, true, true, true, false, true, false, false, false, false, false] rfl rfl (by kernel_rfl) (fun _ _ _ h => h) (Or.inl ⟨by rfl, ?_⟩) hHeld ?_ ?_
      rotate_left
      · rintro w' ⟨s0, s1⟩
        go_simp
        with_reducible rfl
      rotate_left
      · simp only [Act.put, List.setIfInBounds_toArray, List.set_cons_zero, List.set_cons_succ, i64_w, i32_w]
        rfl
      refine pure_ (i := 6) (N := some 37) (v := ?_) (a' := ?_) #[true, true, true, true, false, true, true, false, false, false, false] rfl rfl (by kernel_rfl) (fun _ _ _ h => h) (Or.inl ⟨by rfl, ?_⟩) ?_ ?_
      rotate_left
      · intro w'
        go_simp
        with_reducible rfl
      rotate_left
      · simp only [Act.put, List.setIfInBounds_toArray, List.set_cons_zero, List.set_cons_succ, i64_w, i32_w]
        rfl
      refine one_ (i := 4) (N := some 35) #[true, true, true, true, true, true, true, false, false, false, false] rfl rfl (by kernel_rfl) (by decide) (fun K hK => ?_)
      refine goes_ Tryd.func11 (by kernel_rfl) rfl #[.agg #[.int .i64 a0_0, .int .i64 a0_1], .slice Al l1.length cl] (by rfl) rfl rfl (by (try simp only [List.map_toArray, List.map_cons, List.map_nil]); first | done | rfl) ?_
      with_reducible refine (head_Class.calls k a0_0 a0_1 Al cl l1 t5 _ HC.out hcl.out A5.out).mono ?_
      rintro e wf ⟨rfl, hb⟩
      refine ⟨_, rfl, ?_⟩
      have n0_ := Aside0.mk (below_step HB.out hb)
      have n1_ := Aside0.mk (blk_below BK1.out hb)
      have n2_ := Aside0.mk (Kd.C_below HC.out hb)
      clear HB BK1 HC hb
      have HB := n0_
      have BK1 := n1_
      have HC := n2_
      clear n0_ n1_ n2_
      refine hK.out _ _ ⟨(blk_cell BK1.out 0).trans rfl, (blk_cell BK1.out 1).trans rfl⟩ (fun hHeld => ?_)
      clear hK K
      refine norm_ (a' := ?_) ?_ ?_
      rotate_left
      · show Act.put _ (some 35) _ = _
        simp only [Act.put, List.setIfInBounds_toArray, List.set_cons_zero, List.set_cons_succ, i64_w, i32_w]
        rfl
      refine one_ (i := 7) (N := some 38) #[true, true, true, true, true, true, true, true, false, false, false] rfl rfl (by kernel_rfl) (by decide) (fun K hK => ?_)
      refine goes_ Tryd.func12 (by kernel_rfl) rfl #[.agg #[.int .i64 a0_0, .int .i64 a0_1], .slice Al l1.length cl] (by rfl) rfl rfl (by (try simp only [List.map_toArray, List.map_cons, List.map_nil]); first | done | rfl) ?_
      with_reducible refine (flintref05_Class.calls k a0_0 a0_1 Al cl l1 t5 _ HC.out hcl.out A6.out).mono ?_
      rintro e wg ⟨rfl, hb⟩
      refine ⟨_, rfl, ?_⟩
      have n0_ := Aside0.mk (below_step HB.out hb)
      have n1_ := Aside0.mk (blk_below BK1.out hb)
      have n2_ := Aside0.mk (Kd.C_below HC.out hb)
      clear HB BK1 HC hb
      have HB := n0_
      have BK1 := n1_
      have HC := n2_
      clear n0_ n1_ n2_
      refine hK.out _ _ ⟨(blk_cell BK1.out 0).trans rfl, (blk_cell BK1.out 1).trans rfl⟩ (fun hHeld => ?_)
      clear hK K
      refine norm_ (a' := ?_) ?_ ?_
      rotate_left
      · show Act.put _ (some 38) _ = _
        simp only [Act.put, List.setIfInBounds_toArray, List.set_cons_zero, List.set_cons_succ, i64_w, i32_w]
        rfl
      refine pure_ (i := 8) (N := some 39) (v := ?_) (a' := ?_) #[true, true, true, true, true, true, true, true, true, false, false] rfl rfl (by kernel_rfl) (fun _ _ _ h => h) (Or.inl ⟨by rfl, ?_⟩) ?_ ?_
      rotate_left
      · intro w'
        go_simp
        with_reducible rfl
      rotate_left
      · simp only [Act.put, List.setIfInBounds_toArray, List.set_cons_zero, List.set_cons_succ, i64_w, i32_w]
        rfl
      refine pure_ (i := 9) (N := some 40) (v := ?_) (a' := ?_) #[true, true, true, true, true, true, true, true, true, true, false] rfl rfl (by kernel_rfl) (fun _ _ _ h => h) (Or.inl ⟨by rfl, ?_⟩) ?_ ?_
      rotate_left
      · intro w'
        go_simp
        with_reducible rfl
      rotate_left
      · simp only [Act.put, List.setIfInBounds_toArray, List.set_cons_zero, List.set_cons_succ, i64_w, i32_w]
        rfl
      refine pure_ (i := 10) (N := some 8) (v := ?_) (a' := ?_) #[true, true, true, true, true, true, true, true, true, true, true] rfl rfl (by kernel_rfl) (fun _ _ _ h => h) (Or.inl ⟨by rfl, ?_⟩) ?_ ?_
      rotate_left
      · intro w'
        go_simp
        with_reducible rfl
      rotate_left
      · simp only [Act.put, List.setIfInBounds_toArray, List.set_cons_zero, List.set_cons_succ, i64_w, i32_w]
        rfl
      refine done_ (by kernel_rfl) ?_
      clear hHeld
      try go_wp2
      go_ret
      exact ⟨rfl, HB.out⟩
    | true =>
      rw [if_pos rfl] at hrow
      cases a3 with
      | false =>
        rw [if_neg (by decide)] at hrow
        obtain ⟨y3, hy3⟩ : ∃ y3, y3 = y := ⟨_, rfl⟩
        subst hy3
        have AS := Aside0.mk hrow
        clear hrow
        go_enter Tryd.func3, Tryd.ntmps3
        go_wp2_with (first
          | ((with_reducible refine gate_dst (N := 4) rfl ?_); refine box_event ?hg (N := 4) ?hd (cs := #[.int .i64 a0_0, .int .i64 a0_1]) (t := 23) ?hr ?_; (case hd => rfl); (case hg => rfl); (case hr => first | (go_simp; done) | (go_simp; rfl)); intro g1 hg w1 hbox hb; have BK1 := Aside0.mk hbox; have n0_ := Aside0.mk (below_step HB.out hb); clear HB; have HB := n0_; clear n0_ hb hbox hg)
          | ((with_reducible refine gate_dst (N := 14) rfl ?_); refine Kd.R_lit (Kd.int .u8) (w0 := w) w.heap.size 5 ?hg (N := 14) ?hd (xs := ([] : List Int)) (inner := []) (ok := fun _ => True) (okp := fun _ => True) ?hr ?hp (fun _ hk => hk) trivial HB.out (below_size HB.out) (by simp) ?_; (case hd => rfl); (case hg => rfl); (case hr => first | (go_simp; done) | (go_simp; rfl)); (case hp => exact (Reps.none _ _)); intro v2 w3 ho3 hb hg_ hnew_; rw [← N1.out] at ho3; have n1_ := Aside0.mk (blk_grown BK1.out hg_ (by simp)); clear hg_ hnew_; have HO := Aside0.mk ho3; clear HB BK1 ho3; have HB := Aside0.mk hb; have BK1 := n1_; clear n1_ hb)
          | ((with_reducible refine gate_builtin (b := .append) (xs := #[.tmp 14, .tmp 15]) rfl ?_); refine Kd.R_append_rows (Kd.int .u8) (w0 := w) w.heap.size rfl (.tmp 14) (.tmp 15) 24 5 (.int .u8 0) 1 rfl Tryd.underlying24 info5 rfl (by decide) (by omega) v2 y1 l1 _ _ _ (fun _ => True) (fun _ => False) rfl rfl ?aO ?aR (fun _ _ h => h) (fun _ h => h.elim) ?aF ?aB ?aS ?aL ?_; (case aR => exact Kd.C_below HR1.out HB.out); (case aB => exact HB.out); (case aF => exact (fun _ _ => trivial)); (case aO => exact HO.out); (case aS => exact (below_size HB.out)); (case aL => have := HLen.out; rw [N1.out]; simp; omega); intro v4 w4 ho hb hg hat; have n1_ := Aside0.mk (blk_grown BK1.out hg (Kd.R_ne HO.out BK1.out (by decide))); rw [N1.out, List.nil_append] at ho; obtain ⟨Al, cl, rfl⟩ := Kd.R_slice ho; have HC := Aside0.mk (Kd.R_reads' ho).2.2; have hcl := Aside0.mk (Kd.R_reads' ho).2.1; clear HB BK1 HO ho hg hat; have HB := Aside0.mk hb; have BK1 := n1_; clear n1_ hb; have hk0 := (blk_cell BK1.out 0).trans rfl; have hk1 := (blk_cell BK1.out 1).trans rfl)
          | ((with_reducible refine (flintref02_May.calls a0_0 a0_1 true _ AM.out).mono ?_); rintro e w5 ⟨rfl, hb⟩; clear hk0 hk1; have n0_ := Aside0.mk (below_step HB.out hb); have n1_ := Aside0.mk (blk_below BK1.out hb); have n2_ := Aside0.mk (Kd.C_below HC.out hb); clear HB BK1 HC hb; have HB := n0_; have BK1 := n1_; have HC := n2_; clear n0_ n1_ n2_; have hk0 := (blk_cell BK1.out 0).trans rfl; have hk1 := (blk_cell BK1.out 1).trans rfl)
          | ((with_reducible refine gate_callee (f := 10) rfl ?_); refine goesL_ (some 30) rfl rfl Tryd.func10 (by kernel_rfl) rfl #[.agg #[.int .i64 a0_0, .int .i64 a0_1], .slice Al l1.length cl] rfl (by (try simp only [List.map_toArray, List.map_cons, List.map_nil]); first | done | rfl) ?_; (with_reducible refine (flintlaw05_sector.calls k a0_0 a0_1 Al cl l1 y3 _ HC.out hcl.out AS.out).mono ?_); rintro e w8 ⟨v_, rfl, ho, hb⟩; refine ⟨_, rfl, ?_⟩; obtain ⟨A3, c3, rfl⟩ := Kd.R_slice ho; clear hk0 hk1 HC hcl; have HC := Aside0.mk (Kd.R_reads' ho).2.2; have hcl := Aside0.mk (Kd.R_reads' ho).2.1; have n0_ := Aside0.mk (below_step HB.out hb); have n1_ := Aside0.mk (blk_below BK1.out hb); clear HB BK1 hb ho; have HB := n0_; have BK1 := n1_; clear n0_ n1_))
        have n0_ := Aside0.mk (below_drew1 HB.out)
        have n1_ := Aside0.mk (blk_drew BK1.out)
        have n2_ := Aside0.mk (Kd.C_drew HC.out)
        clear HB BK1 HC 
        have HB := n0_
        have BK1 := n1_
        have HC := n2_
        clear n0_ n1_ n2_
        refine start_ (n := 11) (S := fun w' => w'.cell? ⟨g1, 0, none⟩ = some (.int .i64 a0_0) ∧ w'.cell? ⟨g1, 1, none⟩ = some (.int .i64 a0_1)) (ds := []) #[false, false, false, false, false, false, false, false, false, false, false] (by kernel_rfl) rfl rfl ⟨(blk_cell BK1.out 0).trans rfl, (blk_cell BK1.out 1).trans rfl⟩ (fun hHeld => ?_)
        generalize w8.drew = wd at HB BK1 HC hHeld ⊢
        refine one_ (i := 0) (N := some 31) #[true, false, false, false, false, false, false, false, false, false, false] rfl rfl (by kernel_rfl) (by decide) (fun K hK => ?_)
        refine goes_ Tryd.func7 (by kernel_rfl) rfl #[] (by rfl) rfl rfl (by (try simp only [List.map_toArray, List.map_cons, List.map_nil]); first | done | rfl) ?_
        with_reducible refine (flintlaw05_fixed.calls k true _ AF.out (Ex.below HT.out HB.out)).mono ?_
        rintro e we ⟨rfl, hb⟩
        refine ⟨_, rfl, ?_⟩
        have n0_ := Aside0.mk (below_step HB.out hb)
        have n1_ := Aside0.mk (blk_below BK1.out hb)
        have n2_ := Aside0.mk (Kd.C_below HC.out hb)
        clear HB BK1 HC hb
        have HB := n0_
        have BK1 := n1_
        have HC := n2_
        clear n0_ n1_ n2_
        refine hK.out _ _ ⟨(blk_cell BK1.out 0).trans rfl, (blk_cell BK1.out 1).trans rfl⟩ (fun hHeld => ?_)
        clear hK K
        refine norm_ (a' := ?_) ?_ ?_
        rotate_left
        · show Act.put _ (some 31) _ = _
          simp only [Act.put, List.setIfInBounds_toArray, List.set_cons_zero, List.set_cons_succ, i64_w, i32_w]
          rfl
        refine pure_ (i := 1) (N := some 32) (v := ?_) (a' := ?_) #[true, true, false, false, false, false, false, false, false, false, false] rfl rfl (by kernel_rfl) (fun _ _ _ h => h) (Or.inl ⟨by rfl, ?_⟩) ?_ ?_
        rotate_left
        · intro w'
          go_simp
          with_reducible rfl
        rotate_left
        · simp only [Act.put, List.setIfInBounds_toArray, List.set_cons_zero, List.set_cons_succ, i64_w, i32_w]
          rfl
        refine take_ (i := 2) (N := some 33) (v := ?_) (a' := ?_) #[true, true, true, false, false, false, false, false, false, false, false] rfl rfl (by kernel_rfl) (fun _ _ _ h => h) (Or.inl ⟨by rfl, ?_⟩) hHeld ?_ ?_
        rotate_left
        · rintro w' ⟨s0, s1⟩
          go_simp
          with_reducible rfl
        rotate_left
        · simp only [Act.put, List.setIfInBounds_toArray, List.set_cons_zero, List.set_cons_succ, i64_w, i32_w]
          rfl
        refine pure_ (i := 3) (N := some 34) (v := ?_) (a' := ?_) #[true, true, true, true, false, false, false, false, false, false, false] rfl rfl (by kernel_rfl) (fun _ _ _ h => h) (Or.inl ⟨by rfl, ?_⟩) ?_ ?_
        rotate_left
        · intro w'
          go_simp
          with_reducible rfl
        rotate_left
        · simp only [Act.put, List.setIfInBounds_toArray, List.set_cons_zero, List.set_cons_succ, i64_w, i32_w]
          rfl
        refine take_ (i := 5) (N := some 36) (v := ?_) (a' := ?_) #[true, true, true, true, false, true, false, false, false, false, false] rfl rfl (by kernel_rfl) (fun _ _ _ h => h) (Or.inl ⟨by rfl, ?_⟩) hHeld ?_ ?_
        rotate_left
        · rintro w' ⟨s0, s1⟩
          go_simp
          with_reducible rfl
        rotate_left
        · simp only [Act.put, List.setIfInBounds_toArray, List.set_cons_zero, List.set_cons_succ, i64_w, i32_w]
          rfl
        refine pure_ (i := 6) (N := some 37) (v := ?_) (a' := ?_) #[true, true, true, true, false, true, true, false, false, false, false] rfl rfl (by kernel_rfl) (fun _ _ _ h => h) (Or.inl ⟨by rfl, ?_⟩) ?_ ?_
        rotate_left
        · intro w'
          go_simp
          with_reducible rfl
        rotate_left
        · simp only [Act.put, List.setIfInBounds_toArray, List.set_cons_zero, List.set_cons_succ, i64_w, i32_w]
          rfl
        refine one_ (i := 4) (N := some 35) #[true, true, true, true, true, true, true, false, false, false, false] rfl rfl (by kernel_rfl) (by decide) (fun K hK => ?_)
        refine goes_ Tryd.func11 (by kernel_rfl) rfl #[.agg #[.int .i64 a0_0, .int .i64 a0_1], .slice A3 y3.length c3] (by rfl) rfl rfl (by (try simp only [List.map_toArray, List.map_cons, List.map_nil]); first | done | rfl) ?_
        with_reducible refine (head_Class.calls k a0_0 a0_1 A3 c3 y3 t5 _ HC.out hcl.out A5.out).mono ?_
        rintro e wf ⟨rfl, hb⟩
        refine ⟨_, rfl, ?_⟩
        have n0_ := Aside0.mk (below_step HB.out hb)
        have n1_ := Aside0.mk (blk_below BK1.out hb)
        have n2_ := Aside0.mk (Kd.C_below HC.out hb)
        clear HB BK1 HC hb
        have HB := n0_
        have BK1 := n1_
        have HC := n2_
        clear n0_ n1_ n2_
        refine hK.out _ _ ⟨(blk_cell BK1.out 0).trans rfl, (blk_cell BK1.out 1).trans rfl⟩ (fun hHeld => ?_)
        clear hK K
        refine norm_ (a' := ?_) ?_ ?_
        rotate_left
        · show Act.put _ (some 35) _ = _
          simp only [Act.put, List.setIfInBounds_toArray, List.set_cons_zero, List.set_cons_succ, i64_w, i32_w]
          rfl
        refine one_ (i := 7) (N := some 38) #[true, true, true, true, true, true, true, true, false, false, false] rfl rfl (by kernel_rfl) (by decide) (fun K hK => ?_)
        refine goes_ Tryd.func12 (by kernel_rfl) rfl #[.agg #[.int .i64 a0_0, .int .i64 a0_1], .slice A3 y3.length c3] (by rfl) rfl rfl (by (try simp only [List.map_toArray, List.map_cons, List.map_nil]); first | done | rfl) ?_
        with_reducible refine (flintref05_Class.calls k a0_0 a0_1 A3 c3 y3 t5 _ HC.out hcl.out A6.out).mono ?_
        rintro e wg ⟨rfl, hb⟩
        refine ⟨_, rfl, ?_⟩
        have n0_ := Aside0.mk (below_step HB.out hb)
        have n1_ := Aside0.mk (blk_below BK1.out hb)
        have n2_ := Aside0.mk (Kd.C_below HC.out hb)
        clear HB BK1 HC hb
        have HB := n0_
        have BK1 := n1_
        have HC := n2_
        clear n0_ n1_ n2_
        refine hK.out _ _ ⟨(blk_cell BK1.out 0).trans rfl, (blk_cell BK1.out 1).trans rfl⟩ (fun hHeld => ?_)
        clear hK K
        refine norm_ (a' := ?_) ?_ ?_
        rotate_left
        · show Act.put _ (some 38) _ = _
          simp only [Act.put, List.setIfInBounds_toArray, List.set_cons_zero, List.set_cons_succ, i64_w, i32_w]
          rfl
        refine pure_ (i := 8) (N := some 39) (v := ?_) (a' := ?_) #[true, true, true, true, true, true, true, true, true, false, false] rfl rfl (by kernel_rfl) (fun _ _ _ h => h) (Or.inl ⟨by rfl, ?_⟩) ?_ ?_
        rotate_left
        · intro w'
          go_simp
          with_reducible rfl
        rotate_left
        · simp only [Act.put, List.setIfInBounds_toArray, List.set_cons_zero, List.set_cons_succ, i64_w, i32_w]
          rfl
        refine pure_ (i := 9) (N := some 40) (v := ?_) (a' := ?_) #[true, true, true, true, true, true, true, true, true, true, false] rfl rfl (by kernel_rfl) (fun _ _ _ h => h) (Or.inl ⟨by rfl, ?_⟩) ?_ ?_
        rotate_left
        · intro w'
          go_simp
          with_reducible rfl
        rotate_left
        · simp only [Act.put, List.setIfInBounds_toArray, List.set_cons_zero, List.set_cons_succ, i64_w, i32_w]
          rfl
        refine pure_ (i := 10) (N := some 8) (v := ?_) (a' := ?_) #[true, true, true, true, true, true, true, true, true, true, true] rfl rfl (by kernel_rfl) (fun _ _ _ h => h) (Or.inl ⟨by rfl, ?_⟩) ?_ ?_
        rotate_left
        · intro w'
          go_simp
          with_reducible rfl
        rotate_left
        · simp only [Act.put, List.setIfInBounds_toArray, List.set_cons_zero, List.set_cons_succ, i64_w, i32_w]
          rfl
        refine done_ (by kernel_rfl) ?_
        clear hHeld
        try go_wp2
        go_ret
        exact ⟨rfl, HB.out⟩
      | true =>
        rw [if_pos rfl] at hrow
        obtain ⟨s, hs, hrow⟩ := Option.bind_eq_some_iff.mp hrow
        have AO := Aside0.mk hs
        clear hs
        by_cases cs : s.size ≤ 8
        rotate_left
        · rw [if_neg cs] at hrow; cases hrow
        rw [if_pos cs] at hrow
        have HSz := Aside0.mk cs
        clear cs
        obtain ⟨y2, hy2⟩ : ∃ y2 : List Int, y2 = bytesOf s ++ l1 := ⟨_, rfl⟩
        rw [← hy2] at hrow
        have Ny2 := Aside0.mk hy2
        clear hy2
        obtain ⟨y3, hy3⟩ : ∃ y3, y3 = y := ⟨_, rfl⟩
        subst hy3
        have AS := Aside0.mk hrow
        clear hrow
        go_enter Tryd.func3, Tryd.ntmps3
        go_wp2_with (first
          | ((with_reducible refine gate_dst (N := 4) rfl ?_); refine box_event ?hg (N := 4) ?hd (cs := #[.int .i64 a0_0, .int .i64 a0_1]) (t := 23) ?hr ?_; (case hd => rfl); (case hg => rfl); (case hr => first | (go_simp; done) | (go_simp; rfl)); intro g1 hg w1 hbox hb; have BK1 := Aside0.mk hbox; have n0_ := Aside0.mk (below_step HB.out hb); clear HB; have HB := n0_; clear n0_ hb hbox hg)
          | ((with_reducible refine gate_dst (N := 14) rfl ?_); refine Kd.R_lit (Kd.int .u8) (w0 := w) w.heap.size 5 ?hg (N := 14) ?hd (xs := ([] : List Int)) (inner := []) (ok := fun _ => True) (okp := fun _ => True) ?hr ?hp (fun _ hk => hk) trivial HB.out (below_size HB.out) (by simp) ?_; (case hd => rfl); (case hg => rfl); (case hr => first | (go_simp; done) | (go_simp; rfl)); (case hp => exact (Reps.none _ _)); intro v2 w3 ho3 hb hg_ hnew_; rw [← N1.out] at ho3; have n1_ := Aside0.mk (blk_grown BK1.out hg_ (by simp)); clear hg_ hnew_; have HO := Aside0.mk ho3; clear HB BK1 ho3; have HB := Aside0.mk hb; have BK1 := n1_; clear n1_ hb)
          | ((with_reducible refine gate_builtin (b := .append) (xs := #[.tmp 14, .tmp 15]) rfl ?_); refine Kd.R_append_rows (Kd.int .u8) (w0 := w) w.heap.size rfl (.tmp 14) (.tmp 15) 24 5 (.int .u8 0) 1 rfl Tryd.underlying24 info5 rfl (by decide) (by omega) v2 y1 l1 _ _ _ (fun _ => True) (fun _ => False) rfl rfl ?aO ?aR (fun _ _ h => h) (fun _ h => h.elim) ?aF ?aB ?aS ?aL ?_; (case aR => exact Kd.C_below HR1.out HB.out); (case aB => exact HB.out); (case aF => exact (fun _ _ => trivial)); (case aO => exact HO.out); (case aS => exact (below_size HB.out)); (case aL => have := HLen.out; rw [N1.out]; simp; omega); intro v4 w4 ho hb hg hat; have n1_ := Aside0.mk (blk_grown BK1.out hg (Kd.R_ne HO.out BK1.out (by decide))); rw [N1.out, List.nil_append] at ho; obtain ⟨Al, cl, rfl⟩ := Kd.R_slice ho; have HC := Aside0.mk (Kd.R_reads' ho).2.2; have hcl := Aside0.mk (Kd.R_reads' ho).2.1; clear HB BK1 HO ho hg hat; have HB := Aside0.mk hb; have BK1 := n1_; clear n1_ hb; have hk0 := (blk_cell BK1.out 0).trans rfl; have hk1 := (blk_cell BK1.out 1).trans rfl)
          | ((with_reducible refine (flintref02_May.calls a0_0 a0_1 true _ AM.out).mono ?_); rintro e w5 ⟨rfl, hb⟩; clear hk0 hk1; have n0_ := Aside0.mk (below_step HB.out hb); have n1_ := Aside0.mk (blk_below BK1.out hb); have n2_ := Aside0.mk (Kd.C_below HC.out hb); clear HB BK1 HC hb; have HB := n0_; have BK1 := n1_; have HC := n2_; clear n0_ n1_ n2_; have hk0 := (blk_cell BK1.out 0).trans rfl; have hk1 := (blk_cell BK1.out 1).trans rfl)
          | ((with_reducible refine gate_callee (f := 9) rfl ?_); refine goesL_ (some 24) rfl rfl Tryd.func9 (by kernel_rfl) rfl #[.agg #[.int .i64 a0_0, .int .i64 a0_1]] rfl (by (try simp only [List.map_toArray, List.map_cons, List.map_nil]); first | done | rfl) ?_; (with_reducible refine (flintref05_Of.calls k a0_0 a0_1 s _ AO.out).mono ?_); rintro e w6 ⟨rfl, hb⟩; refine ⟨_, rfl, ?_⟩; clear hk0 hk1; have n0_ := Aside0.mk (below_step HB.out hb); have n1_ := Aside0.mk (blk_below BK1.out hb); have n2_ := Aside0.mk (Kd.C_below HC.out hb); clear HB BK1 HC hb; have HB := n0_; have BK1 := n1_; have HC := n2_; clear n0_ n1_ n2_; have kb := print_bytes (P := Tryd.prog) 9 24 5 Tryd.underlying9 Tryd.underlying24 Tryd.underlying5 s w6)
          | ((with_reducible refine gate_builtin (b := .append) (xs := #[.tmp 25, .tmp 26]) rfl ?_); clear kb; refine Marked.append_marked (P := Tryd.prog) (w0 := w) (W := Lib.bytesWorld w6 5 s) w.heap.size rfl (.tmp 25) (.tmp 26) 24 5 rfl Tryd.underlying24 info5 (xs := bytesOf s) (ys := l1) rfl (Marked.bytes_cap w6 5 s) rfl (Marked.bytes_marked w6 5 s) (Kd.C_below HC.out (bytes_below (Below.refl _ _) (Nat.le_refl _) _ _)) (by have := HLen.out; have := HSz.out; omega) (bytes_below HB.out (below_size HB.out) _ _) (Nat.le_trans (below_size HB.out) (by rw [Lib.bytesWorld_size]; omega)) (below_size HB.out) ?_; intro Ay cy w7 hcy hC hb hold; have n1_ := Aside0.mk (show w7.heap[g1]? = some (.cells #[.int .i64 a0_0, .int .i64 a0_1] 23 (0, 0)) from (hold g1 (by rw [Lib.bytesWorld_size]; exact Nat.lt_succ_of_lt (blk_lt BK1.out)) (Nat.ne_of_lt (blk_lt BK1.out))).trans ((Lib.bytesWorld_at_old w6 _ s g1 (blk_lt BK1.out)).trans BK1.out)); clear hold HC hcl HB BK1; rw [← Ny2.out] at hcy hC ⊢; have HC := Aside0.mk hC; have hcl := Aside0.mk hcy; have HB := Aside0.mk hb; have BK1 := n1_; clear n1_ hb hC hcy; have hk0 := (blk_cell BK1.out 0).trans rfl; have hk1 := (blk_cell BK1.out 1).trans rfl)
          | ((with_reducible refine gate_callee (f := 10) rfl ?_); refine goesL_ (some 30) rfl rfl Tryd.func10 (by kernel_rfl) rfl #[.agg #[.int .i64 a0_0, .int .i64 a0_1], .slice Ay y2.length cy] rfl (by (try simp only [List.map_toArray, List.map_cons, List.map_nil]); first | done | rfl) ?_; (with_reducible refine (flintlaw05_sector.calls k a0_0 a0_1 Ay cy y2 y3 _ HC.out hcl.out AS.out).mono ?_); rintro e w8 ⟨v_, rfl, ho, hb⟩; refine ⟨_, rfl, ?_⟩; obtain ⟨A3, c3, rfl⟩ := Kd.R_slice ho; clear hk0 hk1 HC hcl; have HC := Aside0.mk (Kd.R_reads' ho).2.2; have hcl := Aside0.mk (Kd.R_reads' ho).2.1; have n0_ := Aside0.mk (below_step HB.out hb); have n1_ := Aside0.mk (blk_below BK1.out hb); clear HB BK1 hb ho; have HB := n0_; have BK1 := n1_; clear n0_ n1_))
        have n0_ := Aside0.mk (below_drew1 HB.out)
        have n1_ := Aside0.mk (blk_drew BK1.out)
        have n2_ := Aside0.mk (Kd.C_drew HC.out)
        clear HB BK1 HC 
        have HB := n0_
        have BK1 := n1_
        have HC := n2_
        clear n0_ n1_ n2_
        refine start_ (n := 11) (S := fun w' => w'.cell? ⟨g1, 0, none⟩ = some (.int .i64 a0_0) ∧ w'.cell? ⟨g1, 1, none⟩ = some (.int .i64 a0_1)) (ds := []) #[false, false, false, false, false, false, false, false, false, false, false] (by kernel_rfl) rfl rfl ⟨(blk_cell BK1.out 0).trans rfl, (blk_cell BK1.out 1).trans rfl⟩ (fun hHeld => ?_)
        generalize w8.drew = wd at HB BK1 HC hHeld ⊢
        refine one_ (i := 0) (N := some 31) #[true, false, false, false, false, false, false, false, false, false, false] rfl rfl (by kernel_rfl) (by decide) (fun K hK => ?_)
        refine goes_ Tryd.func7 (by kernel_rfl) rfl #[] (by rfl) rfl rfl (by (try simp only [List.map_toArray, List.map_cons, List.map_nil]); first | done | rfl) ?_
        with_reducible refine (flintlaw05_fixed.calls k true _ AF.out (Ex.below HT.out HB.out)).mono ?_
        rintro e we ⟨rfl, hb⟩
        refine ⟨_, rfl, ?_⟩
        have n0_ := Aside0.mk (below_step HB.out hb)
        have n1_ := Aside0.mk (blk_below BK1.out hb)
        have n2_ := Aside0.mk (Kd.C_below HC.out hb)
        clear HB BK1 HC hb
        have HB := n0_
        have BK1 := n1_
        have HC := n2_
        clear n0_ n1_ n2_
        refine hK.out _ _ ⟨(blk_cell BK1.out 0).trans rfl, (blk_cell BK1.out 1).trans rfl⟩ (fun hHeld => ?_)
        clear hK K
        refine norm_ (a' := ?_) ?_ ?_
        rotate_left
        · show Act.put _ (some 31) _ = _
          simp only [Act.put, List.setIfInBounds_toArray, List.set_cons_zero, List.set_cons_succ, i64_w, i32_w]
          rfl
        refine pure_ (i := 1) (N := some 32) (v := ?_) (a' := ?_) #[true, true, false, false, false, false, false, false, false, false, false] rfl rfl (by kernel_rfl) (fun _ _ _ h => h) (Or.inl ⟨by rfl, ?_⟩) ?_ ?_
        rotate_left
        · intro w'
          go_simp
          with_reducible rfl
        rotate_left
        · simp only [Act.put, List.setIfInBounds_toArray, List.set_cons_zero, List.set_cons_succ, i64_w, i32_w]
          rfl
        refine take_ (i := 2) (N := some 33) (v := ?_) (a' := ?_) #[true, true, true, false, false, false, false, false, false, false, false] rfl rfl (by kernel_rfl) (fun _ _ _ h => h) (Or.inl ⟨by rfl, ?_⟩) hHeld ?_ ?_
        rotate_left
        · rintro w' ⟨s0, s1⟩
          go_simp
          with_reducible rfl
        rotate_left
        · simp only [Act.put, List.setIfInBounds_toArray, List.set_cons_zero, List.set_cons_succ, i64_w, i32_w]
          rfl
        refine pure_ (i := 3) (N := some 34) (v := ?_) (a' := ?_) #[true, true, true, true, false, false, false, false, false, false, false] rfl rfl (by kernel_rfl) (fun _ _ _ h => h) (Or.inl ⟨by rfl, ?_⟩) ?_ ?_
        rotate_left
        · intro w'
          go_simp
          with_reducible rfl
        rotate_left
        · simp only [Act.put, List.setIfInBounds_toArray, List.set_cons_zero, List.set_cons_succ, i64_w, i32_w]
          rfl
        refine take_ (i := 5) (N := some 36) (v := ?_) (a' := ?_) #[true, true, true, true, false, true, false, false, false, false, false] rfl rfl (by kernel_rfl) (fun _ _ _ h => h) (Or.inl ⟨by rfl, ?_⟩) hHeld ?_ ?_
        rotate_left
        · rintro w' ⟨s0, s1⟩
          go_simp
          with_reducible rfl
        rotate_left
        · simp only [Act.put, List.setIfInBounds_toArray, List.set_cons_zero, List.set_cons_succ, i64_w, i32_w]
          rfl
        refine pure_ (i := 6) (N := some 37) (v := ?_) (a' := ?_) #[true, true, true, true, false, true, true, false, false, false, false] rfl rfl (by kernel_rfl) (fun _ _ _ h => h) (Or.inl ⟨by rfl, ?_⟩) ?_ ?_
        rotate_left
        · intro w'
          go_simp
          with_reducible rfl
        rotate_left
        · simp only [Act.put, List.setIfInBounds_toArray, List.set_cons_zero, List.set_cons_succ, i64_w, i32_w]
          rfl
        refine one_ (i := 4) (N := some 35) #[true, true, true, true, true, true, true, false, false, false, false] rfl rfl (by kernel_rfl) (by decide) (fun K hK => ?_)
        refine goes_ Tryd.func11 (by kernel_rfl) rfl #[.agg #[.int .i64 a0_0, .int .i64 a0_1], .slice A3 y3.length c3] (by rfl) rfl rfl (by (try simp only [List.map_toArray, List.map_cons, List.map_nil]); first | done | rfl) ?_
        with_reducible refine (head_Class.calls k a0_0 a0_1 A3 c3 y3 t5 _ HC.out hcl.out A5.out).mono ?_
        rintro e wf ⟨rfl, hb⟩
        refine ⟨_, rfl, ?_⟩
        have n0_ := Aside0.mk (below_step HB.out hb)
        have n1_ := Aside0.mk (blk_below BK1.out hb)
        have n2_ := Aside0.mk (Kd.C_below HC.out hb)
        clear HB BK1 HC hb
        have HB := n0_
        have BK1 := n1_
        have HC := n2_
        clear n0_ n1_ n2_
        refine hK.out _ _ ⟨(blk_cell BK1.out 0).trans rfl, (blk_cell BK1.out 1).trans rfl⟩ (fun hHeld => ?_)
        clear hK K
        refine norm_ (a' := ?_) ?_ ?_
        rotate_left
        · show Act.put _ (some 35) _ = _
          simp only [Act.put, List.setIfInBounds_toArray, List.set_cons_zero, List.set_cons_succ, i64_w, i32_w]
          rfl
        refine one_ (i := 7) (N := some 38) #[true, true, true, true, true, true, true, true, false, false, false] rfl rfl (by kernel_rfl) (by decide) (fun K hK => ?_)
        refine goes_ Tryd.func12 (by kernel_rfl) rfl #[.agg #[.int .i64 a0_0, .int .i64 a0_1], .slice A3 y3.length c3] (by rfl) rfl rfl (by (try simp only [List.map_toArray, List.map_cons, List.map_nil]); first | done | rfl) ?_
        with_reducible refine (flintref05_Class.calls k a0_0 a0_1 A3 c3 y3 t5 _ HC.out hcl.out A6.out).mono ?_
        rintro e wg ⟨rfl, hb⟩
        refine ⟨_, rfl, ?_⟩
        have n0_ := Aside0.mk (below_step HB.out hb)
        have n1_ := Aside0.mk (blk_below BK1.out hb)
        have n2_ := Aside0.mk (Kd.C_below HC.out hb)
        clear HB BK1 HC hb
        have HB := n0_
        have BK1 := n1_
        have HC := n2_
        clear n0_ n1_ n2_
        refine hK.out _ _ ⟨(blk_cell BK1.out 0).trans rfl, (blk_cell BK1.out 1).trans rfl⟩ (fun hHeld => ?_)
        clear hK K
        refine norm_ (a' := ?_) ?_ ?_
        rotate_left
        · show Act.put _ (some 38) _ = _
          simp only [Act.put, List.setIfInBounds_toArray, List.set_cons_zero, List.set_cons_succ, i64_w, i32_w]
          rfl
        refine pure_ (i := 8) (N := some 39) (v := ?_) (a' := ?_) #[true, true, true, true, true, true, true, true, true, false, false] rfl rfl (by kernel_rfl) (fun _ _ _ h => h) (Or.inl ⟨by rfl, ?_⟩) ?_ ?_
        rotate_left
        · intro w'
          go_simp
          with_reducible rfl
        rotate_left
        · simp only [Act.put, List.setIfInBounds_toArray, List.set_cons_zero, List.set_cons_succ, i64_w, i32_w]
          rfl
        refine pure_ (i := 9) (N := some 40) (v := ?_) (a' := ?_) #[true, true, true, true, true, true, true, true, true, true, false] rfl rfl (by kernel_rfl) (fun _ _ _ h => h) (Or.inl ⟨by rfl, ?_⟩) ?_ ?_
        rotate_left
        · intro w'
          go_simp
          with_reducible rfl
        rotate_left
        · simp only [Act.put, List.setIfInBounds_toArray, List.set_cons_zero, List.set_cons_succ, i64_w, i32_w]
          rfl
        refine pure_ (i := 10) (N := some 8) (v := ?_) (a' := ?_) #[true, true, true, true, true, true, true, true, true, true, true] rfl rfl (by kernel_rfl) (fun _ _ _ h => h) (Or.inl ⟨by rfl, ?_⟩) ?_ ?_
        rotate_left
        · intro w'
          go_simp
          with_reducible rfl
        rotate_left
        · simp only [Act.put, List.setIfInBounds_toArray, List.set_cons_zero, List.set_cons_succ, i64_w, i32_w]
          rfl
        refine done_ (by kernel_rfl) ?_
        clear hHeld
        try go_wp2
        go_ret
        exact ⟨rfl, HB.out⟩
/-- THE ONE PURE STATEMENT of flintlaw05_HeadClass. -/
def flintlaw05_HeadClass.Pure : Prop := ∀ (a0_0 a0_1 : Int) (l1 : List Int) (a2 a3 : Bool), (Lit.int .i64 a0_0).wf = true → (Lit.int .i64 a0_1).wf = true → l1.length ≤ maxLen → (∀ x ∈ l1, (Lit.int .u8 x).wf = true) → ∃ k, flintlaw05_HeadClass.f k a0_0 a0_1 l1 a2 a3 = some true
theorem flintlaw05_HeadClass.walk (P : flintlaw05_HeadClass.Pure) (a0_0 a0_1 : Int) (a1 : Option Addr) (len1 cap1 : Nat) (z1 : List Int) (a2 a3 : Bool) (w : World) (w0 : (Lit.int .i64 a0_0).wf = true) (w0' : (Lit.int .i64 a0_1).wf = true) (w1 : (a1 = none ∧ len1 = 0 ∧ cap1 = 0 ∧ z1 = []) ∨ ∃ x, a1 = some x ∧ len1 ≤ cap1 ∧ cap1 ≤ maxLen ∧ z1.length = cap1 ∧ (∀ i, i < z1.length → w.cell? (x.add i) = some (.int .u8 (z1.getD i 0))) ∧ ∀ n ∈ z1, (Lit.int .u8 n).wf = true) (hT0 : Ex w) :
    Calls Tryd.prog 3 #[.agg #[.int .i64 a0_0, .int .i64 a0_1], .slice a1 len1 cap1, .bool a2, .bool a3] w fun e w' => e = .returned (.bool true) ∧ Below w.heap.size w w' := by
  obtain ⟨l1, rfl, hr1, hm1, hw1, hc1⟩ := ReadsInt.ofRowC w1
  obtain ⟨k, h⟩ := P a0_0 a0_1 l1 a2 a3 w0 w0' hm1 hw1
  exact flintlaw05_HeadClass.calls k a0_0 a0_1 _ _ l1 a2 a3 w (Kd.C_of_reads (d := (0 : Int)) (h1 := fun _ => rfl) hr1) hc1 h hT0

/-! ### head_Death: function 14 -/
def head_Death.f  : Option (List Int) := if 8 ≤ 281474976710656 then (some (List.replicate 8 0)) else (none)
set_option maxHeartbeats 8000000 in
set_option maxRecDepth 100000 in
theorem head_Death.calls  (r : List Int) (w : World) (h : head_Death.f  = some r) :
    Calls Tryd.prog 14 #[] w fun e w' => ∃ v0_ : Value, e = .returned (v0_) ∧ Kd.R (Kd.int .u8) 5 w' w.heap.size (fun _ => True) v0_ r ∧ Below w.heap.size w w' := by
  have HB := Aside0.mk (Below.refl w.heap.size w)
  have H : (if 8 ≤ 281474976710656 then (some (List.replicate 8 0)) else (none)) = some r := h
  clear h
  by_cases c1 : 8 ≤ 281474976710656
  · rw [if_pos c1] at H
    have c1b0 := eq_true c1
    have c1b1 : decide (8 ≤ 281474976710656) = true := decide_eq_true c1
    clear c1
    obtain ⟨y190, hy190⟩ : ∃ y_ : List Int, y_ = (List.replicate 8 0) := ⟨_, rfl⟩
    replace H : (some y190) = some r := by first | (rw [hy190]; with_reducible exact H) | (have H2_ := (Option.bind_some _ _).symm.trans H; rw [hy190]; with_reducible exact H2_) | (have H2_ := (Option.bind_some _ _).symm.trans H; with_reducible exact H2_) | with_reducible exact H | (rw [hy190]; exact H) | exact H
    have Ny190 := Aside0.mk hy190
    clear hy190
    obtain rfl := Option.some.inj H
    go_enter Tryd.func14, Tryd.ntmps14
    go_wp2_with (first | ((with_reducible refine gate_dst (N := 1) rfl ?_); refine Kd.R_make (Kd.int .u8) _ 5 rfl (N := 1) rfl 24 _ _ rfl 8 rfl rfl Tryd.underlying24 (.int .u8 0) 1 info5 rfl (by decide) (by omega) 0 (ok := fun _ => True) (okp := fun _ => True) rfl (fun _ hk => hk) trivial (by omega) (by omega) (Below.refl _ _) (Nat.le_refl _) ?_; intro v191 w2 ho3 hb hg_ hnew_; clear hg_ hnew_; (first | rw [← Ny190.out] at ho3 | (simp only [Int.reduceToNat] at ho3; rw [← Ny190.out] at ho3)); have n0_ := Aside0.mk (Kd.R_lower ho3 (below_size (by repeat (first | (with_reducible first | exact HB.out | apply below_alloc | apply pw_below_drewN | apply below_drew1) | exact HB.out)))); have n1_ := Aside0.mk (below_step (by repeat (first | (with_reducible first | exact HB.out | apply below_alloc | apply pw_below_drewN | apply below_drew1) | exact HB.out)) hb); clear HB; have HO192 := n0_; have HB := n1_; clear n0_ n1_; clear hb ho3))
    go_ret
    exact ⟨_, by first | rfl | (simp [errW_none, errW_some] <;> rfl) | (simp [*, errW_none, errW_some] <;> rfl), by (with_reducible repeat (first | apply Kd.R_alloc | apply Kd.R_drewN | apply Kd.R_drew)); exact HO192.out, by repeat (first | (with_reducible first | exact HB.out | apply below_alloc | apply pw_below_drewN | apply below_drew1) | exact HB.out)⟩
  · rw [if_neg c1] at H
    exact absurd H (by simp)

end Go.Proofs.YtconcmobjkpkcaaDoor.G
