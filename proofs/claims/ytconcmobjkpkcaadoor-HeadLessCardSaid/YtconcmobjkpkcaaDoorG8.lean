-- Written by wip/gen.py: the kit's print.py, with this session's own texts where it takes a function not. Not trusted: Lean checks it.
import Derived.Test.YtconcmobjkpkcaaDoorG0
import Derived.Test.YtconcmobjkpkcaaDoorG1
import Derived.Test.YtconcmobjkpkcaaDoorG2
import Derived.Test.YtconcmobjkpkcaaDoorG3
import Derived.Test.YtconcmobjkpkcaaDoorG4
import Derived.Test.YtconcmobjkpkcaaDoorG6
namespace Go.Proofs.YtconcmobjkpkcaaDoor.G
open Go.RowKit Go.Proofs.YtconcmobjkpkcaaDoorW.PrintWords Go.Proofs.YtconcmobjkpkcaaDoorW.PrintLast Go.Proofs.YtconcmobjkpkcaaDoorW.PrintMore
attribute [local go_sem] max2_int min2_int max_two min_two max_three min_three max_four min_four   -- for this text's walks alone
set_option linter.unusedVariables false
set_option linter.unusedSimpArgs false

/-! ### flintlaw05_HeadLess: function 5 -/
/-- What is left of a head that is being written. -/
def hlA (ra h : List Int) (n : Nat) (m : Int) : List Int := (Kit.cpy ra (h.take n)).set n (Go.bits .and .u8 ((Kit.cpy ra (h.take n)).getD n 0) (Go.bits .or .u8 (h.getD n 0) (Go.bits .xor .u8 255 m)))
def hlB (rb : List Int) (n : Nat) (m : Int) : List Int := (Kit.setL rb 0 (List.replicate n 0)).set n (Go.bits .andNot .u8 ((Kit.setL rb 0 (List.replicate n 0)).getD n 0) m)
def hlC (rc : List Int) (n : Nat) (m : Int) : List Int := (Kit.setL rc 0 (List.replicate n 255)).set n (Go.bits .or .u8 ((Kit.setL rc 0 (List.replicate n 255)).getD n 0) m)
/-- The end, told only where it is true. -/
def flintlaw05_HeadLess.tail (k : Nat) (g0 g1 : Int) (n : Nat) (m : Int) (h A B C : List Int) : Option Bool :=
  (head_Class.f k g0 g1 A).bind fun x => ((head_Class.f k g0 g1 B).bind fun y => ((head_Class.f k g0 g1 C).bind fun z => ((flintlaw05_fixed.f k).bind fun t =>
    (if t = true ∧ ((x == 1) != ((strOfNums (A.take 8)).toList == (strOfNums h).toList)) = false ∧ ((y == 1) != ((strOfNums (B.take 8)).toList == (strOfNums h).toList)) = false ∧ (if n = 7 then ((z == 2) == !(m == 255)) = true else z = 2) then some true else none))))
def flintlaw05_HeadLess.f (k : Nat) (a0_0 a0_1 a1 a2 : Int) : Option Bool := (flintref02_May.f a0_0 a0_1).bind fun m => (if m = true then ((head_Of.f k a0_0 a0_1).bind fun h => ((flintlaw05_sector.f k a0_0 a0_1 []).bind fun ra => ((flintlaw05_sector.f k a0_0 a0_1 h).bind fun rb => (head_Death.f.bind fun d => ((flintlaw05_sector.f k a0_0 a0_1 d).bind fun rc =>
  (if 8 ≤ ra.length ∧ 8 ≤ rb.length ∧ 8 ≤ rc.length then flintlaw05_HeadLess.tail k a0_0 a0_1 (a1 % 8).toNat a2 h (hlA ra h (a1 % 8).toNat a2) (hlB rb (a1 % 8).toNat a2) (hlC rc (a1 % 8).toNat a2) else none)))))) else (flintlaw05_fixed.f k))
theorem flintlaw05_HeadLess.open_ {k : Nat} {a0_0 a0_1 a1 a2 : Int} (H : ((head_Of.f k a0_0 a0_1).bind fun h => ((flintlaw05_sector.f k a0_0 a0_1 []).bind fun ra => ((flintlaw05_sector.f k a0_0 a0_1 h).bind fun rb => (head_Death.f.bind fun d => ((flintlaw05_sector.f k a0_0 a0_1 d).bind fun rc =>
  (if 8 ≤ ra.length ∧ 8 ≤ rb.length ∧ 8 ≤ rc.length then flintlaw05_HeadLess.tail k a0_0 a0_1 (a1 % 8).toNat a2 h (hlA ra h (a1 % 8).toNat a2) (hlB rb (a1 % 8).toNat a2) (hlC rc (a1 % 8).toNat a2) else none)))))) = some true) :
    ∃ h ra rb d rc x y z, head_Of.f k a0_0 a0_1 = some h ∧ flintlaw05_sector.f k a0_0 a0_1 [] = some ra ∧ flintlaw05_sector.f k a0_0 a0_1 h = some rb ∧ head_Death.f = some d ∧ flintlaw05_sector.f k a0_0 a0_1 d = some rc ∧ 8 ≤ ra.length ∧ 8 ≤ rb.length ∧ 8 ≤ rc.length ∧
      head_Class.f k a0_0 a0_1 (hlA ra h (a1 % 8).toNat a2) = some x ∧ head_Class.f k a0_0 a0_1 (hlB rb (a1 % 8).toNat a2) = some y ∧ head_Class.f k a0_0 a0_1 (hlC rc (a1 % 8).toNat a2) = some z ∧ flintlaw05_fixed.f k = some true ∧
      ((x == 1) != ((strOfNums ((hlA ra h (a1 % 8).toNat a2).take 8)).toList == (strOfNums h).toList)) = false ∧ ((y == 1) != ((strOfNums ((hlB rb (a1 % 8).toNat a2).take 8)).toList == (strOfNums h).toList)) = false ∧ (if (a1 % 8).toNat = 7 then ((z == 2) == !(a2 == 255)) = true else z = 2) := by
  obtain ⟨h, h1, H⟩ := Option.bind_eq_some_iff.mp H
  obtain ⟨ra, h2, H⟩ := Option.bind_eq_some_iff.mp H
  obtain ⟨rb, h3, H⟩ := Option.bind_eq_some_iff.mp H
  obtain ⟨d, h4, H⟩ := Option.bind_eq_some_iff.mp H
  obtain ⟨rc, h5, H⟩ := Option.bind_eq_some_iff.mp H
  by_cases c : 8 ≤ ra.length ∧ 8 ≤ rb.length ∧ 8 ≤ rc.length
  rotate_left
  · rw [if_neg c] at H; cases H
  rw [if_pos c] at H
  unfold flintlaw05_HeadLess.tail at H
  obtain ⟨x, h6, H⟩ := Option.bind_eq_some_iff.mp H
  obtain ⟨y, h7, H⟩ := Option.bind_eq_some_iff.mp H
  obtain ⟨z, h8, H⟩ := Option.bind_eq_some_iff.mp H
  obtain ⟨t, h9, H⟩ := Option.bind_eq_some_iff.mp H
  obtain ⟨⟨rfl, q1, q2, q3⟩, _⟩ := Option.ite_none_right_eq_some.mp H
  exact ⟨h, ra, rb, d, rc, x, y, z, h1, h2, h3, h4, h5, c.1, c.2.1, c.2.2, h6, h7, h8, h9, q1, q2, q3⟩

set_option maxHeartbeats 16000000 in
set_option maxRecDepth 100000 in
theorem flintlaw05_HeadLess.calls (k : Nat) (a0_0 a0_1 a1 a2 : Int) (w : World) (w1 : 0 ≤ a1 ∧ a1 ≤ 255) (w2 : 0 ≤ a2 ∧ a2 ≤ 255) (h : flintlaw05_HeadLess.f k a0_0 a0_1 a1 a2 = some true) (hT0 : Ex w) :
    Calls Tryd.prog 5 #[.agg #[.int .i64 a0_0, .int .i64 a0_1], .int .u8 a1, .int .u8 a2] w fun e w' => e = .returned (.bool true) ∧ Below w.heap.size w w' := by
  have hu1 := Tryd.underlying23
  have hu2 := Tryd.underlying31
  have HB := Aside0.mk (Below.refl w.heap.size w)
  have HT := Aside0.mk hT0
  clear hT0
  unfold flintlaw05_HeadLess.f at h
  obtain ⟨m, hm, h⟩ := Option.bind_eq_some_iff.mp h
  have AM := Aside0.mk hm
  clear hm
  cases m with
  | false =>
    rw [if_neg (by decide)] at h
    have AF := Aside0.mk h
    clear h w1 w2
    go_enter Tryd.func5, Tryd.ntmps5
    go_wp2_with (first
      | ((with_reducible refine gate_dst (N := 3) rfl ?_); refine box_event ?hg (N := 3) ?hd (cs := #[.int .i64 a0_0, .int .i64 a0_1]) (t := 23) ?hr ?_; (case hd => rfl); (case hg => rfl); (case hr => first | (go_simp; done) | (go_simp; rfl)); intro g3 hg w1 hbox hb; have BK3 := Aside0.mk hbox; have n0_ := Aside0.mk (below_step HB.out hb); clear HB; have HB := n0_; clear n0_ hb hbox hg; have hk0 := (blk_cell BK3.out 0).trans rfl; have hk1 := (blk_cell BK3.out 1).trans rfl)
      | ((with_reducible refine gate_callee (f := 8) rfl ?_); refine goesL_ (some 17) rfl rfl Tryd.func8 (by kernel_rfl) rfl #[.agg #[.int .i64 a0_0, .int .i64 a0_1]] rfl (by (try simp only [List.map_toArray, List.map_cons, List.map_nil]); first | done | rfl) ?_; (with_reducible refine (flintref02_May.calls a0_0 a0_1 false _ AM.out).mono ?_); rintro e w2 ⟨rfl, hb⟩; refine ⟨_, rfl, ?_⟩; clear hk0 hk1; have n0_ := Aside0.mk (below_step HB.out hb); have n1_ := Aside0.mk (blk_below BK3.out hb); clear HB BK3 hb; have HB := n0_; have BK3 := n1_; clear n0_ n1_; have hk0 := (blk_cell BK3.out 0).trans rfl; have hk1 := (blk_cell BK3.out 1).trans rfl)
      | ((with_reducible refine gate_callee (f := 7) rfl ?_); refine goesL_ (some 19) rfl rfl Tryd.func7 (by kernel_rfl) rfl #[] rfl (by (try simp only [List.map_toArray, List.map_cons, List.map_nil]); first | done | rfl) ?_; (with_reducible refine (flintlaw05_fixed.calls k true _ AF.out (Ex.below HT.out HB.out)).mono ?_); rintro e wf ⟨rfl, hb⟩; refine ⟨_, rfl, ?_⟩; have n0_ := Aside0.mk (below_step HB.out hb); clear HB hb; have HB := n0_; clear n0_))
    go_ret
    exact ⟨rfl, HB.out⟩
  | true =>
    rw [if_pos rfl] at h
    obtain ⟨h8, ra, rb, d, rc, x, y, z, A10, A20, A30, A40, A50, hla, hlb, hlc, A60, A70, A80, A90, c1, c2, c3⟩ := flintlaw05_HeadLess.open_ h
    clear h
    obtain ⟨n, hn⟩ : ∃ n : Nat, (a1 % 8).toNat = n := ⟨_, rfl⟩
    rw [hn] at A60 A70 A80 c1 c2 c3
    have HL := Aside0.mk (head_Of.length A10)
    obtain ⟨e0, e1, e2, e3, e4, e5, e6, e7, rfl⟩ := Arr.len8 HL.out
    have A1 := Aside0.mk A10
    have A2 := Aside0.mk A20
    have A3 := Aside0.mk A30
    have A4 := Aside0.mk A40
    have A5 := Aside0.mk A50
    have A6 := Aside0.mk A60
    have A7 := Aside0.mk A70
    have A8 := Aside0.mk A80
    have AF := Aside0.mk A90
    have hla := Aside0.mk hla
    have hlb := Aside0.mk hlb
    have hlc := Aside0.mk hlc
    have C1 := Aside0.mk c1
    have C2 := Aside0.mk c2
    have C3 := Aside0.mk c3
    clear A10 A20 A30 A40 A50 A60 A70 A80 A90 c1 c2 c3
    have hn8 : n < 8 := by omega
    have hm8 : a1.tmod 8 = (n : Int) := by rw [Int.tmod_eq_emod_of_nonneg w1.1]; omega
    have hw8 : wrap64 (n : Int) = (n : Int) := by unfold wrap64; omega
    have hn9 := Aside0.mk (Nat.le_of_lt hn8)
    obtain ⟨xa, hxa⟩ : ∃ x : List Int, x = Kit.cpy ra (List.take n [e0, e1, e2, e3, e4, e5, e6, e7]) := ⟨_, rfl⟩
    have NA := Aside0.mk hxa
    clear hxa
    obtain ⟨va, hva⟩ : ∃ x : Int, x = xa.getD n 0 := ⟨_, rfl⟩
    have NVA := Aside0.mk hva
    clear hva
    obtain ⟨hv, hhv⟩ : ∃ x : Int, x = [e0, e1, e2, e3, e4, e5, e6, e7].getD n 0 := ⟨_, rfl⟩
    have NHV := Aside0.mk hhv
    clear hhv
    clear hn w1 w2
    go_enter Tryd.func5, Tryd.ntmps5
    go_wp2_with (first
      | ((with_reducible refine gate_dst (N := 3) rfl ?_); refine box_event ?hg (N := 3) ?hd (cs := #[.int .i64 a0_0, .int .i64 a0_1]) (t := 23) ?hr ?_; (case hd => rfl); (case hg => rfl); (case hr => first | (go_simp; done) | (go_simp; rfl)); intro g3 hg w1 hbox hb; have BK3 := Aside0.mk hbox; have n0_ := Aside0.mk (below_step HB.out hb); clear HB; have HB := n0_; clear n0_ hb hbox hg; have hk0 := (blk_cell BK3.out 0).trans rfl; have hk1 := (blk_cell BK3.out 1).trans rfl)
      | ((with_reducible refine gate_callee (f := 8) rfl ?_); refine goesL_ (some 17) rfl rfl Tryd.func8 (by kernel_rfl) rfl #[.agg #[.int .i64 a0_0, .int .i64 a0_1]] rfl (by (try simp only [List.map_toArray, List.map_cons, List.map_nil]); first | done | rfl) ?_; (with_reducible refine (flintref02_May.calls a0_0 a0_1 true _ AM.out).mono ?_); rintro e w2 ⟨rfl, hb⟩; refine ⟨_, rfl, ?_⟩; clear hk0 hk1; have n0_ := Aside0.mk (below_step HB.out hb); have n1_ := Aside0.mk (blk_below BK3.out hb); clear HB BK3 hb; have HB := n0_; have BK3 := n1_; clear n0_ n1_; have hk0 := (blk_cell BK3.out 0).trans rfl; have hk1 := (blk_cell BK3.out 1).trans rfl)
      | ((with_reducible refine gate_callee (f := 13) rfl ?_); refine goesL_ (some 21) rfl rfl Tryd.func13 (by kernel_rfl) rfl #[.agg #[.int .i64 a0_0, .int .i64 a0_1]] rfl (by (try simp only [List.map_toArray, List.map_cons, List.map_nil]); first | done | rfl) ?_; (with_reducible refine (head_Of.calls k a0_0 a0_1 [e0, e1, e2, e3, e4, e5, e6, e7] _ A1.out).mono ?_); rintro e w3 ⟨rfl, hb⟩; refine ⟨_, rfl, ?_⟩; clear hk0 hk1; have n0_ := Aside0.mk (below_step HB.out hb); have n1_ := Aside0.mk (blk_below BK3.out hb); clear HB BK3 hb; have HB := n0_; have BK3 := n1_; clear n0_ n1_)
      | ((with_reducible refine gate_dst (N := 7) rfl ?_); refine box_event ?hg (N := 7) ?hd (cs := Arr.arr .u8 (List.replicate 8 0)) (t := 31) ?hr ?_; (case hd => rfl); (case hg => rfl); (case hr => first | (go_simp; done) | (go_simp; rfl)); intro g7 hg w4 hbox hb; have BK7 := Aside0.mk hbox; have NE37 := Aside0.mk (show g3 ≠ g7 from by rw [hg]; exact Nat.ne_of_lt (blk_lt BK3.out)); have GE7 := Aside0.mk (show w.heap.size ≤ g7 from by rw [hg]; exact below_size HB.out); have n0_ := Aside0.mk (below_step HB.out hb); have n1_ := Aside0.mk (blk_below BK3.out hb); clear HB BK3 hb hbox hg; have HB := n0_; have BK3 := n1_; clear n0_ n1_)
      | ((with_reducible refine gate_store (t := 31) (p := 7) rfl ?_); refine Arr.row_event rfl 31 (.tmp 7) (.tmp 21) rfl g7 #[.int .u8 e0, .int .u8 e1, .int .u8 e2, .int .u8 e3, .int .u8 e4, .int .u8 e5, .int .u8 e6, .int .u8 e7] rfl rfl 31 (Arr.arr .u8 (List.replicate 8 0)) BK7.out (by kernel_rfl) rfl (by first | rfl | (simp [Value.oneCell']; done) | (simp; rfl)) ?_; intro w5 hb_ hg_; have n2_ := Aside0.mk (blk_grown BK3.out hg_ (by intro e; injection e with e; exact NE37.out e)); have nb_ := Aside0.mk (HB.out.grown hg_ (below_size HB.out) (by intro q hq; injection hq with hq; subst hq; exact GE7.out)); clear HB BK3 BK7; have HB := nb_; have BK3 := n2_; have BK7 := Aside0.mk (show Arr.IsArr .u8 w5 g7 31 [e0, e1, e2, e3, e4, e5, e6, e7] from hb_); clear nb_ n2_ hb_ hg_; have hk0 := (blk_cell BK3.out 0).trans rfl; have hk1 := (blk_cell BK3.out 1).trans rfl; have hsl := fun W => RowAt.slice_h g7 n hn9.out W)
      | ((with_reducible refine gate_callee (f := 10) rfl ?_); refine goesL_ (some 26) rfl rfl Tryd.func10 (by kernel_rfl) rfl #[.agg #[.int .i64 a0_0, .int .i64 a0_1], .slice none ([] : List Int).length 0] rfl (by (try simp only [List.map_toArray, List.map_cons, List.map_nil]); first | done | rfl) ?_; (with_reducible refine (flintlaw05_sector.calls k a0_0 a0_1 none 0 [] ra _ (Kd.C_nil _ _) (Nat.le_refl _) A2.out).mono ?_); rintro e w6 ⟨v_, rfl, ho, hb⟩; refine ⟨_, rfl, ?_⟩; clear hk0 hk1; obtain ⟨ga, ca, rfl, r_, hge_, hlt_⟩ := RowAt.of_R (base := w.heap.size) ho (Nat.lt_of_lt_of_le (by decide) hla.out) (below_size HB.out); have N3a := Aside0.mk (Nat.ne_of_lt (Nat.lt_of_lt_of_le (blk_lt BK3.out) hge_)); have N7a := Aside0.mk (Nat.ne_of_lt (Nat.lt_of_lt_of_le (blk_lt BK7.out) hge_)); have GEa := Aside0.mk (Nat.le_trans (below_size HB.out) hge_); have n0_ := Aside0.mk (below_step HB.out hb); have n1_ := Aside0.mk (blk_below BK3.out hb); have n2_ := Aside0.mk (BK7.out.below hb); clear HB BK3 BK7 hb ho; have HB := n0_; have BK3 := n1_; have BK7 := n2_; clear n0_ n1_ n2_; have RA := Aside0.mk r_; clear r_ hge_ hlt_)
      | ((with_reducible refine gate_builtin (b := .copy) (xs := #[.tmp 27, .tmp 29]) rfl ?_); clear hsl; refine Kit.R_copy (P := Tryd.prog) (w0 := w) .u8 w.heap.size rfl (.tmp 27) (.tmp 29) 24 24 5 rfl Tryd.underlying24 (by kernel_rfl) (ok := fun _ => True) (xs := ra) (ys := List.take n [e0, e1, e2, e3, e4, e5, e6, e7]) rfl rfl RA.out (BK7.out.reads (n := n) hn9.out (Nat.le_trans hn9.out (by decide))) HB.out (below_size HB.out) ?_; intro z_ w7 ho hb hg; rw [← NA.out] at ho; have n2_ := Aside0.mk (blk_grown BK3.out hg (fun e => N3a.out (by simpa [Value.ownBlock] using e))); have n1_ := Aside0.mk (BK7.out.grown hg (fun e => N7a.out (by simpa [Value.ownBlock] using e))); clear HB BK3 BK7 RA; have HB := Aside0.mk hb; have BK3 := n2_; have BK7 := n1_; have RA := Aside0.mk (show RowAt.Row 5 w7 w.heap.size ga ra.length ca xa from ho); clear n1_ n2_ ho hb hg))
    try simp only [Act.put, List.setIfInBounds_toArray, List.set_cons_zero, List.set_cons_succ, i64_w, i32_w]
    have n0_ := Aside0.mk (below_drew1 HB.out)
    have n1_ := Aside0.mk (blk_drew BK3.out)
    have n2_ := Aside0.mk (show Arr.IsArr .u8 w7.drew g7 31 [e0, e1, e2, e3, e4, e5, e6, e7] from BK7.out)
    have n3_ := Aside0.mk (RA.out.below (below_drew1 (Below.refl _ _)))
    clear HB BK3 BK7 RA 
    have HB := n0_
    have BK3 := n1_
    have BK7 := n2_
    have RA := n3_
    clear n0_ n1_ n2_ n3_
    have hna : n < ra.length := Nat.lt_of_lt_of_le hn8 hla.out
    have hnb : (n : Int) < (ra.length : Int) := by omega
    have hnc : (n : Int) < 8 := by omega
    refine start_ (n := 13) (S := fun w' => w'.cell? ⟨ga, n, none⟩ = some (.int .u8 va) ∧ w'.cell? ⟨g7, n, none⟩ = some (.int .u8 hv)) (ds := [12]) #[false, false, false, false, false, false, false, false, false, false, false, false, false] (by kernel_rfl) rfl rfl ⟨by rw [NVA.out]; exact RA.out.cell n hna, by rw [NHV.out]; exact BK7.out.cell n (by simpa using hn8)⟩ (fun hHeld => ?_)
    generalize w7.drew = w8 at HB BK3 BK7 RA hHeld ⊢
    refine pure_ (i := 0) (N := some 31) (v := ?_) (a' := ?_) #[true, false, false, false, false, false, false, false, false, false, false, false, false] rfl rfl (by kernel_rfl) (fun _ _ _ h => h) (Or.inl ⟨by rfl, ?_⟩) ?_ ?_
    rotate_left
    · intro w'
      go_simp
      with_reducible rfl
    rotate_left
    · simp only [Act.put, List.setIfInBounds_toArray, List.set_cons_zero, List.set_cons_succ, i64_w, i32_w]
      rfl
    refine pure_ (i := 1) (N := some 32) (v := ?_) (a' := ?_) #[true, true, false, false, false, false, false, false, false, false, false, false, false] rfl rfl (by kernel_rfl) (fun _ _ _ h => h) (Or.inl ⟨by rfl, ?_⟩) ?_ ?_
    rotate_left
    · intro w'
      go_simp
      with_reducible rfl
    rotate_left
    · simp only [Act.put, List.setIfInBounds_toArray, List.set_cons_zero, List.set_cons_succ, i64_w, i32_w]
      rfl
    refine pure_ (i := 2) (N := some 33) (v := ?_) (a' := ?_) #[true, true, true, false, false, false, false, false, false, false, false, false, false] rfl rfl (by kernel_rfl) (fun _ _ _ h => h) (Or.inl ⟨by rfl, ?_⟩) ?_ ?_
    rotate_left
    · intro w'
      go_simp
      with_reducible rfl
    rotate_left
    · simp only [Act.put, List.setIfInBounds_toArray, List.set_cons_zero, List.set_cons_succ, i64_w, i32_w]
      rfl
    refine take_ (i := 3) (N := some 34) (v := ?_) (a' := ?_) #[true, true, true, true, false, false, false, false, false, false, false, false, false] rfl rfl (by kernel_rfl) (fun _ _ _ h => h) (Or.inl ⟨by rfl, ?_⟩) hHeld ?_ ?_
    rotate_left
    · rintro w' ⟨s0, s1⟩
      go_simp
      with_reducible rfl
    rotate_left
    · simp only [Act.put, List.setIfInBounds_toArray, List.set_cons_zero, List.set_cons_succ, i64_w, i32_w]
      rfl
    refine pure_ (i := 4) (N := some 35) (v := ?_) (a' := ?_) #[true, true, true, true, true, false, false, false, false, false, false, false, false] rfl rfl (by kernel_rfl) (fun _ _ _ h => h) (Or.inl ⟨by rfl, ?_⟩) ?_ ?_
    rotate_left
    · intro w'
      go_simp
      with_reducible rfl
    rotate_left
    · simp only [Act.put, List.setIfInBounds_toArray, List.set_cons_zero, List.set_cons_succ, i64_w, i32_w]
      rfl
    refine pure_ (i := 5) (N := some 36) (v := ?_) (a' := ?_) #[true, true, true, true, true, true, false, false, false, false, false, false, false] rfl rfl (by kernel_rfl) (fun _ _ _ h => h) (Or.inl ⟨by rfl, ?_⟩) ?_ ?_
    rotate_left
    · intro w'
      go_simp
      with_reducible rfl
    rotate_left
    · simp only [Act.put, List.setIfInBounds_toArray, List.set_cons_zero, List.set_cons_succ, i64_w, i32_w]
      rfl
    refine take_ (i := 6) (N := some 37) (v := ?_) (a' := ?_) #[true, true, true, true, true, true, true, false, false, false, false, false, false] rfl rfl (by kernel_rfl) (fun _ _ _ h => h) (Or.inl ⟨by rfl, ?_⟩) hHeld ?_ ?_
    rotate_left
    · rintro w' ⟨s0, s1⟩
      go_simp
      with_reducible rfl
    rotate_left
    · simp only [Act.put, List.setIfInBounds_toArray, List.set_cons_zero, List.set_cons_succ, i64_w, i32_w]
      rfl
    refine pure_ (i := 7) (N := some 38) (v := ?_) (a' := ?_) #[true, true, true, true, true, true, true, true, false, false, false, false, false] rfl rfl (by kernel_rfl) (fun _ _ _ h => h) (Or.inl ⟨by rfl, ?_⟩) ?_ ?_
    rotate_left
    · intro w'
      go_simp
      with_reducible rfl
    rotate_left
    · simp only [Act.put, List.setIfInBounds_toArray, List.set_cons_zero, List.set_cons_succ, i64_w, i32_w]
      rfl
    refine pure_ (i := 8) (N := some 39) (v := ?_) (a' := ?_) #[true, true, true, true, true, true, true, true, true, false, false, false, false] rfl rfl (by kernel_rfl) (fun _ _ _ h => h) (Or.inl ⟨by rfl, ?_⟩) ?_ ?_
    rotate_left
    · intro w'
      go_simp
      with_reducible rfl
    rotate_left
    · simp only [Act.put, List.setIfInBounds_toArray, List.set_cons_zero, List.set_cons_succ, i64_w, i32_w]
      rfl
    refine pure_ (i := 9) (N := some 40) (v := ?_) (a' := ?_) #[true, true, true, true, true, true, true, true, true, true, false, false, false] rfl rfl (by kernel_rfl) (fun _ _ _ h => h) (Or.inl ⟨by rfl, ?_⟩) ?_ ?_
    rotate_left
    · intro w'
      go_simp
      with_reducible rfl
    rotate_left
    · simp only [Act.put, List.setIfInBounds_toArray, List.set_cons_zero, List.set_cons_succ, i64_w, i32_w]
      rfl
    refine pure_ (i := 10) (N := some 41) (v := ?_) (a' := ?_) #[true, true, true, true, true, true, true, true, true, true, true, false, false] rfl rfl (by kernel_rfl) (fun _ _ _ h => h) (Or.inl ⟨by rfl, ?_⟩) ?_ ?_
    rotate_left
    · intro w'
      go_simp
      with_reducible rfl
    rotate_left
    · simp only [Act.put, List.setIfInBounds_toArray, List.set_cons_zero, List.set_cons_succ, i64_w, i32_w]
      rfl
    refine pure_ (i := 11) (N := some 42) (v := ?_) (a' := ?_) #[true, true, true, true, true, true, true, true, true, true, true, true, false] rfl rfl (by kernel_rfl) (fun _ _ _ h => h) (Or.inl ⟨by rfl, ?_⟩) ?_ ?_
    rotate_left
    · intro w'
      go_simp
      with_reducible rfl
    rotate_left
    · simp only [Act.put, List.setIfInBounds_toArray, List.set_cons_zero, List.set_cons_succ, i64_w, i32_w]
      rfl
    refine last_ (i := 12) (N := none) #[true, true, true, true, true, true, true, true, true, true, true, true, true] rfl rfl (by kernel_rfl) (by decide) (fun K hK => ?_)
    refine skip_ (by rfl) rfl (w1 := w8.setCell ⟨ga, n, none⟩ (.int .u8 (Go.bits .and .u8 va (Go.bits .or .u8 hv (Go.bits .xor .u8 255 a2))))) (by have hx_ := RA.out.cell n hna; have hf_ := RA.out.frozen (Nat.lt_of_lt_of_le (by decide) hla.out) n; go_simp; rfl) ?_
    refine hK.out _ _ ?_
    clear hK K
    refine done_ (by kernel_rfl) ?_
    clear hHeld hna hnb
    have hp := RA.out.put n (Go.bits .and .u8 va (Go.bits .or .u8 hv (Go.bits .xor .u8 255 a2)))
    have NXA := Aside0.mk (show xa.set n (Go.bits .and .u8 va (Go.bits .or .u8 hv (Go.bits .xor .u8 255 a2))) = hlA ra [e0, e1, e2, e3, e4, e5, e6, e7] n a2 by rw [NA.out, NVA.out, NA.out, NHV.out]; rfl)
    rw [NXA.out] at hp
    have hb := hp.2
    have n0_ := Aside0.mk (HB.out.grown hb (below_size HB.out) (by intro q hq; injection hq with hq; subst hq; exact GEa.out))
    have n1_ := Aside0.mk (blk_grown BK3.out hb (by intro e; injection e with e; exact N3a.out e))
    have n2_ := Aside0.mk (BK7.out.grown hb (by intro e; injection e with e; exact N7a.out e))
    have n3_ := Aside0.mk (hp.1)
    clear HB BK3 BK7 RA hb hp NXA
    have HB := n0_
    have BK3 := n1_
    have BK7 := n2_
    have RA := n3_
    clear n0_ n1_ n2_ n3_
    generalize w8.setCell ⟨ga, n, none⟩ (.int .u8 (Go.bits .and .u8 va (Go.bits .or .u8 hv (Go.bits .xor .u8 255 a2)))) = w9 at HB BK3 BK7 RA ⊢
    clear NVA NHV NA
    try go_wp2
    try simp only [Act.put, List.setIfInBounds_toArray, List.set_cons_zero, List.set_cons_succ, i64_w, i32_w]
    have n0_ := Aside0.mk (below_drew1 HB.out)
    have n1_ := Aside0.mk (blk_drew BK3.out)
    have n2_ := Aside0.mk (show Arr.IsArr .u8 w9.drew g7 31 [e0, e1, e2, e3, e4, e5, e6, e7] from BK7.out)
    have n3_ := Aside0.mk (RA.out.below (below_drew1 (Below.refl _ _)))
    clear HB BK3 BK7 RA 
    have HB := n0_
    have BK3 := n1_
    have BK7 := n2_
    have RA := n3_
    clear n0_ n1_ n2_ n3_
    refine start_ (n := 4) (S := fun w' => w'.cell? ⟨g3, 0, none⟩ = some (.int .i64 a0_0) ∧ w'.cell? ⟨g3, 1, none⟩ = some (.int .i64 a0_1)) (ds := []) #[false, false, false, false] (by kernel_rfl) rfl rfl ⟨(blk_cell BK3.out 0).trans rfl, (blk_cell BK3.out 1).trans rfl⟩ (fun hHeld => ?_)
    generalize w9.drew = w10 at HB BK3 BK7 RA hHeld ⊢
    refine take_ (i := 0) (N := some 43) (v := ?_) (a' := ?_) #[true, false, false, false] rfl rfl (by kernel_rfl) (fun _ _ _ h => h) (Or.inl ⟨by rfl, ?_⟩) hHeld ?_ ?_
    rotate_left
    · rintro w' ⟨s0, s1⟩
      go_simp
      with_reducible rfl
    rotate_left
    · simp only [Act.put, List.setIfInBounds_toArray, List.set_cons_zero, List.set_cons_succ, i64_w, i32_w]
      rfl
    refine pure_ (i := 1) (N := some 44) (v := ?_) (a' := ?_) #[true, true, false, false] rfl rfl (by kernel_rfl) (fun _ _ _ h => h) (Or.inl ⟨by rfl, ?_⟩) ?_ ?_
    rotate_left
    · intro w'
      go_simp
      with_reducible rfl
    rotate_left
    · simp only [Act.put, List.setIfInBounds_toArray, List.set_cons_zero, List.set_cons_succ, i64_w, i32_w]
      rfl
    have HC8 := Aside0.mk (show (Kd.int .u8).C w10 (some ⟨g7, 0, none⟩) ([e0, e1, e2, e3, e4, e5, e6, e7] : List Int).length [e0, e1, e2, e3, e4, e5, e6, e7] from BK7.out.reads (n := 8) (by simp) (by decide))
    have HL8 := Aside0.mk (show ([e0, e1, e2, e3, e4, e5, e6, e7] : List Int).length ≤ 8 from Nat.le_refl 8)
    refine one_ (i := 2) (N := some 45) #[true, true, true, false] rfl rfl (by kernel_rfl) (by decide) (fun K hK => ?_)
    refine goes_ Tryd.func10 (by kernel_rfl) rfl #[.agg #[.int .i64 a0_0, .int .i64 a0_1], .slice (some ⟨g7, 0, none⟩) ([e0, e1, e2, e3, e4, e5, e6, e7] : List Int).length 8] (by rfl) rfl rfl (by (try simp only [List.map_toArray, List.map_cons, List.map_nil]); first | done | rfl) ?_
    with_reducible refine (flintlaw05_sector.calls k a0_0 a0_1 _ 8 [e0, e1, e2, e3, e4, e5, e6, e7] rb _ HC8.out HL8.out A3.out).mono ?_
    rintro e w11 ⟨v_, rfl, ho, hb⟩
    refine ⟨_, rfl, ?_⟩
    obtain ⟨gb, cb, rfl, r_, hge_, hlt_⟩ := RowAt.of_R (base := w.heap.size) ho (Nat.lt_of_lt_of_le (by decide) hlb.out) (below_size HB.out)
    have N3b := Aside0.mk (Nat.ne_of_lt (Nat.lt_of_lt_of_le (blk_lt BK3.out) hge_))
    have N7b := Aside0.mk (Nat.ne_of_lt (Nat.lt_of_lt_of_le (blk_lt BK7.out) hge_))
    have GEb := Aside0.mk (Nat.le_trans (below_size HB.out) hge_)
    have NAb := Aside0.mk (Nat.ne_of_lt (Nat.lt_of_lt_of_le (Exists.elim (RA.out.blk (Nat.lt_of_lt_of_le (by decide) hla.out)) (fun _ q => q.2.2)) hge_))
    have RB := Aside0.mk r_
    clear r_ hge_ hlt_ ho HC8 HL8
    have n0_ := Aside0.mk (below_step HB.out hb)
    have n1_ := Aside0.mk (blk_below BK3.out hb)
    have n2_ := Aside0.mk (BK7.out.below hb)
    have n3_ := Aside0.mk (RA.out.below hb)
    clear HB BK3 BK7 RA hb
    have HB := n0_
    have BK3 := n1_
    have BK7 := n2_
    have RA := n3_
    clear n0_ n1_ n2_ n3_
    refine hK.out _ _ ⟨(blk_cell BK3.out 0).trans rfl, (blk_cell BK3.out 1).trans rfl⟩ (fun hHeld => ?_)
    clear hK K
    refine norm_ (a' := ?_) ?_ ?_
    rotate_left
    · show Act.put _ (some 45) _ = _
      simp only [Act.put, List.setIfInBounds_toArray, List.set_cons_zero, List.set_cons_succ, i64_w, i32_w]
      rfl
    refine pure_ (i := 3) (N := some 10) (v := ?_) (a' := ?_) #[true, true, true, true] rfl rfl (by kernel_rfl) (fun _ _ _ h => h) (Or.inl ⟨by rfl, ?_⟩) ?_ ?_
    rotate_left
    · intro w'
      go_simp
      with_reducible rfl
    rotate_left
    · simp only [Act.put, List.setIfInBounds_toArray, List.set_cons_zero, List.set_cons_succ, i64_w, i32_w]
      rfl
    refine done_ (by kernel_rfl) ?_
    clear hHeld
    have hnb := Nat.lt_of_lt_of_le hn8 hlb.out
    have hnbi : (n : Int) < (rb.length : Int) := by omega
    have hsb := fun W => RowAt.slice_n gb rb.length cb n (Nat.le_trans (Nat.le_of_lt hnb) RB.out.le) W
    obtain ⟨xb, hxb⟩ : ∃ x : List Int, x = Kit.setL rb 0 (List.replicate n 0) := ⟨_, rfl⟩
    have NB := Aside0.mk hxb
    clear hxb
    obtain ⟨vb, hvb⟩ : ∃ x : Int, x = xb.getD n 0 := ⟨_, rfl⟩
    have NVB := Aside0.mk hvb
    clear hvb
    go_wp2_with (((with_reducible refine gate_builtin (b := .clear) (xs := #[.tmp 48]) rfl ?_); clear hsb; refine Kit.R_clear (P := Tryd.prog) (w0 := w) .u8 w.heap.size rfl (.tmp 48) 24 5 rfl Tryd.underlying24 (fun _ => by kernel_rfl) (ok := fun _ => True) (A := some ⟨gb, 0, none⟩) (n := rb.length) (m := n) (c := cb) (xs := rb) rfl (Nat.le_of_lt hnb) RB.out HB.out (below_size HB.out) ?_; intro w12 ho hb hg; rw [← NB.out] at ho; have n4_ := Aside0.mk (RA.out.grown hg NAb.out); have n2_ := Aside0.mk (blk_grown BK3.out hg (fun e => N3b.out (by simpa [Value.ownBlock] using e))); have n1_ := Aside0.mk (BK7.out.grown hg (fun e => N7b.out (by simpa [Value.ownBlock] using e))); clear HB BK3 BK7 RA RB; have HB := Aside0.mk hb; have BK3 := n2_; have BK7 := n1_; have RA := n4_; have RB := Aside0.mk (show RowAt.Row 5 w12 w.heap.size gb rb.length cb xb from ho); clear n1_ n2_ n4_ ho hb hg; have hx_ : w12.cell? ⟨gb, n, none⟩ = some (.int .u8 vb) := (by rw [NVB.out]; exact RB.out.cell n hnb); have hf_ := RB.out.frozen (Nat.lt_of_lt_of_le (by decide) hlb.out) n))
    try clear hx_ hf_
    have hp := RB.out.put n (Go.bits .andNot .u8 vb a2)
    have NX := Aside0.mk (show xb.set n (Go.bits .andNot .u8 vb a2) = hlB rb n a2 by rw [NB.out, NVB.out, NB.out]; rfl)
    rw [NX.out] at hp
    have hb := hp.2
    have n0_ := Aside0.mk (HB.out.grown hb (below_size HB.out) (by intro q hq; injection hq with hq; subst hq; exact GEb.out))
    have n1_ := Aside0.mk (blk_grown BK3.out hb (by intro e; injection e with e; exact N3b.out e))
    have n2_ := Aside0.mk (BK7.out.grown hb (by intro e; injection e with e; exact N7b.out e))
    have n3_ := Aside0.mk (RA.out.grown hb NAb.out)
    have n4_ := Aside0.mk (hp.1)
    clear HB BK3 BK7 RA RB hb hp NX
    have HB := n0_
    have BK3 := n1_
    have BK7 := n2_
    have RA := n3_
    have RB := n4_
    clear n0_ n1_ n2_ n3_ n4_
    generalize w12.setCell ⟨gb, n, none⟩ (.int .u8 (Go.bits .andNot .u8 vb a2)) = w13 at HB BK3 BK7 RA RB ⊢
    clear NVB NB hnbi
    try simp only [Act.put, List.setIfInBounds_toArray, List.set_cons_zero, List.set_cons_succ, i64_w, i32_w]
    have n0_ := Aside0.mk (below_drew1 HB.out)
    have n1_ := Aside0.mk (blk_drew BK3.out)
    have n2_ := Aside0.mk (show Arr.IsArr .u8 w13.drew g7 31 [e0, e1, e2, e3, e4, e5, e6, e7] from BK7.out)
    have n3_ := Aside0.mk (RA.out.below (below_drew1 (Below.refl _ _)))
    have n4_ := Aside0.mk (RB.out.below (below_drew1 (Below.refl _ _)))
    clear HB BK3 BK7 RA RB 
    have HB := n0_
    have BK3 := n1_
    have BK7 := n2_
    have RA := n3_
    have RB := n4_
    clear n0_ n1_ n2_ n3_ n4_
    refine start_ (n := 4) (S := fun w' => w'.cell? ⟨g3, 0, none⟩ = some (.int .i64 a0_0) ∧ w'.cell? ⟨g3, 1, none⟩ = some (.int .i64 a0_1)) (ds := []) #[false, false, false, false] (by kernel_rfl) rfl rfl ⟨(blk_cell BK3.out 0).trans rfl, (blk_cell BK3.out 1).trans rfl⟩ (fun hHeld => ?_)
    generalize w13.drew = w14 at HB BK3 BK7 RA RB hHeld ⊢
    refine take_ (i := 0) (N := some 56) (v := ?_) (a' := ?_) #[true, false, false, false] rfl rfl (by kernel_rfl) (fun _ _ _ h => h) (Or.inl ⟨by rfl, ?_⟩) hHeld ?_ ?_
    rotate_left
    · rintro w' ⟨s0, s1⟩
      go_simp
      with_reducible rfl
    rotate_left
    · simp only [Act.put, List.setIfInBounds_toArray, List.set_cons_zero, List.set_cons_succ, i64_w, i32_w]
      rfl
    refine one_ (i := 1) (N := some 57) #[true, true, false, false] rfl rfl (by kernel_rfl) (by decide) (fun K hK => ?_)
    refine goes_ Tryd.func14 (by kernel_rfl) rfl #[] (by rfl) rfl rfl (by (try simp only [List.map_toArray, List.map_cons, List.map_nil]); first | done | rfl) ?_
    with_reducible refine (head_Death.calls d _ A4.out).mono ?_
    rintro e w15 ⟨v_, rfl, ho, hb⟩
    refine ⟨_, rfl, ?_⟩
    obtain ⟨Ad, cd, rfl⟩ := Kd.R_slice ho
    have HC := Aside0.mk (Kd.R_reads' ho).2.2
    have hcl := Aside0.mk (Kd.R_reads' ho).2.1
    clear ho
    have n0_ := Aside0.mk (below_step HB.out hb)
    have n1_ := Aside0.mk (blk_below BK3.out hb)
    have n2_ := Aside0.mk (BK7.out.below hb)
    have n3_ := Aside0.mk (RA.out.below hb)
    have n4_ := Aside0.mk (RB.out.below hb)
    clear HB BK3 BK7 RA RB hb
    have HB := n0_
    have BK3 := n1_
    have BK7 := n2_
    have RA := n3_
    have RB := n4_
    clear n0_ n1_ n2_ n3_ n4_
    refine hK.out _ _ ⟨(blk_cell BK3.out 0).trans rfl, (blk_cell BK3.out 1).trans rfl⟩ (fun hHeld => ?_)
    clear hK K
    refine norm_ (a' := ?_) ?_ ?_
    rotate_left
    · show Act.put _ (some 57) _ = _
      simp only [Act.put, List.setIfInBounds_toArray, List.set_cons_zero, List.set_cons_succ, i64_w, i32_w]
      rfl
    refine one_ (i := 2) (N := some 58) #[true, true, true, false] rfl rfl (by kernel_rfl) (by decide) (fun K hK => ?_)
    refine goes_ Tryd.func10 (by kernel_rfl) rfl #[.agg #[.int .i64 a0_0, .int .i64 a0_1], .slice Ad d.length cd] (by rfl) rfl rfl (by (try simp only [List.map_toArray, List.map_cons, List.map_nil]); first | done | rfl) ?_
    with_reducible refine (flintlaw05_sector.calls k a0_0 a0_1 Ad cd d rc _ HC.out hcl.out A5.out).mono ?_
    rintro e w16 ⟨v_, rfl, ho, hb⟩
    refine ⟨_, rfl, ?_⟩
    obtain ⟨gc, cc, rfl, r_, hge_, hlt_⟩ := RowAt.of_R (base := w.heap.size) ho (Nat.lt_of_lt_of_le (by decide) hlc.out) (below_size HB.out)
    have N3c := Aside0.mk (Nat.ne_of_lt (Nat.lt_of_lt_of_le (blk_lt BK3.out) hge_))
    have N7c := Aside0.mk (Nat.ne_of_lt (Nat.lt_of_lt_of_le (blk_lt BK7.out) hge_))
    have GEc := Aside0.mk (Nat.le_trans (below_size HB.out) hge_)
    have NAc := Aside0.mk (Nat.ne_of_lt (Nat.lt_of_lt_of_le (Exists.elim (RA.out.blk (Nat.lt_of_lt_of_le (by decide) hla.out)) (fun _ q => q.2.2)) hge_))
    have NBc := Aside0.mk (Nat.ne_of_lt (Nat.lt_of_lt_of_le (Exists.elim (RB.out.blk (Nat.lt_of_lt_of_le (by decide) hlb.out)) (fun _ q => q.2.2)) hge_))
    have RC := Aside0.mk r_
    clear r_ hge_ hlt_ ho HC hcl
    have n0_ := Aside0.mk (below_step HB.out hb)
    have n1_ := Aside0.mk (blk_below BK3.out hb)
    have n2_ := Aside0.mk (BK7.out.below hb)
    have n3_ := Aside0.mk (RA.out.below hb)
    have n4_ := Aside0.mk (RB.out.below hb)
    clear HB BK3 BK7 RA RB hb
    have HB := n0_
    have BK3 := n1_
    have BK7 := n2_
    have RA := n3_
    have RB := n4_
    clear n0_ n1_ n2_ n3_ n4_
    refine hK.out _ _ ⟨(blk_cell BK3.out 0).trans rfl, (blk_cell BK3.out 1).trans rfl⟩ (fun hHeld => ?_)
    clear hK K
    refine norm_ (a' := ?_) ?_ ?_
    rotate_left
    · show Act.put _ (some 58) _ = _
      simp only [Act.put, List.setIfInBounds_toArray, List.set_cons_zero, List.set_cons_succ, i64_w, i32_w]
      rfl
    refine pure_ (i := 3) (N := some 11) (v := ?_) (a' := ?_) #[true, true, true, true] rfl rfl (by kernel_rfl) (fun _ _ _ h => h) (Or.inl ⟨by rfl, ?_⟩) ?_ ?_
    rotate_left
    · intro w'
      go_simp
      with_reducible rfl
    rotate_left
    · simp only [Act.put, List.setIfInBounds_toArray, List.set_cons_zero, List.set_cons_succ, i64_w, i32_w]
      rfl
    refine done_ (by kernel_rfl) ?_
    clear hHeld
    have hnc' := Nat.lt_of_lt_of_le hn8 hlc.out
    have hnci : (n : Int) < (rc.length : Int) := by omega
    go_wp2
    have HL8 := Aside0.mk hn8
    go_loopw [60] (fun c W => ∃ m : Nat, m ≤ n ∧ c = .int .i64 m ∧ Aside0 (Below w.heap.size w W) ∧ Aside0 (W.heap[g3]? = some (.cells #[.int .i64 a0_0, .int .i64 a0_1] 23 (0, 0))) ∧ Aside0 (Arr.IsArr .u8 W g7 31 [e0, e1, e2, e3, e4, e5, e6, e7]) ∧ Aside0 (RowAt.Row 5 W w.heap.size ga ra.length ca (hlA ra [e0, e1, e2, e3, e4, e5, e6, e7] n a2)) ∧ Aside0 (RowAt.Row 5 W w.heap.size gb rb.length cb (hlB rb n a2)) ∧ Aside0 (RowAt.Row 5 W w.heap.size gc rc.length cc (Kit.setL rc 0 (List.replicate m 255)))) (fun c _ => n - (Kit.numOf c).toNat)
    case atStart => exact ⟨0, Nat.zero_le _, rfl, HB, BK3, BK7, RA, RB, ⟨RC.out⟩⟩
    case round =>
      clear HB BK3 BK7 RA RB RC
      obtain ⟨m, hm, rfl, HB, BK3, BK7, RA, RB, RC⟩ := hrel
      by_cases hlt : m < n
      · have hmc : m < rc.length := by omega
        have hmi : (m : Int) < (rc.length : Int) := by omega
        have hmn : (m : Int) < (n : Int) := by omega
        have hx_ := RC.out.cell m hmc
        have hf_ := RC.out.frozen (Nat.lt_of_lt_of_le (by decide) hlc.out) m
        go_wp2
        have hp := RC.out.put m 255
        rw [← RowAt.setL_succ] at hp
        have hb := hp.2
        go_roundw
        case rel => exact ⟨m + 1, by omega, by go_num, ⟨HB.out.grown hb (below_size HB.out) (by intro q hq; injection hq with hq; subst hq; exact GEc.out)⟩, ⟨blk_grown BK3.out hb (by intro e; injection e with e; exact N3c.out e)⟩, ⟨BK7.out.grown hb (by intro e; injection e with e; exact N7c.out e)⟩, ⟨RA.out.grown hb NAc.out⟩, ⟨RB.out.grown hb NBc.out⟩, ⟨hp.1⟩⟩
        case measure => simp [Kit.numOf]; omega
      obtain rfl : n = m := by omega
      obtain ⟨xc, hxc⟩ : ∃ x : List Int, x = Kit.setL rc 0 (List.replicate n 255) := ⟨_, rfl⟩
      have NC := Aside0.mk hxc
      clear hxc
      have RC := Aside0.mk (show RowAt.Row 5 wr w.heap.size gc rc.length cc xc by rw [NC.out]; exact RC.out)
      obtain ⟨vc, hvc⟩ : ∃ x : Int, x = xc.getD n 0 := ⟨_, rfl⟩
      have NVC := Aside0.mk hvc
      clear hvc hlt hm
      have hx_ : wr.cell? ⟨gc, n, none⟩ = some (.int .u8 vc) := (by rw [NVC.out]; exact RC.out.cell n hnc')
      have hf_ := RC.out.frozen (Nat.lt_of_lt_of_le (by decide) hlc.out) n
      go_wp2
      try clear hx_ hf_
      have hp := RC.out.put n (Go.bits .or .u8 vc a2)
      have NX := Aside0.mk (show xc.set n (Go.bits .or .u8 vc a2) = hlC rc n a2 by rw [NC.out, NVC.out, NC.out]; rfl)
      rw [NX.out] at hp
      have hb := hp.2
      have n0_ := Aside0.mk (HB.out.grown hb (below_size HB.out) (by intro q hq; injection hq with hq; subst hq; exact GEc.out))
      have n1_ := Aside0.mk (blk_grown BK3.out hb (by intro e; injection e with e; exact N3c.out e))
      have n2_ := Aside0.mk (BK7.out.grown hb (by intro e; injection e with e; exact N7c.out e))
      have n3_ := Aside0.mk (RA.out.grown hb NAc.out)
      have n4_ := Aside0.mk (RB.out.grown hb NBc.out)
      have n5_ := Aside0.mk (hp.1)
      clear HB BK3 BK7 RA RB RC hb hp NX
      have HB := n0_
      have BK3 := n1_
      have BK7 := n2_
      have RA := n3_
      have RB := n4_
      have RC := n5_
      clear n0_ n1_ n2_ n3_ n4_ n5_
      generalize wr.setCell ⟨gc, n, none⟩ (.int .u8 (Go.bits .or .u8 vc a2)) = w20 at HB BK3 BK7 RA RB RC ⊢
      clear NVC NC hnci hnc'
      try simp only [Act.put, List.setIfInBounds_toArray, List.set_cons_zero, List.set_cons_succ, i64_w, i32_w]
      have n0_ := Aside0.mk (below_drew1 HB.out)
      have n1_ := Aside0.mk (blk_drew BK3.out)
      have n2_ := Aside0.mk (show Arr.IsArr .u8 w20.drew g7 31 [e0, e1, e2, e3, e4, e5, e6, e7] from BK7.out)
      have n3_ := Aside0.mk (RA.out.below (below_drew1 (Below.refl _ _)))
      have n4_ := Aside0.mk (RB.out.below (below_drew1 (Below.refl _ _)))
      have n5_ := Aside0.mk (RC.out.below (below_drew1 (Below.refl _ _)))
      clear HB BK3 BK7 RA RB RC 
      have HB := n0_
      have BK3 := n1_
      have BK7 := n2_
      have RA := n3_
      have RB := n4_
      have RC := n5_
      clear n0_ n1_ n2_ n3_ n4_ n5_
      refine start_ (n := 12) (S := fun w' => w'.cell? ⟨g3, 0, none⟩ = some (.int .i64 a0_0) ∧ w'.cell? ⟨g3, 1, none⟩ = some (.int .i64 a0_1)) (ds := []) #[false, false, false, false, false, false, false, false, false, false, false, false] (by kernel_rfl) rfl rfl ⟨(blk_cell BK3.out 0).trans rfl, (blk_cell BK3.out 1).trans rfl⟩ (fun hHeld => ?_)
      generalize w20.drew = w21 at HB BK3 BK7 RA RB RC hHeld ⊢
      refine take_ (i := 0) (N := some 74) (v := ?_) (a' := ?_) #[true, false, false, false, false, false, false, false, false, false, false, false] rfl rfl (by kernel_rfl) (fun _ _ _ h => h) (Or.inl ⟨by rfl, ?_⟩) hHeld ?_ ?_
      rotate_left
      · rintro w' ⟨s0, s1⟩
        go_simp
        with_reducible rfl
      rotate_left
      · simp only [Act.put, List.setIfInBounds_toArray, List.set_cons_zero, List.set_cons_succ, i64_w, i32_w]
        rfl
      refine pure_ (i := 1) (N := some 75) (v := ?_) (a' := ?_) #[true, true, false, false, false, false, false, false, false, false, false, false] rfl rfl (by kernel_rfl) (fun _ _ _ h => h) (Or.inl ⟨by rfl, ?_⟩) ?_ ?_
      rotate_left
      · intro w'
        go_simp
        with_reducible rfl
      rotate_left
      · simp only [Act.put, List.setIfInBounds_toArray, List.set_cons_zero, List.set_cons_succ, i64_w, i32_w]
        rfl
      refine take_ (i := 3) (N := some 77) (v := ?_) (a' := ?_) #[true, true, false, true, false, false, false, false, false, false, false, false] rfl rfl (by kernel_rfl) (fun _ _ _ h => h) (Or.inl ⟨by rfl, ?_⟩) hHeld ?_ ?_
      rotate_left
      · rintro w' ⟨s0, s1⟩
        go_simp
        with_reducible rfl
      rotate_left
      · simp only [Act.put, List.setIfInBounds_toArray, List.set_cons_zero, List.set_cons_succ, i64_w, i32_w]
        rfl
      refine pure_ (i := 4) (N := some 78) (v := ?_) (a' := ?_) #[true, true, false, true, true, false, false, false, false, false, false, false] rfl rfl (by kernel_rfl) (fun _ _ _ h => h) (Or.inl ⟨by rfl, ?_⟩) ?_ ?_
      rotate_left
      · intro w'
        go_simp
        with_reducible rfl
      rotate_left
      · simp only [Act.put, List.setIfInBounds_toArray, List.set_cons_zero, List.set_cons_succ, i64_w, i32_w]
        rfl
      refine take_ (i := 6) (N := some 80) (v := ?_) (a' := ?_) #[true, true, false, true, true, false, true, false, false, false, false, false] rfl rfl (by kernel_rfl) (fun _ _ _ h => h) (Or.inl ⟨by rfl, ?_⟩) hHeld ?_ ?_
      rotate_left
      · rintro w' ⟨s0, s1⟩
        go_simp
        with_reducible rfl
      rotate_left
      · simp only [Act.put, List.setIfInBounds_toArray, List.set_cons_zero, List.set_cons_succ, i64_w, i32_w]
        rfl
      refine pure_ (i := 7) (N := some 81) (v := ?_) (a' := ?_) #[true, true, false, true, true, false, true, true, false, false, false, false] rfl rfl (by kernel_rfl) (fun _ _ _ h => h) (Or.inl ⟨by rfl, ?_⟩) ?_ ?_
      rotate_left
      · intro w'
        go_simp
        with_reducible rfl
      rotate_left
      · simp only [Act.put, List.setIfInBounds_toArray, List.set_cons_zero, List.set_cons_succ, i64_w, i32_w]
        rfl
      refine one_ (i := 2) (N := some 76) #[true, true, true, true, true, false, true, true, false, false, false, false] rfl rfl (by kernel_rfl) (by decide) (fun K hK => ?_)
      refine goes_ Tryd.func11 (by kernel_rfl) rfl #[.agg #[.int .i64 a0_0, .int .i64 a0_1], .slice (some ⟨ga, 0, none⟩) (hlA ra [e0, e1, e2, e3, e4, e5, e6, e7] n a2).length ca] (by rfl) rfl rfl (by (try simp only [List.map_toArray, List.map_cons, List.map_nil]); rw [← RA.out.len]; first | done | rfl) ?_
      with_reducible refine (head_Class.calls k a0_0 a0_1 _ ca (hlA ra [e0, e1, e2, e3, e4, e5, e6, e7] n a2) x _ RA.out.C' RA.out.le' A6.out).mono ?_
      rintro e w22 ⟨rfl, hb⟩
      refine ⟨_, rfl, ?_⟩
      have n0_ := Aside0.mk (below_step HB.out hb)
      have n1_ := Aside0.mk (blk_below BK3.out hb)
      have n2_ := Aside0.mk (BK7.out.below hb)
      have n3_ := Aside0.mk (RA.out.below hb)
      have n4_ := Aside0.mk (RB.out.below hb)
      have n5_ := Aside0.mk (RC.out.below hb)
      clear HB BK3 BK7 RA RB RC hb
      have HB := n0_
      have BK3 := n1_
      have BK7 := n2_
      have RA := n3_
      have RB := n4_
      have RC := n5_
      clear n0_ n1_ n2_ n3_ n4_ n5_
      refine hK.out _ _ ⟨(blk_cell BK3.out 0).trans rfl, (blk_cell BK3.out 1).trans rfl⟩ (fun hHeld => ?_)
      clear hK K
      refine norm_ (a' := ?_) ?_ ?_
      rotate_left
      · show Act.put _ (some 76) _ = _
        simp only [Act.put, List.setIfInBounds_toArray, List.set_cons_zero, List.set_cons_succ, i64_w, i32_w]
        rfl
      refine one_ (i := 5) (N := some 79) #[true, true, true, true, true, true, true, true, false, false, false, false] rfl rfl (by kernel_rfl) (by decide) (fun K hK => ?_)
      refine goes_ Tryd.func11 (by kernel_rfl) rfl #[.agg #[.int .i64 a0_0, .int .i64 a0_1], .slice (some ⟨gb, 0, none⟩) (hlB rb n a2).length cb] (by rfl) rfl rfl (by (try simp only [List.map_toArray, List.map_cons, List.map_nil]); rw [← RB.out.len]; first | done | rfl) ?_
      with_reducible refine (head_Class.calls k a0_0 a0_1 _ cb (hlB rb n a2) y _ RB.out.C' RB.out.le' A7.out).mono ?_
      rintro e w23 ⟨rfl, hb⟩
      refine ⟨_, rfl, ?_⟩
      have n0_ := Aside0.mk (below_step HB.out hb)
      have n1_ := Aside0.mk (blk_below BK3.out hb)
      have n2_ := Aside0.mk (BK7.out.below hb)
      have n3_ := Aside0.mk (RA.out.below hb)
      have n4_ := Aside0.mk (RB.out.below hb)
      have n5_ := Aside0.mk (RC.out.below hb)
      clear HB BK3 BK7 RA RB RC hb
      have HB := n0_
      have BK3 := n1_
      have BK7 := n2_
      have RA := n3_
      have RB := n4_
      have RC := n5_
      clear n0_ n1_ n2_ n3_ n4_ n5_
      refine hK.out _ _ ⟨(blk_cell BK3.out 0).trans rfl, (blk_cell BK3.out 1).trans rfl⟩ (fun hHeld => ?_)
      clear hK K
      refine norm_ (a' := ?_) ?_ ?_
      rotate_left
      · show Act.put _ (some 79) _ = _
        simp only [Act.put, List.setIfInBounds_toArray, List.set_cons_zero, List.set_cons_succ, i64_w, i32_w]
        rfl
      refine one_ (i := 8) (N := some 82) #[true, true, true, true, true, true, true, true, true, false, false, false] rfl rfl (by kernel_rfl) (by decide) (fun K hK => ?_)
      refine goes_ Tryd.func11 (by kernel_rfl) rfl #[.agg #[.int .i64 a0_0, .int .i64 a0_1], .slice (some ⟨gc, 0, none⟩) (hlC rc n a2).length cc] (by rfl) rfl rfl (by (try simp only [List.map_toArray, List.map_cons, List.map_nil]); rw [← RC.out.len]; first | done | rfl) ?_
      with_reducible refine (head_Class.calls k a0_0 a0_1 _ cc (hlC rc n a2) z _ RC.out.C' RC.out.le' A8.out).mono ?_
      rintro e w24 ⟨rfl, hb⟩
      refine ⟨_, rfl, ?_⟩
      have n0_ := Aside0.mk (below_step HB.out hb)
      have n1_ := Aside0.mk (blk_below BK3.out hb)
      have n2_ := Aside0.mk (BK7.out.below hb)
      have n3_ := Aside0.mk (RA.out.below hb)
      have n4_ := Aside0.mk (RB.out.below hb)
      have n5_ := Aside0.mk (RC.out.below hb)
      clear HB BK3 BK7 RA RB RC hb
      have HB := n0_
      have BK3 := n1_
      have BK7 := n2_
      have RA := n3_
      have RB := n4_
      have RC := n5_
      clear n0_ n1_ n2_ n3_ n4_ n5_
      refine hK.out _ _ ⟨(blk_cell BK3.out 0).trans rfl, (blk_cell BK3.out 1).trans rfl⟩ (fun hHeld => ?_)
      clear hK K
      refine norm_ (a' := ?_) ?_ ?_
      rotate_left
      · show Act.put _ (some 82) _ = _
        simp only [Act.put, List.setIfInBounds_toArray, List.set_cons_zero, List.set_cons_succ, i64_w, i32_w]
        rfl
      refine pure_ (i := 9) (N := some 13) (v := ?_) (a' := ?_) #[true, true, true, true, true, true, true, true, true, true, false, false] rfl rfl (by kernel_rfl) (fun _ _ _ h => h) (Or.inl ⟨by rfl, ?_⟩) ?_ ?_
      rotate_left
      · intro w'
        go_simp
        with_reducible rfl
      rotate_left
      · simp only [Act.put, List.setIfInBounds_toArray, List.set_cons_zero, List.set_cons_succ, i64_w, i32_w]
        rfl
      refine pure_ (i := 10) (N := some 14) (v := ?_) (a' := ?_) #[true, true, true, true, true, true, true, true, true, true, true, false] rfl rfl (by kernel_rfl) (fun _ _ _ h => h) (Or.inl ⟨by rfl, ?_⟩) ?_ ?_
      rotate_left
      · intro w'
        go_simp
        with_reducible rfl
      rotate_left
      · simp only [Act.put, List.setIfInBounds_toArray, List.set_cons_zero, List.set_cons_succ, i64_w, i32_w]
        rfl
      refine pure_ (i := 11) (N := some 15) (v := ?_) (a' := ?_) #[true, true, true, true, true, true, true, true, true, true, true, true] rfl rfl (by kernel_rfl) (fun _ _ _ h => h) (Or.inl ⟨by rfl, ?_⟩) ?_ ?_
      rotate_left
      · intro w'
        go_simp
        with_reducible rfl
      rotate_left
      · simp only [Act.put, List.setIfInBounds_toArray, List.set_cons_zero, List.set_cons_succ, i64_w, i32_w]
        rfl
      refine done_ (by kernel_rfl) ?_
      clear hHeld
      try go_wp2
      try simp only [Act.put, List.setIfInBounds_toArray, List.set_cons_zero, List.set_cons_succ, i64_w, i32_w]
      have n0_ := Aside0.mk (below_drew1 HB.out)
      have n1_ := Aside0.mk (show Arr.IsArr .u8 w24.drew g7 31 [e0, e1, e2, e3, e4, e5, e6, e7] from BK7.out)
      have n2_ := Aside0.mk (RA.out.below (below_drew1 (Below.refl _ _)))
      have n3_ := Aside0.mk (RB.out.below (below_drew1 (Below.refl _ _)))
      clear HB BK7 RA RB 
      have HB := n0_
      have BK7 := n1_
      have RA := n2_
      have RB := n3_
      clear n0_ n1_ n2_ n3_
      obtain ⟨yA, hyA⟩ : ∃ l : List Int, l = (hlA ra [e0, e1, e2, e3, e4, e5, e6, e7] n a2).take 8 := ⟨_, rfl⟩
      obtain ⟨yB, hyB⟩ : ∃ l : List Int, l = (hlB rb n a2).take 8 := ⟨_, rfl⟩
      have CA := Aside0.mk (show (Kd.int .u8).C w24.drew (some ⟨ga, 0, none⟩) 8 yA by rw [hyA]; exact RA.out.take 8 hla.out)
      have CB := Aside0.mk (show (Kd.int .u8).C w24.drew (some ⟨gb, 0, none⟩) 8 yB by rw [hyB]; exact RB.out.take 8 hlb.out)
      have q1 := C1.out
      have q2 := C2.out
      rw [← hyA] at q1
      rw [← hyB] at q2
      obtain ⟨b1, hb1, hs1⟩ : ∃ b : Bool, (x == 1) = b ∧ ((strOfNums yA).toList == (strOfNums [e0, e1, e2, e3, e4, e5, e6, e7]).toList) = b := ⟨_, rfl, (bne_eq_false_iff_eq.mp q1).symm⟩
      obtain ⟨b2, hb2, hs2⟩ : ∃ b : Bool, (y == 1) = b ∧ ((strOfNums yB).toList == (strOfNums [e0, e1, e2, e3, e4, e5, e6, e7]).toList) = b := ⟨_, rfl, (bne_eq_false_iff_eq.mp q2).symm⟩
      have HB1 := Aside0.mk hb1
      have HS1 := Aside0.mk hs1
      have HB2 := Aside0.mk hb2
      have HS2 := Aside0.mk hs2
      have hle_a := Aside0.mk (Nat.le_trans hla.out RA.out.le)
      have hle_b := Aside0.mk (Nat.le_trans hlb.out RB.out.le)
      clear q1 q2 hyA hyB hb1 hs1 hb2 hs2 C1 C2 RA RB
      refine start_ (n := 20) (S := fun w' => (Kd.int .u8).C w' (some ⟨ga, 0, none⟩) 8 yA ∧ (Kd.int .u8).C w' (some ⟨gb, 0, none⟩) 8 yB ∧ Arr.IsArr .u8 w' g7 31 [e0, e1, e2, e3, e4, e5, e6, e7]) (ds := []) #[false, false, false, false, false, false, false, false, false, false, false, false, false, false, false, false, false, false, false, false] (by kernel_rfl) rfl rfl ⟨CA.out, CB.out, BK7.out⟩ (fun hHeld => ?_)
      generalize w24.drew = w25 at HB BK7 CA CB hHeld ⊢
      refine pure_ (i := 0) (N := some 83) (v := ?_) (a' := ?_) #[true, false, false, false, false, false, false, false, false, false, false, false, false, false, false, false, false, false, false, false] rfl rfl (by kernel_rfl) (fun _ _ _ h => h) (Or.inl ⟨by rfl, ?_⟩) ?_ ?_
      rotate_left
      · intro w'
        go_simp
        with_reducible rfl
      rotate_left
      · simp only [Act.put, List.setIfInBounds_toArray, List.set_cons_zero, List.set_cons_succ, i64_w, i32_w]
        rfl
      refine pure_ (i := 1) (N := some 84) (v := ?_) (a' := ?_) #[true, true, false, false, false, false, false, false, false, false, false, false, false, false, false, false, false, false, false, false] rfl rfl (by kernel_rfl) (fun _ _ _ h => h) (Or.inl ⟨by rfl, ?_⟩) ?_ ?_
      rotate_left
      · intro w'
        have hq_ := HB1.out
        go_simp
        with_reducible rfl
      rotate_left
      · simp only [Act.put, List.setIfInBounds_toArray, List.set_cons_zero, List.set_cons_succ, i64_w, i32_w]
        rfl
      refine pure_ (i := 2) (N := some 85) (v := ?_) (a' := ?_) #[true, true, true, false, false, false, false, false, false, false, false, false, false, false, false, false, false, false, false, false] rfl rfl (by kernel_rfl) (fun _ _ _ h => h) (Or.inl ⟨by rfl, ?_⟩) ?_ ?_
      rotate_left
      · intro w'
        go_simp
        with_reducible rfl
      rotate_left
      · simp only [Act.put, List.setIfInBounds_toArray, List.set_cons_zero, List.set_cons_succ, i64_w, i32_w]
        rfl
      refine pure_ (i := 3) (N := some 86) (v := ?_) (a' := ?_) #[true, true, true, true, false, false, false, false, false, false, false, false, false, false, false, false, false, false, false, false] rfl rfl (by kernel_rfl) (fun _ _ _ h => h) (Or.inl ⟨by rfl, ?_⟩) ?_ ?_
      rotate_left
      · intro w'
        have hs8_ : ∀ W : World, (Instr.slice 24 (.slice (some ⟨ga, 0, none⟩) ra.length ca) none (some (.int .i64 8)) none).run Tryd.prog W = .ok (.slice (some ⟨ga, 0, none⟩) 8 ca) W := fun W => RowAt.slice_n ga ra.length ca 8 hle_a.out W
        go_simp
        with_reducible rfl
      rotate_left
      · simp only [Act.put, List.setIfInBounds_toArray, List.set_cons_zero, List.set_cons_succ, i64_w, i32_w]
        rfl
      refine take_ (i := 4) (N := some 87) (v := ?_) (a' := ?_) #[true, true, true, true, true, false, false, false, false, false, false, false, false, false, false, false, false, false, false, false] rfl rfl (by kernel_rfl) (fun _ _ _ h => h) (Or.inl ⟨by rfl, ?_⟩) hHeld ?_ ?_
      rotate_left
      · rintro w' ⟨sA, sB, s7⟩
        have hcv_ := Kd.C_string (P := Tryd.prog) (c := ca) Tryd.underlying24 Tryd.underlying5 Tryd.underlying9 sA
        go_simp
        with_reducible rfl
      rotate_left
      · simp only [Act.put, List.setIfInBounds_toArray, List.set_cons_zero, List.set_cons_succ, i64_w, i32_w]
        rfl
      refine pure_ (i := 5) (N := some 88) (v := ?_) (a' := ?_) #[true, true, true, true, true, true, false, false, false, false, false, false, false, false, false, false, false, false, false, false] rfl rfl (by kernel_rfl) (fun _ _ _ h => h) (Or.inl ⟨by rfl, ?_⟩) ?_ ?_
      rotate_left
      · intro w'
        go_simp
        with_reducible rfl
      rotate_left
      · simp only [Act.put, List.setIfInBounds_toArray, List.set_cons_zero, List.set_cons_succ, i64_w, i32_w]
        rfl
      refine take_ (i := 6) (N := some 89) (v := ?_) (a' := ?_) #[true, true, true, true, true, true, true, false, false, false, false, false, false, false, false, false, false, false, false, false] rfl rfl (by kernel_rfl) (fun _ _ _ h => h) (Or.inl ⟨by rfl, ?_⟩) hHeld ?_ ?_
      rotate_left
      · rintro w' ⟨sA, sB, s7⟩
        have hcv_ := Kd.C_string (P := Tryd.prog) (c := 8) Tryd.underlying24 Tryd.underlying5 Tryd.underlying9 (s7.reads (n := 8) (by simp) (by decide))
        go_simp
        with_reducible rfl
      rotate_left
      · simp only [Act.put, List.setIfInBounds_toArray, List.set_cons_zero, List.set_cons_succ, i64_w, i32_w]
        rfl
      refine pure_ (i := 7) (N := some 90) (v := ?_) (a' := ?_) #[true, true, true, true, true, true, true, true, false, false, false, false, false, false, false, false, false, false, false, false] rfl rfl (by kernel_rfl) (fun _ _ _ h => h) (Or.inl ⟨by rfl, ?_⟩) ?_ ?_
      rotate_left
      · intro w'
        have hq_ := HS1.out
        go_simp
        with_reducible rfl
      rotate_left
      · simp only [Act.put, List.setIfInBounds_toArray, List.set_cons_zero, List.set_cons_succ, i64_w, i32_w]
        rfl
      refine pure_ (i := 8) (N := some 91) (v := ?_) (a' := ?_) #[true, true, true, true, true, true, true, true, true, false, false, false, false, false, false, false, false, false, false, false] rfl rfl (by kernel_rfl) (fun _ _ _ h => h) (Or.inl ⟨by rfl, ?_⟩) ?_ ?_
      rotate_left
      · intro w'
        have hbb1_ := bne_self_eq_false b1
        have hbb2_ := beq_self_eq_true b1
        go_simp
        with_reducible rfl
      rotate_left
      · simp only [Act.put, List.setIfInBounds_toArray, List.set_cons_zero, List.set_cons_succ, i64_w, i32_w]
        rfl
      refine pure_ (i := 9) (N := some 92) (v := ?_) (a' := ?_) #[true, true, true, true, true, true, true, true, true, true, false, false, false, false, false, false, false, false, false, false] rfl rfl (by kernel_rfl) (fun _ _ _ h => h) (Or.inl ⟨by rfl, ?_⟩) ?_ ?_
      rotate_left
      · intro w'
        go_simp
        with_reducible rfl
      rotate_left
      · simp only [Act.put, List.setIfInBounds_toArray, List.set_cons_zero, List.set_cons_succ, i64_w, i32_w]
        rfl
      refine pure_ (i := 10) (N := some 93) (v := ?_) (a' := ?_) #[true, true, true, true, true, true, true, true, true, true, true, false, false, false, false, false, false, false, false, false] rfl rfl (by kernel_rfl) (fun _ _ _ h => h) (Or.inl ⟨by rfl, ?_⟩) ?_ ?_
      rotate_left
      · intro w'
        go_simp
        with_reducible rfl
      rotate_left
      · simp only [Act.put, List.setIfInBounds_toArray, List.set_cons_zero, List.set_cons_succ, i64_w, i32_w]
        rfl
      refine pure_ (i := 11) (N := some 94) (v := ?_) (a' := ?_) #[true, true, true, true, true, true, true, true, true, true, true, true, false, false, false, false, false, false, false, false] rfl rfl (by kernel_rfl) (fun _ _ _ h => h) (Or.inl ⟨by rfl, ?_⟩) ?_ ?_
      rotate_left
      · intro w'
        have hq_ := HB2.out
        go_simp
        with_reducible rfl
      rotate_left
      · simp only [Act.put, List.setIfInBounds_toArray, List.set_cons_zero, List.set_cons_succ, i64_w, i32_w]
        rfl
      refine pure_ (i := 12) (N := some 95) (v := ?_) (a' := ?_) #[true, true, true, true, true, true, true, true, true, true, true, true, true, false, false, false, false, false, false, false] rfl rfl (by kernel_rfl) (fun _ _ _ h => h) (Or.inl ⟨by rfl, ?_⟩) ?_ ?_
      rotate_left
      · intro w'
        go_simp
        with_reducible rfl
      rotate_left
      · simp only [Act.put, List.setIfInBounds_toArray, List.set_cons_zero, List.set_cons_succ, i64_w, i32_w]
        rfl
      refine pure_ (i := 13) (N := some 96) (v := ?_) (a' := ?_) #[true, true, true, true, true, true, true, true, true, true, true, true, true, true, false, false, false, false, false, false] rfl rfl (by kernel_rfl) (fun _ _ _ h => h) (Or.inl ⟨by rfl, ?_⟩) ?_ ?_
      rotate_left
      · intro w'
        have hs8_ : ∀ W : World, (Instr.slice 24 (.slice (some ⟨gb, 0, none⟩) rb.length cb) none (some (.int .i64 8)) none).run Tryd.prog W = .ok (.slice (some ⟨gb, 0, none⟩) 8 cb) W := fun W => RowAt.slice_n gb rb.length cb 8 hle_b.out W
        go_simp
        with_reducible rfl
      rotate_left
      · simp only [Act.put, List.setIfInBounds_toArray, List.set_cons_zero, List.set_cons_succ, i64_w, i32_w]
        rfl
      refine take_ (i := 14) (N := some 97) (v := ?_) (a' := ?_) #[true, true, true, true, true, true, true, true, true, true, true, true, true, true, true, false, false, false, false, false] rfl rfl (by kernel_rfl) (fun _ _ _ h => h) (Or.inl ⟨by rfl, ?_⟩) hHeld ?_ ?_
      rotate_left
      · rintro w' ⟨sA, sB, s7⟩
        have hcv_ := Kd.C_string (P := Tryd.prog) (c := cb) Tryd.underlying24 Tryd.underlying5 Tryd.underlying9 sB
        go_simp
        with_reducible rfl
      rotate_left
      · simp only [Act.put, List.setIfInBounds_toArray, List.set_cons_zero, List.set_cons_succ, i64_w, i32_w]
        rfl
      refine pure_ (i := 15) (N := some 98) (v := ?_) (a' := ?_) #[true, true, true, true, true, true, true, true, true, true, true, true, true, true, true, true, false, false, false, false] rfl rfl (by kernel_rfl) (fun _ _ _ h => h) (Or.inl ⟨by rfl, ?_⟩) ?_ ?_
      rotate_left
      · intro w'
        go_simp
        with_reducible rfl
      rotate_left
      · simp only [Act.put, List.setIfInBounds_toArray, List.set_cons_zero, List.set_cons_succ, i64_w, i32_w]
        rfl
      refine take_ (i := 16) (N := some 99) (v := ?_) (a' := ?_) #[true, true, true, true, true, true, true, true, true, true, true, true, true, true, true, true, true, false, false, false] rfl rfl (by kernel_rfl) (fun _ _ _ h => h) (Or.inl ⟨by rfl, ?_⟩) hHeld ?_ ?_
      rotate_left
      · rintro w' ⟨sA, sB, s7⟩
        have hcv_ := Kd.C_string (P := Tryd.prog) (c := 8) Tryd.underlying24 Tryd.underlying5 Tryd.underlying9 (s7.reads (n := 8) (by simp) (by decide))
        go_simp
        with_reducible rfl
      rotate_left
      · simp only [Act.put, List.setIfInBounds_toArray, List.set_cons_zero, List.set_cons_succ, i64_w, i32_w]
        rfl
      refine pure_ (i := 17) (N := some 100) (v := ?_) (a' := ?_) #[true, true, true, true, true, true, true, true, true, true, true, true, true, true, true, true, true, true, false, false] rfl rfl (by kernel_rfl) (fun _ _ _ h => h) (Or.inl ⟨by rfl, ?_⟩) ?_ ?_
      rotate_left
      · intro w'
        have hq_ := HS2.out
        go_simp
        with_reducible rfl
      rotate_left
      · simp only [Act.put, List.setIfInBounds_toArray, List.set_cons_zero, List.set_cons_succ, i64_w, i32_w]
        rfl
      refine pure_ (i := 18) (N := some 101) (v := ?_) (a' := ?_) #[true, true, true, true, true, true, true, true, true, true, true, true, true, true, true, true, true, true, true, false] rfl rfl (by kernel_rfl) (fun _ _ _ h => h) (Or.inl ⟨by rfl, ?_⟩) ?_ ?_
      rotate_left
      · intro w'
        have hbb1_ := bne_self_eq_false b2
        have hbb2_ := beq_self_eq_true b2
        go_simp
        with_reducible rfl
      rotate_left
      · simp only [Act.put, List.setIfInBounds_toArray, List.set_cons_zero, List.set_cons_succ, i64_w, i32_w]
        rfl
      refine pure_ (i := 19) (N := some 102) (v := ?_) (a' := ?_) #[true, true, true, true, true, true, true, true, true, true, true, true, true, true, true, true, true, true, true, true] rfl rfl (by kernel_rfl) (fun _ _ _ h => h) (Or.inl ⟨by rfl, ?_⟩) ?_ ?_
      rotate_left
      · intro w'
        go_simp
        with_reducible rfl
      rotate_left
      · simp only [Act.put, List.setIfInBounds_toArray, List.set_cons_zero, List.set_cons_succ, i64_w, i32_w]
        rfl
      refine done_ (by kernel_rfl) ?_
      clear hHeld
      have c3 := C3.out
      clear C3 CA CB
      by_cases h7 : n = 7
      · rw [if_pos h7] at c3
        have h7b : ((n : Int) == 7) = true := by simp [h7]
        clear h7
        go_wp2_with (((with_reducible refine gate_callee (f := 7) rfl ?_); refine goesL_ (some 103) rfl rfl Tryd.func7 (by kernel_rfl) rfl #[] rfl (by (try simp only [List.map_toArray, List.map_cons, List.map_nil]); first | done | rfl) ?_; (with_reducible refine (flintlaw05_fixed.calls k true _ AF.out (Ex.below HT.out HB.out)).mono ?_); rintro e wf ⟨rfl, hb⟩; refine ⟨_, rfl, ?_⟩; have n0_ := Aside0.mk (below_step HB.out hb); clear HB hb; have HB := n0_; clear n0_))
        go_ret
        exact ⟨rfl, HB.out⟩
      · rw [if_neg h7] at c3
        have h7b : ((n : Int) == 7) = false := by simp; omega
        have hz2 : (z == 2) = true := by simp [c3]
        clear h7 c3
        go_wp2_with (((with_reducible refine gate_callee (f := 7) rfl ?_); refine goesL_ (some 103) rfl rfl Tryd.func7 (by kernel_rfl) rfl #[] rfl (by (try simp only [List.map_toArray, List.map_cons, List.map_nil]); first | done | rfl) ?_; (with_reducible refine (flintlaw05_fixed.calls k true _ AF.out (Ex.below HT.out HB.out)).mono ?_); rintro e wf ⟨rfl, hb⟩; refine ⟨_, rfl, ?_⟩; have n0_ := Aside0.mk (below_step HB.out hb); clear HB hb; have HB := n0_; clear n0_))
        go_ret
        exact ⟨rfl, HB.out⟩
/-- THE ONE PURE STATEMENT of flintlaw05_HeadLess. -/
def flintlaw05_HeadLess.Pure : Prop := ∀ (a0_0 a0_1 a1 a2 : Int), (Lit.int .i64 a0_0).wf = true → (Lit.int .i64 a0_1).wf = true → (Lit.int .u8 a1).wf = true → (Lit.int .u8 a2).wf = true → ∃ k, flintlaw05_HeadLess.f k a0_0 a0_1 a1 a2 = some true
theorem flintlaw05_HeadLess.walk (P : flintlaw05_HeadLess.Pure) (a0_0 a0_1 a1 a2 : Int) (w : World) (w0 : (Lit.int .i64 a0_0).wf = true) (w0' : (Lit.int .i64 a0_1).wf = true) (w1 : (Lit.int .u8 a1).wf = true) (w2 : (Lit.int .u8 a2).wf = true) (hT0 : Ex w) :
    Calls Tryd.prog 5 #[.agg #[.int .i64 a0_0, .int .i64 a0_1], .int .u8 a1, .int .u8 a2] w fun e w' => e = .returned (.bool true) ∧ Below w.heap.size w w' := by
  obtain ⟨k, h⟩ := P a0_0 a0_1 a1 a2 w0 w0' w1 w2
  exact flintlaw05_HeadLess.calls k a0_0 a0_1 a1 a2 w (by simpa [Lit.wf, IntKind.min, IntKind.max, IntKind.signed, IntKind.bits] using w1) (by simpa [Lit.wf, IntKind.min, IntKind.max, IntKind.signed, IntKind.bits] using w2) h hT0

end Go.Proofs.YtconcmobjkpkcaaDoor.G
