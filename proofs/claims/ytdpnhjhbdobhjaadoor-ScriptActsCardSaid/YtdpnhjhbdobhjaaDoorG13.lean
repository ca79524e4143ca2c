-- Written by wip/gen.py: the kit's print.py, with this session's own texts where it takes a function not. Not trusted: Lean checks it.
import Derived.Test.YtdpnhjhbdobhjaaDoorG0
import Derived.Test.YtdpnhjhbdobhjaaDoorG8
import Derived.Test.YtdpnhjhbdobhjaaDoorG9
import Derived.Test.YtdpnhjhbdobhjaaDoorG12
namespace Go.Proofs.YtdpnhjhbdobhjaaDoor.G
open Go.RowKit Go.Proofs.YtdpnhjhbdobhjaaDoorW.PrintWords Go.Proofs.YtdpnhjhbdobhjaaDoorW.PrintLast Go.Proofs.YtdpnhjhbdobhjaaDoorW.PrintMore
attribute [local go_sem] max2_int min2_int max_two min_two max_three min_three max_four min_four   -- for this text's walks alone
set_option linter.unusedVariables false
set_option linter.unusedSimpArgs false

/-! ### flintref25_Acts: function 7 -/
mutual
def flintref25_Acts.l0 : Nat → List Int → List (S31) → Int → Option ((List (S31)))
  | 0, _, _, _ => none
  | k + 1, x0, x3, x4 => if (wrap64 (x4 + 3)) < (x0.length : Int) then (flintref25_Acts.j1 k x0 x3 x4 (decide ((x3.length : Int) < 512))) else (flintref25_Acts.j1 k x0 x3 x4 false)
def flintref25_Acts.j1 : Nat → List Int → List (S31) → Int → Bool → Option ((List (S31)))
  | 0, _, _, _, _ => none
  | k + 1, x0, x3, x4, x20 => if x20 = true then ((flintref25_at.f x0 x4).bind fun t167 => ((flintref25_at.f x0 (wrap64 (x4 + 2))).bind fun t168 => ((flintref25_at.f x0 (wrap64 (x4 + 3))).bind fun t169 => ((flintref25_at.f x0 (wrap64 (x4 + 1))).bind fun t170 => ((flintref25_kind.f k t167).bind fun t172 => (if t172 > 0 then ((flintref25_op.f k t172 t168 t169).bind fun bt173 => (flintref25_Acts.j2 k x0 x3 x4 t167 t168 t169 t172 1 (Int.tmod t170 4) bt173.1 bt173.2.1 bt173.2.2.1 bt173.2.2.2.1 bt173.2.2.2.2.1 bt173.2.2.2.2.2.1 bt173.2.2.2.2.2.2 0 0 0)) else (flintref25_Acts.j2 k x0 x3 x4 t167 t168 t169 t172 0 (Int.tmod t170 4) 0 (⟨#[]⟩ : ByteArray) (⟨#[]⟩ : ByteArray) 0 0 0 ([] : List Int) 0 0 0))))))) else (some x3)
def flintref25_Acts.j2 : Nat → List Int → List (S31) → Int → Int → Int → Int → Int → Int → Int → Int → ByteArray → ByteArray → Int → Int → Int → List Int → Int → Int → Int → Option ((List (S31)))
  | 0, _, _, _, _, _, _, _, _, _, _, _, _, _, _, _, _, _, _, _ => none
  | k + 1, x0, x3, x4, x5, x6, x7, x9, x172000, x172001, x172002, x172003, x172004, x172005, x172006, x172007, x172008, x172009, x172010, x172011 => if x9 = 0 then (if (wrap64 (Int.tdiv x5 32)) = 4 then (if x3.length < 1172812402961 then (flintref25_Acts.l0 k x0 (x3 ++ [(⟨3, x172001, (⟨x172002, x172003, x172004, x172005, x172006, x172007, x172008⟩ : S28), x172009, x172010, x172011⟩ : S31)]) (wrap64 (x4 + 4))) else (none)) else (if (wrap64 (Int.tdiv x5 32)) = 5 then (flintref25_Acts.j3 k x0 x3 x4 x6 x7 (wrap64 (Int.tdiv x5 32)) ((wrap64 (Int.tdiv x5 32)) == 5) x172000 x172001 x172002 x172003 x172004 x172005 x172006 x172007 x172008 x172009 x172010 x172011) else (flintref25_Acts.j3 k x0 x3 x4 x6 x7 (wrap64 (Int.tdiv x5 32)) ((wrap64 (Int.tdiv x5 32)) == 6) x172000 x172001 x172002 x172003 x172004 x172005 x172006 x172007 x172008 x172009 x172010 x172011))) else (if x3.length < 1172812402961 then (flintref25_Acts.l0 k x0 (x3 ++ [(⟨x172000, x172001, (⟨x172002, x172003, x172004, x172005, x172006, x172007, x172008⟩ : S28), x172009, x172010, x172011⟩ : S31)]) (wrap64 (x4 + 4))) else (none))
def flintref25_Acts.j3 : Nat → List Int → List (S31) → Int → Int → Int → Int → Bool → Int → Int → Int → ByteArray → ByteArray → Int → Int → Int → List Int → Int → Int → Int → Option ((List (S31)))
  | 0, _, _, _, _, _, _, _, _, _, _, _, _, _, _, _, _, _, _, _ => none
  | k + 1, x0, x3, x4, x6, x7, x53, x68, x172000, x172001, x172002, x172003, x172004, x172005, x172006, x172007, x172008, x172009, x172010, x172011 => if x68 = true then (if x3.length < 1172812402961 then (flintref25_Acts.l0 k x0 (x3 ++ [(⟨4, x172001, (⟨x172002, x172003, x172004, x172005, x172006, x172007, x172008⟩ : S28), x172009, x172010, x172011⟩ : S31)]) (wrap64 (x4 + 4))) else (none)) else (if x53 = 7 then (if x3.length < 1172812402961 then (flintref25_Acts.l0 k x0 (x3 ++ [(⟨5, x172001, (⟨x172002, x172003, x172004, x172005, x172006, x172007, x172008⟩ : S28), (x6) % 4294967296, x172010, x172011⟩ : S31)]) (wrap64 (x4 + 4))) else (none)) else (if x3.length < 1172812402961 then (flintref25_Acts.l0 k x0 (x3 ++ [(⟨2, x172001, (⟨x172002, x172003, x172004, x172005, x172006, x172007, x172008⟩ : S28), (x6) % 4294967296, (wrap64 (4 * x7)) % 4294967296, (x7) % 256⟩ : S31)]) (wrap64 (x4 + 4))) else (none)))
end
def flintref25_Acts.f (k : Nat) (l0 : List Int) : Option ((List (S31))) := flintref25_Acts.l0 k l0 (([] : List (S31))) 2
theorem flintref25_Acts.mono_l : ∀ k, (∀ y0 y1 y2, LeO (flintref25_Acts.l0 k y0 y1 y2) (flintref25_Acts.l0 (k + 1) y0 y1 y2)) ∧ (∀ y0 y1 y2 y3, LeO (flintref25_Acts.j1 k y0 y1 y2 y3) (flintref25_Acts.j1 (k + 1) y0 y1 y2 y3)) ∧ (∀ y0 y1 y2 y3 y4 y5 y6 y7 y8 y9 y10 y11 y12 y13 y14 y15 y16 y17 y18, LeO (flintref25_Acts.j2 k y0 y1 y2 y3 y4 y5 y6 y7 y8 y9 y10 y11 y12 y13 y14 y15 y16 y17 y18) (flintref25_Acts.j2 (k + 1) y0 y1 y2 y3 y4 y5 y6 y7 y8 y9 y10 y11 y12 y13 y14 y15 y16 y17 y18)) ∧ (∀ y0 y1 y2 y3 y4 y5 y6 y7 y8 y9 y10 y11 y12 y13 y14 y15 y16 y17 y18, LeO (flintref25_Acts.j3 k y0 y1 y2 y3 y4 y5 y6 y7 y8 y9 y10 y11 y12 y13 y14 y15 y16 y17 y18) (flintref25_Acts.j3 (k + 1) y0 y1 y2 y3 y4 y5 y6 y7 y8 y9 y10 y11 y12 y13 y14 y15 y16 y17 y18))
  | 0 => ⟨fun _ _ _ r h => by simp [flintref25_Acts.l0] at h, fun _ _ _ _ r h => by simp [flintref25_Acts.j1] at h, fun _ _ _ _ _ _ _ _ _ _ _ _ _ _ _ _ _ _ _ r h => by simp [flintref25_Acts.j2] at h, fun _ _ _ _ _ _ _ _ _ _ _ _ _ _ _ _ _ _ _ r h => by simp [flintref25_Acts.j3] at h⟩
  | k + 1 => by
    obtain ⟨ih0, ih1, ih2, ih3⟩ := flintref25_Acts.mono_l k
    refine ⟨?_, ?_, ?_, ?_⟩
    · intro y0 y1 y2
      unfold flintref25_Acts.l0
      repeat' first
      | (with_reducible exact ih0 _ _ _)
      | (with_reducible exact ih1 _ _ _ _)
      | (with_reducible exact ih2 _ _ _ _ _ _ _ _ _ _ _ _ _ _ _ _ _ _ _)
      | (with_reducible exact ih3 _ _ _ _ _ _ _ _ _ _ _ _ _ _ _ _ _ _ _)
      | (with_reducible exact flintref25_kind.mono _ _)
      | (with_reducible exact flintref25_op.mono _ _ _ _)
      | (with_reducible exact LeO.refl _)
      | (with_reducible exact LeO.none _)
      | (with_reducible refine LeO.ite ?_ ?_)
      | (with_reducible refine LeO.bind ?_ (fun _ => ?_))
      | exact ih0 _ _ _
      | exact ih1 _ _ _ _
      | exact ih2 _ _ _ _ _ _ _ _ _ _ _ _ _ _ _ _ _ _ _
      | exact ih3 _ _ _ _ _ _ _ _ _ _ _ _ _ _ _ _ _ _ _
      | exact flintref25_kind.mono _ _
      | exact flintref25_op.mono _ _ _ _
      | exact LeO.none _
      | refine LeO.ite ?_ ?_
      | refine LeO.bind ?_ (fun _ => ?_)
    · intro y0 y1 y2 y3
      unfold flintref25_Acts.j1
      repeat' first
      | (with_reducible exact ih0 _ _ _)
      | (with_reducible exact ih1 _ _ _ _)
      | (with_reducible exact ih2 _ _ _ _ _ _ _ _ _ _ _ _ _ _ _ _ _ _ _)
      | (with_reducible exact ih3 _ _ _ _ _ _ _ _ _ _ _ _ _ _ _ _ _ _ _)
      | (with_reducible exact flintref25_kind.mono _ _)
      | (with_reducible exact flintref25_op.mono _ _ _ _)
      | (with_reducible exact LeO.refl _)
      | (with_reducible exact LeO.none _)
      | (with_reducible refine LeO.ite ?_ ?_)
      | (with_reducible refine LeO.bind ?_ (fun _ => ?_))
      | exact ih0 _ _ _
      | exact ih1 _ _ _ _
      | exact ih2 _ _ _ _ _ _ _ _ _ _ _ _ _ _ _ _ _ _ _
      | exact ih3 _ _ _ _ _ _ _ _ _ _ _ _ _ _ _ _ _ _ _
      | exact flintref25_kind.mono _ _
      | exact flintref25_op.mono _ _ _ _
      | exact LeO.none _
      | refine LeO.ite ?_ ?_
      | refine LeO.bind ?_ (fun _ => ?_)
    · intro y0 y1 y2 y3 y4 y5 y6 y7 y8 y9 y10 y11 y12 y13 y14 y15 y16 y17 y18
      unfold flintref25_Acts.j2
      repeat' first
      | (with_reducible exact ih0 _ _ _)
      | (with_reducible exact ih1 _ _ _ _)
      | (with_reducible exact ih2 _ _ _ _ _ _ _ _ _ _ _ _ _ _ _ _ _ _ _)
      | (with_reducible exact ih3 _ _ _ _ _ _ _ _ _ _ _ _ _ _ _ _ _ _ _)
      | (with_reducible exact flintref25_kind.mono _ _)
      | (with_reducible exact flintref25_op.mono _ _ _ _)
      | (with_reducible exact LeO.refl _)
      | (with_reducible exact LeO.none _)
      | (with_reducible refine LeO.ite ?_ ?_)
      | (with_reducible refine LeO.bind ?_ (fun _ => ?_))
      | exact ih0 _ _ _
      | exact ih1 _ _ _ _
      | exact ih2 _ _ _ _ _ _ _ _ _ _ _ _ _ _ _ _ _ _ _
      | exact ih3 _ _ _ _ _ _ _ _ _ _ _ _ _ _ _ _ _ _ _
      | exact flintref25_kind.mono _ _
      | exact flintref25_op.mono _ _ _ _
      | exact LeO.none _
      | refine LeO.ite ?_ ?_
      | refine LeO.bind ?_ (fun _ => ?_)
    · intro y0 y1 y2 y3 y4 y5 y6 y7 y8 y9 y10 y11 y12 y13 y14 y15 y16 y17 y18
      unfold flintref25_Acts.j3
      repeat' first
      | (with_reducible exact ih0 _ _ _)
      | (with_reducible exact ih1 _ _ _ _)
      | (with_reducible exact ih2 _ _ _ _ _ _ _ _ _ _ _ _ _ _ _ _ _ _ _)
      | (with_reducible exact ih3 _ _ _ _ _ _ _ _ _ _ _ _ _ _ _ _ _ _ _)
      | (with_reducible exact flintref25_kind.mono _ _)
      | (with_reducible exact flintref25_op.mono _ _ _ _)
      | (with_reducible exact LeO.refl _)
      | (with_reducible exact LeO.none _)
      | (with_reducible refine LeO.ite ?_ ?_)
      | (with_reducible refine LeO.bind ?_ (fun _ => ?_))
      | exact ih0 _ _ _
      | exact ih1 _ _ _ _
      | exact ih2 _ _ _ _ _ _ _ _ _ _ _ _ _ _ _ _ _ _ _
      | exact ih3 _ _ _ _ _ _ _ _ _ _ _ _ _ _ _ _ _ _ _
      | exact flintref25_kind.mono _ _
      | exact flintref25_op.mono _ _ _ _
      | exact LeO.none _
      | refine LeO.ite ?_ ?_
      | refine LeO.bind ?_ (fun _ => ?_)
theorem flintref25_Acts.mono : ∀ a0 k, LeO (flintref25_Acts.f k a0) (flintref25_Acts.f (k + 1) a0) := by
  intro a0 k
  obtain ⟨ih0, ih1, ih2, ih3⟩ := flintref25_Acts.mono_l k
  unfold flintref25_Acts.f
  repeat' first
      | (with_reducible exact ih0 _ _ _)
      | (with_reducible exact ih1 _ _ _ _)
      | (with_reducible exact ih2 _ _ _ _ _ _ _ _ _ _ _ _ _ _ _ _ _ _ _)
      | (with_reducible exact ih3 _ _ _ _ _ _ _ _ _ _ _ _ _ _ _ _ _ _ _)
      | (with_reducible exact flintref25_kind.mono _ _)
      | (with_reducible exact flintref25_op.mono _ _ _ _)
      | (with_reducible exact LeO.refl _)
      | (with_reducible exact LeO.none _)
      | (with_reducible refine LeO.ite ?_ ?_)
      | (with_reducible refine LeO.bind ?_ (fun _ => ?_))
      | exact ih0 _ _ _
      | exact ih1 _ _ _ _
      | exact ih2 _ _ _ _ _ _ _ _ _ _ _ _ _ _ _ _ _ _ _
      | exact ih3 _ _ _ _ _ _ _ _ _ _ _ _ _ _ _ _ _ _ _
      | exact flintref25_kind.mono _ _
      | exact flintref25_op.mono _ _ _ _
      | exact LeO.none _
      | refine LeO.ite ?_ ?_
      | refine LeO.bind ?_ (fun _ => ?_)
set_option maxHeartbeats 8000000 in
set_option maxRecDepth 100000 in
theorem flintref25_Acts.calls (k : Nat) (A0 : Option Addr) (c0 : Nat) (l0 : List Int) (r : List (S31)) (w : World) (hr0 : Kd.C (Kd.int .u8) w A0 l0.length l0) (hc0 : l0.length ≤ c0) (h : flintref25_Acts.f k l0 = some r) :
    Calls Tryd.prog 7 #[.slice A0 l0.length c0] w fun e w' => ∃ v0_ : Value, e = .returned (v0_) ∧ Kd.S k31 31 w' w.heap.size (fun _ => True) v0_ r ∧ Below w.heap.size w w' := by
  have hu31 := Tryd.underlying31
  have hu28 := Tryd.underlying28
  have HR0 := Aside0.mk hr0
  have HC0 := Aside0.mk hc0
  clear hr0 hc0
  have HB := Aside0.mk (Below.refl w.heap.size w)
  have H : (flintref25_Acts.l0 k l0 (([] : List (S31))) 2) = some r := h
  clear h
  obtain ⟨y164, hy164⟩ : ∃ y_ : List (S31), y_ = (([] : List (S31))) := ⟨_, rfl⟩
  replace H : (flintref25_Acts.l0 k l0 y164 2) = some r := by first | (rw [hy164]; with_reducible exact H) | (have H2_ := (Option.bind_some _ _).symm.trans H; rw [hy164]; with_reducible exact H2_) | (have H2_ := (Option.bind_some _ _).symm.trans H; with_reducible exact H2_) | with_reducible exact H | (rw [hy164]; exact H) | exact H
  have Ny164 := Aside0.mk hy164
  clear hy164
  have H' := Aside0.mk H
  clear H
  go_enter Tryd.func7, Tryd.ntmps7
  go_wp2_with (first | ((with_reducible refine gate_dst (N := 10) rfl ?_); (try (refine gate_guard (by rfl) ?_; dsimp only)); refine Kd.S_lit k31 _ 31 ?hg (N := 10) ?hd (xs := ([] : List (S31))) (inner := []) (ok := fun _ => True) (okp := fun _ => True) ?hr ?hp (fun _ hk => hk) trivial (Below.refl _ _) (Nat.le_refl _) (by simp) ?_; (case hd => rfl); (case hg => rfl); (case hr => first | (go_simp; done) | (go_simp; rfl)); (case hp => exact (Reps.none _ _)); intro v165 w2 ho3 hb hg_ hnew_; clear hg_ hnew_; (first | rw [← Ny164.out] at ho3 | (simp only [Int.reduceToNat] at ho3; rw [← Ny164.out] at ho3)); have n0_ := Aside0.mk (Kd.S_lower ho3 (below_size (by repeat (first | (with_reducible first | exact HB.out | apply below_alloc | apply pw_below_drewN | apply below_drew1) | exact HB.out)))); have n1_ := Aside0.mk (below_step (by repeat (first | (with_reducible first | exact HB.out | apply below_alloc | apply pw_below_drewN | apply below_drew1) | exact HB.out)) hb); clear HB; have HO166 := n0_; have HB := n1_; clear n0_ n1_; clear hb ho3))
  go_loopg [3, 4] k (fun kq v3 v4 w' => ∃ (x3_1 : List (S31)) (x4_1 : Int), v4 = .int .i64 x4_1 ∧ Aside0 (flintref25_Acts.l0 kq l0 x3_1 x4_1 = some r) ∧ Aside0 (kq ≤ k) ∧ Aside0 (Kd.S k31 31 w' w.heap.size (fun _ => True) v3 x3_1) ∧ Aside0 (Below w.heap.size w w'))
  case atStart => exact ⟨(y164), (2), (by first | rfl | (simp; done) | (simp [*]; done)), H', ⟨Nat.le_refl _⟩, ⟨by (with_reducible repeat (first | apply Kd.S_alloc | apply Kd.S_drewN | apply Kd.S_drew)); exact HO166.out⟩, ⟨by repeat (first | (with_reducible first | exact HB.out | apply below_alloc | apply pw_below_drewN | apply below_drew1) | exact HB.out)⟩⟩
  case round =>
    clear H'
    try clear p2
    obtain ⟨x3_1, x4_1, rfl, HA, HK1, HO_3, HB⟩ := hrel
    cases gk with
    | zero => exact absurd HA.out (by simp [flintref25_Acts.l0])
    | succ k1 =>
      have H := HA.out
      clear HA
      simp only [flintref25_Acts.l0] at H
      have HC4 := Aside0.mk H
      clear H
      go_upto_region 3 with (fail)
      go_cut [20] (fun v20 wc => ∃ (kq : Nat) (x20_3 : Bool), v20 = .bool x20_3 ∧ Aside0 (flintref25_Acts.j1 kq l0 x3_1 x4_1 x20_3 = some r) ∧ Aside0 (kq ≤ k1) ∧ Aside0 (Kd.S k31 31 wc w.heap.size (fun _ => True) u3 x3_1) ∧ Aside0 (Below w.heap.size w wc))
      case first =>
        have H := HC4.out
        clear HC4
        by_cases c5 : (wrap64 (x4_1 + 3)) < (l0.length : Int)
        · rw [if_pos c5] at H
          have c5b0 : decide ((wrap64 (x4_1 + 3)) < (l0.length : Int)) = true := decide_eq_true c5
          clear c5
          (first | rw [c5b0] | (simp only [i64_w, i32_w]; rw [c5b0]) | skip)
          have H' := Aside0.mk H
          clear H
          obtain ⟨Ao6, co6, eo6⟩ := Kd.S_slice HO_3.out
          subst eo6
          go_wp2
          go_meet
          case rel => exact ⟨_, (decide ((x3_1.length : Int) < 512)), (by first | rfl | (simp; done) | (simp [*]; done)), H', ⟨by have := HK1.out; first | omega | exact Nat.le_refl _⟩, ⟨by (with_reducible repeat (first | apply Kd.S_alloc | apply Kd.S_drewN | apply Kd.S_drew)); exact HO_3.out⟩, ⟨by repeat (first | (with_reducible first | exact HB.out | apply below_alloc | apply pw_below_drewN | apply below_drew1) | exact HB.out)⟩⟩
        · rw [if_neg c5] at H
          have c5b0 : decide ((wrap64 (x4_1 + 3)) < (l0.length : Int)) = false := decide_eq_false c5
          clear c5
          (first | rw [c5b0] | (simp only [i64_w, i32_w]; rw [c5b0]) | skip)
          have H' := Aside0.mk H
          clear H
          go_wp2
          go_meet
          case rel => exact ⟨_, (false), (by first | rfl | (simp; done) | (simp [*]; done)), H', ⟨by have := HK1.out; first | omega | exact Nat.le_refl _⟩, ⟨by (with_reducible repeat (first | apply Kd.S_alloc | apply Kd.S_drewN | apply Kd.S_drew)); exact HO_3.out⟩, ⟨by repeat (first | (with_reducible first | exact HB.out | apply below_alloc | apply pw_below_drewN | apply below_drew1) | exact HB.out)⟩⟩
      case rest =>
        clear HC4
        try clear p2
        try clear c5
        try clear c5b0
        try clear p6
        try clear p2
        obtain ⟨kq, x20_3, rfl, HA, HJ3, HO_3, HB⟩ := hcut
        cases kq with
        | zero => exact absurd HA.out (by simp [flintref25_Acts.j1])
        | succ kj3 =>
          have H := HA.out
          clear HA
          simp only [flintref25_Acts.j1] at H
          by_cases c7 : x20_3 = true
          · subst c7
            have H1 : ((flintref25_at.f l0 x4_1).bind fun t167 => ((flintref25_at.f l0 (wrap64 (x4_1 + 2))).bind fun t168 => ((flintref25_at.f l0 (wrap64 (x4_1 + 3))).bind fun t169 => ((flintref25_at.f l0 (wrap64 (x4_1 + 1))).bind fun t170 => ((flintref25_kind.f kj3 t167).bind fun t172 => (if t172 > 0 then ((flintref25_op.f kj3 t172 t168 t169).bind fun bt173 => (flintref25_Acts.j2 kj3 l0 x3_1 x4_1 t167 t168 t169 t172 1 (Int.tmod t170 4) bt173.1 bt173.2.1 bt173.2.2.1 bt173.2.2.2.1 bt173.2.2.2.2.1 bt173.2.2.2.2.2.1 bt173.2.2.2.2.2.2 0 0 0)) else (flintref25_Acts.j2 kj3 l0 x3_1 x4_1 t167 t168 t169 t172 0 (Int.tmod t170 4) 0 (⟨#[]⟩ : ByteArray) (⟨#[]⟩ : ByteArray) 0 0 0 ([] : List Int) 0 0 0))))))) = some r := by rw [if_pos rfl] at H; exact H
            clear H
            have H := H1
            clear H1
            replace H := Option.bind_eq_some_iff.mp H
            obtain ⟨t167, A80, H⟩ := H
            replace H : ((flintref25_at.f l0 (wrap64 (x4_1 + 2))).bind fun t168 => ((flintref25_at.f l0 (wrap64 (x4_1 + 3))).bind fun t169 => ((flintref25_at.f l0 (wrap64 (x4_1 + 1))).bind fun t170 => ((flintref25_kind.f kj3 t167).bind fun t172 => (if t172 > 0 then ((flintref25_op.f kj3 t172 t168 t169).bind fun bt173 => (flintref25_Acts.j2 kj3 l0 x3_1 x4_1 t167 t168 t169 t172 1 (Int.tmod t170 4) bt173.1 bt173.2.1 bt173.2.2.1 bt173.2.2.2.1 bt173.2.2.2.2.1 bt173.2.2.2.2.2.1 bt173.2.2.2.2.2.2 0 0 0)) else (flintref25_Acts.j2 kj3 l0 x3_1 x4_1 t167 t168 t169 t172 0 (Int.tmod t170 4) 0 (⟨#[]⟩ : ByteArray) (⟨#[]⟩ : ByteArray) 0 0 0 ([] : List Int) 0 0 0)))))) = some r := H
            have A8 := Aside0.mk A80
            clear A80
            replace H := Option.bind_eq_some_iff.mp H
            obtain ⟨t168, A90, H⟩ := H
            replace H : ((flintref25_at.f l0 (wrap64 (x4_1 + 3))).bind fun t169 => ((flintref25_at.f l0 (wrap64 (x4_1 + 1))).bind fun t170 => ((flintref25_kind.f kj3 t167).bind fun t172 => (if t172 > 0 then ((flintref25_op.f kj3 t172 t168 t169).bind fun bt173 => (flintref25_Acts.j2 kj3 l0 x3_1 x4_1 t167 t168 t169 t172 1 (Int.tmod t170 4) bt173.1 bt173.2.1 bt173.2.2.1 bt173.2.2.2.1 bt173.2.2.2.2.1 bt173.2.2.2.2.2.1 bt173.2.2.2.2.2.2 0 0 0)) else (flintref25_Acts.j2 kj3 l0 x3_1 x4_1 t167 t168 t169 t172 0 (Int.tmod t170 4) 0 (⟨#[]⟩ : ByteArray) (⟨#[]⟩ : ByteArray) 0 0 0 ([] : List Int) 0 0 0))))) = some r := H
            have A9 := Aside0.mk A90
            clear A90
            replace H := Option.bind_eq_some_iff.mp H
            obtain ⟨t169, A100, H⟩ := H
            replace H : ((flintref25_at.f l0 (wrap64 (x4_1 + 1))).bind fun t170 => ((flintref25_kind.f kj3 t167).bind fun t172 => (if t172 > 0 then ((flintref25_op.f kj3 t172 t168 t169).bind fun bt173 => (flintref25_Acts.j2 kj3 l0 x3_1 x4_1 t167 t168 t169 t172 1 (Int.tmod t170 4) bt173.1 bt173.2.1 bt173.2.2.1 bt173.2.2.2.1 bt173.2.2.2.2.1 bt173.2.2.2.2.2.1 bt173.2.2.2.2.2.2 0 0 0)) else (flintref25_Acts.j2 kj3 l0 x3_1 x4_1 t167 t168 t169 t172 0 (Int.tmod t170 4) 0 (⟨#[]⟩ : ByteArray) (⟨#[]⟩ : ByteArray) 0 0 0 ([] : List Int) 0 0 0)))) = some r := H
            have A10 := Aside0.mk A100
            clear A100
            replace H := Option.bind_eq_some_iff.mp H
            obtain ⟨t170, A110, H⟩ := H
            replace H : ((flintref25_kind.f kj3 t167).bind fun t172 => (if t172 > 0 then ((flintref25_op.f kj3 t172 t168 t169).bind fun bt173 => (flintref25_Acts.j2 kj3 l0 x3_1 x4_1 t167 t168 t169 t172 1 (Int.tmod t170 4) bt173.1 bt173.2.1 bt173.2.2.1 bt173.2.2.2.1 bt173.2.2.2.2.1 bt173.2.2.2.2.2.1 bt173.2.2.2.2.2.2 0 0 0)) else (flintref25_Acts.j2 kj3 l0 x3_1 x4_1 t167 t168 t169 t172 0 (Int.tmod t170 4) 0 (⟨#[]⟩ : ByteArray) (⟨#[]⟩ : ByteArray) 0 0 0 ([] : List Int) 0 0 0))) = some r := H
            have A11 := Aside0.mk A110
            clear A110
            replace H := Option.bind_eq_some_iff.mp H
            obtain ⟨t172, A120, H⟩ := H
            replace H : (if t172 > 0 then ((flintref25_op.f kj3 t172 t168 t169).bind fun bt173 => (flintref25_Acts.j2 kj3 l0 x3_1 x4_1 t167 t168 t169 t172 1 (Int.tmod t170 4) bt173.1 bt173.2.1 bt173.2.2.1 bt173.2.2.2.1 bt173.2.2.2.2.1 bt173.2.2.2.2.2.1 bt173.2.2.2.2.2.2 0 0 0)) else (flintref25_Acts.j2 kj3 l0 x3_1 x4_1 t167 t168 t169 t172 0 (Int.tmod t170 4) 0 (⟨#[]⟩ : ByteArray) (⟨#[]⟩ : ByteArray) 0 0 0 ([] : List Int) 0 0 0)) = some r := H
            have A12 := Aside0.mk A120
            clear A120
            have HC13 := Aside0.mk H
            clear H
            go_upto_if 43 with (first | ((with_reducible refine gate_callee (f := 11) rfl ?_); refine goesL_ (some 25) rfl rfl Tryd.func11 (by kernel_rfl) rfl #[.slice A0 l0.length c0, .int .i64 x4_1] rfl (by (try simp only [List.map_toArray, List.map_cons, List.map_nil]); first | done | rfl | (simp only [List.length_drop, List.length_take]; rfl)) ?_; (with_reducible refine (flintref25_at.calls _ _ l0 x4_1 t167 _ ?side1 ?side2 A8.out).mono ?_); (case side1 => repeat (first | exact (Kd.C_below HR0.out HB.out) | (with_reducible refine Kd.C_alloc ?_ _) | (with_reducible refine Kd.C_drewN ?_ _) | (with_reducible refine Kd.C_drew ?_))); (case side2 => exact HC0.out); rintro e w' ⟨rfl, ⟨nd, rfl⟩⟩; refine ⟨_, rfl, ?_⟩; (try (rw [drewN_self wc]; generalize hq_ : World.drewN wc _ = wc; have n0_ : Aside0 (Kd.S k31 31 wc w.heap.size (fun _ => True) u3 x3_1) := ⟨by rw [← hq_]; exact (by (with_reducible repeat (first | apply Kd.S_alloc | apply Kd.S_drewN | apply Kd.S_drew)); exact HO_3.out)⟩; have n1_ : Aside0 (Below w.heap.size w wc) := ⟨by rw [← hq_]; exact (by repeat (first | (with_reducible first | exact HB.out | apply below_alloc | apply pw_below_drewN | apply below_drew1) | exact HB.out))⟩; clear HO_3 HB hq_; have HO_3 := n0_; have HB := n1_; clear n0_ n1_))) | ((with_reducible refine gate_callee (f := 11) rfl ?_); refine goesL_ (some 29) rfl rfl Tryd.func11 (by kernel_rfl) rfl #[.slice A0 l0.length c0, .int .i64 (wrap64 (x4_1 + 2))] rfl (by (try simp only [List.map_toArray, List.map_cons, List.map_nil]); first | done | rfl | (simp only [List.length_drop, List.length_take]; rfl)) ?_; (with_reducible refine (flintref25_at.calls _ _ l0 (wrap64 (x4_1 + 2)) t168 _ ?side1 ?side2 A9.out).mono ?_); (case side1 => repeat (first | exact (Kd.C_below HR0.out HB.out) | (with_reducible refine Kd.C_alloc ?_ _) | (with_reducible refine Kd.C_drewN ?_ _) | (with_reducible refine Kd.C_drew ?_))); (case side2 => exact HC0.out); rintro e w' ⟨rfl, ⟨nd, rfl⟩⟩; refine ⟨_, rfl, ?_⟩; (try (rw [drewN_self wc]; generalize hq_ : World.drewN wc _ = wc; have n0_ : Aside0 (Kd.S k31 31 wc w.heap.size (fun _ => True) u3 x3_1) := ⟨by rw [← hq_]; exact (by (with_reducible repeat (first | apply Kd.S_alloc | apply Kd.S_drewN | apply Kd.S_drew)); exact HO_3.out)⟩; have n1_ : Aside0 (Below w.heap.size w wc) := ⟨by rw [← hq_]; exact (by repeat (first | (with_reducible first | exact HB.out | apply below_alloc | apply pw_below_drewN | apply below_drew1) | exact HB.out))⟩; clear HO_3 HB hq_; have HO_3 := n0_; have HB := n1_; clear n0_ n1_))) | ((with_reducible refine gate_callee (f := 11) rfl ?_); refine goesL_ (some 33) rfl rfl Tryd.func11 (by kernel_rfl) rfl #[.slice A0 l0.length c0, .int .i64 (wrap64 (x4_1 + 3))] rfl (by (try simp only [List.map_toArray, List.map_cons, List.map_nil]); first | done | rfl | (simp only [List.length_drop, List.length_take]; rfl)) ?_; (with_reducible refine (flintref25_at.calls _ _ l0 (wrap64 (x4_1 + 3)) t169 _ ?side1 ?side2 A10.out).mono ?_); (case side1 => repeat (first | exact (Kd.C_below HR0.out HB.out) | (with_reducible refine Kd.C_alloc ?_ _) | (with_reducible refine Kd.C_drewN ?_ _) | (with_reducible refine Kd.C_drew ?_))); (case side2 => exact HC0.out); rintro e w' ⟨rfl, ⟨nd, rfl⟩⟩; refine ⟨_, rfl, ?_⟩; (try (rw [drewN_self wc]; generalize hq_ : World.drewN wc _ = wc; have n0_ : Aside0 (Kd.S k31 31 wc w.heap.size (fun _ => True) u3 x3_1) := ⟨by rw [← hq_]; exact (by (with_reducible repeat (first | apply Kd.S_alloc | apply Kd.S_drewN | apply Kd.S_drew)); exact HO_3.out)⟩; have n1_ : Aside0 (Below w.heap.size w wc) := ⟨by rw [← hq_]; exact (by repeat (first | (with_reducible first | exact HB.out | apply below_alloc | apply pw_below_drewN | apply below_drew1) | exact HB.out))⟩; clear HO_3 HB hq_; have HO_3 := n0_; have HB := n1_; clear n0_ n1_))) | ((with_reducible refine gate_callee (f := 11) rfl ?_); refine goesL_ (some 37) rfl rfl Tryd.func11 (by kernel_rfl) rfl #[.slice A0 l0.length c0, .int .i64 (wrap64 (x4_1 + 1))] rfl (by (try simp only [List.map_toArray, List.map_cons, List.map_nil]); first | done | rfl | (simp only [List.length_drop, List.length_take]; rfl)) ?_; (with_reducible refine (flintref25_at.calls _ _ l0 (wrap64 (x4_1 + 1)) t170 _ ?side1 ?side2 A11.out).mono ?_); (case side1 => repeat (first | exact (Kd.C_below HR0.out HB.out) | (with_reducible refine Kd.C_alloc ?_ _) | (with_reducible refine Kd.C_drewN ?_ _) | (with_reducible refine Kd.C_drew ?_))); (case side2 => exact HC0.out); rintro e w' ⟨rfl, ⟨nd, rfl⟩⟩; refine ⟨_, rfl, ?_⟩; (try (rw [drewN_self wc]; generalize hq_ : World.drewN wc _ = wc; have n0_ : Aside0 (Kd.S k31 31 wc w.heap.size (fun _ => True) u3 x3_1) := ⟨by rw [← hq_]; exact (by (with_reducible repeat (first | apply Kd.S_alloc | apply Kd.S_drewN | apply Kd.S_drew)); exact HO_3.out)⟩; have n1_ : Aside0 (Below w.heap.size w wc) := ⟨by rw [← hq_]; exact (by repeat (first | (with_reducible first | exact HB.out | apply below_alloc | apply pw_below_drewN | apply below_drew1) | exact HB.out))⟩; clear HO_3 HB hq_; have HO_3 := n0_; have HB := n1_; clear n0_ n1_))) | ((with_reducible refine gate_dst (N := 8) rfl ?_); (try (refine gate_guard (by rfl) ?_; dsimp only)); refine box_event ?hg (N := 8) ?hd (cs := #[.int .u8 0, .int .i64 0, .int .u8 0, .string (⟨#[]⟩ : ByteArray), .string (⟨#[]⟩ : ByteArray), .int .i64 0, .int .i64 0, .int .i64 0, .slice none 0 0, .int .u32 0, .int .u32 0, .int .u8 0]) (t := 31) ?hr ?_; (case hd => rfl); (case hg => rfl); (case hr => first | (go_simp; done) | (go_simp; rfl)); intro gb171 hg w14 hbox hb; have n0_ := Aside0.mk (Kd.S_below (Kd.S_elderB (by (with_reducible repeat (first | apply Kd.S_alloc | apply Kd.S_drewN | apply Kd.S_drew)); exact HO_3.out) gb171 (Nat.le_of_eq hg.symm)) hb); have n1_ := Aside0.mk (below_step (by repeat (first | (with_reducible first | exact HB.out | apply below_alloc | apply pw_below_drewN | apply below_drew1) | exact HB.out)) hb); have n2_ := Aside0.mk (hbox); have n3_ := Aside0.mk ((by rw [hg]; exact (below_size (by repeat (first | (with_reducible first | exact HB.out | apply below_alloc | apply pw_below_drewN | apply below_drew1) | exact HB.out))) : w.heap.size ≤ gb171)); have n4_ := Aside0.mk ((by rw [hg]; exact (below_size (by repeat (first | (with_reducible first | exact HB.out | apply below_alloc | apply pw_below_drewN | apply below_drew1) | exact HB.out))) : w.heap.size ≤ gb171)); clear HO_3; clear HB; have HO_3 := n0_; have HB := n1_; have BK171 := n2_; have GW171 := n3_; have GE171 := n4_; clear n0_ n1_ n2_ n3_ n4_; clear hb hbox hg; have hcz15_0 : w14.cell? ⟨gb171, 0, none⟩ = some (.int .u8 0) := (blk_cell BK171.out 0).trans rfl; have hcz15_1 : w14.cell? ⟨gb171, 1, none⟩ = some (.int .i64 0) := (blk_cell BK171.out 1).trans rfl; have hcz15_2 : w14.cell? ⟨gb171, 2, none⟩ = some (.int .u8 0) := (blk_cell BK171.out 2).trans rfl; have hcz15_3 : w14.cell? ⟨gb171, 3, none⟩ = some (.string (⟨#[]⟩ : ByteArray)) := (blk_cell BK171.out 3).trans rfl; have hcz15_4 : w14.cell? ⟨gb171, 4, none⟩ = some (.string (⟨#[]⟩ : ByteArray)) := (blk_cell BK171.out 4).trans rfl; have hcz15_5 : w14.cell? ⟨gb171, 5, none⟩ = some (.int .i64 0) := (blk_cell BK171.out 5).trans rfl; have hcz15_6 : w14.cell? ⟨gb171, 6, none⟩ = some (.int .i64 0) := (blk_cell BK171.out 6).trans rfl; have hcz15_7 : w14.cell? ⟨gb171, 7, none⟩ = some (.int .i64 0) := (blk_cell BK171.out 7).trans rfl; have hcz15_8 : w14.cell? ⟨gb171, 8, none⟩ = some (.slice none 0 0) := (blk_cell BK171.out 8).trans rfl; have hcz15_9 : w14.cell? ⟨gb171, 9, none⟩ = some (.int .u32 0) := (blk_cell BK171.out 9).trans rfl; have hcz15_10 : w14.cell? ⟨gb171, 10, none⟩ = some (.int .u32 0) := (blk_cell BK171.out 10).trans rfl; have hcz15_11 : w14.cell? ⟨gb171, 11, none⟩ = some (.int .u8 0) := (blk_cell BK171.out 11).trans rfl; have hfz15_0 := blk_frozen BK171.out 0; have hfz15_1 := blk_frozen BK171.out 1; have hfz15_2 := blk_frozen BK171.out 2; have hfz15_3 := blk_frozen BK171.out 3; have hfz15_4 := blk_frozen BK171.out 4; have hfz15_5 := blk_frozen BK171.out 5; have hfz15_6 := blk_frozen BK171.out 6; have hfz15_7 := blk_frozen BK171.out 7; have hfz15_8 := blk_frozen BK171.out 8; have hfz15_9 := blk_frozen BK171.out 9; have hfz15_10 := blk_frozen BK171.out 10; have hfz15_11 := blk_frozen BK171.out 11) | ((with_reducible refine gate_callee (f := 12) rfl ?_); refine goesL_ (some 41) rfl rfl Tryd.func12 (by kernel_rfl) rfl #[.int .i64 t167] rfl (by (try simp only [List.map_toArray, List.map_cons, List.map_nil]); first | done | rfl | (simp only [List.length_drop, List.length_take]; rfl)) ?_; (with_reducible refine (flintref25_kind.calls kj3 t167 t172 _ A12.out).mono ?_); rintro e w16 ⟨rfl, hb⟩; refine ⟨_, rfl, ?_⟩; have n0_ := Aside0.mk (Kd.S_below (by (with_reducible repeat (first | apply Kd.S_alloc | apply Kd.S_drewN | apply Kd.S_drew)); exact (Kd.S_mono (Kd.S_far (p := ⟨gb171, 11, none⟩) (Kd.S_far (p := ⟨gb171, 10, none⟩) (Kd.S_far (p := ⟨gb171, 9, none⟩) (Kd.S_far (p := ⟨gb171, 8, none⟩) (Kd.S_far (p := ⟨gb171, 7, none⟩) (Kd.S_far (p := ⟨gb171, 6, none⟩) (Kd.S_far (p := ⟨gb171, 5, none⟩) (Kd.S_far (p := ⟨gb171, 4, none⟩) (Kd.S_far (p := ⟨gb171, 3, none⟩) (Kd.S_far (p := ⟨gb171, 2, none⟩) (Kd.S_far (p := ⟨gb171, 1, none⟩) (Kd.S_far (p := ⟨gb171, 0, none⟩) (Kd.S_mono HO_3.out (fun k_ hk => (⟨hk, hk.2⟩ : _ ∧ k_ ≠ gb171))) (fun _ hk => hk.2) (.int .u8 0)) (fun _ hk => hk.2) (.int .i64 (Int.tmod t170 4))) (fun _ hk => hk.2) (.int .u8 0)) (fun _ hk => hk.2) (.string (⟨#[]⟩ : ByteArray))) (fun _ hk => hk.2) (.string (⟨#[]⟩ : ByteArray))) (fun _ hk => hk.2) (.int .i64 0)) (fun _ hk => hk.2) (.int .i64 0)) (fun _ hk => hk.2) (.int .i64 0)) (fun _ hk => hk.2) (.slice none 0 0)) (fun _ hk => hk.2) (.int .u32 0)) (fun _ hk => hk.2) (.int .u32 0)) (fun _ hk => hk.2) (.int .u8 0)) (fun _ h_ => h_.1))) hb); have n1_ := Aside0.mk (blk_below (g := gb171) (o := .cells #[.int .u8 0, .int .i64 (Int.tmod t170 4), .int .u8 0, .string (⟨#[]⟩ : ByteArray), .string (⟨#[]⟩ : ByteArray), .int .i64 0, .int .i64 0, .int .i64 0, .slice none 0 0, .int .u32 0, .int .u32 0, .int .u8 0] 31 (0, 0)) (by (with_reducible repeat (first | refine blk_drewN ?_ _ | refine blk_drew ?_ | refine blk_alloc ?_ _)); refine blk_put (cs := #[.int .u8 0, .int .i64 (Int.tmod t170 4), .int .u8 0, .string (⟨#[]⟩ : ByteArray), .string (⟨#[]⟩ : ByteArray), .int .i64 0, .int .i64 0, .int .i64 0, .slice none 0 0, .int .u32 0, .int .u32 0, .int .u8 0]) ?_ 11 _ rfl; (with_reducible repeat (first | refine blk_drewN ?_ _ | refine blk_drew ?_ | refine blk_alloc ?_ _)); refine blk_put (cs := #[.int .u8 0, .int .i64 (Int.tmod t170 4), .int .u8 0, .string (⟨#[]⟩ : ByteArray), .string (⟨#[]⟩ : ByteArray), .int .i64 0, .int .i64 0, .int .i64 0, .slice none 0 0, .int .u32 0, .int .u32 0, .int .u8 0]) ?_ 10 _ rfl; (with_reducible repeat (first | refine blk_drewN ?_ _ | refine blk_drew ?_ | refine blk_alloc ?_ _)); refine blk_put (cs := #[.int .u8 0, .int .i64 (Int.tmod t170 4), .int .u8 0, .string (⟨#[]⟩ : ByteArray), .string (⟨#[]⟩ : ByteArray), .int .i64 0, .int .i64 0, .int .i64 0, .slice none 0 0, .int .u32 0, .int .u32 0, .int .u8 0]) ?_ 9 _ rfl; (with_reducible repeat (first | refine blk_drewN ?_ _ | refine blk_drew ?_ | refine blk_alloc ?_ _)); refine blk_put (cs := #[.int .u8 0, .int .i64 (Int.tmod t170 4), .int .u8 0, .string (⟨#[]⟩ : ByteArray), .string (⟨#[]⟩ : ByteArray), .int .i64 0, .int .i64 0, .int .i64 0, .slice none 0 0, .int .u32 0, .int .u32 0, .int .u8 0]) ?_ 8 _ rfl; (with_reducible repeat (first | refine blk_drewN ?_ _ | refine blk_drew ?_ | refine blk_alloc ?_ _)); refine blk_put (cs := #[.int .u8 0, .int .i64 (Int.tmod t170 4), .int .u8 0, .string (⟨#[]⟩ : ByteArray), .string (⟨#[]⟩ : ByteArray), .int .i64 0, .int .i64 0, .int .i64 0, .slice none 0 0, .int .u32 0, .int .u32 0, .int .u8 0]) ?_ 7 _ rfl; (with_reducible repeat (first | refine blk_drewN ?_ _ | refine blk_drew ?_ | refine blk_alloc ?_ _)); refine blk_put (cs := #[.int .u8 0, .int .i64 (Int.tmod t170 4), .int .u8 0, .string (⟨#[]⟩ : ByteArray), .string (⟨#[]⟩ : ByteArray), .int .i64 0, .int .i64 0, .int .i64 0, .slice none 0 0, .int .u32 0, .int .u32 0, .int .u8 0]) ?_ 6 _ rfl; (with_reducible repeat (first | refine blk_drewN ?_ _ | refine blk_drew ?_ | refine blk_alloc ?_ _)); refine blk_put (cs := #[.int .u8 0, .int .i64 (Int.tmod t170 4), .int .u8 0, .string (⟨#[]⟩ : ByteArray), .string (⟨#[]⟩ : ByteArray), .int .i64 0, .int .i64 0, .int .i64 0, .slice none 0 0, .int .u32 0, .int .u32 0, .int .u8 0]) ?_ 5 _ rfl; (with_reducible repeat (first | refine blk_drewN ?_ _ | refine blk_drew ?_ | refine blk_alloc ?_ _)); refine blk_put (cs := #[.int .u8 0, .int .i64 (Int.tmod t170 4), .int .u8 0, .string (⟨#[]⟩ : ByteArray), .string (⟨#[]⟩ : ByteArray), .int .i64 0, .int .i64 0, .int .i64 0, .slice none 0 0, .int .u32 0, .int .u32 0, .int .u8 0]) ?_ 4 _ rfl; (with_reducible repeat (first | refine blk_drewN ?_ _ | refine blk_drew ?_ | refine blk_alloc ?_ _)); refine blk_put (cs := #[.int .u8 0, .int .i64 (Int.tmod t170 4), .int .u8 0, .string (⟨#[]⟩ : ByteArray), .string (⟨#[]⟩ : ByteArray), .int .i64 0, .int .i64 0, .int .i64 0, .slice none 0 0, .int .u32 0, .int .u32 0, .int .u8 0]) ?_ 3 _ rfl; (with_reducible repeat (first | refine blk_drewN ?_ _ | refine blk_drew ?_ | refine blk_alloc ?_ _)); refine blk_put (cs := #[.int .u8 0, .int .i64 (Int.tmod t170 4), .int .u8 0, .string (⟨#[]⟩ : ByteArray), .string (⟨#[]⟩ : ByteArray), .int .i64 0, .int .i64 0, .int .i64 0, .slice none 0 0, .int .u32 0, .int .u32 0, .int .u8 0]) ?_ 2 _ rfl; (with_reducible repeat (first | refine blk_drewN ?_ _ | refine blk_drew ?_ | refine blk_alloc ?_ _)); refine blk_put (cs := #[.int .u8 0, .int .i64 0, .int .u8 0, .string (⟨#[]⟩ : ByteArray), .string (⟨#[]⟩ : ByteArray), .int .i64 0, .int .i64 0, .int .i64 0, .slice none 0 0, .int .u32 0, .int .u32 0, .int .u8 0]) ?_ 1 _ rfl; (with_reducible repeat (first | refine blk_drewN ?_ _ | refine blk_drew ?_ | refine blk_alloc ?_ _)); refine blk_put (cs := #[.int .u8 0, .int .i64 0, .int .u8 0, .string (⟨#[]⟩ : ByteArray), .string (⟨#[]⟩ : ByteArray), .int .i64 0, .int .i64 0, .int .i64 0, .slice none 0 0, .int .u32 0, .int .u32 0, .int .u8 0]) ?_ 0 _ rfl; (with_reducible repeat (first | refine blk_drewN ?_ _ | refine blk_drew ?_ | refine blk_alloc ?_ _)); exact BK171.out) hb); have n2_ := Aside0.mk (below_step (by repeat (first | (with_reducible first | exact HB.out | apply below_alloc | apply pw_below_drewN | apply below_drew1 | refine below_set ?_ GE171.out) | exact HB.out)) hb); clear HO_3; clear BK171; clear HB; have HO_3 := n0_; have BK171 := n1_; have HB := n2_; clear n0_ n1_ n2_; (try clear hb); (try clear hb2); (try clear hk); (try clear hi)))
            (try simp only [Act.put, List.setIfInBounds_toArray, List.set_cons_zero, List.set_cons_succ])
            go_cut [] (fun wc => ∃ (kq : Nat) (x172000_12 : Int) (x172002_12 : Int) (x172003_12 : ByteArray) (x172004_12 : ByteArray) (x172005_12 : Int) (x172006_12 : Int) (x172007_12 : Int) (x172008_12 : List Int) (u172008 : Value), Aside0 (flintref25_Acts.j2 kq l0 x3_1 x4_1 t167 t168 t169 t172 x172000_12 (Int.tmod t170 4) x172002_12 x172003_12 x172004_12 x172005_12 x172006_12 x172007_12 x172008_12 0 0 0 = some r) ∧ Aside0 (kq ≤ kj3) ∧ Aside0 (Kd.S k31 31 wc w.heap.size (fun k_ => some k_ ≠ (u172008 : Value).ownBlock ∧ k_ ≠ gb171) u3 x3_1) ∧ Aside0 (Kd.R (Kd.int .u8) 5 wc w.heap.size (fun _ => True) u172008 x172008_12) ∧ Aside0 (wc.heap[gb171]? = some (.cells #[.int .u8 x172000_12, .int .i64 (Int.tmod t170 4), .int .u8 x172002_12, .string x172003_12, .string x172004_12, .int .i64 x172005_12, .int .i64 x172006_12, .int .i64 x172007_12, u172008, .int .u32 0, .int .u32 0, .int .u8 0] 31 (0, 0))) ∧ Aside0 (Below w.heap.size w wc))
            case first =>
              have H := HC13.out
              clear HC13
              by_cases c17 : t172 > 0
              · rw [if_pos c17] at H
                have c17b0 : decide (0 < t172) = true := decide_eq_true c17
                clear c17
                (first | rw [c17b0] | (simp only [i64_w, i32_w]; rw [c17b0]) | skip)
                replace H := Option.bind_eq_some_iff.mp H
                obtain ⟨⟨t173, t174, t175, t176, t177, t178, t179⟩, A180, H⟩ := H
                replace H : (flintref25_Acts.j2 kj3 l0 x3_1 x4_1 t167 t168 t169 t172 1 (Int.tmod t170 4) t173 t174 t175 t176 t177 t178 t179 0 0 0) = some r := H
                have A18 := Aside0.mk A180
                clear A180
                have H' := Aside0.mk H
                clear H
                have hcz19_0 : w16.cell? ⟨gb171, 0, none⟩ = some (.int .u8 0) := (blk_cell BK171.out 0).trans rfl
                have hcz19_1 : w16.cell? ⟨gb171, 1, none⟩ = some (.int .i64 (Int.tmod t170 4)) := (blk_cell BK171.out 1).trans rfl
                have hcz19_2 : w16.cell? ⟨gb171, 2, none⟩ = some (.int .u8 0) := (blk_cell BK171.out 2).trans rfl
                have hcz19_3 : w16.cell? ⟨gb171, 3, none⟩ = some (.string (⟨#[]⟩ : ByteArray)) := (blk_cell BK171.out 3).trans rfl
                have hcz19_4 : w16.cell? ⟨gb171, 4, none⟩ = some (.string (⟨#[]⟩ : ByteArray)) := (blk_cell BK171.out 4).trans rfl
                have hcz19_5 : w16.cell? ⟨gb171, 5, none⟩ = some (.int .i64 0) := (blk_cell BK171.out 5).trans rfl
                have hcz19_6 : w16.cell? ⟨gb171, 6, none⟩ = some (.int .i64 0) := (blk_cell BK171.out 6).trans rfl
                have hcz19_7 : w16.cell? ⟨gb171, 7, none⟩ = some (.int .i64 0) := (blk_cell BK171.out 7).trans rfl
                have hcz19_8 : w16.cell? ⟨gb171, 8, none⟩ = some (.slice none 0 0) := (blk_cell BK171.out 8).trans rfl
                have hcz19_9 : w16.cell? ⟨gb171, 9, none⟩ = some (.int .u32 0) := (blk_cell BK171.out 9).trans rfl
                have hcz19_10 : w16.cell? ⟨gb171, 10, none⟩ = some (.int .u32 0) := (blk_cell BK171.out 10).trans rfl
                have hcz19_11 : w16.cell? ⟨gb171, 11, none⟩ = some (.int .u8 0) := (blk_cell BK171.out 11).trans rfl
                have hfz19_0 := blk_frozen BK171.out 0
                have hfz19_1 := blk_frozen BK171.out 1
                have hfz19_2 := blk_frozen BK171.out 2
                have hfz19_3 := blk_frozen BK171.out 3
                have hfz19_4 := blk_frozen BK171.out 4
                have hfz19_5 := blk_frozen BK171.out 5
                have hfz19_6 := blk_frozen BK171.out 6
                have hfz19_7 := blk_frozen BK171.out 7
                have hfz19_8 := blk_frozen BK171.out 8
                have hfz19_9 := blk_frozen BK171.out 9
                have hfz19_10 := blk_frozen BK171.out 10
                have hfz19_11 := blk_frozen BK171.out 11
                go_wp2_with (first | ((with_reducible refine gate_callee (f := 13) rfl ?_); refine goesL_ (some 48) rfl rfl Tryd.func13 (by kernel_rfl) rfl #[.int .u8 t172, .int .i64 t168, .int .i64 t169] rfl (by (try simp only [List.map_toArray, List.map_cons, List.map_nil]); first | done | rfl | (simp only [List.length_drop, List.length_take]; rfl)) ?_; (with_reducible refine (flintref25_op.calls kj3 t172 t168 t169 t173 t174 t175 t176 t177 t178 t179 _ A18.out).mono ?_); rintro e w20 ⟨v180, rfl, ho0, hb⟩; refine ⟨_, rfl, ?_⟩; have n0_ := Aside0.mk (Kd.S_elder' (by (with_reducible repeat (first | apply Kd.S_alloc | apply Kd.S_drewN | apply Kd.S_drew)); exact (Kd.S_mono (Kd.S_far (p := ⟨gb171, 0, none⟩) (Kd.S_mono HO_3.out (fun k_ hk => (⟨hk, hk.2⟩ : _ ∧ k_ ≠ gb171))) (fun _ hk => hk.2) (.int .u8 1)) (fun _ h_ => h_.1))) (Kd.R_base ho0) hb); have n1_ := Aside0.mk (Kd.R_lower ho0 (below_size (by repeat (first | (with_reducible first | exact HB.out | apply below_alloc | apply pw_below_drewN | apply below_drew1 | refine below_set ?_ GE171.out) | exact HB.out)))); have n2_ := Aside0.mk (blk_below (g := gb171) (o := .cells #[.int .u8 1, .int .i64 (Int.tmod t170 4), .int .u8 0, .string (⟨#[]⟩ : ByteArray), .string (⟨#[]⟩ : ByteArray), .int .i64 0, .int .i64 0, .int .i64 0, .slice none 0 0, .int .u32 0, .int .u32 0, .int .u8 0] 31 (0, 0)) (by (with_reducible repeat (first | refine blk_drewN ?_ _ | refine blk_drew ?_ | refine blk_alloc ?_ _)); refine blk_put (cs := #[.int .u8 0, .int .i64 (Int.tmod t170 4), .int .u8 0, .string (⟨#[]⟩ : ByteArray), .string (⟨#[]⟩ : ByteArray), .int .i64 0, .int .i64 0, .int .i64 0, .slice none 0 0, .int .u32 0, .int .u32 0, .int .u8 0]) ?_ 0 _ rfl; (with_reducible repeat (first | refine blk_drewN ?_ _ | refine blk_drew ?_ | refine blk_alloc ?_ _)); exact BK171.out) hb); have n3_ := Aside0.mk (below_step (by repeat (first | (with_reducible first | exact HB.out | apply below_alloc | apply pw_below_drewN | apply below_drew1 | refine below_set ?_ GE171.out) | exact HB.out)) hb); clear HO_3; clear BK171; clear HB; have HO_3 := n0_; have HO181 := n1_; have BK171 := n2_; have HB := n3_; clear n0_ n1_ n2_ n3_; (try clear hb); (try clear hb2); (try clear hk); (try clear hi); (try clear ho0); have hcz21_0 : w20.cell? ⟨gb171, 0, none⟩ = some (.int .u8 1) := (blk_cell BK171.out 0).trans rfl; have hcz21_1 : w20.cell? ⟨gb171, 1, none⟩ = some (.int .i64 (Int.tmod t170 4)) := (blk_cell BK171.out 1).trans rfl; have hcz21_2 : w20.cell? ⟨gb171, 2, none⟩ = some (.int .u8 0) := (blk_cell BK171.out 2).trans rfl; have hcz21_3 : w20.cell? ⟨gb171, 3, none⟩ = some (.string (⟨#[]⟩ : ByteArray)) := (blk_cell BK171.out 3).trans rfl; have hcz21_4 : w20.cell? ⟨gb171, 4, none⟩ = some (.string (⟨#[]⟩ : ByteArray)) := (blk_cell BK171.out 4).trans rfl; have hcz21_5 : w20.cell? ⟨gb171, 5, none⟩ = some (.int .i64 0) := (blk_cell BK171.out 5).trans rfl; have hcz21_6 : w20.cell? ⟨gb171, 6, none⟩ = some (.int .i64 0) := (blk_cell BK171.out 6).trans rfl; have hcz21_7 : w20.cell? ⟨gb171, 7, none⟩ = some (.int .i64 0) := (blk_cell BK171.out 7).trans rfl; have hcz21_8 : w20.cell? ⟨gb171, 8, none⟩ = some (.slice none 0 0) := (blk_cell BK171.out 8).trans rfl; have hcz21_9 : w20.cell? ⟨gb171, 9, none⟩ = some (.int .u32 0) := (blk_cell BK171.out 9).trans rfl; have hcz21_10 : w20.cell? ⟨gb171, 10, none⟩ = some (.int .u32 0) := (blk_cell BK171.out 10).trans rfl; have hcz21_11 : w20.cell? ⟨gb171, 11, none⟩ = some (.int .u8 0) := (blk_cell BK171.out 11).trans rfl; have hfz21_0 := blk_frozen BK171.out 0; have hfz21_1 := blk_frozen BK171.out 1; have hfz21_2 := blk_frozen BK171.out 2; have hfz21_3 := blk_frozen BK171.out 3; have hfz21_4 := blk_frozen BK171.out 4; have hfz21_5 := blk_frozen BK171.out 5; have hfz21_6 := blk_frozen BK171.out 6; have hfz21_7 := blk_frozen BK171.out 7; have hfz21_8 := blk_frozen BK171.out 8; have hfz21_9 := blk_frozen BK171.out 9; have hfz21_10 := blk_frozen BK171.out 10; have hfz21_11 := blk_frozen BK171.out 11; obtain ⟨Ao22, co22, eo22⟩ := Kd.R_slice HO181.out; subst eo22))
                go_meet
                case rel => exact ⟨_, (1), (t173), (t174), (t175), (t176), (t177), (t178), (t179), (.slice Ao22 t179.length co22), H', ⟨by have := HK1.out; have := HJ3.out; first | omega | exact Nat.le_refl _⟩, ⟨by (with_reducible repeat (first | apply Kd.S_alloc | apply Kd.S_drewN | apply Kd.S_drew)); exact Kd.S_mono (Kd.S_far (p := ⟨gb171, 8, none⟩) (Kd.S_far (p := ⟨gb171, 7, none⟩) (Kd.S_far (p := ⟨gb171, 6, none⟩) (Kd.S_far (p := ⟨gb171, 5, none⟩) (Kd.S_far (p := ⟨gb171, 4, none⟩) (Kd.S_far (p := ⟨gb171, 3, none⟩) (Kd.S_far (p := ⟨gb171, 2, none⟩) (Kd.S_mono HO_3.out (fun k_ hk => (⟨hk, hk.1.2⟩ : _ ∧ k_ ≠ gb171))) (fun _ hk => hk.2) (.int .u8 t173)) (fun _ hk => hk.2) (.string t174)) (fun _ hk => hk.2) (.string t175)) (fun _ hk => hk.2) (.int .i64 t176)) (fun _ hk => hk.2) (.int .i64 t177)) (fun _ hk => hk.2) (.int .i64 t178)) (fun _ hk => hk.2) (.slice Ao22 t179.length co22)) (fun _ hk => ⟨hk.1.2, hk.1.1.2⟩)⟩, ⟨by (with_reducible repeat (first | apply Kd.R_alloc | apply Kd.R_drewN | apply Kd.R_drew)); exact Kd.R_mono (Kd.R_far (p := ⟨gb171, 8, none⟩) (Kd.R_far (p := ⟨gb171, 7, none⟩) (Kd.R_far (p := ⟨gb171, 6, none⟩) (Kd.R_far (p := ⟨gb171, 5, none⟩) (Kd.R_far (p := ⟨gb171, 4, none⟩) (Kd.R_far (p := ⟨gb171, 3, none⟩) (Kd.R_far (p := ⟨gb171, 2, none⟩) (Kd.R_types HO181.out BK171.out (by decide)) (fun _ hk => hk.2) (.int .u8 t173)) (fun _ hk => hk.2) (.string t174)) (fun _ hk => hk.2) (.string t175)) (fun _ hk => hk.2) (.int .i64 t176)) (fun _ hk => hk.2) (.int .i64 t177)) (fun _ hk => hk.2) (.int .i64 t178)) (fun _ hk => hk.2) (.slice Ao22 t179.length co22)) (fun _ hk => trivial)⟩, ⟨by (with_reducible repeat (first | refine blk_drewN ?_ _ | refine blk_drew ?_ | refine blk_alloc ?_ _)); refine blk_put (cs := #[.int .u8 1, .int .i64 (Int.tmod t170 4), .int .u8 t173, .string t174, .string t175, .int .i64 t176, .int .i64 t177, .int .i64 t178, .slice none 0 0, .int .u32 0, .int .u32 0, .int .u8 0]) ?_ 8 _ rfl; (with_reducible repeat (first | refine blk_drewN ?_ _ | refine blk_drew ?_ | refine blk_alloc ?_ _)); refine blk_put (cs := #[.int .u8 1, .int .i64 (Int.tmod t170 4), .int .u8 t173, .string t174, .string t175, .int .i64 t176, .int .i64 t177, .int .i64 0, .slice none 0 0, .int .u32 0, .int .u32 0, .int .u8 0]) ?_ 7 _ rfl; (with_reducible repeat (first | refine blk_drewN ?_ _ | refine blk_drew ?_ | refine blk_alloc ?_ _)); refine blk_put (cs := #[.int .u8 1, .int .i64 (Int.tmod t170 4), .int .u8 t173, .string t174, .string t175, .int .i64 t176, .int .i64 0, .int .i64 0, .slice none 0 0, .int .u32 0, .int .u32 0, .int .u8 0]) ?_ 6 _ rfl; (with_reducible repeat (first | refine blk_drewN ?_ _ | refine blk_drew ?_ | refine blk_alloc ?_ _)); refine blk_put (cs := #[.int .u8 1, .int .i64 (Int.tmod t170 4), .int .u8 t173, .string t174, .string t175, .int .i64 0, .int .i64 0, .int .i64 0, .slice none 0 0, .int .u32 0, .int .u32 0, .int .u8 0]) ?_ 5 _ rfl; (with_reducible repeat (first | refine blk_drewN ?_ _ | refine blk_drew ?_ | refine blk_alloc ?_ _)); refine blk_put (cs := #[.int .u8 1, .int .i64 (Int.tmod t170 4), .int .u8 t173, .string t174, .string (⟨#[]⟩ : ByteArray), .int .i64 0, .int .i64 0, .int .i64 0, .slice none 0 0, .int .u32 0, .int .u32 0, .int .u8 0]) ?_ 4 _ rfl; (with_reducible repeat (first | refine blk_drewN ?_ _ | refine blk_drew ?_ | refine blk_alloc ?_ _)); refine blk_put (cs := #[.int .u8 1, .int .i64 (Int.tmod t170 4), .int .u8 t173, .string (⟨#[]⟩ : ByteArray), .string (⟨#[]⟩ : ByteArray), .int .i64 0, .int .i64 0, .int .i64 0, .slice none 0 0, .int .u32 0, .int .u32 0, .int .u8 0]) ?_ 3 _ rfl; (with_reducible repeat (first | refine blk_drewN ?_ _ | refine blk_drew ?_ | refine blk_alloc ?_ _)); refine blk_put (cs := #[.int .u8 1, .int .i64 (Int.tmod t170 4), .int .u8 0, .string (⟨#[]⟩ : ByteArray), .string (⟨#[]⟩ : ByteArray), .int .i64 0, .int .i64 0, .int .i64 0, .slice none 0 0, .int .u32 0, .int .u32 0, .int .u8 0]) ?_ 2 _ rfl; (with_reducible repeat (first | refine blk_drewN ?_ _ | refine blk_drew ?_ | refine blk_alloc ?_ _)); exact BK171.out⟩, ⟨by repeat (first | (with_reducible first | exact HB.out | apply below_alloc | apply pw_below_drewN | apply below_drew1 | refine below_set ?_ GE171.out) | exact HB.out)⟩⟩
              · rw [if_neg c17] at H
                have c17b0 : decide (0 < t172) = false := decide_eq_false c17
                clear c17
                (first | rw [c17b0] | (simp only [i64_w, i32_w]; rw [c17b0]) | skip)
                have H' := Aside0.mk H
                clear H
                go_wp2
                go_meet
                case rel => exact ⟨_, (0), (0), ((⟨#[]⟩ : ByteArray)), ((⟨#[]⟩ : ByteArray)), (0), (0), (0), (([] : List Int)), (.slice none 0 0), H', ⟨by have := HK1.out; have := HJ3.out; first | omega | exact Nat.le_refl _⟩, ⟨by (with_reducible repeat (first | apply Kd.S_alloc | apply Kd.S_drewN | apply Kd.S_drew)); exact Kd.S_mono HO_3.out (fun _ hk => ⟨(by simp [Value.ownBlock]), hk.2⟩)⟩, ⟨by first | exact Kd.R_nil _ _ _ _ _ | exact Kd.N_nil _ _ _ _ _ | exact Kd.V_nil _ _ _ _ _ | exact Kd.Q_nil _ _ _ _ _ | exact Kd.S_nil _ _ _ _ _⟩, ⟨by (with_reducible repeat (first | refine blk_drewN ?_ _ | refine blk_drew ?_ | refine blk_alloc ?_ _)); exact BK171.out⟩, ⟨by repeat (first | (with_reducible first | exact HB.out | apply below_alloc | apply pw_below_drewN | apply below_drew1 | refine below_set ?_ GE171.out) | exact HB.out)⟩⟩
            case rest =>
              clear HC13
              try clear c1
              try clear p2
              try clear c5
              try clear c5b0
              try clear p6
              try clear c7
              try clear c11
              try clear c12
              try clear c13
              try clear c17
              try clear c17b0
              try clear hcz15_0
              try clear hcz15_1
              try clear hcz15_10
              try clear hcz15_11
              try clear hcz15_2
              try clear hcz15_3
              try clear hcz15_4
              try clear hcz15_5
              try clear hcz15_6
              try clear hcz15_7
              try clear hcz15_8
              try clear hcz15_9
              try clear hcz19_0
              try clear hcz19_1
              try clear hcz19_10
              try clear hcz19_11
              try clear hcz19_2
              try clear hcz19_3
              try clear hcz19_4
              try clear hcz19_5
              try clear hcz19_6
              try clear hcz19_7
              try clear hcz19_8
              try clear hcz19_9
              try clear hcz21_0
              try clear hcz21_1
              try clear hcz21_10
              try clear hcz21_11
              try clear hcz21_2
              try clear hcz21_3
              try clear hcz21_4
              try clear hcz21_5
              try clear hcz21_6
              try clear hcz21_7
              try clear hcz21_8
              try clear hcz21_9
              try clear hfz15_0
              try clear hfz15_1
              try clear hfz15_10
              try clear hfz15_11
              try clear hfz15_2
              try clear hfz15_3
              try clear hfz15_4
              try clear hfz15_5
              try clear hfz15_6
              try clear hfz15_7
              try clear hfz15_8
              try clear hfz15_9
              try clear hfz19_0
              try clear hfz19_1
              try clear hfz19_10
              try clear hfz19_11
              try clear hfz19_2
              try clear hfz19_3
              try clear hfz19_4
              try clear hfz19_5
              try clear hfz19_6
              try clear hfz19_7
              try clear hfz19_8
              try clear hfz19_9
              try clear hfz21_0
              try clear hfz21_1
              try clear hfz21_10
              try clear hfz21_11
              try clear hfz21_2
              try clear hfz21_3
              try clear hfz21_4
              try clear hfz21_5
              try clear hfz21_6
              try clear hfz21_7
              try clear hfz21_8
              try clear hfz21_9
              try clear p2
              try clear p6
              obtain ⟨kq, x172000_12, x172002_12, x172003_12, x172004_12, x172005_12, x172006_12, x172007_12, x172008_12, u172008, HA, HJ12, HO_3, HO_172008, BK171, HB⟩ := hcut
              cases kq with
              | zero => exact absurd HA.out (by simp [flintref25_Acts.j2])
              | succ kj12 =>
                have H := HA.out
                clear HA
                simp only [flintref25_Acts.j2] at H
                by_cases c23 : t172 = 0
                · rw [if_pos c23] at H
                  have c23b0 : (t172 == 0) = true := beq_iff_eq.mpr c23
                  have c23b1 : (t172 != 0) = false := bne_eq_false_iff_eq.mpr c23
                  clear c23
                  by_cases c24 : (wrap64 (Int.tdiv t167 32)) = 4
                  · rw [if_pos c24] at H
                    have c24b0 : ((wrap64 (Int.tdiv t167 32)) == 4) = true := beq_iff_eq.mpr c24
                    have c24b1 : ((wrap64 (Int.tdiv t167 32)) != 4) = false := bne_eq_false_iff_eq.mpr c24
                    clear c24
                    by_cases c25 : x3_1.length < 1172812402961
                    · rw [if_pos c25] at H
                      have LMc25 := Aside0.mk c25
                      clear c25
                      obtain ⟨y182, hy182⟩ : ∃ y_ : List (S31), y_ = (x3_1 ++ [(⟨3, (Int.tmod t170 4), (⟨x172002_12, x172003_12, x172004_12, x172005_12, x172006_12, x172007_12, x172008_12⟩ : S28), 0, 0, 0⟩ : S31)]) := ⟨_, rfl⟩
                      replace H : (flintref25_Acts.l0 kj12 l0 y182 (wrap64 (x4_1 + 4))) = some r := by first | (rw [hy182]; with_reducible exact H) | (have H2_ := (Option.bind_some _ _).symm.trans H; rw [hy182]; with_reducible exact H2_) | (have H2_ := (Option.bind_some _ _).symm.trans H; with_reducible exact H2_) | with_reducible exact H | (rw [hy182]; exact H) | exact H
                      have Ny182 := Aside0.mk hy182
                      clear hy182
                      have H' := Aside0.mk H
                      clear H
                      have hcz26_0 : wc.cell? ⟨gb171, 0, none⟩ = some (.int .u8 x172000_12) := (blk_cell BK171.out 0).trans rfl
                      have hcz26_1 : wc.cell? ⟨gb171, 1, none⟩ = some (.int .i64 (Int.tmod t170 4)) := (blk_cell BK171.out 1).trans rfl
                      have hcz26_2 : wc.cell? ⟨gb171, 2, none⟩ = some (.int .u8 x172002_12) := (blk_cell BK171.out 2).trans rfl
                      have hcz26_3 : wc.cell? ⟨gb171, 3, none⟩ = some (.string x172003_12) := (blk_cell BK171.out 3).trans rfl
                      have hcz26_4 : wc.cell? ⟨gb171, 4, none⟩ = some (.string x172004_12) := (blk_cell BK171.out 4).trans rfl
                      have hcz26_5 : wc.cell? ⟨gb171, 5, none⟩ = some (.int .i64 x172005_12) := (blk_cell BK171.out 5).trans rfl
                      have hcz26_6 : wc.cell? ⟨gb171, 6, none⟩ = some (.int .i64 x172006_12) := (blk_cell BK171.out 6).trans rfl
                      have hcz26_7 : wc.cell? ⟨gb171, 7, none⟩ = some (.int .i64 x172007_12) := (blk_cell BK171.out 7).trans rfl
                      have hcz26_8 : wc.cell? ⟨gb171, 8, none⟩ = some (u172008) := (blk_cell BK171.out 8).trans rfl
                      have hcz26_9 : wc.cell? ⟨gb171, 9, none⟩ = some (.int .u32 0) := (blk_cell BK171.out 9).trans rfl
                      have hcz26_10 : wc.cell? ⟨gb171, 10, none⟩ = some (.int .u32 0) := (blk_cell BK171.out 10).trans rfl
                      have hcz26_11 : wc.cell? ⟨gb171, 11, none⟩ = some (.int .u8 0) := (blk_cell BK171.out 11).trans rfl
                      have hfz26_0 := blk_frozen BK171.out 0
                      have hfz26_1 := blk_frozen BK171.out 1
                      have hfz26_2 := blk_frozen BK171.out 2
                      have hfz26_3 := blk_frozen BK171.out 3
                      have hfz26_4 := blk_frozen BK171.out 4
                      have hfz26_5 := blk_frozen BK171.out 5
                      have hfz26_6 := blk_frozen BK171.out 6
                      have hfz26_7 := blk_frozen BK171.out 7
                      have hfz26_8 := blk_frozen BK171.out 8
                      have hfz26_9 := blk_frozen BK171.out 9
                      have hfz26_10 := blk_frozen BK171.out 10
                      have hfz26_11 := blk_frozen BK171.out 11
                      go_wp2_with (first | ((with_reducible refine gate_store (t := 5) (p := 67) rfl ?_); refine store_event (t := 5) (p := 67) (v := ?vo_w27) (w1 := (wc.setCell ⟨gb171, 0, none⟩ (.int .u8 3))) ?hg ?ho ?hn ?hr ?_; (case ho => rfl); (case hg => rfl); (case hn => rfl); (case hr => first | (go_simp; done) | (go_simp; rfl)); intro w27 hw; have n0_ : Aside0 (Kd.S k31 31 w27 w.heap.size (fun k_ => some k_ ≠ (u172008 : Value).ownBlock ∧ k_ ≠ gb171) u3 x3_1) := ⟨(by rw [hw]; exact (by (with_reducible repeat (first | apply Kd.S_alloc | apply Kd.S_drewN | apply Kd.S_drew)); exact Kd.S_mono (Kd.S_far (p := ⟨gb171, 0, none⟩) (Kd.S_mono HO_3.out (fun k_ hk => (⟨hk, hk.2⟩ : _ ∧ k_ ≠ gb171))) (fun _ hk => hk.2) (.int .u8 3)) (fun _ hk => ⟨hk.1.1, hk.1.2⟩)))⟩; have n1_ : Aside0 (Kd.R (Kd.int .u8) 5 w27 w.heap.size (fun _ => True) u172008 x172008_12) := ⟨(by rw [hw]; exact (by (with_reducible repeat (first | apply Kd.R_alloc | apply Kd.R_drewN | apply Kd.R_drew)); exact Kd.R_mono (Kd.R_far (p := ⟨gb171, 0, none⟩) (Kd.R_types HO_172008.out BK171.out (by decide)) (fun _ hk => hk.2) (.int .u8 3)) (fun _ hk => trivial)))⟩; have n2_ : Aside0 (w27.heap[gb171]? = some (.cells #[.int .u8 3, .int .i64 (Int.tmod t170 4), .int .u8 x172002_12, .string x172003_12, .string x172004_12, .int .i64 x172005_12, .int .i64 x172006_12, .int .i64 x172007_12, u172008, .int .u32 0, .int .u32 0, .int .u8 0] 31 (0, 0))) := ⟨(by rw [hw]; exact (by (with_reducible repeat (first | refine blk_drewN ?_ _ | refine blk_drew ?_ | refine blk_alloc ?_ _)); refine blk_put (cs := #[.int .u8 x172000_12, .int .i64 (Int.tmod t170 4), .int .u8 x172002_12, .string x172003_12, .string x172004_12, .int .i64 x172005_12, .int .i64 x172006_12, .int .i64 x172007_12, u172008, .int .u32 0, .int .u32 0, .int .u8 0]) ?_ 0 _ rfl; (with_reducible repeat (first | refine blk_drewN ?_ _ | refine blk_drew ?_ | refine blk_alloc ?_ _)); exact BK171.out))⟩; have n3_ : Aside0 (Below w.heap.size w w27) := ⟨(by rw [hw]; exact (by repeat (first | (with_reducible first | exact HB.out | apply below_alloc | apply pw_below_drewN | apply below_drew1 | refine below_set ?_ GE171.out) | exact HB.out)))⟩; clear hw; clear HO_3; clear HO_172008; clear BK171; clear HB; have HO_3 := n0_; have HO_172008 := n1_; have BK171 := n2_; have HB := n3_; clear n0_ n1_ n2_ n3_; have hcz28_0 : w27.cell? ⟨gb171, 0, none⟩ = some (.int .u8 3) := (blk_cell BK171.out 0).trans rfl; have hcz28_1 : w27.cell? ⟨gb171, 1, none⟩ = some (.int .i64 (Int.tmod t170 4)) := (blk_cell BK171.out 1).trans rfl; have hcz28_2 : w27.cell? ⟨gb171, 2, none⟩ = some (.int .u8 x172002_12) := (blk_cell BK171.out 2).trans rfl; have hcz28_3 : w27.cell? ⟨gb171, 3, none⟩ = some (.string x172003_12) := (blk_cell BK171.out 3).trans rfl; have hcz28_4 : w27.cell? ⟨gb171, 4, none⟩ = some (.string x172004_12) := (blk_cell BK171.out 4).trans rfl; have hcz28_5 : w27.cell? ⟨gb171, 5, none⟩ = some (.int .i64 x172005_12) := (blk_cell BK171.out 5).trans rfl; have hcz28_6 : w27.cell? ⟨gb171, 6, none⟩ = some (.int .i64 x172006_12) := (blk_cell BK171.out 6).trans rfl; have hcz28_7 : w27.cell? ⟨gb171, 7, none⟩ = some (.int .i64 x172007_12) := (blk_cell BK171.out 7).trans rfl; have hcz28_8 : w27.cell? ⟨gb171, 8, none⟩ = some (u172008) := (blk_cell BK171.out 8).trans rfl; have hcz28_9 : w27.cell? ⟨gb171, 9, none⟩ = some (.int .u32 0) := (blk_cell BK171.out 9).trans rfl; have hcz28_10 : w27.cell? ⟨gb171, 10, none⟩ = some (.int .u32 0) := (blk_cell BK171.out 10).trans rfl; have hcz28_11 : w27.cell? ⟨gb171, 11, none⟩ = some (.int .u8 0) := (blk_cell BK171.out 11).trans rfl; have hfz28_0 := blk_frozen BK171.out 0; have hfz28_1 := blk_frozen BK171.out 1; have hfz28_2 := blk_frozen BK171.out 2; have hfz28_3 := blk_frozen BK171.out 3; have hfz28_4 := blk_frozen BK171.out 4; have hfz28_5 := blk_frozen BK171.out 5; have hfz28_6 := blk_frozen BK171.out 6; have hfz28_7 := blk_frozen BK171.out 7; have hfz28_8 := blk_frozen BK171.out 8; have hfz28_9 := blk_frozen BK171.out 9; have hfz28_10 := blk_frozen BK171.out 10; have hfz28_11 := blk_frozen BK171.out 11; obtain ⟨Ao30, co30, eo30⟩ := Kd.R_slice HO_172008.out; subst eo30) | ((with_reducible refine gate_builtin (b := .append) (xs := #[.tmp 78, .tmp 80]) rfl ?_); (try (refine gate_guard (by rfl) ?_; dsimp only)); at_builtin; refine Kd.S_append k31 (w0 := w) w.heap.size rfl (.tmp 78) (.tmp 80) 24 31 (.agg #[(.int .u8 0), (.int .i64 0), (.int .u8 0), (.string ⟨#[]⟩), (.string ⟨#[]⟩), (.int .i64 0), (.int .i64 0), (.int .i64 0), (.slice none 0 0), (.int .u32 0), (.int .u32 0), (.int .u8 0)]) 120 rfl Tryd.underlying24 info31 rfl (by decide) (by omega) u3 x3_1 (⟨3, (Int.tmod t170 4), (⟨x172002_12, x172003_12, x172004_12, x172005_12, x172006_12, x172007_12, x172008_12⟩ : S28), 0, 0, 0⟩ : S31) [.int .u8 3, .int .i64 (Int.tmod t170 4), .int .u8 x172002_12, .string x172003_12, .string x172004_12, .int .i64 x172005_12, .int .i64 x172006_12, .int .i64 x172007_12, .slice Ao30 x172008_12.length co30, .int .u32 0, .int .u32 0, .int .u8 0] (fun k_ => k_ ≠ gb171) (fun k_ => some k_ = (.slice Ao30 x172008_12.length co30 : Value).ownBlock) rfl rfl ?aP (fun k_ hk_ => ((Kd.R_mono (ok' := fun k_ => ((fun k_ => k_ ≠ gb171)) k_ ∧ some k_ ≠ (u3 : Value).ownBlock) (Kd.R_types (Kd.R_apart' (HO_172008.out) (Kd.S_typed HO_3.out) (by decide)) BK171.out (by decide)) (fun k_ hk => ⟨hk.2, hk.1.2⟩))).1 k_ hk_.symm) ?aF ?aO ?aB ?aS ?aL ?_; (case aP => exact k31_mkM _ _ _ (⟨3, (Int.tmod t170 4), (⟨x172002_12, x172003_12, x172004_12, x172005_12, x172006_12, x172007_12, x172008_12⟩ : S28), 0, 0, 0⟩ : S31) (Kd.R_mono (Kd.R_tight rfl (Kd.R_mono (ok' := fun k_ => ((fun k_ => k_ ≠ gb171)) k_ ∧ some k_ ≠ (u3 : Value).ownBlock) (Kd.R_types (Kd.R_apart' (HO_172008.out) (Kd.S_typed HO_3.out) (by decide)) BK171.out (by decide)) (fun k_ hk => ⟨hk.2, hk.1.2⟩))) (fun _ h_ => h_))); (case aB => exact (by repeat (first | (with_reducible first | exact HB.out | apply below_alloc | apply pw_below_drewN | apply below_drew1 | refine below_set ?_ GE171.out) | exact HB.out))); (case aF => exact (fun k_ hk => Kd.freshB (g := gb171) (o := .cells #[.int .u8 3, .int .i64 (Int.tmod t170 4), .int .u8 x172002_12, .string x172003_12, .string x172004_12, .int .i64 x172005_12, .int .i64 x172006_12, .int .i64 x172007_12, .slice Ao30 x172008_12.length co30, .int .u32 0, .int .u32 0, .int .u8 0] 31 (0, 0)) (by (with_reducible repeat (first | refine blk_drewN ?_ _ | refine blk_drew ?_ | refine blk_alloc ?_ _)); exact BK171.out) k_ hk)); (case aO => exact (by (with_reducible repeat (first | apply Kd.S_alloc | apply Kd.S_drewN | apply Kd.S_drew)); exact Kd.S_mono HO_3.out (fun k_ hk => ⟨hk.2, fun e_ => hk.1 e_⟩))); (case aS => exact (below_size (by repeat (first | (with_reducible first | exact HB.out | apply below_alloc | apply pw_below_drewN | apply below_drew1 | refine below_set ?_ GE171.out) | exact HB.out)))); (case aL => have := LMc25.out; omega); intro v183 w29 ho hb hg hat; rw [← Ny182.out] at ho; have n0_ := Aside0.mk (blk_grown (g := gb171) (o := .cells #[.int .u8 3, .int .i64 (Int.tmod t170 4), .int .u8 x172002_12, .string x172003_12, .string x172004_12, .int .i64 x172005_12, .int .i64 x172006_12, .int .i64 x172007_12, .slice Ao30 x172008_12.length co30, .int .u32 0, .int .u32 0, .int .u8 0] 31 (0, 0)) (by (with_reducible repeat (first | refine blk_drewN ?_ _ | refine blk_drew ?_ | refine blk_alloc ?_ _)); exact BK171.out) hg (Kd.S_away HO_3.out (fun _ hk => hk.2))); have n1_ := Aside0.mk (hb); have n2_ := Aside0.mk (ho); clear BK171; clear HB; clear HO_3; clear HO_172008; have BK171 := n0_; have HB := n1_; have HO184 := n2_; clear n0_ n1_ n2_; clear ho hb hg hat))
                      go_roundg kj12
                      case measure => have := HK1.out; have := HJ3.out; have := HJ12.out; omega
                      case rel => exact ⟨(y182), (wrap64 (x4_1 + 4)), (by first | rfl | (simp; done) | (simp [*]; done)), H', ⟨by have := HK1.out; have := HJ3.out; have := HJ12.out; omega⟩, ⟨by (with_reducible repeat (first | apply Kd.S_alloc | apply Kd.S_drewN | apply Kd.S_drew)); exact Kd.S_mono HO184.out (fun _ hk => trivial)⟩, ⟨by repeat (first | (with_reducible first | exact HB.out | apply below_alloc | apply pw_below_drewN | apply below_drew1 | refine below_set ?_ GE171.out) | exact HB.out)⟩⟩
                    · rw [if_neg c25] at H
                      exact absurd H (by simp)
                  · rw [if_neg c24] at H
                    have c24b0 : ((wrap64 (Int.tdiv t167 32)) == 4) = false := beq_eq_false_iff_ne.mpr c24
                    have c24b1 : ((wrap64 (Int.tdiv t167 32)) != 4) = true := bne_iff_ne.mpr c24
                    have HC31 := Aside0.mk H
                    clear H
                    go_upto_if 68 with (fail)
                    go_cut [68] (fun v68 wc => ∃ (kq : Nat) (x68_30 : Bool), v68 = .bool x68_30 ∧ Aside0 (flintref25_Acts.j3 kq l0 x3_1 x4_1 t168 t169 (wrap64 (Int.tdiv t167 32)) x68_30 x172000_12 (Int.tmod t170 4) x172002_12 x172003_12 x172004_12 x172005_12 x172006_12 x172007_12 x172008_12 0 0 0 = some r) ∧ Aside0 (kq ≤ kj12) ∧ Aside0 (Kd.S k31 31 wc w.heap.size (fun k_ => some k_ ≠ (u172008 : Value).ownBlock ∧ k_ ≠ gb171) u3 x3_1) ∧ Aside0 (Kd.R (Kd.int .u8) 5 wc w.heap.size (fun _ => True) u172008 x172008_12) ∧ Aside0 (wc.heap[gb171]? = some (.cells #[.int .u8 x172000_12, .int .i64 (Int.tmod t170 4), .int .u8 x172002_12, .string x172003_12, .string x172004_12, .int .i64 x172005_12, .int .i64 x172006_12, .int .i64 x172007_12, u172008, .int .u32 0, .int .u32 0, .int .u8 0] 31 (0, 0))) ∧ Aside0 (Below w.heap.size w wc))
                    case first =>
                      have H := HC31.out
                      clear HC31
                      by_cases c32 : (wrap64 (Int.tdiv t167 32)) = 5
                      · rw [if_pos c32] at H
                        have c32b0 : ((wrap64 (Int.tdiv t167 32)) == 5) = true := beq_iff_eq.mpr c32
                        have c32b1 : ((wrap64 (Int.tdiv t167 32)) != 5) = false := bne_eq_false_iff_eq.mpr c32
                        clear c32
                        (first | rw [c32b0] | (simp only [i64_w, i32_w]; rw [c32b0]) | skip)
                        have H' := Aside0.mk H
                        clear H
                        go_wp2
                        go_meet
                        case rel => exact ⟨_, (((wrap64 (Int.tdiv t167 32)) == 5)), (by first | rfl | (simp; done) | (simp [*]; done)), H', ⟨by have := HK1.out; have := HJ3.out; have := HJ12.out; first | omega | exact Nat.le_refl _⟩, ⟨by (with_reducible repeat (first | apply Kd.S_alloc | apply Kd.S_drewN | apply Kd.S_drew)); exact HO_3.out⟩, ⟨by (with_reducible repeat (first | apply Kd.R_alloc | apply Kd.R_drewN | apply Kd.R_drew)); exact HO_172008.out⟩, ⟨by (with_reducible repeat (first | refine blk_drewN ?_ _ | refine blk_drew ?_ | refine blk_alloc ?_ _)); exact BK171.out⟩, ⟨by repeat (first | (with_reducible first | exact HB.out | apply below_alloc | apply pw_below_drewN | apply below_drew1 | refine below_set ?_ GE171.out) | exact HB.out)⟩⟩
                      · rw [if_neg c32] at H
                        have c32b0 : ((wrap64 (Int.tdiv t167 32)) == 5) = false := beq_eq_false_iff_ne.mpr c32
                        have c32b1 : ((wrap64 (Int.tdiv t167 32)) != 5) = true := bne_iff_ne.mpr c32
                        (first | rw [c32b0] | (simp only [i64_w, i32_w]; rw [c32b0]) | skip)
                        have H' := Aside0.mk H
                        clear H
                        go_wp2
                        go_meet
                        case rel => exact ⟨_, (((wrap64 (Int.tdiv t167 32)) == 6)), (by first | rfl | (simp; done) | (simp [*]; done)), H', ⟨by have := HK1.out; have := HJ3.out; have := HJ12.out; first | omega | exact Nat.le_refl _⟩, ⟨by (with_reducible repeat (first | apply Kd.S_alloc | apply Kd.S_drewN | apply Kd.S_drew)); exact HO_3.out⟩, ⟨by (with_reducible repeat (first | apply Kd.R_alloc | apply Kd.R_drewN | apply Kd.R_drew)); exact HO_172008.out⟩, ⟨by (with_reducible repeat (first | refine blk_drewN ?_ _ | refine blk_drew ?_ | refine blk_alloc ?_ _)); exact BK171.out⟩, ⟨by repeat (first | (with_reducible first | exact HB.out | apply below_alloc | apply pw_below_drewN | apply below_drew1 | refine below_set ?_ GE171.out) | exact HB.out)⟩⟩
                    case rest =>
                      clear HC31
                      try clear c1
                      try clear c2
                      try clear p2
                      try clear c3
                      try clear c5
                      try clear c5b0
                      try clear p6
                      try clear c7
                      try clear c11
                      try clear c12
                      try clear c13
                      try clear c17
                      try clear c17b0
                      try clear c23
                      try clear c23b0
                      try clear c23b1
                      try clear c24
                      try clear c24b0
                      try clear c24b1
                      try clear c25
                      try clear c32
                      try clear c32b0
                      try clear c32b1
                      try clear hcz15_0
                      try clear hcz15_1
                      try clear hcz15_10
                      try clear hcz15_11
                      try clear hcz15_2
                      try clear hcz15_3
                      try clear hcz15_4
                      try clear hcz15_5
                      try clear hcz15_6
                      try clear hcz15_7
                      try clear hcz15_8
                      try clear hcz15_9
                      try clear hcz19_0
                      try clear hcz19_1
                      try clear hcz19_10
                      try clear hcz19_11
                      try clear hcz19_2
                      try clear hcz19_3
                      try clear hcz19_4
                      try clear hcz19_5
                      try clear hcz19_6
                      try clear hcz19_7
                      try clear hcz19_8
                      try clear hcz19_9
                      try clear hcz21_0
                      try clear hcz21_1
                      try clear hcz21_10
                      try clear hcz21_11
                      try clear hcz21_2
                      try clear hcz21_3
                      try clear hcz21_4
                      try clear hcz21_5
                      try clear hcz21_6
                      try clear hcz21_7
                      try clear hcz21_8
                      try clear hcz21_9
                      try clear hcz26_0
                      try clear hcz26_1
                      try clear hcz26_10
                      try clear hcz26_11
                      try clear hcz26_2
                      try clear hcz26_3
                      try clear hcz26_4
                      try clear hcz26_5
                      try clear hcz26_6
                      try clear hcz26_7
                      try clear hcz26_8
                      try clear hcz26_9
                      try clear hcz28_0
                      try clear hcz28_1
                      try clear hcz28_10
                      try clear hcz28_11
                      try clear hcz28_2
                      try clear hcz28_3
                      try clear hcz28_4
                      try clear hcz28_5
                      try clear hcz28_6
                      try clear hcz28_7
                      try clear hcz28_8
                      try clear hcz28_9
                      try clear hfz15_0
                      try clear hfz15_1
                      try clear hfz15_10
                      try clear hfz15_11
                      try clear hfz15_2
                      try clear hfz15_3
                      try clear hfz15_4
                      try clear hfz15_5
                      try clear hfz15_6
                      try clear hfz15_7
                      try clear hfz15_8
                      try clear hfz15_9
                      try clear hfz19_0
                      try clear hfz19_1
                      try clear hfz19_10
                      try clear hfz19_11
                      try clear hfz19_2
                      try clear hfz19_3
                      try clear hfz19_4
                      try clear hfz19_5
                      try clear hfz19_6
                      try clear hfz19_7
                      try clear hfz19_8
                      try clear hfz19_9
                      try clear hfz21_0
                      try clear hfz21_1
                      try clear hfz21_10
                      try clear hfz21_11
                      try clear hfz21_2
                      try clear hfz21_3
                      try clear hfz21_4
                      try clear hfz21_5
                      try clear hfz21_6
                      try clear hfz21_7
                      try clear hfz21_8
                      try clear hfz21_9
                      try clear hfz26_0
                      try clear hfz26_1
                      try clear hfz26_10
                      try clear hfz26_11
                      try clear hfz26_2
                      try clear hfz26_3
                      try clear hfz26_4
                      try clear hfz26_5
                      try clear hfz26_6
                      try clear hfz26_7
                      try clear hfz26_8
                      try clear hfz26_9
                      try clear hfz28_0
                      try clear hfz28_1
                      try clear hfz28_10
                      try clear hfz28_11
                      try clear hfz28_2
                      try clear hfz28_3
                      try clear hfz28_4
                      try clear hfz28_5
                      try clear hfz28_6
                      try clear hfz28_7
                      try clear hfz28_8
                      try clear hfz28_9
                      try clear p2
                      try clear p6
                      obtain ⟨kq, x68_30, rfl, HA, HJ30, HO_3, HO_172008, BK171, HB⟩ := hcut
                      cases kq with
                      | zero => exact absurd HA.out (by simp [flintref25_Acts.j3])
                      | succ kj30 =>
                        have H := HA.out
                        clear HA
                        simp only [flintref25_Acts.j3] at H
                        by_cases c33 : x68_30 = true
                        · subst c33
                          have H1 : (if x3_1.length < 1172812402961 then (flintref25_Acts.l0 kj30 l0 (x3_1 ++ [(⟨4, (Int.tmod t170 4), (⟨x172002_12, x172003_12, x172004_12, x172005_12, x172006_12, x172007_12, x172008_12⟩ : S28), 0, 0, 0⟩ : S31)]) (wrap64 (x4_1 + 4))) else (none)) = some r := by rw [if_pos rfl] at H; exact H
                          clear H
                          have H := H1
                          clear H1
                          by_cases c34 : x3_1.length < 1172812402961
                          · rw [if_pos c34] at H
                            have LMc34 := Aside0.mk c34
                            clear c34
                            obtain ⟨y185, hy185⟩ : ∃ y_ : List (S31), y_ = (x3_1 ++ [(⟨4, (Int.tmod t170 4), (⟨x172002_12, x172003_12, x172004_12, x172005_12, x172006_12, x172007_12, x172008_12⟩ : S28), 0, 0, 0⟩ : S31)]) := ⟨_, rfl⟩
                            replace H : (flintref25_Acts.l0 kj30 l0 y185 (wrap64 (x4_1 + 4))) = some r := by first | (rw [hy185]; with_reducible exact H) | (have H2_ := (Option.bind_some _ _).symm.trans H; rw [hy185]; with_reducible exact H2_) | (have H2_ := (Option.bind_some _ _).symm.trans H; with_reducible exact H2_) | with_reducible exact H | (rw [hy185]; exact H) | exact H
                            have Ny185 := Aside0.mk hy185
                            clear hy185
                            have H' := Aside0.mk H
                            clear H
                            have hcz35_0 : wc.cell? ⟨gb171, 0, none⟩ = some (.int .u8 x172000_12) := (blk_cell BK171.out 0).trans rfl
                            have hcz35_1 : wc.cell? ⟨gb171, 1, none⟩ = some (.int .i64 (Int.tmod t170 4)) := (blk_cell BK171.out 1).trans rfl
                            have hcz35_2 : wc.cell? ⟨gb171, 2, none⟩ = some (.int .u8 x172002_12) := (blk_cell BK171.out 2).trans rfl
                            have hcz35_3 : wc.cell? ⟨gb171, 3, none⟩ = some (.string x172003_12) := (blk_cell BK171.out 3).trans rfl
                            have hcz35_4 : wc.cell? ⟨gb171, 4, none⟩ = some (.string x172004_12) := (blk_cell BK171.out 4).trans rfl
                            have hcz35_5 : wc.cell? ⟨gb171, 5, none⟩ = some (.int .i64 x172005_12) := (blk_cell BK171.out 5).trans rfl
                            have hcz35_6 : wc.cell? ⟨gb171, 6, none⟩ = some (.int .i64 x172006_12) := (blk_cell BK171.out 6).trans rfl
                            have hcz35_7 : wc.cell? ⟨gb171, 7, none⟩ = some (.int .i64 x172007_12) := (blk_cell BK171.out 7).trans rfl
                            have hcz35_8 : wc.cell? ⟨gb171, 8, none⟩ = some (u172008) := (blk_cell BK171.out 8).trans rfl
                            have hcz35_9 : wc.cell? ⟨gb171, 9, none⟩ = some (.int .u32 0) := (blk_cell BK171.out 9).trans rfl
                            have hcz35_10 : wc.cell? ⟨gb171, 10, none⟩ = some (.int .u32 0) := (blk_cell BK171.out 10).trans rfl
                            have hcz35_11 : wc.cell? ⟨gb171, 11, none⟩ = some (.int .u8 0) := (blk_cell BK171.out 11).trans rfl
                            have hfz35_0 := blk_frozen BK171.out 0
                            have hfz35_1 := blk_frozen BK171.out 1
                            have hfz35_2 := blk_frozen BK171.out 2
                            have hfz35_3 := blk_frozen BK171.out 3
                            have hfz35_4 := blk_frozen BK171.out 4
                            have hfz35_5 := blk_frozen BK171.out 5
                            have hfz35_6 := blk_frozen BK171.out 6
                            have hfz35_7 := blk_frozen BK171.out 7
                            have hfz35_8 := blk_frozen BK171.out 8
                            have hfz35_9 := blk_frozen BK171.out 9
                            have hfz35_10 := blk_frozen BK171.out 10
                            have hfz35_11 := blk_frozen BK171.out 11
                            go_wp2_with (first | ((with_reducible refine gate_store (t := 5) (p := 71) rfl ?_); refine store_event (t := 5) (p := 71) (v := ?vo_w36) (w1 := (wc.setCell ⟨gb171, 0, none⟩ (.int .u8 4))) ?hg ?ho ?hn ?hr ?_; (case ho => rfl); (case hg => rfl); (case hn => rfl); (case hr => first | (go_simp; done) | (go_simp; rfl)); intro w36 hw; have n0_ : Aside0 (Kd.S k31 31 w36 w.heap.size (fun k_ => some k_ ≠ (u172008 : Value).ownBlock ∧ k_ ≠ gb171) u3 x3_1) := ⟨(by rw [hw]; exact (by (with_reducible repeat (first | apply Kd.S_alloc | apply Kd.S_drewN | apply Kd.S_drew)); exact Kd.S_mono (Kd.S_far (p := ⟨gb171, 0, none⟩) (Kd.S_mono HO_3.out (fun k_ hk => (⟨hk, hk.2⟩ : _ ∧ k_ ≠ gb171))) (fun _ hk => hk.2) (.int .u8 4)) (fun _ hk => ⟨hk.1.1, hk.1.2⟩)))⟩; have n1_ : Aside0 (Kd.R (Kd.int .u8) 5 w36 w.heap.size (fun _ => True) u172008 x172008_12) := ⟨(by rw [hw]; exact (by (with_reducible repeat (first | apply Kd.R_alloc | apply Kd.R_drewN | apply Kd.R_drew)); exact Kd.R_mono (Kd.R_far (p := ⟨gb171, 0, none⟩) (Kd.R_types HO_172008.out BK171.out (by decide)) (fun _ hk => hk.2) (.int .u8 4)) (fun _ hk => trivial)))⟩; have n2_ : Aside0 (w36.heap[gb171]? = some (.cells #[.int .u8 4, .int .i64 (Int.tmod t170 4), .int .u8 x172002_12, .string x172003_12, .string x172004_12, .int .i64 x172005_12, .int .i64 x172006_12, .int .i64 x172007_12, u172008, .int .u32 0, .int .u32 0, .int .u8 0] 31 (0, 0))) := ⟨(by rw [hw]; exact (by (with_reducible repeat (first | refine blk_drewN ?_ _ | refine blk_drew ?_ | refine blk_alloc ?_ _)); refine blk_put (cs := #[.int .u8 x172000_12, .int .i64 (Int.tmod t170 4), .int .u8 x172002_12, .string x172003_12, .string x172004_12, .int .i64 x172005_12, .int .i64 x172006_12, .int .i64 x172007_12, u172008, .int .u32 0, .int .u32 0, .int .u8 0]) ?_ 0 _ rfl; (with_reducible repeat (first | refine blk_drewN ?_ _ | refine blk_drew ?_ | refine blk_alloc ?_ _)); exact BK171.out))⟩; have n3_ : Aside0 (Below w.heap.size w w36) := ⟨(by rw [hw]; exact (by repeat (first | (with_reducible first | exact HB.out | apply below_alloc | apply pw_below_drewN | apply below_drew1 | refine below_set ?_ GE171.out) | exact HB.out)))⟩; clear hw; clear HO_3; clear HO_172008; clear BK171; clear HB; have HO_3 := n0_; have HO_172008 := n1_; have BK171 := n2_; have HB := n3_; clear n0_ n1_ n2_ n3_; have hcz37_0 : w36.cell? ⟨gb171, 0, none⟩ = some (.int .u8 4) := (blk_cell BK171.out 0).trans rfl; have hcz37_1 : w36.cell? ⟨gb171, 1, none⟩ = some (.int .i64 (Int.tmod t170 4)) := (blk_cell BK171.out 1).trans rfl; have hcz37_2 : w36.cell? ⟨gb171, 2, none⟩ = some (.int .u8 x172002_12) := (blk_cell BK171.out 2).trans rfl; have hcz37_3 : w36.cell? ⟨gb171, 3, none⟩ = some (.string x172003_12) := (blk_cell BK171.out 3).trans rfl; have hcz37_4 : w36.cell? ⟨gb171, 4, none⟩ = some (.string x172004_12) := (blk_cell BK171.out 4).trans rfl; have hcz37_5 : w36.cell? ⟨gb171, 5, none⟩ = some (.int .i64 x172005_12) := (blk_cell BK171.out 5).trans rfl; have hcz37_6 : w36.cell? ⟨gb171, 6, none⟩ = some (.int .i64 x172006_12) := (blk_cell BK171.out 6).trans rfl; have hcz37_7 : w36.cell? ⟨gb171, 7, none⟩ = some (.int .i64 x172007_12) := (blk_cell BK171.out 7).trans rfl; have hcz37_8 : w36.cell? ⟨gb171, 8, none⟩ = some (u172008) := (blk_cell BK171.out 8).trans rfl; have hcz37_9 : w36.cell? ⟨gb171, 9, none⟩ = some (.int .u32 0) := (blk_cell BK171.out 9).trans rfl; have hcz37_10 : w36.cell? ⟨gb171, 10, none⟩ = some (.int .u32 0) := (blk_cell BK171.out 10).trans rfl; have hcz37_11 : w36.cell? ⟨gb171, 11, none⟩ = some (.int .u8 0) := (blk_cell BK171.out 11).trans rfl; have hfz37_0 := blk_frozen BK171.out 0; have hfz37_1 := blk_frozen BK171.out 1; have hfz37_2 := blk_frozen BK171.out 2; have hfz37_3 := blk_frozen BK171.out 3; have hfz37_4 := blk_frozen BK171.out 4; have hfz37_5 := blk_frozen BK171.out 5; have hfz37_6 := blk_frozen BK171.out 6; have hfz37_7 := blk_frozen BK171.out 7; have hfz37_8 := blk_frozen BK171.out 8; have hfz37_9 := blk_frozen BK171.out 9; have hfz37_10 := blk_frozen BK171.out 10; have hfz37_11 := blk_frozen BK171.out 11; obtain ⟨Ao39, co39, eo39⟩ := Kd.R_slice HO_172008.out; subst eo39) | ((with_reducible refine gate_builtin (b := .append) (xs := #[.tmp 78, .tmp 80]) rfl ?_); (try (refine gate_guard (by rfl) ?_; dsimp only)); at_builtin; refine Kd.S_append k31 (w0 := w) w.heap.size rfl (.tmp 78) (.tmp 80) 24 31 (.agg #[(.int .u8 0), (.int .i64 0), (.int .u8 0), (.string ⟨#[]⟩), (.string ⟨#[]⟩), (.int .i64 0), (.int .i64 0), (.int .i64 0), (.slice none 0 0), (.int .u32 0), (.int .u32 0), (.int .u8 0)]) 120 rfl Tryd.underlying24 info31 rfl (by decide) (by omega) u3 x3_1 (⟨4, (Int.tmod t170 4), (⟨x172002_12, x172003_12, x172004_12, x172005_12, x172006_12, x172007_12, x172008_12⟩ : S28), 0, 0, 0⟩ : S31) [.int .u8 4, .int .i64 (Int.tmod t170 4), .int .u8 x172002_12, .string x172003_12, .string x172004_12, .int .i64 x172005_12, .int .i64 x172006_12, .int .i64 x172007_12, .slice Ao39 x172008_12.length co39, .int .u32 0, .int .u32 0, .int .u8 0] (fun k_ => k_ ≠ gb171) (fun k_ => some k_ = (.slice Ao39 x172008_12.length co39 : Value).ownBlock) rfl rfl ?aP (fun k_ hk_ => ((Kd.R_mono (ok' := fun k_ => ((fun k_ => k_ ≠ gb171)) k_ ∧ some k_ ≠ (u3 : Value).ownBlock) (Kd.R_types (Kd.R_apart' (HO_172008.out) (Kd.S_typed HO_3.out) (by decide)) BK171.out (by decide)) (fun k_ hk => ⟨hk.2, hk.1.2⟩))).1 k_ hk_.symm) ?aF ?aO ?aB ?aS ?aL ?_; (case aP => exact k31_mkM _ _ _ (⟨4, (Int.tmod t170 4), (⟨x172002_12, x172003_12, x172004_12, x172005_12, x172006_12, x172007_12, x172008_12⟩ : S28), 0, 0, 0⟩ : S31) (Kd.R_mono (Kd.R_tight rfl (Kd.R_mono (ok' := fun k_ => ((fun k_ => k_ ≠ gb171)) k_ ∧ some k_ ≠ (u3 : Value).ownBlock) (Kd.R_types (Kd.R_apart' (HO_172008.out) (Kd.S_typed HO_3.out) (by decide)) BK171.out (by decide)) (fun k_ hk => ⟨hk.2, hk.1.2⟩))) (fun _ h_ => h_))); (case aB => exact (by repeat (first | (with_reducible first | exact HB.out | apply below_alloc | apply pw_below_drewN | apply below_drew1 | refine below_set ?_ GE171.out) | exact HB.out))); (case aF => exact (fun k_ hk => Kd.freshB (g := gb171) (o := .cells #[.int .u8 4, .int .i64 (Int.tmod t170 4), .int .u8 x172002_12, .string x172003_12, .string x172004_12, .int .i64 x172005_12, .int .i64 x172006_12, .int .i64 x172007_12, .slice Ao39 x172008_12.length co39, .int .u32 0, .int .u32 0, .int .u8 0] 31 (0, 0)) (by (with_reducible repeat (first | refine blk_drewN ?_ _ | refine blk_drew ?_ | refine blk_alloc ?_ _)); exact BK171.out) k_ hk)); (case aO => exact (by (with_reducible repeat (first | apply Kd.S_alloc | apply Kd.S_drewN | apply Kd.S_drew)); exact Kd.S_mono HO_3.out (fun k_ hk => ⟨hk.2, fun e_ => hk.1 e_⟩))); (case aS => exact (below_size (by repeat (first | (with_reducible first | exact HB.out | apply below_alloc | apply pw_below_drewN | apply below_drew1 | refine below_set ?_ GE171.out) | exact HB.out)))); (case aL => have := LMc34.out; omega); intro v186 w38 ho hb hg hat; rw [← Ny185.out] at ho; have n0_ := Aside0.mk (blk_grown (g := gb171) (o := .cells #[.int .u8 4, .int .i64 (Int.tmod t170 4), .int .u8 x172002_12, .string x172003_12, .string x172004_12, .int .i64 x172005_12, .int .i64 x172006_12, .int .i64 x172007_12, .slice Ao39 x172008_12.length co39, .int .u32 0, .int .u32 0, .int .u8 0] 31 (0, 0)) (by (with_reducible repeat (first | refine blk_drewN ?_ _ | refine blk_drew ?_ | refine blk_alloc ?_ _)); exact BK171.out) hg (Kd.S_away HO_3.out (fun _ hk => hk.2))); have n1_ := Aside0.mk (hb); have n2_ := Aside0.mk (ho); clear BK171; clear HB; clear HO_3; clear HO_172008; have BK171 := n0_; have HB := n1_; have HO187 := n2_; clear n0_ n1_ n2_; clear ho hb hg hat))
                            go_roundg kj30
                            case measure => have := HK1.out; have := HJ3.out; have := HJ12.out; have := HJ30.out; omega
                            case rel => exact ⟨(y185), (wrap64 (x4_1 + 4)), (by first | rfl | (simp; done) | (simp [*]; done)), H', ⟨by have := HK1.out; have := HJ3.out; have := HJ12.out; have := HJ30.out; omega⟩, ⟨by (with_reducible repeat (first | apply Kd.S_alloc | apply Kd.S_drewN | apply Kd.S_drew)); exact Kd.S_mono HO187.out (fun _ hk => trivial)⟩, ⟨by repeat (first | (with_reducible first | exact HB.out | apply below_alloc | apply pw_below_drewN | apply below_drew1 | refine below_set ?_ GE171.out) | exact HB.out)⟩⟩
                          · rw [if_neg c34] at H
                            exact absurd H (by simp)
                        · replace c33 := Bool.eq_false_iff.mpr c33
                          subst c33
                          have H1 : (if (wrap64 (Int.tdiv t167 32)) = 7 then (if x3_1.length < 1172812402961 then (flintref25_Acts.l0 kj30 l0 (x3_1 ++ [(⟨5, (Int.tmod t170 4), (⟨x172002_12, x172003_12, x172004_12, x172005_12, x172006_12, x172007_12, x172008_12⟩ : S28), (t168) % 4294967296, 0, 0⟩ : S31)]) (wrap64 (x4_1 + 4))) else (none)) else (if x3_1.length < 1172812402961 then (flintref25_Acts.l0 kj30 l0 (x3_1 ++ [(⟨2, (Int.tmod t170 4), (⟨x172002_12, x172003_12, x172004_12, x172005_12, x172006_12, x172007_12, x172008_12⟩ : S28), (t168) % 4294967296, (wrap64 (4 * t169)) % 4294967296, (t169) % 256⟩ : S31)]) (wrap64 (x4_1 + 4))) else (none))) = some r := by rw [if_neg (show ¬ (false = true) by decide)] at H; exact H
                          clear H
                          have H := H1
                          clear H1
                          by_cases c40 : (wrap64 (Int.tdiv t167 32)) = 7
                          · rw [if_pos c40] at H
                            have c40b0 : ((wrap64 (Int.tdiv t167 32)) == 7) = true := beq_iff_eq.mpr c40
                            have c40b1 : ((wrap64 (Int.tdiv t167 32)) != 7) = false := bne_eq_false_iff_eq.mpr c40
                            clear c40
                            by_cases c41 : x3_1.length < 1172812402961
                            · rw [if_pos c41] at H
                              have LMc41 := Aside0.mk c41
                              clear c41
                              obtain ⟨y188, hy188⟩ : ∃ y_ : List (S31), y_ = (x3_1 ++ [(⟨5, (Int.tmod t170 4), (⟨x172002_12, x172003_12, x172004_12, x172005_12, x172006_12, x172007_12, x172008_12⟩ : S28), (t168) % 4294967296, 0, 0⟩ : S31)]) := ⟨_, rfl⟩
                              replace H : (flintref25_Acts.l0 kj30 l0 y188 (wrap64 (x4_1 + 4))) = some r := by first | (rw [hy188]; with_reducible exact H) | (have H2_ := (Option.bind_some _ _).symm.trans H; rw [hy188]; with_reducible exact H2_) | (have H2_ := (Option.bind_some _ _).symm.trans H; with_reducible exact H2_) | with_reducible exact H | (rw [hy188]; exact H) | exact H
                              have Ny188 := Aside0.mk hy188
                              clear hy188
                              have H' := Aside0.mk H
                              clear H
                              have hcz42_0 : wc.cell? ⟨gb171, 0, none⟩ = some (.int .u8 x172000_12) := (blk_cell BK171.out 0).trans rfl
                              have hcz42_1 : wc.cell? ⟨gb171, 1, none⟩ = some (.int .i64 (Int.tmod t170 4)) := (blk_cell BK171.out 1).trans rfl
                              have hcz42_2 : wc.cell? ⟨gb171, 2, none⟩ = some (.int .u8 x172002_12) := (blk_cell BK171.out 2).trans rfl
                              have hcz42_3 : wc.cell? ⟨gb171, 3, none⟩ = some (.string x172003_12) := (blk_cell BK171.out 3).trans rfl
                              have hcz42_4 : wc.cell? ⟨gb171, 4, none⟩ = some (.string x172004_12) := (blk_cell BK171.out 4).trans rfl
                              have hcz42_5 : wc.cell? ⟨gb171, 5, none⟩ = some (.int .i64 x172005_12) := (blk_cell BK171.out 5).trans rfl
                              have hcz42_6 : wc.cell? ⟨gb171, 6, none⟩ = some (.int .i64 x172006_12) := (blk_cell BK171.out 6).trans rfl
                              have hcz42_7 : wc.cell? ⟨gb171, 7, none⟩ = some (.int .i64 x172007_12) := (blk_cell BK171.out 7).trans rfl
                              have hcz42_8 : wc.cell? ⟨gb171, 8, none⟩ = some (u172008) := (blk_cell BK171.out 8).trans rfl
                              have hcz42_9 : wc.cell? ⟨gb171, 9, none⟩ = some (.int .u32 0) := (blk_cell BK171.out 9).trans rfl
                              have hcz42_10 : wc.cell? ⟨gb171, 10, none⟩ = some (.int .u32 0) := (blk_cell BK171.out 10).trans rfl
                              have hcz42_11 : wc.cell? ⟨gb171, 11, none⟩ = some (.int .u8 0) := (blk_cell BK171.out 11).trans rfl
                              have hfz42_0 := blk_frozen BK171.out 0
                              have hfz42_1 := blk_frozen BK171.out 1
                              have hfz42_2 := blk_frozen BK171.out 2
                              have hfz42_3 := blk_frozen BK171.out 3
                              have hfz42_4 := blk_frozen BK171.out 4
                              have hfz42_5 := blk_frozen BK171.out 5
                              have hfz42_6 := blk_frozen BK171.out 6
                              have hfz42_7 := blk_frozen BK171.out 7
                              have hfz42_8 := blk_frozen BK171.out 8
                              have hfz42_9 := blk_frozen BK171.out 9
                              have hfz42_10 := blk_frozen BK171.out 10
                              have hfz42_11 := blk_frozen BK171.out 11
                              go_wp2_with (first | ((with_reducible refine gate_store (t := 5) (p := 74) rfl ?_); refine store_event (t := 5) (p := 74) (v := ?vo_w43) (w1 := (wc.setCell ⟨gb171, 0, none⟩ (.int .u8 5))) ?hg ?ho ?hn ?hr ?_; (case ho => rfl); (case hg => rfl); (case hn => rfl); (case hr => first | (go_simp; done) | (go_simp; rfl)); intro w43 hw; have n0_ : Aside0 (Kd.S k31 31 w43 w.heap.size (fun k_ => some k_ ≠ (u172008 : Value).ownBlock ∧ k_ ≠ gb171) u3 x3_1) := ⟨(by rw [hw]; exact (by (with_reducible repeat (first | apply Kd.S_alloc | apply Kd.S_drewN | apply Kd.S_drew)); exact Kd.S_mono (Kd.S_far (p := ⟨gb171, 0, none⟩) (Kd.S_mono HO_3.out (fun k_ hk => (⟨hk, hk.2⟩ : _ ∧ k_ ≠ gb171))) (fun _ hk => hk.2) (.int .u8 5)) (fun _ hk => ⟨hk.1.1, hk.1.2⟩)))⟩; have n1_ : Aside0 (Kd.R (Kd.int .u8) 5 w43 w.heap.size (fun _ => True) u172008 x172008_12) := ⟨(by rw [hw]; exact (by (with_reducible repeat (first | apply Kd.R_alloc | apply Kd.R_drewN | apply Kd.R_drew)); exact Kd.R_mono (Kd.R_far (p := ⟨gb171, 0, none⟩) (Kd.R_types HO_172008.out BK171.out (by decide)) (fun _ hk => hk.2) (.int .u8 5)) (fun _ hk => trivial)))⟩; have n2_ : Aside0 (w43.heap[gb171]? = some (.cells #[.int .u8 5, .int .i64 (Int.tmod t170 4), .int .u8 x172002_12, .string x172003_12, .string x172004_12, .int .i64 x172005_12, .int .i64 x172006_12, .int .i64 x172007_12, u172008, .int .u32 0, .int .u32 0, .int .u8 0] 31 (0, 0))) := ⟨(by rw [hw]; exact (by (with_reducible repeat (first | refine blk_drewN ?_ _ | refine blk_drew ?_ | refine blk_alloc ?_ _)); refine blk_put (cs := #[.int .u8 x172000_12, .int .i64 (Int.tmod t170 4), .int .u8 x172002_12, .string x172003_12, .string x172004_12, .int .i64 x172005_12, .int .i64 x172006_12, .int .i64 x172007_12, u172008, .int .u32 0, .int .u32 0, .int .u8 0]) ?_ 0 _ rfl; (with_reducible repeat (first | refine blk_drewN ?_ _ | refine blk_drew ?_ | refine blk_alloc ?_ _)); exact BK171.out))⟩; have n3_ : Aside0 (Below w.heap.size w w43) := ⟨(by rw [hw]; exact (by repeat (first | (with_reducible first | exact HB.out | apply below_alloc | apply pw_below_drewN | apply below_drew1 | refine below_set ?_ GE171.out) | exact HB.out)))⟩; clear hw; clear HO_3; clear HO_172008; clear BK171; clear HB; have HO_3 := n0_; have HO_172008 := n1_; have BK171 := n2_; have HB := n3_; clear n0_ n1_ n2_ n3_; have hcz44_0 : w43.cell? ⟨gb171, 0, none⟩ = some (.int .u8 5) := (blk_cell BK171.out 0).trans rfl; have hcz44_1 : w43.cell? ⟨gb171, 1, none⟩ = some (.int .i64 (Int.tmod t170 4)) := (blk_cell BK171.out 1).trans rfl; have hcz44_2 : w43.cell? ⟨gb171, 2, none⟩ = some (.int .u8 x172002_12) := (blk_cell BK171.out 2).trans rfl; have hcz44_3 : w43.cell? ⟨gb171, 3, none⟩ = some (.string x172003_12) := (blk_cell BK171.out 3).trans rfl; have hcz44_4 : w43.cell? ⟨gb171, 4, none⟩ = some (.string x172004_12) := (blk_cell BK171.out 4).trans rfl; have hcz44_5 : w43.cell? ⟨gb171, 5, none⟩ = some (.int .i64 x172005_12) := (blk_cell BK171.out 5).trans rfl; have hcz44_6 : w43.cell? ⟨gb171, 6, none⟩ = some (.int .i64 x172006_12) := (blk_cell BK171.out 6).trans rfl; have hcz44_7 : w43.cell? ⟨gb171, 7, none⟩ = some (.int .i64 x172007_12) := (blk_cell BK171.out 7).trans rfl; have hcz44_8 : w43.cell? ⟨gb171, 8, none⟩ = some (u172008) := (blk_cell BK171.out 8).trans rfl; have hcz44_9 : w43.cell? ⟨gb171, 9, none⟩ = some (.int .u32 0) := (blk_cell BK171.out 9).trans rfl; have hcz44_10 : w43.cell? ⟨gb171, 10, none⟩ = some (.int .u32 0) := (blk_cell BK171.out 10).trans rfl; have hcz44_11 : w43.cell? ⟨gb171, 11, none⟩ = some (.int .u8 0) := (blk_cell BK171.out 11).trans rfl; have hfz44_0 := blk_frozen BK171.out 0; have hfz44_1 := blk_frozen BK171.out 1; have hfz44_2 := blk_frozen BK171.out 2; have hfz44_3 := blk_frozen BK171.out 3; have hfz44_4 := blk_frozen BK171.out 4; have hfz44_5 := blk_frozen BK171.out 5; have hfz44_6 := blk_frozen BK171.out 6; have hfz44_7 := blk_frozen BK171.out 7; have hfz44_8 := blk_frozen BK171.out 8; have hfz44_9 := blk_frozen BK171.out 9; have hfz44_10 := blk_frozen BK171.out 10; have hfz44_11 := blk_frozen BK171.out 11) | ((with_reducible refine gate_store (t := 29) (p := 77) rfl ?_); refine store_event (t := 29) (p := 77) (v := ?vo_w45) (w1 := (w43.setCell ⟨gb171, 9, none⟩ (.int .u32 ((t168) % 4294967296)))) ?hg ?ho ?hn ?hr ?_; (case ho => rfl); (case hg => rfl); (case hn => rfl); (case hr => first | (go_simp; done) | (go_simp; rfl)); intro w45 hw; have n0_ : Aside0 (Kd.S k31 31 w45 w.heap.size (fun k_ => some k_ ≠ (u172008 : Value).ownBlock ∧ k_ ≠ gb171) u3 x3_1) := ⟨(by rw [hw]; exact (by (with_reducible repeat (first | apply Kd.S_alloc | apply Kd.S_drewN | apply Kd.S_drew)); exact Kd.S_mono (Kd.S_far (p := ⟨gb171, 9, none⟩) (Kd.S_mono HO_3.out (fun k_ hk => (⟨hk, hk.2⟩ : _ ∧ k_ ≠ gb171))) (fun _ hk => hk.2) (.int .u32 ((t168) % 4294967296))) (fun _ hk => ⟨hk.1.1, hk.1.2⟩)))⟩; have n1_ : Aside0 (Kd.R (Kd.int .u8) 5 w45 w.heap.size (fun _ => True) u172008 x172008_12) := ⟨(by rw [hw]; exact (by (with_reducible repeat (first | apply Kd.R_alloc | apply Kd.R_drewN | apply Kd.R_drew)); exact Kd.R_mono (Kd.R_far (p := ⟨gb171, 9, none⟩) (Kd.R_types HO_172008.out BK171.out (by decide)) (fun _ hk => hk.2) (.int .u32 ((t168) % 4294967296))) (fun _ hk => trivial)))⟩; have n2_ : Aside0 (w45.heap[gb171]? = some (.cells #[.int .u8 5, .int .i64 (Int.tmod t170 4), .int .u8 x172002_12, .string x172003_12, .string x172004_12, .int .i64 x172005_12, .int .i64 x172006_12, .int .i64 x172007_12, u172008, .int .u32 ((t168) % 4294967296), .int .u32 0, .int .u8 0] 31 (0, 0))) := ⟨(by rw [hw]; exact (by (with_reducible repeat (first | refine blk_drewN ?_ _ | refine blk_drew ?_ | refine blk_alloc ?_ _)); refine blk_put (cs := #[.int .u8 5, .int .i64 (Int.tmod t170 4), .int .u8 x172002_12, .string x172003_12, .string x172004_12, .int .i64 x172005_12, .int .i64 x172006_12, .int .i64 x172007_12, u172008, .int .u32 0, .int .u32 0, .int .u8 0]) ?_ 9 _ rfl; (with_reducible repeat (first | refine blk_drewN ?_ _ | refine blk_drew ?_ | refine blk_alloc ?_ _)); exact BK171.out))⟩; have n3_ : Aside0 (Below w.heap.size w w45) := ⟨(by rw [hw]; exact (by repeat (first | (with_reducible first | exact HB.out | apply below_alloc | apply pw_below_drewN | apply below_drew1 | refine below_set ?_ GE171.out) | exact HB.out)))⟩; clear hw; clear HO_3; clear HO_172008; clear BK171; clear HB; have HO_3 := n0_; have HO_172008 := n1_; have BK171 := n2_; have HB := n3_; clear n0_ n1_ n2_ n3_; have hcz46_0 : w45.cell? ⟨gb171, 0, none⟩ = some (.int .u8 5) := (blk_cell BK171.out 0).trans rfl; have hcz46_1 : w45.cell? ⟨gb171, 1, none⟩ = some (.int .i64 (Int.tmod t170 4)) := (blk_cell BK171.out 1).trans rfl; have hcz46_2 : w45.cell? ⟨gb171, 2, none⟩ = some (.int .u8 x172002_12) := (blk_cell BK171.out 2).trans rfl; have hcz46_3 : w45.cell? ⟨gb171, 3, none⟩ = some (.string x172003_12) := (blk_cell BK171.out 3).trans rfl; have hcz46_4 : w45.cell? ⟨gb171, 4, none⟩ = some (.string x172004_12) := (blk_cell BK171.out 4).trans rfl; have hcz46_5 : w45.cell? ⟨gb171, 5, none⟩ = some (.int .i64 x172005_12) := (blk_cell BK171.out 5).trans rfl; have hcz46_6 : w45.cell? ⟨gb171, 6, none⟩ = some (.int .i64 x172006_12) := (blk_cell BK171.out 6).trans rfl; have hcz46_7 : w45.cell? ⟨gb171, 7, none⟩ = some (.int .i64 x172007_12) := (blk_cell BK171.out 7).trans rfl; have hcz46_8 : w45.cell? ⟨gb171, 8, none⟩ = some (u172008) := (blk_cell BK171.out 8).trans rfl; have hcz46_9 : w45.cell? ⟨gb171, 9, none⟩ = some (.int .u32 ((t168) % 4294967296)) := (blk_cell BK171.out 9).trans rfl; have hcz46_10 : w45.cell? ⟨gb171, 10, none⟩ = some (.int .u32 0) := (blk_cell BK171.out 10).trans rfl; have hcz46_11 : w45.cell? ⟨gb171, 11, none⟩ = some (.int .u8 0) := (blk_cell BK171.out 11).trans rfl; have hfz46_0 := blk_frozen BK171.out 0; have hfz46_1 := blk_frozen BK171.out 1; have hfz46_2 := blk_frozen BK171.out 2; have hfz46_3 := blk_frozen BK171.out 3; have hfz46_4 := blk_frozen BK171.out 4; have hfz46_5 := blk_frozen BK171.out 5; have hfz46_6 := blk_frozen BK171.out 6; have hfz46_7 := blk_frozen BK171.out 7; have hfz46_8 := blk_frozen BK171.out 8; have hfz46_9 := blk_frozen BK171.out 9; have hfz46_10 := blk_frozen BK171.out 10; have hfz46_11 := blk_frozen BK171.out 11; obtain ⟨Ao48, co48, eo48⟩ := Kd.R_slice HO_172008.out; subst eo48) | ((with_reducible refine gate_builtin (b := .append) (xs := #[.tmp 78, .tmp 80]) rfl ?_); (try (refine gate_guard (by rfl) ?_; dsimp only)); at_builtin; refine Kd.S_append k31 (w0 := w) w.heap.size rfl (.tmp 78) (.tmp 80) 24 31 (.agg #[(.int .u8 0), (.int .i64 0), (.int .u8 0), (.string ⟨#[]⟩), (.string ⟨#[]⟩), (.int .i64 0), (.int .i64 0), (.int .i64 0), (.slice none 0 0), (.int .u32 0), (.int .u32 0), (.int .u8 0)]) 120 rfl Tryd.underlying24 info31 rfl (by decide) (by omega) u3 x3_1 (⟨5, (Int.tmod t170 4), (⟨x172002_12, x172003_12, x172004_12, x172005_12, x172006_12, x172007_12, x172008_12⟩ : S28), (t168) % 4294967296, 0, 0⟩ : S31) [.int .u8 5, .int .i64 (Int.tmod t170 4), .int .u8 x172002_12, .string x172003_12, .string x172004_12, .int .i64 x172005_12, .int .i64 x172006_12, .int .i64 x172007_12, .slice Ao48 x172008_12.length co48, .int .u32 ((t168) % 4294967296), .int .u32 0, .int .u8 0] (fun k_ => k_ ≠ gb171) (fun k_ => some k_ = (.slice Ao48 x172008_12.length co48 : Value).ownBlock) rfl rfl ?aP (fun k_ hk_ => ((Kd.R_mono (ok' := fun k_ => ((fun k_ => k_ ≠ gb171)) k_ ∧ some k_ ≠ (u3 : Value).ownBlock) (Kd.R_types (Kd.R_apart' (HO_172008.out) (Kd.S_typed HO_3.out) (by decide)) BK171.out (by decide)) (fun k_ hk => ⟨hk.2, hk.1.2⟩))).1 k_ hk_.symm) ?aF ?aO ?aB ?aS ?aL ?_; (case aP => exact k31_mkM _ _ _ (⟨5, (Int.tmod t170 4), (⟨x172002_12, x172003_12, x172004_12, x172005_12, x172006_12, x172007_12, x172008_12⟩ : S28), (t168) % 4294967296, 0, 0⟩ : S31) (Kd.R_mono (Kd.R_tight rfl (Kd.R_mono (ok' := fun k_ => ((fun k_ => k_ ≠ gb171)) k_ ∧ some k_ ≠ (u3 : Value).ownBlock) (Kd.R_types (Kd.R_apart' (HO_172008.out) (Kd.S_typed HO_3.out) (by decide)) BK171.out (by decide)) (fun k_ hk => ⟨hk.2, hk.1.2⟩))) (fun _ h_ => h_))); (case aB => exact (by repeat (first | (with_reducible first | exact HB.out | apply below_alloc | apply pw_below_drewN | apply below_drew1 | refine below_set ?_ GE171.out) | exact HB.out))); (case aF => exact (fun k_ hk => Kd.freshB (g := gb171) (o := .cells #[.int .u8 5, .int .i64 (Int.tmod t170 4), .int .u8 x172002_12, .string x172003_12, .string x172004_12, .int .i64 x172005_12, .int .i64 x172006_12, .int .i64 x172007_12, .slice Ao48 x172008_12.length co48, .int .u32 ((t168) % 4294967296), .int .u32 0, .int .u8 0] 31 (0, 0)) (by (with_reducible repeat (first | refine blk_drewN ?_ _ | refine blk_drew ?_ | refine blk_alloc ?_ _)); exact BK171.out) k_ hk)); (case aO => exact (by (with_reducible repeat (first | apply Kd.S_alloc | apply Kd.S_drewN | apply Kd.S_drew)); exact Kd.S_mono HO_3.out (fun k_ hk => ⟨hk.2, fun e_ => hk.1 e_⟩))); (case aS => exact (below_size (by repeat (first | (with_reducible first | exact HB.out | apply below_alloc | apply pw_below_drewN | apply below_drew1 | refine below_set ?_ GE171.out) | exact HB.out)))); (case aL => have := LMc41.out; omega); intro v189 w47 ho hb hg hat; rw [← Ny188.out] at ho; have n0_ := Aside0.mk (blk_grown (g := gb171) (o := .cells #[.int .u8 5, .int .i64 (Int.tmod t170 4), .int .u8 x172002_12, .string x172003_12, .string x172004_12, .int .i64 x172005_12, .int .i64 x172006_12, .int .i64 x172007_12, .slice Ao48 x172008_12.length co48, .int .u32 ((t168) % 4294967296), .int .u32 0, .int .u8 0] 31 (0, 0)) (by (with_reducible repeat (first | refine blk_drewN ?_ _ | refine blk_drew ?_ | refine blk_alloc ?_ _)); exact BK171.out) hg (Kd.S_away HO_3.out (fun _ hk => hk.2))); have n1_ := Aside0.mk (hb); have n2_ := Aside0.mk (ho); clear BK171; clear HB; clear HO_3; clear HO_172008; have BK171 := n0_; have HB := n1_; have HO190 := n2_; clear n0_ n1_ n2_; clear ho hb hg hat))
                              go_roundg kj30
                              case measure => have := HK1.out; have := HJ3.out; have := HJ12.out; have := HJ30.out; omega
                              case rel => exact ⟨(y188), (wrap64 (x4_1 + 4)), (by first | rfl | (simp; done) | (simp [*]; done)), H', ⟨by have := HK1.out; have := HJ3.out; have := HJ12.out; have := HJ30.out; omega⟩, ⟨by (with_reducible repeat (first | apply Kd.S_alloc | apply Kd.S_drewN | apply Kd.S_drew)); exact Kd.S_mono HO190.out (fun _ hk => trivial)⟩, ⟨by repeat (first | (with_reducible first | exact HB.out | apply below_alloc | apply pw_below_drewN | apply below_drew1 | refine below_set ?_ GE171.out) | exact HB.out)⟩⟩
                            · rw [if_neg c41] at H
                              exact absurd H (by simp)
                          · rw [if_neg c40] at H
                            have c40b0 : ((wrap64 (Int.tdiv t167 32)) == 7) = false := beq_eq_false_iff_ne.mpr c40
                            have c40b1 : ((wrap64 (Int.tdiv t167 32)) != 7) = true := bne_iff_ne.mpr c40
                            by_cases c49 : x3_1.length < 1172812402961
                            · rw [if_pos c49] at H
                              have LMc49 := Aside0.mk c49
                              clear c49
                              obtain ⟨y191, hy191⟩ : ∃ y_ : List (S31), y_ = (x3_1 ++ [(⟨2, (Int.tmod t170 4), (⟨x172002_12, x172003_12, x172004_12, x172005_12, x172006_12, x172007_12, x172008_12⟩ : S28), (t168) % 4294967296, (wrap64 (4 * t169)) % 4294967296, (t169) % 256⟩ : S31)]) := ⟨_, rfl⟩
                              replace H : (flintref25_Acts.l0 kj30 l0 y191 (wrap64 (x4_1 + 4))) = some r := by first | (rw [hy191]; with_reducible exact H) | (have H2_ := (Option.bind_some _ _).symm.trans H; rw [hy191]; with_reducible exact H2_) | (have H2_ := (Option.bind_some _ _).symm.trans H; with_reducible exact H2_) | with_reducible exact H | (rw [hy191]; exact H) | exact H
                              have Ny191 := Aside0.mk hy191
                              clear hy191
                              have H' := Aside0.mk H
                              clear H
                              have hcz50_0 : wc.cell? ⟨gb171, 0, none⟩ = some (.int .u8 x172000_12) := (blk_cell BK171.out 0).trans rfl
                              have hcz50_1 : wc.cell? ⟨gb171, 1, none⟩ = some (.int .i64 (Int.tmod t170 4)) := (blk_cell BK171.out 1).trans rfl
                              have hcz50_2 : wc.cell? ⟨gb171, 2, none⟩ = some (.int .u8 x172002_12) := (blk_cell BK171.out 2).trans rfl
                              have hcz50_3 : wc.cell? ⟨gb171, 3, none⟩ = some (.string x172003_12) := (blk_cell BK171.out 3).trans rfl
                              have hcz50_4 : wc.cell? ⟨gb171, 4, none⟩ = some (.string x172004_12) := (blk_cell BK171.out 4).trans rfl
                              have hcz50_5 : wc.cell? ⟨gb171, 5, none⟩ = some (.int .i64 x172005_12) := (blk_cell BK171.out 5).trans rfl
                              have hcz50_6 : wc.cell? ⟨gb171, 6, none⟩ = some (.int .i64 x172006_12) := (blk_cell BK171.out 6).trans rfl
                              have hcz50_7 : wc.cell? ⟨gb171, 7, none⟩ = some (.int .i64 x172007_12) := (blk_cell BK171.out 7).trans rfl
                              have hcz50_8 : wc.cell? ⟨gb171, 8, none⟩ = some (u172008) := (blk_cell BK171.out 8).trans rfl
                              have hcz50_9 : wc.cell? ⟨gb171, 9, none⟩ = some (.int .u32 0) := (blk_cell BK171.out 9).trans rfl
                              have hcz50_10 : wc.cell? ⟨gb171, 10, none⟩ = some (.int .u32 0) := (blk_cell BK171.out 10).trans rfl
                              have hcz50_11 : wc.cell? ⟨gb171, 11, none⟩ = some (.int .u8 0) := (blk_cell BK171.out 11).trans rfl
                              have hfz50_0 := blk_frozen BK171.out 0
                              have hfz50_1 := blk_frozen BK171.out 1
                              have hfz50_2 := blk_frozen BK171.out 2
                              have hfz50_3 := blk_frozen BK171.out 3
                              have hfz50_4 := blk_frozen BK171.out 4
                              have hfz50_5 := blk_frozen BK171.out 5
                              have hfz50_6 := blk_frozen BK171.out 6
                              have hfz50_7 := blk_frozen BK171.out 7
                              have hfz50_8 := blk_frozen BK171.out 8
                              have hfz50_9 := blk_frozen BK171.out 9
                              have hfz50_10 := blk_frozen BK171.out 10
                              have hfz50_11 := blk_frozen BK171.out 11
                              go_wp2_with (first | ((with_reducible refine gate_store (t := 5) (p := 54) rfl ?_); refine store_event (t := 5) (p := 54) (v := ?vo_w51) (w1 := (wc.setCell ⟨gb171, 0, none⟩ (.int .u8 2))) ?hg ?ho ?hn ?hr ?_; (case ho => rfl); (case hg => rfl); (case hn => rfl); (case hr => first | (go_simp; done) | (go_simp; rfl)); intro w51 hw; have n0_ : Aside0 (Kd.S k31 31 w51 w.heap.size (fun k_ => some k_ ≠ (u172008 : Value).ownBlock ∧ k_ ≠ gb171) u3 x3_1) := ⟨(by rw [hw]; exact (by (with_reducible repeat (first | apply Kd.S_alloc | apply Kd.S_drewN | apply Kd.S_drew)); exact Kd.S_mono (Kd.S_far (p := ⟨gb171, 0, none⟩) (Kd.S_mono HO_3.out (fun k_ hk => (⟨hk, hk.2⟩ : _ ∧ k_ ≠ gb171))) (fun _ hk => hk.2) (.int .u8 2)) (fun _ hk => ⟨hk.1.1, hk.1.2⟩)))⟩; have n1_ : Aside0 (Kd.R (Kd.int .u8) 5 w51 w.heap.size (fun _ => True) u172008 x172008_12) := ⟨(by rw [hw]; exact (by (with_reducible repeat (first | apply Kd.R_alloc | apply Kd.R_drewN | apply Kd.R_drew)); exact Kd.R_mono (Kd.R_far (p := ⟨gb171, 0, none⟩) (Kd.R_types HO_172008.out BK171.out (by decide)) (fun _ hk => hk.2) (.int .u8 2)) (fun _ hk => trivial)))⟩; have n2_ : Aside0 (w51.heap[gb171]? = some (.cells #[.int .u8 2, .int .i64 (Int.tmod t170 4), .int .u8 x172002_12, .string x172003_12, .string x172004_12, .int .i64 x172005_12, .int .i64 x172006_12, .int .i64 x172007_12, u172008, .int .u32 0, .int .u32 0, .int .u8 0] 31 (0, 0))) := ⟨(by rw [hw]; exact (by (with_reducible repeat (first | refine blk_drewN ?_ _ | refine blk_drew ?_ | refine blk_alloc ?_ _)); refine blk_put (cs := #[.int .u8 x172000_12, .int .i64 (Int.tmod t170 4), .int .u8 x172002_12, .string x172003_12, .string x172004_12, .int .i64 x172005_12, .int .i64 x172006_12, .int .i64 x172007_12, u172008, .int .u32 0, .int .u32 0, .int .u8 0]) ?_ 0 _ rfl; (with_reducible repeat (first | refine blk_drewN ?_ _ | refine blk_drew ?_ | refine blk_alloc ?_ _)); exact BK171.out))⟩; have n3_ : Aside0 (Below w.heap.size w w51) := ⟨(by rw [hw]; exact (by repeat (first | (with_reducible first | exact HB.out | apply below_alloc | apply pw_below_drewN | apply below_drew1 | refine below_set ?_ GE171.out) | exact HB.out)))⟩; clear hw; clear HO_3; clear HO_172008; clear BK171; clear HB; have HO_3 := n0_; have HO_172008 := n1_; have BK171 := n2_; have HB := n3_; clear n0_ n1_ n2_ n3_; have hcz52_0 : w51.cell? ⟨gb171, 0, none⟩ = some (.int .u8 2) := (blk_cell BK171.out 0).trans rfl; have hcz52_1 : w51.cell? ⟨gb171, 1, none⟩ = some (.int .i64 (Int.tmod t170 4)) := (blk_cell BK171.out 1).trans rfl; have hcz52_2 : w51.cell? ⟨gb171, 2, none⟩ = some (.int .u8 x172002_12) := (blk_cell BK171.out 2).trans rfl; have hcz52_3 : w51.cell? ⟨gb171, 3, none⟩ = some (.string x172003_12) := (blk_cell BK171.out 3).trans rfl; have hcz52_4 : w51.cell? ⟨gb171, 4, none⟩ = some (.string x172004_12) := (blk_cell BK171.out 4).trans rfl; have hcz52_5 : w51.cell? ⟨gb171, 5, none⟩ = some (.int .i64 x172005_12) := (blk_cell BK171.out 5).trans rfl; have hcz52_6 : w51.cell? ⟨gb171, 6, none⟩ = some (.int .i64 x172006_12) := (blk_cell BK171.out 6).trans rfl; have hcz52_7 : w51.cell? ⟨gb171, 7, none⟩ = some (.int .i64 x172007_12) := (blk_cell BK171.out 7).trans rfl; have hcz52_8 : w51.cell? ⟨gb171, 8, none⟩ = some (u172008) := (blk_cell BK171.out 8).trans rfl; have hcz52_9 : w51.cell? ⟨gb171, 9, none⟩ = some (.int .u32 0) := (blk_cell BK171.out 9).trans rfl; have hcz52_10 : w51.cell? ⟨gb171, 10, none⟩ = some (.int .u32 0) := (blk_cell BK171.out 10).trans rfl; have hcz52_11 : w51.cell? ⟨gb171, 11, none⟩ = some (.int .u8 0) := (blk_cell BK171.out 11).trans rfl; have hfz52_0 := blk_frozen BK171.out 0; have hfz52_1 := blk_frozen BK171.out 1; have hfz52_2 := blk_frozen BK171.out 2; have hfz52_3 := blk_frozen BK171.out 3; have hfz52_4 := blk_frozen BK171.out 4; have hfz52_5 := blk_frozen BK171.out 5; have hfz52_6 := blk_frozen BK171.out 6; have hfz52_7 := blk_frozen BK171.out 7; have hfz52_8 := blk_frozen BK171.out 8; have hfz52_9 := blk_frozen BK171.out 9; have hfz52_10 := blk_frozen BK171.out 10; have hfz52_11 := blk_frozen BK171.out 11) | ((with_reducible refine gate_store (t := 29) (p := 57) rfl ?_); refine store_event (t := 29) (p := 57) (v := ?vo_w53) (w1 := (w51.setCell ⟨gb171, 9, none⟩ (.int .u32 ((t168) % 4294967296)))) ?hg ?ho ?hn ?hr ?_; (case ho => rfl); (case hg => rfl); (case hn => rfl); (case hr => first | (go_simp; done) | (go_simp; rfl)); intro w53 hw; have n0_ : Aside0 (Kd.S k31 31 w53 w.heap.size (fun k_ => some k_ ≠ (u172008 : Value).ownBlock ∧ k_ ≠ gb171) u3 x3_1) := ⟨(by rw [hw]; exact (by (with_reducible repeat (first | apply Kd.S_alloc | apply Kd.S_drewN | apply Kd.S_drew)); exact Kd.S_mono (Kd.S_far (p := ⟨gb171, 9, none⟩) (Kd.S_mono HO_3.out (fun k_ hk => (⟨hk, hk.2⟩ : _ ∧ k_ ≠ gb171))) (fun _ hk => hk.2) (.int .u32 ((t168) % 4294967296))) (fun _ hk => ⟨hk.1.1, hk.1.2⟩)))⟩; have n1_ : Aside0 (Kd.R (Kd.int .u8) 5 w53 w.heap.size (fun _ => True) u172008 x172008_12) := ⟨(by rw [hw]; exact (by (with_reducible repeat (first | apply Kd.R_alloc | apply Kd.R_drewN | apply Kd.R_drew)); exact Kd.R_mono (Kd.R_far (p := ⟨gb171, 9, none⟩) (Kd.R_types HO_172008.out BK171.out (by decide)) (fun _ hk => hk.2) (.int .u32 ((t168) % 4294967296))) (fun _ hk => trivial)))⟩; have n2_ : Aside0 (w53.heap[gb171]? = some (.cells #[.int .u8 2, .int .i64 (Int.tmod t170 4), .int .u8 x172002_12, .string x172003_12, .string x172004_12, .int .i64 x172005_12, .int .i64 x172006_12, .int .i64 x172007_12, u172008, .int .u32 ((t168) % 4294967296), .int .u32 0, .int .u8 0] 31 (0, 0))) := ⟨(by rw [hw]; exact (by (with_reducible repeat (first | refine blk_drewN ?_ _ | refine blk_drew ?_ | refine blk_alloc ?_ _)); refine blk_put (cs := #[.int .u8 2, .int .i64 (Int.tmod t170 4), .int .u8 x172002_12, .string x172003_12, .string x172004_12, .int .i64 x172005_12, .int .i64 x172006_12, .int .i64 x172007_12, u172008, .int .u32 0, .int .u32 0, .int .u8 0]) ?_ 9 _ rfl; (with_reducible repeat (first | refine blk_drewN ?_ _ | refine blk_drew ?_ | refine blk_alloc ?_ _)); exact BK171.out))⟩; have n3_ : Aside0 (Below w.heap.size w w53) := ⟨(by rw [hw]; exact (by repeat (first | (with_reducible first | exact HB.out | apply below_alloc | apply pw_below_drewN | apply below_drew1 | refine below_set ?_ GE171.out) | exact HB.out)))⟩; clear hw; clear HO_3; clear HO_172008; clear BK171; clear HB; have HO_3 := n0_; have HO_172008 := n1_; have BK171 := n2_; have HB := n3_; clear n0_ n1_ n2_ n3_; have hcz54_0 : w53.cell? ⟨gb171, 0, none⟩ = some (.int .u8 2) := (blk_cell BK171.out 0).trans rfl; have hcz54_1 : w53.cell? ⟨gb171, 1, none⟩ = some (.int .i64 (Int.tmod t170 4)) := (blk_cell BK171.out 1).trans rfl; have hcz54_2 : w53.cell? ⟨gb171, 2, none⟩ = some (.int .u8 x172002_12) := (blk_cell BK171.out 2).trans rfl; have hcz54_3 : w53.cell? ⟨gb171, 3, none⟩ = some (.string x172003_12) := (blk_cell BK171.out 3).trans rfl; have hcz54_4 : w53.cell? ⟨gb171, 4, none⟩ = some (.string x172004_12) := (blk_cell BK171.out 4).trans rfl; have hcz54_5 : w53.cell? ⟨gb171, 5, none⟩ = some (.int .i64 x172005_12) := (blk_cell BK171.out 5).trans rfl; have hcz54_6 : w53.cell? ⟨gb171, 6, none⟩ = some (.int .i64 x172006_12) := (blk_cell BK171.out 6).trans rfl; have hcz54_7 : w53.cell? ⟨gb171, 7, none⟩ = some (.int .i64 x172007_12) := (blk_cell BK171.out 7).trans rfl; have hcz54_8 : w53.cell? ⟨gb171, 8, none⟩ = some (u172008) := (blk_cell BK171.out 8).trans rfl; have hcz54_9 : w53.cell? ⟨gb171, 9, none⟩ = some (.int .u32 ((t168) % 4294967296)) := (blk_cell BK171.out 9).trans rfl; have hcz54_10 : w53.cell? ⟨gb171, 10, none⟩ = some (.int .u32 0) := (blk_cell BK171.out 10).trans rfl; have hcz54_11 : w53.cell? ⟨gb171, 11, none⟩ = some (.int .u8 0) := (blk_cell BK171.out 11).trans rfl; have hfz54_0 := blk_frozen BK171.out 0; have hfz54_1 := blk_frozen BK171.out 1; have hfz54_2 := blk_frozen BK171.out 2; have hfz54_3 := blk_frozen BK171.out 3; have hfz54_4 := blk_frozen BK171.out 4; have hfz54_5 := blk_frozen BK171.out 5; have hfz54_6 := blk_frozen BK171.out 6; have hfz54_7 := blk_frozen BK171.out 7; have hfz54_8 := blk_frozen BK171.out 8; have hfz54_9 := blk_frozen BK171.out 9; have hfz54_10 := blk_frozen BK171.out 10; have hfz54_11 := blk_frozen BK171.out 11) | ((with_reducible refine gate_store (t := 29) (p := 61) rfl ?_); refine store_event (t := 29) (p := 61) (v := ?vo_w55) (w1 := (w53.setCell ⟨gb171, 10, none⟩ (.int .u32 ((wrap64 (4 * t169)) % 4294967296)))) ?hg ?ho ?hn ?hr ?_; (case ho => rfl); (case hg => rfl); (case hn => rfl); (case hr => first | (go_simp; done) | (go_simp; rfl)); intro w55 hw; have n0_ : Aside0 (Kd.S k31 31 w55 w.heap.size (fun k_ => some k_ ≠ (u172008 : Value).ownBlock ∧ k_ ≠ gb171) u3 x3_1) := ⟨(by rw [hw]; exact (by (with_reducible repeat (first | apply Kd.S_alloc | apply Kd.S_drewN | apply Kd.S_drew)); exact Kd.S_mono (Kd.S_far (p := ⟨gb171, 10, none⟩) (Kd.S_mono HO_3.out (fun k_ hk => (⟨hk, hk.2⟩ : _ ∧ k_ ≠ gb171))) (fun _ hk => hk.2) (.int .u32 ((wrap64 (4 * t169)) % 4294967296))) (fun _ hk => ⟨hk.1.1, hk.1.2⟩)))⟩; have n1_ : Aside0 (Kd.R (Kd.int .u8) 5 w55 w.heap.size (fun _ => True) u172008 x172008_12) := ⟨(by rw [hw]; exact (by (with_reducible repeat (first | apply Kd.R_alloc | apply Kd.R_drewN | apply Kd.R_drew)); exact Kd.R_mono (Kd.R_far (p := ⟨gb171, 10, none⟩) (Kd.R_types HO_172008.out BK171.out (by decide)) (fun _ hk => hk.2) (.int .u32 ((wrap64 (4 * t169)) % 4294967296))) (fun _ hk => trivial)))⟩; have n2_ : Aside0 (w55.heap[gb171]? = some (.cells #[.int .u8 2, .int .i64 (Int.tmod t170 4), .int .u8 x172002_12, .string x172003_12, .string x172004_12, .int .i64 x172005_12, .int .i64 x172006_12, .int .i64 x172007_12, u172008, .int .u32 ((t168) % 4294967296), .int .u32 ((wrap64 (4 * t169)) % 4294967296), .int .u8 0] 31 (0, 0))) := ⟨(by rw [hw]; exact (by (with_reducible repeat (first | refine blk_drewN ?_ _ | refine blk_drew ?_ | refine blk_alloc ?_ _)); refine blk_put (cs := #[.int .u8 2, .int .i64 (Int.tmod t170 4), .int .u8 x172002_12, .string x172003_12, .string x172004_12, .int .i64 x172005_12, .int .i64 x172006_12, .int .i64 x172007_12, u172008, .int .u32 ((t168) % 4294967296), .int .u32 0, .int .u8 0]) ?_ 10 _ rfl; (with_reducible repeat (first | refine blk_drewN ?_ _ | refine blk_drew ?_ | refine blk_alloc ?_ _)); exact BK171.out))⟩; have n3_ : Aside0 (Below w.heap.size w w55) := ⟨(by rw [hw]; exact (by repeat (first | (with_reducible first | exact HB.out | apply below_alloc | apply pw_below_drewN | apply below_drew1 | refine below_set ?_ GE171.out) | exact HB.out)))⟩; clear hw; clear HO_3; clear HO_172008; clear BK171; clear HB; have HO_3 := n0_; have HO_172008 := n1_; have BK171 := n2_; have HB := n3_; clear n0_ n1_ n2_ n3_; have hcz56_0 : w55.cell? ⟨gb171, 0, none⟩ = some (.int .u8 2) := (blk_cell BK171.out 0).trans rfl; have hcz56_1 : w55.cell? ⟨gb171, 1, none⟩ = some (.int .i64 (Int.tmod t170 4)) := (blk_cell BK171.out 1).trans rfl; have hcz56_2 : w55.cell? ⟨gb171, 2, none⟩ = some (.int .u8 x172002_12) := (blk_cell BK171.out 2).trans rfl; have hcz56_3 : w55.cell? ⟨gb171, 3, none⟩ = some (.string x172003_12) := (blk_cell BK171.out 3).trans rfl; have hcz56_4 : w55.cell? ⟨gb171, 4, none⟩ = some (.string x172004_12) := (blk_cell BK171.out 4).trans rfl; have hcz56_5 : w55.cell? ⟨gb171, 5, none⟩ = some (.int .i64 x172005_12) := (blk_cell BK171.out 5).trans rfl; have hcz56_6 : w55.cell? ⟨gb171, 6, none⟩ = some (.int .i64 x172006_12) := (blk_cell BK171.out 6).trans rfl; have hcz56_7 : w55.cell? ⟨gb171, 7, none⟩ = some (.int .i64 x172007_12) := (blk_cell BK171.out 7).trans rfl; have hcz56_8 : w55.cell? ⟨gb171, 8, none⟩ = some (u172008) := (blk_cell BK171.out 8).trans rfl; have hcz56_9 : w55.cell? ⟨gb171, 9, none⟩ = some (.int .u32 ((t168) % 4294967296)) := (blk_cell BK171.out 9).trans rfl; have hcz56_10 : w55.cell? ⟨gb171, 10, none⟩ = some (.int .u32 ((wrap64 (4 * t169)) % 4294967296)) := (blk_cell BK171.out 10).trans rfl; have hcz56_11 : w55.cell? ⟨gb171, 11, none⟩ = some (.int .u8 0) := (blk_cell BK171.out 11).trans rfl; have hfz56_0 := blk_frozen BK171.out 0; have hfz56_1 := blk_frozen BK171.out 1; have hfz56_2 := blk_frozen BK171.out 2; have hfz56_3 := blk_frozen BK171.out 3; have hfz56_4 := blk_frozen BK171.out 4; have hfz56_5 := blk_frozen BK171.out 5; have hfz56_6 := blk_frozen BK171.out 6; have hfz56_7 := blk_frozen BK171.out 7; have hfz56_8 := blk_frozen BK171.out 8; have hfz56_9 := blk_frozen BK171.out 9; have hfz56_10 := blk_frozen BK171.out 10; have hfz56_11 := blk_frozen BK171.out 11) | ((with_reducible refine gate_store (t := 5) (p := 64) rfl ?_); refine store_event (t := 5) (p := 64) (v := ?vo_w57) (w1 := (w55.setCell ⟨gb171, 11, none⟩ (.int .u8 ((t169) % 256)))) ?hg ?ho ?hn ?hr ?_; (case ho => rfl); (case hg => rfl); (case hn => rfl); (case hr => first | (go_simp; done) | (go_simp; rfl)); intro w57 hw; have n0_ : Aside0 (Kd.S k31 31 w57 w.heap.size (fun k_ => some k_ ≠ (u172008 : Value).ownBlock ∧ k_ ≠ gb171) u3 x3_1) := ⟨(by rw [hw]; exact (by (with_reducible repeat (first | apply Kd.S_alloc | apply Kd.S_drewN | apply Kd.S_drew)); exact Kd.S_mono (Kd.S_far (p := ⟨gb171, 11, none⟩) (Kd.S_mono HO_3.out (fun k_ hk => (⟨hk, hk.2⟩ : _ ∧ k_ ≠ gb171))) (fun _ hk => hk.2) (.int .u8 ((t169) % 256))) (fun _ hk => ⟨hk.1.1, hk.1.2⟩)))⟩; have n1_ : Aside0 (Kd.R (Kd.int .u8) 5 w57 w.heap.size (fun _ => True) u172008 x172008_12) := ⟨(by rw [hw]; exact (by (with_reducible repeat (first | apply Kd.R_alloc | apply Kd.R_drewN | apply Kd.R_drew)); exact Kd.R_mono (Kd.R_far (p := ⟨gb171, 11, none⟩) (Kd.R_types HO_172008.out BK171.out (by decide)) (fun _ hk => hk.2) (.int .u8 ((t169) % 256))) (fun _ hk => trivial)))⟩; have n2_ : Aside0 (w57.heap[gb171]? = some (.cells #[.int .u8 2, .int .i64 (Int.tmod t170 4), .int .u8 x172002_12, .string x172003_12, .string x172004_12, .int .i64 x172005_12, .int .i64 x172006_12, .int .i64 x172007_12, u172008, .int .u32 ((t168) % 4294967296), .int .u32 ((wrap64 (4 * t169)) % 4294967296), .int .u8 ((t169) % 256)] 31 (0, 0))) := ⟨(by rw [hw]; exact (by (with_reducible repeat (first | refine blk_drewN ?_ _ | refine blk_drew ?_ | refine blk_alloc ?_ _)); refine blk_put (cs := #[.int .u8 2, .int .i64 (Int.tmod t170 4), .int .u8 x172002_12, .string x172003_12, .string x172004_12, .int .i64 x172005_12, .int .i64 x172006_12, .int .i64 x172007_12, u172008, .int .u32 ((t168) % 4294967296), .int .u32 ((wrap64 (4 * t169)) % 4294967296), .int .u8 0]) ?_ 11 _ rfl; (with_reducible repeat (first | refine blk_drewN ?_ _ | refine blk_drew ?_ | refine blk_alloc ?_ _)); exact BK171.out))⟩; have n3_ : Aside0 (Below w.heap.size w w57) := ⟨(by rw [hw]; exact (by repeat (first | (with_reducible first | exact HB.out | apply below_alloc | apply pw_below_drewN | apply below_drew1 | refine below_set ?_ GE171.out) | exact HB.out)))⟩; clear hw; clear HO_3; clear HO_172008; clear BK171; clear HB; have HO_3 := n0_; have HO_172008 := n1_; have BK171 := n2_; have HB := n3_; clear n0_ n1_ n2_ n3_; have hcz58_0 : w57.cell? ⟨gb171, 0, none⟩ = some (.int .u8 2) := (blk_cell BK171.out 0).trans rfl; have hcz58_1 : w57.cell? ⟨gb171, 1, none⟩ = some (.int .i64 (Int.tmod t170 4)) := (blk_cell BK171.out 1).trans rfl; have hcz58_2 : w57.cell? ⟨gb171, 2, none⟩ = some (.int .u8 x172002_12) := (blk_cell BK171.out 2).trans rfl; have hcz58_3 : w57.cell? ⟨gb171, 3, none⟩ = some (.string x172003_12) := (blk_cell BK171.out 3).trans rfl; have hcz58_4 : w57.cell? ⟨gb171, 4, none⟩ = some (.string x172004_12) := (blk_cell BK171.out 4).trans rfl; have hcz58_5 : w57.cell? ⟨gb171, 5, none⟩ = some (.int .i64 x172005_12) := (blk_cell BK171.out 5).trans rfl; have hcz58_6 : w57.cell? ⟨gb171, 6, none⟩ = some (.int .i64 x172006_12) := (blk_cell BK171.out 6).trans rfl; have hcz58_7 : w57.cell? ⟨gb171, 7, none⟩ = some (.int .i64 x172007_12) := (blk_cell BK171.out 7).trans rfl; have hcz58_8 : w57.cell? ⟨gb171, 8, none⟩ = some (u172008) := (blk_cell BK171.out 8).trans rfl; have hcz58_9 : w57.cell? ⟨gb171, 9, none⟩ = some (.int .u32 ((t168) % 4294967296)) := (blk_cell BK171.out 9).trans rfl; have hcz58_10 : w57.cell? ⟨gb171, 10, none⟩ = some (.int .u32 ((wrap64 (4 * t169)) % 4294967296)) := (blk_cell BK171.out 10).trans rfl; have hcz58_11 : w57.cell? ⟨gb171, 11, none⟩ = some (.int .u8 ((t169) % 256)) := (blk_cell BK171.out 11).trans rfl; have hfz58_0 := blk_frozen BK171.out 0; have hfz58_1 := blk_frozen BK171.out 1; have hfz58_2 := blk_frozen BK171.out 2; have hfz58_3 := blk_frozen BK171.out 3; have hfz58_4 := blk_frozen BK171.out 4; have hfz58_5 := blk_frozen BK171.out 5; have hfz58_6 := blk_frozen BK171.out 6; have hfz58_7 := blk_frozen BK171.out 7; have hfz58_8 := blk_frozen BK171.out 8; have hfz58_9 := blk_frozen BK171.out 9; have hfz58_10 := blk_frozen BK171.out 10; have hfz58_11 := blk_frozen BK171.out 11; obtain ⟨Ao60, co60, eo60⟩ := Kd.R_slice HO_172008.out; subst eo60) | ((with_reducible refine gate_builtin (b := .append) (xs := #[.tmp 78, .tmp 80]) rfl ?_); (try (refine gate_guard (by rfl) ?_; dsimp only)); at_builtin; refine Kd.S_append k31 (w0 := w) w.heap.size rfl (.tmp 78) (.tmp 80) 24 31 (.agg #[(.int .u8 0), (.int .i64 0), (.int .u8 0), (.string ⟨#[]⟩), (.string ⟨#[]⟩), (.int .i64 0), (.int .i64 0), (.int .i64 0), (.slice none 0 0), (.int .u32 0), (.int .u32 0), (.int .u8 0)]) 120 rfl Tryd.underlying24 info31 rfl (by decide) (by omega) u3 x3_1 (⟨2, (Int.tmod t170 4), (⟨x172002_12, x172003_12, x172004_12, x172005_12, x172006_12, x172007_12, x172008_12⟩ : S28), (t168) % 4294967296, (wrap64 (4 * t169)) % 4294967296, (t169) % 256⟩ : S31) [.int .u8 2, .int .i64 (Int.tmod t170 4), .int .u8 x172002_12, .string x172003_12, .string x172004_12, .int .i64 x172005_12, .int .i64 x172006_12, .int .i64 x172007_12, .slice Ao60 x172008_12.length co60, .int .u32 ((t168) % 4294967296), .int .u32 ((wrap64 (4 * t169)) % 4294967296), .int .u8 ((t169) % 256)] (fun k_ => k_ ≠ gb171) (fun k_ => some k_ = (.slice Ao60 x172008_12.length co60 : Value).ownBlock) rfl rfl ?aP (fun k_ hk_ => ((Kd.R_mono (ok' := fun k_ => ((fun k_ => k_ ≠ gb171)) k_ ∧ some k_ ≠ (u3 : Value).ownBlock) (Kd.R_types (Kd.R_apart' (HO_172008.out) (Kd.S_typed HO_3.out) (by decide)) BK171.out (by decide)) (fun k_ hk => ⟨hk.2, hk.1.2⟩))).1 k_ hk_.symm) ?aF ?aO ?aB ?aS ?aL ?_; (case aP => exact k31_mkM _ _ _ (⟨2, (Int.tmod t170 4), (⟨x172002_12, x172003_12, x172004_12, x172005_12, x172006_12, x172007_12, x172008_12⟩ : S28), (t168) % 4294967296, (wrap64 (4 * t169)) % 4294967296, (t169) % 256⟩ : S31) (Kd.R_mono (Kd.R_tight rfl (Kd.R_mono (ok' := fun k_ => ((fun k_ => k_ ≠ gb171)) k_ ∧ some k_ ≠ (u3 : Value).ownBlock) (Kd.R_types (Kd.R_apart' (HO_172008.out) (Kd.S_typed HO_3.out) (by decide)) BK171.out (by decide)) (fun k_ hk => ⟨hk.2, hk.1.2⟩))) (fun _ h_ => h_))); (case aB => exact (by repeat (first | (with_reducible first | exact HB.out | apply below_alloc | apply pw_below_drewN | apply below_drew1 | refine below_set ?_ GE171.out) | exact HB.out))); (case aF => exact (fun k_ hk => Kd.freshB (g := gb171) (o := .cells #[.int .u8 2, .int .i64 (Int.tmod t170 4), .int .u8 x172002_12, .string x172003_12, .string x172004_12, .int .i64 x172005_12, .int .i64 x172006_12, .int .i64 x172007_12, .slice Ao60 x172008_12.length co60, .int .u32 ((t168) % 4294967296), .int .u32 ((wrap64 (4 * t169)) % 4294967296), .int .u8 ((t169) % 256)] 31 (0, 0)) (by (with_reducible repeat (first | refine blk_drewN ?_ _ | refine blk_drew ?_ | refine blk_alloc ?_ _)); exact BK171.out) k_ hk)); (case aO => exact (by (with_reducible repeat (first | apply Kd.S_alloc | apply Kd.S_drewN | apply Kd.S_drew)); exact Kd.S_mono HO_3.out (fun k_ hk => ⟨hk.2, fun e_ => hk.1 e_⟩))); (case aS => exact (below_size (by repeat (first | (with_reducible first | exact HB.out | apply below_alloc | apply pw_below_drewN | apply below_drew1 | refine below_set ?_ GE171.out) | exact HB.out)))); (case aL => have := LMc49.out; omega); intro v192 w59 ho hb hg hat; rw [← Ny191.out] at ho; have n0_ := Aside0.mk (blk_grown (g := gb171) (o := .cells #[.int .u8 2, .int .i64 (Int.tmod t170 4), .int .u8 x172002_12, .string x172003_12, .string x172004_12, .int .i64 x172005_12, .int .i64 x172006_12, .int .i64 x172007_12, .slice Ao60 x172008_12.length co60, .int .u32 ((t168) % 4294967296), .int .u32 ((wrap64 (4 * t169)) % 4294967296), .int .u8 ((t169) % 256)] 31 (0, 0)) (by (with_reducible repeat (first | refine blk_drewN ?_ _ | refine blk_drew ?_ | refine blk_alloc ?_ _)); exact BK171.out) hg (Kd.S_away HO_3.out (fun _ hk => hk.2))); have n1_ := Aside0.mk (hb); have n2_ := Aside0.mk (ho); clear BK171; clear HB; clear HO_3; clear HO_172008; have BK171 := n0_; have HB := n1_; have HO193 := n2_; clear n0_ n1_ n2_; clear ho hb hg hat))
                              go_roundg kj30
                              case measure => have := HK1.out; have := HJ3.out; have := HJ12.out; have := HJ30.out; omega
                              case rel => exact ⟨(y191), (wrap64 (x4_1 + 4)), (by first | rfl | (simp; done) | (simp [*]; done)), H', ⟨by have := HK1.out; have := HJ3.out; have := HJ12.out; have := HJ30.out; omega⟩, ⟨by (with_reducible repeat (first | apply Kd.S_alloc | apply Kd.S_drewN | apply Kd.S_drew)); exact Kd.S_mono HO193.out (fun _ hk => trivial)⟩, ⟨by repeat (first | (with_reducible first | exact HB.out | apply below_alloc | apply pw_below_drewN | apply below_drew1 | refine below_set ?_ GE171.out) | exact HB.out)⟩⟩
                            · rw [if_neg c49] at H
                              exact absurd H (by simp)
                · rw [if_neg c23] at H
                  have c23b0 : (t172 == 0) = false := beq_eq_false_iff_ne.mpr c23
                  have c23b1 : (t172 != 0) = true := bne_iff_ne.mpr c23
                  by_cases c61 : x3_1.length < 1172812402961
                  · rw [if_pos c61] at H
                    have LMc61 := Aside0.mk c61
                    clear c61
                    obtain ⟨y194, hy194⟩ : ∃ y_ : List (S31), y_ = (x3_1 ++ [(⟨x172000_12, (Int.tmod t170 4), (⟨x172002_12, x172003_12, x172004_12, x172005_12, x172006_12, x172007_12, x172008_12⟩ : S28), 0, 0, 0⟩ : S31)]) := ⟨_, rfl⟩
                    replace H : (flintref25_Acts.l0 kj12 l0 y194 (wrap64 (x4_1 + 4))) = some r := by first | (rw [hy194]; with_reducible exact H) | (have H2_ := (Option.bind_some _ _).symm.trans H; rw [hy194]; with_reducible exact H2_) | (have H2_ := (Option.bind_some _ _).symm.trans H; with_reducible exact H2_) | with_reducible exact H | (rw [hy194]; exact H) | exact H
                    have Ny194 := Aside0.mk hy194
                    clear hy194
                    have H' := Aside0.mk H
                    clear H
                    have hcz62_0 : wc.cell? ⟨gb171, 0, none⟩ = some (.int .u8 x172000_12) := (blk_cell BK171.out 0).trans rfl
                    have hcz62_1 : wc.cell? ⟨gb171, 1, none⟩ = some (.int .i64 (Int.tmod t170 4)) := (blk_cell BK171.out 1).trans rfl
                    have hcz62_2 : wc.cell? ⟨gb171, 2, none⟩ = some (.int .u8 x172002_12) := (blk_cell BK171.out 2).trans rfl
                    have hcz62_3 : wc.cell? ⟨gb171, 3, none⟩ = some (.string x172003_12) := (blk_cell BK171.out 3).trans rfl
                    have hcz62_4 : wc.cell? ⟨gb171, 4, none⟩ = some (.string x172004_12) := (blk_cell BK171.out 4).trans rfl
                    have hcz62_5 : wc.cell? ⟨gb171, 5, none⟩ = some (.int .i64 x172005_12) := (blk_cell BK171.out 5).trans rfl
                    have hcz62_6 : wc.cell? ⟨gb171, 6, none⟩ = some (.int .i64 x172006_12) := (blk_cell BK171.out 6).trans rfl
                    have hcz62_7 : wc.cell? ⟨gb171, 7, none⟩ = some (.int .i64 x172007_12) := (blk_cell BK171.out 7).trans rfl
                    have hcz62_8 : wc.cell? ⟨gb171, 8, none⟩ = some (u172008) := (blk_cell BK171.out 8).trans rfl
                    have hcz62_9 : wc.cell? ⟨gb171, 9, none⟩ = some (.int .u32 0) := (blk_cell BK171.out 9).trans rfl
                    have hcz62_10 : wc.cell? ⟨gb171, 10, none⟩ = some (.int .u32 0) := (blk_cell BK171.out 10).trans rfl
                    have hcz62_11 : wc.cell? ⟨gb171, 11, none⟩ = some (.int .u8 0) := (blk_cell BK171.out 11).trans rfl
                    have hfz62_0 := blk_frozen BK171.out 0
                    have hfz62_1 := blk_frozen BK171.out 1
                    have hfz62_2 := blk_frozen BK171.out 2
                    have hfz62_3 := blk_frozen BK171.out 3
                    have hfz62_4 := blk_frozen BK171.out 4
                    have hfz62_5 := blk_frozen BK171.out 5
                    have hfz62_6 := blk_frozen BK171.out 6
                    have hfz62_7 := blk_frozen BK171.out 7
                    have hfz62_8 := blk_frozen BK171.out 8
                    have hfz62_9 := blk_frozen BK171.out 9
                    have hfz62_10 := blk_frozen BK171.out 10
                    have hfz62_11 := blk_frozen BK171.out 11
                    obtain ⟨Ao64, co64, eo64⟩ := Kd.R_slice HO_172008.out
                    subst eo64
                    go_wp2_with (first | ((with_reducible refine gate_builtin (b := .append) (xs := #[.tmp 78, .tmp 80]) rfl ?_); (try (refine gate_guard (by rfl) ?_; dsimp only)); at_builtin; refine Kd.S_append k31 (w0 := w) w.heap.size rfl (.tmp 78) (.tmp 80) 24 31 (.agg #[(.int .u8 0), (.int .i64 0), (.int .u8 0), (.string ⟨#[]⟩), (.string ⟨#[]⟩), (.int .i64 0), (.int .i64 0), (.int .i64 0), (.slice none 0 0), (.int .u32 0), (.int .u32 0), (.int .u8 0)]) 120 rfl Tryd.underlying24 info31 rfl (by decide) (by omega) u3 x3_1 (⟨x172000_12, (Int.tmod t170 4), (⟨x172002_12, x172003_12, x172004_12, x172005_12, x172006_12, x172007_12, x172008_12⟩ : S28), 0, 0, 0⟩ : S31) [.int .u8 x172000_12, .int .i64 (Int.tmod t170 4), .int .u8 x172002_12, .string x172003_12, .string x172004_12, .int .i64 x172005_12, .int .i64 x172006_12, .int .i64 x172007_12, .slice Ao64 x172008_12.length co64, .int .u32 0, .int .u32 0, .int .u8 0] (fun k_ => k_ ≠ gb171) (fun k_ => some k_ = (.slice Ao64 x172008_12.length co64 : Value).ownBlock) rfl rfl ?aP (fun k_ hk_ => ((Kd.R_mono (ok' := fun k_ => ((fun k_ => k_ ≠ gb171)) k_ ∧ some k_ ≠ (u3 : Value).ownBlock) (Kd.R_types (Kd.R_apart' (HO_172008.out) (Kd.S_typed HO_3.out) (by decide)) BK171.out (by decide)) (fun k_ hk => ⟨hk.2, hk.1.2⟩))).1 k_ hk_.symm) ?aF ?aO ?aB ?aS ?aL ?_; (case aP => exact k31_mkM _ _ _ (⟨x172000_12, (Int.tmod t170 4), (⟨x172002_12, x172003_12, x172004_12, x172005_12, x172006_12, x172007_12, x172008_12⟩ : S28), 0, 0, 0⟩ : S31) (Kd.R_mono (Kd.R_tight rfl (Kd.R_mono (ok' := fun k_ => ((fun k_ => k_ ≠ gb171)) k_ ∧ some k_ ≠ (u3 : Value).ownBlock) (Kd.R_types (Kd.R_apart' (HO_172008.out) (Kd.S_typed HO_3.out) (by decide)) BK171.out (by decide)) (fun k_ hk => ⟨hk.2, hk.1.2⟩))) (fun _ h_ => h_))); (case aB => exact (by repeat (first | (with_reducible first | exact HB.out | apply below_alloc | apply pw_below_drewN | apply below_drew1 | refine below_set ?_ GE171.out) | exact HB.out))); (case aF => exact (fun k_ hk => Kd.freshB (g := gb171) (o := .cells #[.int .u8 x172000_12, .int .i64 (Int.tmod t170 4), .int .u8 x172002_12, .string x172003_12, .string x172004_12, .int .i64 x172005_12, .int .i64 x172006_12, .int .i64 x172007_12, .slice Ao64 x172008_12.length co64, .int .u32 0, .int .u32 0, .int .u8 0] 31 (0, 0)) (by (with_reducible repeat (first | refine blk_drewN ?_ _ | refine blk_drew ?_ | refine blk_alloc ?_ _)); exact BK171.out) k_ hk)); (case aO => exact (by (with_reducible repeat (first | apply Kd.S_alloc | apply Kd.S_drewN | apply Kd.S_drew)); exact Kd.S_mono HO_3.out (fun k_ hk => ⟨hk.2, fun e_ => hk.1 e_⟩))); (case aS => exact (below_size (by repeat (first | (with_reducible first | exact HB.out | apply below_alloc | apply pw_below_drewN | apply below_drew1 | refine below_set ?_ GE171.out) | exact HB.out)))); (case aL => have := LMc61.out; omega); intro v195 w63 ho hb hg hat; rw [← Ny194.out] at ho; have n0_ := Aside0.mk (blk_grown (g := gb171) (o := .cells #[.int .u8 x172000_12, .int .i64 (Int.tmod t170 4), .int .u8 x172002_12, .string x172003_12, .string x172004_12, .int .i64 x172005_12, .int .i64 x172006_12, .int .i64 x172007_12, .slice Ao64 x172008_12.length co64, .int .u32 0, .int .u32 0, .int .u8 0] 31 (0, 0)) (by (with_reducible repeat (first | refine blk_drewN ?_ _ | refine blk_drew ?_ | refine blk_alloc ?_ _)); exact BK171.out) hg (Kd.S_away HO_3.out (fun _ hk => hk.2))); have n1_ := Aside0.mk (hb); have n2_ := Aside0.mk (ho); clear BK171; clear HB; clear HO_3; clear HO_172008; have BK171 := n0_; have HB := n1_; have HO196 := n2_; clear n0_ n1_ n2_; clear ho hb hg hat))
                    go_roundg kj12
                    case measure => have := HK1.out; have := HJ3.out; have := HJ12.out; omega
                    case rel => exact ⟨(y194), (wrap64 (x4_1 + 4)), (by first | rfl | (simp; done) | (simp [*]; done)), H', ⟨by have := HK1.out; have := HJ3.out; have := HJ12.out; omega⟩, ⟨by (with_reducible repeat (first | apply Kd.S_alloc | apply Kd.S_drewN | apply Kd.S_drew)); exact Kd.S_mono HO196.out (fun _ hk => trivial)⟩, ⟨by repeat (first | (with_reducible first | exact HB.out | apply below_alloc | apply pw_below_drewN | apply below_drew1 | refine below_set ?_ GE171.out) | exact HB.out)⟩⟩
                  · rw [if_neg c61] at H
                    exact absurd H (by simp)
          · replace c7 := Bool.eq_false_iff.mpr c7
            subst c7
            have H1 : (some x3_1) = some r := by rw [if_neg (show ¬ (false = true) by decide)] at H; exact H
            clear H
            have H := H1
            clear H1
            obtain rfl := Option.some.inj H
            go_wp2
            go_ret
            exact ⟨_, by first | rfl | (simp [errW_none, errW_some] <;> rfl) | (simp [*, errW_none, errW_some] <;> rfl), by (with_reducible repeat (first | apply Kd.S_alloc | apply Kd.S_drewN | apply Kd.S_drew)); exact HO_3.out, by repeat (first | (with_reducible first | exact HB.out | apply below_alloc | apply pw_below_drewN | apply below_drew1) | exact HB.out)⟩

end Go.Proofs.YtdpnhjhbdobhjaaDoor.G
