-- Written by wip/gen.py: the kit's print.py, with this session's own texts where it takes a function not. Not trusted: Lean checks it.
import Derived.Test.YtconcmobjkpkcaaG0
namespace Go.Proofs.Ytconcmobjkpkcaa.G
open Go.RowKit Go.Proofs.YtconcmobjkpkcaaW.PrintWords Go.Proofs.YtconcmobjkpkcaaW.PrintLast Go.Proofs.YtconcmobjkpkcaaW.PrintMore
attribute [local go_sem] max2_int min2_int max_two min_two max_three min_three max_four min_four   -- for this text's walks alone
set_option linter.unusedVariables false
set_option linter.unusedSimpArgs false

/-! ### bytes_Clone: function 33 -/
def bytes_Clone.f (l0 : List Int) : Option (List Int) := if l0.length < 140737488355328 then some l0 else none
set_option maxHeartbeats 1000000 in
set_option maxRecDepth 100000 in
theorem bytes_Clone.calls (A0 : Option Addr) (c0 : Nat) (l0 : List Int) (r : List Int) (w : World) (hr0 : Kd.C (Kd.int .u8) w A0 l0.length l0) (hc0 : l0.length ≤ c0) (h : bytes_Clone.f l0 = some r) :
    Calls Try.prog 33 #[.slice A0 l0.length c0] w fun e w' => ∃ v0_ : Value, e = .returned (v0_) ∧ Kd.R (Kd.int .u8) 5 w' w.heap.size (fun _ => True) v0_ r ∧ Below w.heap.size w w' := by
  unfold bytes_Clone.f at h
  by_cases hl : l0.length < 140737488355328
  · rw [if_pos hl] at h
    obtain rfl := Option.some.inj h
    clear h
    have HL := Aside0.mk hl
    clear hl
    have hq := fun (w : World) => Lib.run_eql_slice_nil (P := Try.prog) w 22 5 A0 l0.length c0 0 0 Try.underlying22
    cases A0 with
    | none =>
      have hz : l0 = [] := by
        refine List.length_eq_zero_iff.mp ?_
        by_cases h0 : 0 < l0.length
        · obtain ⟨ad, e, _⟩ := hr0.2.2 h0
          cases e
        · omega
      subst hz
      clear hr0 hq
      have hq : ∀ W : World, (binOp .eql 22 (.slice none 0 c0) (.slice none 0 0)).run Try.prog W = .ok (.bool true) W := fun W => Lib.run_eql_slice_nil (P := Try.prog) W 22 5 none 0 c0 0 0 Try.underlying22
      go_enter Try.func33, Try.ntmps33
      go_wp2_with fail
      go_ret
      exact ⟨_, rfl, Kd.R_nil _ _ _ _ _, Below.refl _ _⟩
    | some ad =>
      have HR := Aside0.mk hr0
      clear hr0
      obtain ⟨y1, hy1⟩ : ∃ y_ : List Int, y_ = [] := ⟨_, rfl⟩
      have HB := Aside0.mk (Below.refl w.heap.size w)
      have N1 := Aside0.mk hy1
      clear hy1
      go_enter Try.func33, Try.ntmps33
      go_wp2_with (first | ((with_reducible refine gate_dst (N := 5) rfl ?_); refine Kd.R_lit (Kd.int .u8) _ 5 ?hg (N := 5) ?hd (xs := ([] : List Int)) (inner := []) (ok := fun _ => True) (okp := fun _ => True) ?hr ?hp (fun _ hk => hk) trivial (Below.refl _ _) (Nat.le_refl _) (by simp) ?_; (case hd => rfl); (case hg => rfl); (case hr => first | (go_simp; done) | (go_simp; rfl)); (case hp => exact (Reps.none _ _)); intro v2 w3 ho3 hb hg_ hnew_; clear hg_ hnew_; rw [← N1.out] at ho3; have n1_ := Aside0.mk (below_step HB.out hb); have n0_ := Aside0.mk (Kd.R_lower ho3 (below_size HB.out)); clear HB; have HO := n0_; have HB := n1_; clear n0_ n1_; clear hb ho3) | ((with_reducible refine gate_builtin (b := .append) (xs := #[.tmp 5, .tmp 6]) rfl ?_); at_builtin; refine Kd.R_append_rows (Kd.int .u8) (w0 := w) w.heap.size rfl (.tmp 5) (.tmp 6) 22 5 (.int .u8 0) 1 rfl Try.underlying22 info5 rfl (by decide) (by omega) v2 y1 l0 _ _ _ (fun _ => True) (fun _ => False) rfl rfl ?aO ?aR (fun _ _ h => h) (fun _ h => h.elim) ?aF ?aB ?aS ?aL ?_; (case aR => exact Kd.C_below HR.out HB.out); (case aB => exact HB.out); (case aF => exact (fun _ _ => trivial)); (case aO => exact HO.out); (case aS => exact (below_size HB.out)); (case aL => have := HL.out; rw [N1.out]; simp; omega); intro v4 w4 ho hb hg hat; have HB2 := Aside0.mk hb; have HO2 := Aside0.mk ho; clear ho hb hg hat))
      go_ret
      exact ⟨_, rfl, by have := HO2.out; rw [N1.out, List.nil_append] at this; exact this, HB2.out⟩
  · rw [if_neg hl] at h; cases h

end Go.Proofs.Ytconcmobjkpkcaa.G
