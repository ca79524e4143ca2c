/- A row of bytes of the call's own whose block is known by name. -/
import Derived.Test.YtconcmobjkpkcaaDoorKit
import Derived.Test.YtconcmobjkpkcaaDoorProg
import Derived.ChangeKeysEq
import Derived.Laws.Slices
import Derived.KernelRfl
namespace Go.Proofs.YtconcmobjkpkcaaDoor.RowAt
open Go Go.RowKit Go.Proofs.YtconcmobjkpkcaaDoorW.PrintWords Go.Proofs.YtconcmobjkpkcaaDoorW.PrintLast Go.Proofs.YtconcmobjkpkcaaDoorW.PrintMore Go.Proofs.YtconcmobjkpkcaaDoor.Kit
set_option linter.unusedVariables false
def Row (e : TypeId) (W : World) (base g L c : Nat) (xs : List Int) : Prop := (Kd.int .u8).R e W base (fun _ => True) (.slice (some ⟨g, 0, none⟩) L c) xs
variable {e : TypeId} {W W1 : World} {base g L c : Nat} {xs : List Int}
theorem of_R {base' : Nat} {ok : Nat → Prop} {v : Value} (h : (Kd.int .u8).R e W base' ok v xs) (hp : 0 < xs.length) (hb : base ≤ base') : ∃ g c, v = .slice (some ⟨g, 0, none⟩) xs.length c ∧ Row e W base g xs.length c xs ∧ base' ≤ g ∧ g < W.heap.size := by
  have hown := Kd.own_of_R h
  rcases hown.2 with ⟨hv, hz⟩ | ⟨g, cap, cur, hv, hb', hh, hnc, hcm, hcs, htake⟩
  · omega
  · subst hv
    exact ⟨g, cap, rfl, Kd.R_mono (Kd.R_lower h hb) (fun _ _ => trivial), hb', (Array.getElem?_eq_some_iff.1 hh).1⟩
theorem Row.below (h : Row e W base g L c xs) (hb : Below W.heap.size W W1) : Row e W1 base g L c xs := Kd.R_below h hb
theorem Row.grown {g' : Nat} (h : Row e W base g L c xs) (hg : W.grownBy W1 (some g')) (hne : g ≠ g') : Row e W1 base g L c xs :=
  Kd.R_grown1 h rfl hg (fun e => hne (by simpa [Value.ownBlock] using e.symm))
theorem Row.len (h : Row e W base g L c xs) : L = xs.length := (Kd.R_reads' h).1
theorem Row.le (h : Row e W base g L c xs) : L ≤ c := (Kd.R_reads' h).2.1
theorem Row.C (h : Row e W base g L c xs) : (Kd.int .u8).C W (some ⟨g, 0, none⟩) L xs := by
  have := (Kd.R_reads' h).2.2
  rw [← h.len] at this
  exact this
theorem Row.cell (h : Row e W base g L c xs) (j : Nat) (hj : j < L) : W.cell? ⟨g, j, none⟩ = some (.int .u8 (xs.getD j 0)) := by
  obtain ⟨ad, he, hc⟩ := (Kd.reads_of_C (d := (0 : Int)) h.C).2.2 (by omega)
  injection he with he
  subst he
  have ha : (⟨g, 0, none⟩ : Addr).add j = ⟨g, j, none⟩ := by unfold Addr.add; split <;> simp_all
  rw [← ha]; exact hc j hj
theorem Row.blk (h : Row e W base g L c xs) (hp : 0 < L) : ∃ cur : Array Value, W.heap[g]? = some (.cells cur e (0, 0)) ∧ base ≤ g ∧ g < W.heap.size := by
  have hl := h.len
  have hown := Kd.own_of_R h
  rcases hown.2 with ⟨hv, hz⟩ | ⟨g', cap, cur, hv, hb', hh, hnc, hcm, hcs, htake⟩
  · omega
  · injection hv with h1 h2 h3
    injection h1 with h1
    injection h1 with h1
    subst h1
    exact ⟨cur, hh, hb', (Array.getElem?_eq_some_iff.1 hh).1⟩
theorem Row.frozen (h : Row e W base g L c xs) (hp : 0 < L) (j : Nat) : W.frozen? ⟨g, j, none⟩ = false := by
  obtain ⟨cur, hh, _⟩ := h.blk hp
  exact blk_frozen hh j
theorem Row.put (h : Row e W base g L c xs) (j : Nat) (x : Int) : Row e (W.setCell ⟨g, j, none⟩ (.int .u8 x)) base g L c (xs.set j x) ∧ W.grownBy (W.setCell ⟨g, j, none⟩ (.int .u8 x)) (some g) := by
  have h1 := Kd.R_putg (h1 := fun _ => rfl) (enc := Value.int .u8) h (j : Int) x
  rw [Int.toNat_natCast] at h1
  exact h1
theorem Row.C' (h : Row e W base g L c xs) : (Kd.int .u8).C W (some ⟨g, 0, none⟩) xs.length xs := (Kd.R_reads' h).2.2
theorem Row.le' (h : Row e W base g L c xs) : xs.length ≤ c := by rw [← h.len]; exact h.le
theorem Row.take (h : Row e W base g L c xs) (m : Nat) (hm : m ≤ L) : (Kd.int .u8).C W (some ⟨g, 0, none⟩) m (xs.take m) := by
  have hl := h.len
  have := Kd.C_take h.C' (show m ≤ xs.length by omega)
  have e : (xs.take m).length = m := by rw [List.length_take]; omega
  rw [e] at this
  exact this
theorem setL_snoc : ∀ (vs : List Int) (xs : List Int) (i : Nat) (v : Int), setL xs i (vs ++ [v]) = (setL xs i vs).set (i + vs.length) v
  | [], xs, i, v => by simp [setL]
  | u :: r, xs, i, v => by
    rw [List.cons_append, setL, setL, setL_snoc r, List.length_cons]
    congr 1; omega
theorem setL_succ (xs : List Int) (m : Nat) (v : Int) : setL xs 0 (List.replicate (m + 1) v) = (setL xs 0 (List.replicate m v)).set m v := by
  rw [List.replicate_succ', setL_snoc, List.length_replicate, Nat.zero_add]
/-- 's[:n]' of a row. -/
theorem slice_n (g L c n : Nat) (hn : n ≤ c) (W : World) : (Instr.slice 24 (.slice (some ⟨g, 0, none⟩) L c) none (some (.int .i64 n)) none).run Tryd.prog W = .ok (.slice (some ⟨g, 0, none⟩) n c) W := by
  have he : Tryd.prog.elem 24 = 5 := by kernel_rfl
  have hc : Tryd.prog.cellsOf 5 = 1 := by kernel_rfl
  obtain ⟨i, hi⟩ := info_of_underlying Tryd.underlying5
  have h := run_slice_h (P := Tryd.prog) W 24 (some ⟨g, 0, none⟩) L c (by rw [he]; exact Tryd.underlying24) .i64 (n : Int) (by omega) (by omega)
  rw [h, he, run_sizeOf W hi, hc, Result.andThen_ok]
  have ha : (⟨g, 0, none⟩ : Addr).add 0 = ⟨g, 0, none⟩ := by unfold Addr.add; split <;> simp_all
  simp [sliced, ha]
theorem slice_h (g n : Nat) (hn : n ≤ 8) (W : World) : (Instr.sliceAt 31 (.pointer (some ⟨g, 0, none⟩)) none (some (.int .i64 n)) none).run Tryd.prog W = .ok (.slice (some ⟨g, 0, none⟩) n 8) W := by
  have hl : Tryd.prog.arrayLen 31 = 8 := by kernel_rfl
  have he : Tryd.prog.elem 31 = 5 := by kernel_rfl
  have hc : Tryd.prog.cellsOf 5 = 1 := by kernel_rfl
  obtain ⟨i, hi⟩ := info_of_underlying Tryd.underlying5
  have h := run_sliceAt_array_h (P := Tryd.prog) W 31 ⟨g, 0, none⟩ (by rw [hl, he]; exact Tryd.underlying31) .i64 (n : Int) (by omega) (by rw [hl]; omega)
  rw [h, he, run_sizeOf W hi, hc, hl, Result.andThen_ok]
  have ha : (⟨g, 0, none⟩ : Addr).add 0 = ⟨g, 0, none⟩ := by unfold Addr.add; split <;> simp_all
  simp [slicedAt, ha]
end Go.Proofs.YtconcmobjkpkcaaDoor.RowAt
