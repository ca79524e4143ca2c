/- An array of numbers as a variable in memory: its cells are known whole; copies into it, and what is read of it. -/
import Derived.Test.YtconcmobjkpkcaaDoorKit
namespace Go.Proofs.YtconcmobjkpkcaaDoor.Arr
open Go Go.RowKit Go.Proofs.YtconcmobjkpkcaaDoorW.PrintWords Go.Proofs.YtconcmobjkpkcaaDoorW.PrintLast Go.Proofs.YtconcmobjkpkcaaDoorW.PrintMore Go.Proofs.YtconcmobjkpkcaaDoor.Kit
set_option linter.unusedVariables false
variable {P : Program} {ops : Array Oper} {rest : List Oper} {o : Oper} {a : Act} {Q : Exit → Act → World → Prop} {W w0 : World}

/-- The block of an array. -/
def IsArr (k : IntKind) (w : World) (g : Nat) (T : TypeId) (xs : List Int) : Prop := w.heap[g]? = some (.cells (encs (Value.int k) xs).toArray T (0, 0))
theorem IsArr.grown {k : IntKind} {w w1 : World} {g T : Nat} {xs : List Int} {row : Option Nat} (h : IsArr k w g T xs) (hg : w.grownBy w1 row) (hne : some g ≠ row) : IsArr k w1 g T xs := blk_grown h hg hne
theorem IsArr.below {k : IntKind} {w w1 : World} {g T : Nat} {xs : List Int} (h : IsArr k w g T xs) (hb : Below w.heap.size w w1) : IsArr k w1 g T xs := (hb.block g (blk_lt h)).trans h
theorem IsArr.cell {k : IntKind} {w : World} {g T : Nat} {xs : List Int} (h : IsArr k w g T xs) (j : Nat) (hj : j < xs.length) : w.cell? ⟨g, j, none⟩ = some (.int k (xs.getD j 0)) := by
  rw [blk_cell h]
  simp [encs, hj]
theorem IsArr.frozen {k : IntKind} {w : World} {g T : Nat} {xs : List Int} (h : IsArr k w g T xs) (j : Nat) : w.frozen? ⟨g, j, none⟩ = false := blk_frozen h j
theorem IsArr.reads {k : IntKind} {w : World} {g T n : Nat} {xs : List Int} (h : IsArr k w g T xs) (hn : n ≤ xs.length) (hm : n ≤ 9223372036854775807) : (Kd.int k).C w (some ⟨g, 0, none⟩) n (xs.take n) :=
  C_cells h (by simp; omega) (by simp [encs]) hm
theorem IsArr.put {k : IntKind} {w : World} {g T : Nat} {xs : List Int} (h : IsArr k w g T xs) (j : Nat) (x : Int) : IsArr k (w.setCell ⟨g, j, none⟩ (.int k x)) g T (xs.set j x) := by
  refine blk_put h j _ ?_
  simp [encs, List.map_set]
theorem IsArr.far {k : IntKind} {w : World} {g T : Nat} {xs : List Int} (h : IsArr k w g T xs) {p : Addr} (hp : g ≠ p.block) (u : Value) : IsArr k (w.setCell p u) g T xs := blk_far h hp u

/-- A whole struct or array is stored into its variable: behind it the world is a letter. -/
theorem row_event (hgd : o.guard = none) (ty : TypeId) (x y : Operand) (ho : o.op = .store ty x y)
    (g : Nat) (cells : Array Value) (hx : a.eval x = .pointer (some ⟨g, 0, none⟩)) (hy : a.eval y = .agg cells)
    (t : TypeId) (old : Array Value) (hg : W.heap[g]? = some (.cells old t (0, 0))) (hi : (P.info? ty).map (·.size) = some cells.size)
    (hold : old.size = cells.size) (h1 : cells.all (·.oneCell') = true)
    (h : ∀ w1, w1.heap[g]? = some (.cells cells t (0, 0)) → W.grownBy w1 (some g) → wpList P ops Q rest (a.put o.dst undef) w1) : wpList P ops Q (o :: rest) a W :=
  wpList_store_row hgd ty x y ho g cells hx hy t old hg hi hold h1 (h _ (setRow_heap W g _ cells t (0, 0) hg) (grown_setRow _))
/-- 'copy(l[:], x)': into an array. -/
theorem A_copy (k : IntKind) (hgd : o.guard = none) (s x : Operand) (t t2 e T : TypeId) (ho : o.op = .call { callee := .builtin .copy, args := #[s, x], argTypes := #[t, t2] })
    (ht : P.underlying t = some (.slice e)) (hinfo : (P.info? e).map (·.size) = some 1) {B : Option Addr} {g n c m c2 : Nat} {xs ys : List Int}
    (hs : a.eval s = .slice (some ⟨g, 0, none⟩) n c) (hx : a.eval x = .slice B m c2) (hg : IsArr k W g T xs) (hn : xs.length = n) (HC : (Kd.int k).C W B m ys)
    (h : ∀ (z : Int) (w1 : World), IsArr k w1 g T (cpy xs ys) → W.grownBy w1 (some g) → wpList P ops Q rest (a.put o.dst (goInt z)) w1) : wpList P ops Q (o :: rest) a W := by
  have hm : ys.length = m := Kd.C_len HC
  have HC' := Kd.reads_of_C (d := (0 : Int)) HC
  by_cases h0 : Nat.min m n = 0
  · refine wpList_copy_nothing hgd s x t t2 ho e ht hinfo _ B n c m c2 hs hx h0 (h 0 W ?_ ⟨rfl, rfl, rfl, Nat.le_refl _, fun _ _ _ => rfl⟩)
    have e1 : cpy xs ys = xs := by
      unfold cpy
      rcases Nat.min_eq_zero_iff.mp h0 with h1 | h1
      · have : ys = [] := List.length_eq_zero_iff.mp (by omega)
        subst this; simp
      · have : xs = [] := List.length_eq_zero_iff.mp (by omega)
        subst this; simp
    rw [e1]; exact hg
  · have hpos : 0 < m ∧ 0 < n := by
      refine ⟨Nat.pos_of_ne_zero fun e => h0 (by rw [e]; exact Nat.zero_min _), Nat.pos_of_ne_zero fun e => h0 (by rw [e]; exact Nat.min_zero _)⟩
    obtain ⟨ad, rfl, hcell⟩ := HC'.2.2 hpos.1
    refine wpList_copy_own hgd s x t t2 ho e ht hinfo g 0 n c ad m c2 hs hx _ T hg (encs (Value.int k) (ys.take n)) (by simp [encs, hm, Nat.min_comm]) ?_ (by simp [encs]; omega) ?_ ?_
    · intro j v hj
      have hjl : j < (encs (Value.int k) (ys.take n)).length := (List.getElem?_eq_some_iff.1 hj).1
      have hjl2 : j < n ∧ j < ys.length := by simp [encs] at hjl; omega
      rw [hcell j (by omega)]
      have hg : (encs (Value.int k) (ys.take n))[j]? = some (Value.int k (ys.getD j 0)) := by
        simp [encs, hjl2.1, List.getElem?_eq_getElem hjl2.2]
      rw [hg] at hj; exact hj
    · intro v hv
      simp only [encs, List.mem_map] at hv
      obtain ⟨y, _, rfl⟩ := hv; rfl
    · refine h _ _ ?_ (grown_setRow _)
      unfold IsArr
      rw [setRow_heap W g _ _ T (0, 0) hg]
      congr 3
      have e2 : cpy xs ys = ys.take n ++ xs.drop (min n ys.length) := by
        unfold cpy
        rw [hn]
        rcases Nat.le_total ys.length n with h1 | h1
        · rw [Nat.min_eq_right h1]
        · rw [Nat.min_eq_left h1, List.drop_of_length_le (by omega), List.drop_of_length_le (by omega)]
      rw [e2]
      simp [encs]
end Go.Proofs.YtconcmobjkpkcaaDoor.Arr
