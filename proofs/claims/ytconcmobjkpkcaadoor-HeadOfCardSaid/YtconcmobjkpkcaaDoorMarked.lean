/- append onto '[]byte(s)': the row that a conversion made bears a mark behind its cells; what is appended goes into its room, or a new row is made. -/
import Derived.Test.YtconcmobjkpkcaaDoorKit
import Derived.Laws.IdiomCopy
import Derived.Laws.Append
import Derived.Laws.AppendOwn
import Derived.Lib.ConvBytes
namespace Go.Proofs.YtconcmobjkpkcaaDoor.Marked
open Go Go.RowKit Go.Proofs.YtconcmobjkpkcaaDoorW.PrintWords Go.Proofs.YtconcmobjkpkcaaDoorW.PrintLast Go.Proofs.YtconcmobjkpkcaaDoorW.PrintMore Go.Proofs.YtconcmobjkpkcaaDoor.Kit
set_option linter.unusedVariables false
theorem grown_setCells (g : Nat) : ∀ (vs : List Value) (i : Nat) (W : World), W.grownBy (W.setCells g i vs) (some g)
  | [], _, W => ⟨rfl, rfl, rfl, Nat.le_refl _, fun _ _ _ => rfl⟩
  | v :: r, i, W => by
    have h2 := grown_setCells g r (i + 1) (W.setCell ⟨g, i, none⟩ v)
    have h1 : W.grownBy (W.setCell ⟨g, i, none⟩ v) (some g) := ⟨rfl, rfl, rfl, by simp [World.setCell], fun j _ hne => Below.heap_setCell W ⟨g, i, none⟩ v j (fun e => hne (by rw [e]))⟩
    rw [World.setCells]
    exact ⟨h2.os.trans h1.os, h2.tape.trans h1.tape, h2.output.trans h1.output, Nat.le_trans h1.size h2.size, fun j hj hne => (h2.block j (Nat.lt_of_lt_of_le hj h1.size) hne).trans (h1.block j hj hne)⟩
/-- A row as a conversion leaves it. -/
structure IsMarked (W : World) (e g n : Nat) (cur : Array Value) (xs : List Int) : Prop where
  blk : W.heap[g]? = some (.cells cur e (cur.size, cur.size + 1))
  len : xs.length = n
  le : n ≤ cur.size
  cells : cur.toList.take n = encs (Value.int .u8) xs
theorem IsMarked.cell {W : World} {e g n : Nat} {cur : Array Value} {xs : List Int} (h : IsMarked W e g n cur xs) (j : Nat) (hj : j < n) : W.cell? ⟨g, j, none⟩ = some (.int .u8 (xs.getD j 0)) := by
  rw [cell_of_row W g j cur e _ h.blk, ← Array.getElem?_toList]
  have h1 : (cur.toList.take n)[j]? = cur.toList[j]? := by rw [List.getElem?_take, if_pos hj]
  have hl := h.len
  rw [← h1, h.cells]
  simp [encs, show j < xs.length by omega]
theorem IsMarked.C {W : World} {e g n : Nat} {cur : Array Value} {xs : List Int} (h : IsMarked W e g n cur xs) (hm : n ≤ 9223372036854775807) : (Kd.int .u8).C W (some ⟨g, 0, none⟩) n xs :=
  C_cells h.blk h.len h.cells hm
theorem IsMarked.below {W W2 : World} {e g n : Nat} {cur : Array Value} {xs : List Int} (h : IsMarked W e g n cur xs) (hb : Below W.heap.size W W2) : IsMarked W2 e g n cur xs :=
  ⟨blk_below h.blk hb, h.len, h.le, h.cells⟩
/-- '[]byte(s)'. -/
theorem bytes_marked (W : World) (e : TypeId) (s : ByteArray) : IsMarked (Lib.bytesWorld W e s) e W.heap.size s.size (Lib.bytesCells W e s) (bytesOf s) := by
  have hsz : (s.data.map fun b => Value.int .u8 b.toNat).size = s.size := by simp
  refine ⟨Lib.bytesWorld_at_new W e s, bytesOf_length s, ?_, ?_⟩
  · unfold Lib.bytesCells
    rw [Array.size_append, hsz]; omega
  · unfold Lib.bytesCells
    rw [Array.toList_append, List.take_append_of_le_length (by rw [Array.length_toList, hsz]; exact Nat.le_refl _), List.take_of_length_le (by rw [Array.length_toList, hsz]; exact Nat.le_refl _)]
    simp [encs, bytesOf]
theorem bytes_cap (W : World) (e : TypeId) (s : ByteArray) : (Lib.bytesCells W e s).size = grownCap W s.size 0 e := by
  have hsz : (s.data.map fun b => Value.int .u8 b.toNat).size = s.size := by simp
  have hge := grownCap_ge W s.size 0 e
  unfold Lib.bytesCells
  rw [Array.size_append, hsz, Array.size_replicate]; omega
section
variable {P : Program} {ops : Array Oper} {rest : List Oper} {o : Oper} {a : Act} {Q : Exit → Act → World → Prop} {W w0 : World}
theorem append_marked (base : Nat) (hgd : o.guard = none) (s x : Operand) (t e : TypeId) (ho : o.op = .call { callee := .builtin .append, args := #[s, x], argTypes := #[t, t] })
    (ht : P.underlying t = some (.slice e)) (hinfo : (P.info? e).map (fun i => (i.zero, i.size, i.bytes)) = some (some (.int .u8 0), 1, 1))
    {g n c : Nat} {cur : Array Value} {xs ys : List Int} {B : Option Addr} {m c2 : Nat} (hs : a.eval s = .slice (some ⟨g, 0, none⟩) n c) (hc : cur.size = c) (hx : a.eval x = .slice B m c2)
    (HM : IsMarked W e g n cur xs) (HC : (Kd.int .u8).C W B m ys) (hb : n + m ≤ 140737488355328) (HB : Below base w0 W) (hbase : base ≤ W.heap.size) (hbg : base ≤ g)
    (h : ∀ (A1 : Option Addr) (c1 : Nat) (w1 : World), (xs ++ ys).length ≤ c1 → (Kd.int .u8).C w1 A1 (xs ++ ys).length (xs ++ ys) → Below base w0 w1 → (∀ k, k < W.heap.size → k ≠ g → w1.heap[k]? = W.heap[k]?) → wpList P ops Q rest (a.put o.dst (.slice A1 (xs ++ ys).length c1)) w1) : wpList P ops Q (o :: rest) a W := by
  subst hc
  obtain ⟨i0, hi, hzz⟩ := Option.map_eq_some_iff.1 hinfo
  simp only [Prod.mk.injEq] at hzz
  obtain ⟨hz0, hz1, hz2⟩ := hzz
  have hm : ys.length = m := Kd.C_len HC
  have HC' := Kd.reads_of_C (d := (0 : Int)) HC
  have hxl := HM.len
  have hle := HM.le
  have hlen : (xs ++ ys).length = n + m := by rw [List.length_append]; omega
  have hnewl : (encs (Value.int .u8) ys).length = m := by simp [encs, hm]
  have hnew1 : ∀ v ∈ encs (Value.int .u8) ys, v.oneCell' = true := fun v hv => by
    simp only [encs, List.mem_map] at hv
    obtain ⟨y, _, rfl⟩ := hv; rfl
  have hfirst : (Builtin.firstCells 1 m (.slice B m c2)).run P W = .ok (encs (Value.int .u8) ys).toArray W := by
    by_cases h0 : m = 0
    · have hy : ys = [] := List.length_eq_zero_iff.mp (by omega)
      subst hy
      cases B with
      | none => subst h0; exact run_firstCells_none (P := P) W 1 0 0 c2
      | some ad => exact run_firstCells_some (P := P) W 1 m ad m c2 _ (by simp [encs, h0]) (fun j v hj => by simp [encs] at hj)
    · obtain ⟨ad, rfl, hcell⟩ := HC'.2.2 (by omega)
      refine run_firstCells_some (P := P) W 1 m ad m c2 _ (by simp [encs, hm]) (fun j v hj => ?_)
      have hjl : j < ys.length := by have := (List.getElem?_eq_some_iff.1 hj).1; simpa [encs] using this
      rw [hcell j (by omega), ← hj]
      simp [encs, hjl]
  refine wpList_plain hgd fun K hK => ?_
  by_cases hroom : n + m ≤ cur.size
  · have hcell : ∀ j, j < (encs (Value.int .u8) ys).length → (W.cell? ⟨g, n + 0 + j, none⟩).isSome = true := fun j hj => by
      rw [cell_of_row W g _ cur e _ HM.blk, Array.getElem?_eq_getElem (by rw [hnewl] at hj; omega)]; rfl
    have hfr : ∀ j, j < (encs (Value.int .u8) ys).length → W.frozen? ⟨g, n + 0 + j, none⟩ = false := fun j hj => by
      unfold World.frozen?
      simp only [HM.blk]
      rw [hnewl] at hj
      simp; omega
    have hst := run_storeCells_cells (P := P) g n (encs (Value.int .u8) ys) 0 W hcell hfr hnew1
    rw [Nat.add_zero] at hst
    have hadd : (⟨g, 0, none⟩ : Addr).add n = ⟨g, n, none⟩ := by unfold Addr.add; split <;> simp_all
    have hrun : ∀ ty, (Builtin.append_ #[t, t] ty #[.slice (some ⟨g, 0, none⟩) n cur.size, .slice B m c2]).run P W = .ok (.slice (some ⟨g, 0, none⟩) (n + m) cur.size) (W.setCells g n (encs (Value.int .u8) ys)) := fun ty => by
      simp [Builtin.append_, run_underlying ht, sizeOf, typeInfo, hi, hz1, Builtin.lenOf, hroom, hfirst, Nat.mul_one, hadd, hst]
    have hG := grown_setCells g (encs (Value.int .u8) ys) n W
    have hfin := h (some ⟨g, 0, none⟩) cur.size (W.setCells g n (encs (Value.int .u8) ys)) (by omega) ?_ (HB.grown hG hbase (fun q hq => by injection hq with hq; subst hq; exact hbg)) (fun k hk hne => hG.block k hk (fun e => hne (by injection e)))
    · rw [hlen] at hfin
      unfold Oper.wp
      simp [execOp, ho, resolve, invoke, builtin, hs, hx, hrun, Result.andThen]
      exact hK _ _ hfin
    · refine Kd.C_of_reads (d := (0 : Int)) (h1 := fun _ => rfl) ⟨rfl, by omega, fun _ => ⟨_, rfl, fun j hj => ?_⟩⟩
      have ha : (⟨g, 0, none⟩ : Addr).add j = ⟨g, j, none⟩ := by unfold Addr.add; split <;> simp_all
      rw [ha]
      by_cases hjn : j < n
      · rw [World.cell?_setCells_out g _ n W _ (fun _ _ => .inl hjn), HM.cell j hjn]
        simp [List.getElem?_append, show j < xs.length by omega]
      · obtain ⟨q, rfl⟩ : ∃ q, j = n + q := ⟨j - n, by omega⟩
        have hq : q < ys.length := by omega
        rw [World.cell?_setCells_in g _ n W (fun j hj => by simpa using hcell j hj) q (by simpa [encs] using hq)]
        simp [encs, List.getElem?_append, show ¬ (n + q < xs.length) by omega, show n + q - xs.length = q by omega, hq]
  · have h0 : 0 < m := by omega
    obtain ⟨ad, rfl, hcell⟩ := HC'.2.2 h0
    have hr := fun ty => run_append_grow (P := P) W t ty e i0 (.int .u8 0) ht hi hz0 ⟨g, 0, none⟩ n cur.size (encs (Value.int .u8) xs) (by simp [encs, hz1, hxl]) (fun j v hj => by
        have hjl : j < xs.length := by have := (List.getElem?_eq_some_iff.1 hj).1; simpa [encs] using this
        have ha : (⟨g, 0, none⟩ : Addr).add j = ⟨g, j, none⟩ := by unfold Addr.add; split <;> simp_all
        rw [ha, HM.cell j (by omega), ← hj]
        simp [encs, hjl]) ad m c2 (encs (Value.int .u8) ys) (by simp [encs, hz1, hm]) (fun j v hj => by
        have hjl : j < ys.length := by have := (List.getElem?_eq_some_iff.1 hj).1; simpa [encs] using this
        rw [hcell j (by omega), ← hj]
        simp [encs, hjl]) (by omega) (by omega) (by rw [hz2]; exact growslice_fits (by omega) (by omega))
    have hge := grownCap_ge W (n + m) cur.size e
    have hB2 : Below base w0 (W.drew.alloc (.cells ((encs (Value.int .u8) xs).toArray ++ (encs (Value.int .u8) ys).toArray ++ Builtin.zeroCells (Value.int .u8 0).cells (grownCap W (n + m) cur.size e - (n + m))) e)) := (below_drew HB).alloc (by exact hbase) _
    have hfin := h (some ⟨W.heap.size, 0, none⟩) (grownCap W (n + m) cur.size e) _ (by omega) (C_cells (heap_alloc_new W.drew _) rfl ?_ (by omega)) hB2 (fun k hk _ => heap_alloc_old W.drew _ hk)
    · rw [hlen] at hfin
      unfold Oper.wp
      simp only [execOp, ho, resolve, invoke, builtin, Sem.run_bind, Sem.run_pure, Result.andThen_ok, List.map_toArray, List.map_cons, List.map_nil, hs, hx, hr]
      exact hK _ _ hfin
    · rw [Array.toList_append, List.take_append_of_le_length (by simp [encs])]
      rw [List.take_of_length_le (by simp [encs])]
      simp [encs]
end
end Go.Proofs.YtconcmobjkpkcaaDoor.Marked
