/- Laws of this session's own beside the kit's printed words: rows that a constant lays, copies into a row of the call's own, a row that is cleared, a row held against nil. -/
import Derived.Test.YtconcmobjkpkcaaDoorWWords
import Derived.Test.YtconcmobjkpkcaaDoorWMore
import Derived.Lib.SlBytesConst
import Derived.Lib.SliceRun
import Derived.Laws.CopyOwn
import Derived.WalkMore
import Derived.ScopeJumps
import Derived.WalkSpells
import Derived.LoopN
namespace Go.Proofs.YtconcmobjkpkcaaDoor.Kit
open Go Go.RowKit Go.Proofs.YtconcmobjkpkcaaDoorW.PrintWords Go.Proofs.YtconcmobjkpkcaaDoorW.PrintLast Go.Proofs.YtconcmobjkpkcaaDoorW.PrintMore
set_option linter.unusedVariables false

def numOf : Value → Int | .int _ n => n | _ => 0
/-- A block that is known whole is read as a row. -/
theorem C_blk {w : World} {g : Nat} {e : TypeId} {C : Array Value} {fr : Nat × Nat} {k : IntKind} {l : List Int} (hb : w.heap[g]? = some (.cells C e fr)) (hc : C = (l.map (Value.int k)).toArray) (hl : l.length ≤ 9223372036854775807) :
    Kd.C (Kd.int k) w (some ⟨g, 0, none⟩) l.length l := by
  refine ⟨rfl, hl, fun _ => ⟨_, rfl, fun j p hj => ⟨[.int k p], rfl, rfl, fun i u hu => ?_⟩⟩⟩
  have hi : i = 0 ∧ u = .int k p := by
    cases i with
    | zero => simpa using hu.symm
    | succ i => simp at hu
  obtain ⟨rfl, rfl⟩ := hi
  have ha : (⟨g, 0, none⟩ : Addr).add (j * (Kd.int k).sz + 0) = ⟨g, j, none⟩ := by
    have : (Kd.int k).sz = 1 := rfl
    rw [this]; unfold Addr.add; simp; exact fun h => h.symm
  rw [ha, cell_of_row w g j C e fr hb, hc]
  simp [hj]

/-- The first cells of a block are read as a row. -/
theorem C_cells {w : World} {g n : Nat} {e : TypeId} {C : Array Value} {fr : Nat × Nat} {k : IntKind} {l : List Int} (hb : w.heap[g]? = some (.cells C e fr)) (hn : l.length = n) (hc : C.toList.take n = encs (Value.int k) l) (hl : n ≤ 9223372036854775807) :
    Kd.C (Kd.int k) w (some ⟨g, 0, none⟩) n l := by
  refine ⟨hn, hl, fun _ => ⟨_, rfl, fun j p hj => ⟨[.int k p], rfl, rfl, fun i u hu => ?_⟩⟩⟩
  have hi : i = 0 ∧ u = .int k p := by
    cases i with
    | zero => simpa using hu.symm
    | succ i => simp at hu
  obtain ⟨rfl, rfl⟩ := hi
  have ha : (⟨g, 0, none⟩ : Addr).add (j * (Kd.int k).sz + 0) = ⟨g, j, none⟩ := by
    have : (Kd.int k).sz = 1 := rfl
    rw [this]; unfold Addr.add; simp; exact fun h => h.symm
  have hjl : j < l.length := (List.getElem?_eq_some_iff.1 hj).1
  rw [ha, cell_of_row w g j C e fr hb, ← Array.getElem?_toList]
  have h1 : (C.toList.take n)[j]? = C.toList[j]? := by rw [List.getElem?_take, if_pos (by omega)]
  rw [← h1, hc]
  simp [encs, hj]

/-- What a copy leaves of the row that is copied into. -/
def cpy (xs ys : List Int) : List Int := ys.take xs.length ++ xs.drop ys.length
theorem cpy_length (xs ys : List Int) : (cpy xs ys).length = xs.length := by simp [cpy]; omega

theorem grown_setRow {W : World} {g : Nat} (cs : Array Value) : W.grownBy (W.setRow g cs) (some g) :=
  ⟨rfl, rfl, rfl, by simp [World.setRow], fun k _ hne => setRow_other W g k cs (fun e => hne (by rw [e]))⟩

section
variable {P : Program} {ops : Array Oper} {rest : List Oper} {o : Oper} {a : Act} {Q : Exit → Act → World → Prop} {W w0 : World}

theorem grown_freeze {g j : Nat} : W.grownBy (W.freeze ⟨g, j, none⟩ 1) (some g) := by
  unfold World.freeze
  rw [if_neg (by decide)]
  exact ⟨rfl, rfl, rfl, by simp, fun k _ hne => by simp [Array.getElem?_modify, show ¬ g = k from fun e => hne (by rw [e])]⟩
theorem heap_freeze {g j : Nat} {C : Array Value} {e : TypeId} (h : W.heap[g]? = some (.cells C e (0, 0))) : (W.freeze ⟨g, j, none⟩ 1).heap[g]? = some (.cells C e (j, j + 1)) := by
  have hlt : g < W.heap.size := (Array.getElem?_eq_some_iff.1 h).1
  have hv : W.heap[g] = .cells C e (0, 0) := (Array.getElem?_eq_some_iff.1 h).2
  unfold World.freeze
  rw [if_neg (by decide), Array.getElem?_eq_getElem (by simpa using hlt), Array.getElem_modify]
  simp [hv]
/-- '[]byte("..")' of a constant: the row that was laid is marked, and only read from here on. -/
theorem R_mark (base : Nat) (hgd : o.guard = none) (s : Operand) (t e : TypeId) (ho : o.op = .convert t t s) (ht : P.underlying t = some (.slice e)) (he : P.underlying e = some (.int .u8))
    {ok : Nat → Prop} {A : Option Addr} {n c : Nat} {xs : List Int} (hs : a.eval s = .slice A n c) (HO : (Kd.int .u8).R e W base ok (.slice A n c) xs) (hpos : 0 < xs.length) (HB : Below base w0 W) (hbase : base ≤ W.heap.size)
    (h : ∀ (w1 : World), Kd.V (Kd.int .u8) e w1 base ok (.slice A xs.length c) xs → Below base w0 w1 → W.grownBy w1 (Value.slice A n c).ownBlock → wpList P ops Q rest (a.put o.dst (.slice A xs.length c)) w1) : wpList P ops Q (o :: rest) a W := by
  have hn : n = xs.length := (Kd.R_reads' HO).1
  have hmax := Kd.C_max (Kd.R_reads' HO).2.2
  have hown := Kd.own_of_R HO
  rcases hown.2 with ⟨hv, hz⟩ | ⟨g, cap, cur, hv, hb, hh, hnc, hcm, hcs, htake⟩
  · omega
  injection hv with hA h1 h2
  subst hA; subst h2; subst hn
  rw [Nat.mul_one] at htake
  refine wpList_plain hgd fun K hK => ?_
  have hrun : (convert t t (.slice (some ⟨g, 0, none⟩) xs.length c)).run P W = .ok (.slice (some ⟨g, 0, none⟩) xs.length c) (W.freeze ⟨g, cur.size, none⟩ 1) := by
    have hsh : W.shape? g = some (e, cur.size) := by unfold World.shape?; rw [hh]
    simp [convert, run_underlying ht, run_underlying he, markStringish, hsh]
  unfold Oper.wp
  simp [execOp, ho, hs, hrun, Result.andThen]
  refine hK _ _ (h _ (Kd.V_mk hnc fun W' hW => ?_) (HB.grown grown_freeze hbase ?_) grown_freeze)
  · have hg : W'.heap[g]? = some (.cells cur e (cur.size, cur.size + 1)) := by
      rw [hW g (HO.1 g rfl) (Array.getElem?_eq_some_iff.1 (heap_freeze (j := cur.size) hh)).1]
      exact heap_freeze hh
    exact C_cells hg rfl htake hmax
  · intro q hq
    injection hq with hq; subst hq
    exact hb

/-- 'copy(s, x)' into a row of the call's own. -/
theorem R_copy (k : IntKind) (base : Nat) (hgd : o.guard = none) (s x : Operand) (t t2 e : TypeId) (ho : o.op = .call { callee := .builtin .copy, args := #[s, x], argTypes := #[t, t2] })
    (ht : P.underlying t = some (.slice e)) (hinfo : (P.info? e).map (·.size) = some 1) {ok : Nat → Prop} {A B : Option Addr} {n c m c2 : Nat} {xs ys : List Int}
    (hs : a.eval s = .slice A n c) (hx : a.eval x = .slice B m c2) (HO : (Kd.int k).R e W base ok (.slice A n c) xs) (HC : (Kd.int k).C W B m ys) (HB : Below base w0 W) (hbase : base ≤ W.heap.size)
    (h : ∀ (z : Int) (w1 : World), (Kd.int k).R e w1 base ok (.slice A n c) (cpy xs ys) → Below base w0 w1 → W.grownBy w1 (Value.slice A n c).ownBlock → wpList P ops Q rest (a.put o.dst (goInt z)) w1) : wpList P ops Q (o :: rest) a W := by
  have hn : n = xs.length := (Kd.R_reads' HO).1
  have hm : ys.length = m := Kd.C_len HC
  have hown := Kd.own_of_R HO
  have HC' := Kd.reads_of_C (d := (0 : Int)) HC
  by_cases h0 : Nat.min m n = 0
  · refine wpList_copy_nothing hgd s x t t2 ho e ht hinfo A B n c m c2 hs hx h0 (h 0 W ?_ HB ⟨rfl, rfl, rfl, Nat.le_refl _, fun _ _ _ => rfl⟩)
    have e1 : cpy xs ys = xs := by
      unfold cpy
      rcases Nat.min_eq_zero_iff.mp h0 with h1 | h1
      · have : ys = [] := List.length_eq_zero_iff.mp (by omega)
        subst this; simp
      · have : xs = [] := List.length_eq_zero_iff.mp (by omega)
        subst this; simp
    rw [e1]; exact HO
  · have hpos : 0 < m ∧ 0 < n := by
      refine ⟨Nat.pos_of_ne_zero fun e => h0 (by rw [e]; exact Nat.zero_min _), Nat.pos_of_ne_zero fun e => h0 (by rw [e]; exact Nat.min_zero _)⟩
    rcases hown.2 with ⟨hv, hz⟩ | ⟨g, cap, cur, hv, hb, hh, hnc, hcm, hcs, htake⟩
    · omega
    injection hv with hA h1 h2
    subst hA; subst h2
    obtain ⟨ad, rfl, hcell⟩ := HC'.2.2 hpos.1
    have hlt : g < W.heap.size := (Array.getElem?_eq_some_iff.1 hh).1
    have hcl : cur.toList.length = c := by simp [hcs]
    have htk : cur.toList.take n = encs (Value.int k) xs := by rw [hn]; simpa using htake
    refine wpList_copy_own hgd s x t t2 ho e ht hinfo g 0 n c ad m c2 hs hx cur e hh (encs (Value.int k) (ys.take n)) (by simp [encs, hm, Nat.min_comm]) ?_ (by simp [encs]; omega) ?_ ?_
    · intro j v hj
      have hjl : j < (encs (Value.int k) (ys.take n)).length := (List.getElem?_eq_some_iff.1 hj).1
      have hjl2 : j < n ∧ j < ys.length := by simp [encs] at hjl; omega
      rw [hcell j (by omega)]
      have hg : (encs (Value.int k) (ys.take n))[j]? = some (Value.int k (ys.getD j 0)) := by
        simp [encs, hjl2.1, List.getElem?_eq_getElem hjl2.2]
      rw [hg] at hj; exact hj
    · intro v hv
      simp only [encs, List.mem_map] at hv
      obtain ⟨y, _, rfl⟩ := hv; rfl
    · refine h _ _ ?_ (HB.grown (grown_setRow _) hbase ?_) (grown_setRow _)
      · refine Kd.R_of_own (h1 := fun _ => rfl) (enc := Value.int k) ?_ HO.1
        refine ⟨by simp [encs], .inr ⟨g, c, _, by rw [cpy_length, ← hn], hb, setRow_heap W g cur _ e (0, 0) hh, by rw [cpy_length]; omega, hcm, ?_, ?_⟩⟩
        · simp [encs]; omega
        · apply List.ext_getElem?
          intro j
          rw [Nat.mul_one, cpy_length, ← hn]
          simp only [List.take_zero, List.nil_append, Nat.zero_add, List.getElem?_take]
          have hlx : (encs (Value.int k) (ys.take n)).length = min n ys.length := by simp [encs]
          split
          · rename_i hj
            rw [List.getElem?_append]
            simp only [hlx]
            split
            · rename_i hj2
              rw [show cpy xs ys = ys.take xs.length ++ xs.drop ys.length from rfl, ← hn]
              simp only [encs, List.map_append]
              rw [List.getElem?_append_left (by simp; omega)]
            · rename_i hj2
              have hyl : min n ys.length = ys.length := by omega
              rw [hyl, List.getElem?_drop, show ys.length + (j - ys.length) = j by omega]
              have e1 : cur.toList[j]? = (encs (Value.int k) xs)[j]? := by rw [← htk, List.getElem?_take, if_pos hj]
              rw [e1, show cpy xs ys = ys.take xs.length ++ xs.drop ys.length from rfl]
              simp only [encs, List.map_append]
              rw [List.getElem?_append_right (by simp; omega)]
              simp only [List.getElem?_map, List.getElem?_drop, List.length_map, List.length_take]
              rw [show ys.length + (j - min xs.length ys.length) = j by omega]
          · rename_i hj
            rw [List.getElem?_eq_none]
            simp [encs, cpy_length]; omega
      · intro q hq
        injection hq with hq; subst hq
        exact hb

/-- Cells that are written one behind the other. -/
def setL : List Int → Nat → List Int → List Int
  | xs, _, [] => xs
  | xs, i, v :: r => setL (xs.set i v) (i + 1) r
theorem setL_length (xs : List Int) (i : Nat) (vs : List Int) : (setL xs i vs).length = xs.length := by
  induction vs generalizing xs i with
  | nil => rfl
  | cons v r ih => rw [setL, ih, List.length_set]
theorem setL_is (xs : List Int) (i : Nat) (vs : List Int) (h : i + vs.length ≤ xs.length) : setL xs i vs = xs.take i ++ vs ++ xs.drop (i + vs.length) := by
  induction vs generalizing xs i with
  | nil => simp [setL]
  | cons v r ih =>
    simp only [List.length_cons] at h
    rw [setL, ih (xs.set i v) (i + 1) (by rw [List.length_set]; omega)]
    have e1 : (xs.set i v).take (i + 1) = xs.take i ++ [v] := by
      apply List.ext_getElem?
      intro j
      rw [List.getElem?_take, List.getElem?_set, List.getElem?_append, List.getElem?_take]
      simp only [List.length_take]
      by_cases hj : j < i
      · rw [if_pos (by omega), if_neg (by omega), if_pos (by omega), if_pos hj]
      · by_cases hj2 : j = i
        · subst hj2
          rw [if_pos (by omega), if_pos rfl, if_pos (by omega), if_neg (by omega)]
          simp [show j - min j xs.length = 0 by omega]
        · rw [if_neg (by omega), if_neg (by omega), List.getElem?_eq_none (by simp; omega)]
    have e2 : (xs.set i v).drop (i + 1 + r.length) = xs.drop (i + (r.length + 1)) := by
      rw [List.drop_set_of_lt (by omega)]
      congr 1; omega
    rw [e1, e2]
    simp
theorem R_setCells (k : IntKind) {base e g n cap : Nat} {ok : Nat → Prop} {vs : List Int} : ∀ (i : Nat) {W : World} {xs : List Int}, (Kd.int k).R e W base ok (.slice (some ⟨g, 0, none⟩) n cap) xs →
    (Kd.int k).R e (W.setCells g i (vs.map (Value.int k))) base ok (.slice (some ⟨g, 0, none⟩) n cap) (setL xs i vs) ∧ W.grownBy (W.setCells g i (vs.map (Value.int k))) (some g) := by
  induction vs with
  | nil => exact fun i W xs h => ⟨h, rfl, rfl, rfl, Nat.le_refl _, fun _ _ _ => rfl⟩
  | cons v r ih =>
    intro i W xs h
    have h1 := Kd.R_putg (h1 := fun _ => rfl) (enc := Value.int k) h (i : Int) v
    rw [Int.toNat_natCast] at h1
    obtain ⟨h2, h3⟩ := ih (i + 1) h1.1
    exact ⟨h2, h3.os.trans h1.2.os, h3.tape.trans h1.2.tape, h3.output.trans h1.2.output, Nat.le_trans h1.2.size h3.size, fun j hj hne => (h3.block j (Nat.lt_of_lt_of_le hj h1.2.size) hne).trans (h1.2.block j hj hne)⟩

/-- 'clear(s)' of a row of the call's own, or of its beginning. -/
theorem R_clear (k : IntKind) (base : Nat) (hgd : o.guard = none) (s : Operand) (t e : TypeId) (ho : o.op = .call { callee := .builtin .clear, args := #[s], argTypes := #[t] })
    (ht : P.underlying t = some (.slice e)) (hz : ∀ w, (zeroValue e).run P w = .ok (.int k 0) w) {ok : Nat → Prop} {A : Option Addr} {n m c : Nat} {xs : List Int}
    (hs : a.eval s = .slice A m c) (hm : m ≤ n) (HO : (Kd.int k).R e W base ok (.slice A n c) xs) (HB : Below base w0 W) (hbase : base ≤ W.heap.size)
    (h : ∀ (w1 : World), (Kd.int k).R e w1 base ok (.slice A n c) (setL xs 0 (List.replicate m 0)) → Below base w0 w1 → W.grownBy w1 (Value.slice A n c).ownBlock → wpList P ops Q rest (a.put o.dst (.tuple #[])) w1) : wpList P ops Q (o :: rest) a W := by
  have hn : n = xs.length := (Kd.R_reads' HO).1
  have hown := Kd.own_of_R HO
  refine wpList_plain hgd fun K hK => ?_
  by_cases h0 : m = 0
  · subst h0
    have hrun : ∀ ty, (Builtin.clear_ #[t] ty #[.slice A 0 c]).run P W = .ok (.tuple #[]) W := fun ty => by
      cases A <;> simp [Builtin.clear_, run_underlying ht]
    unfold Oper.wp
    simp [execOp, ho, resolve, invoke, builtin, hs, hrun, Result.andThen]
    exact hK _ _ (h W HO HB ⟨rfl, rfl, rfl, Nat.le_refl _, fun _ _ _ => rfl⟩)
  · rcases hown.2 with ⟨hv, hz⟩ | ⟨g, cap, cur, hv, hb, hh, hnc, hcm, hcs, htake⟩
    · omega
    injection hv with hA h1 h2
    subst hA; subst h2
    have hcell : ∀ j, j < m → (W.cell? ⟨g, 0 + j, none⟩).isSome = true := fun j hj => by
      rw [Nat.zero_add, cell_of_row W g j cur e (0, 0) hh, Array.getElem?_eq_getElem (by omega)]; rfl
    have hfr : ∀ j, j < m → W.frozen? ⟨g, 0 + j, none⟩ = false := fun j hj => by
      rw [Nat.zero_add]; exact frozen_of_row W g j cur e hh
    have hrun : ∀ ty, (Builtin.clear_ #[t] ty #[.slice (some ⟨g, 0, none⟩) m c]).run P W = .ok (.tuple #[]) (W.setCells g 0 (List.replicate m (.int k 0))) := fun ty =>
      Lib.run_clear_slice W t e ty (.int k 0) ht hz rfl rfl g 0 m c (by omega) hcell hfr
    have hR := R_setCells k (vs := List.replicate m 0) 0 HO
    rw [List.map_replicate] at hR
    unfold Oper.wp
    simp [execOp, ho, resolve, invoke, builtin, hs, hrun, Result.andThen]
    refine hK _ _ (h _ hR.1 (HB.grown hR.2 hbase ?_) hR.2)
    intro q hq
    injection hq with hq; subst hq
    exact hb
end
end Go.Proofs.YtconcmobjkpkcaaDoor.Kit
