/- Arrays of numbers as values: held against each other; loaded and stored whole. -/
import Derived.Test.YtconcmobjkpkcaaDoorArr
import Derived.ChangeKeysEq
import Derived.Lib.SlBytesConst
namespace Go.Proofs.YtconcmobjkpkcaaDoor.Arr
open Go Go.RowKit Go.Proofs.YtconcmobjkpkcaaDoorW.PrintWords Go.Proofs.YtconcmobjkpkcaaDoorW.PrintLast Go.Proofs.YtconcmobjkpkcaaDoorW.PrintMore Go.Proofs.YtconcmobjkpkcaaDoor.Kit
set_option linter.unusedVariables false
/-- An array of numbers as a value. -/
def arr (k : IntKind) (xs : List Int) : Array Value := (encs (Value.int k) xs).toArray
theorem arr_size (k : IntKind) (xs : List Int) : (arr k xs).size = xs.length := by simp [arr, encs]
theorem arr_one (k : IntKind) (xs : List Int) : (arr k xs).all (·.oneCell') = true := by
  simp [arr, encs, Value.oneCell']
theorem arr_get (k : IntKind) (xs : List Int) (i : Nat) (h : i < xs.length) : (arr k xs)[i]? = some (.int k (xs.getD i 0)) := by
  simp [arr, encs, h]
variable {P : Program}
theorem run_eqItems (d : Nat) (k : IntKind) (e : TypeId) (he : P.underlying e = some (.int k)) (xs ys : List Int) (w : World) : ∀ (n i : Nat), i + n ≤ xs.length → i + n ≤ ys.length →
    (Op.eqItems (d + 1) e 1 (arr k xs) (arr k ys) (List.range' i n)).run P w = .ok (decide ((xs.drop i).take n = (ys.drop i).take n)) w := by
  have hp : P.plainKey e = true := by simp [Program.plainKey, he]
  intro n
  induction n with
  | zero => intro i _ _; simp [Op.eqItems]
  | succ n ih =>
    intro i hx hy
    rw [List.range'_succ]
    have h1 := run_part_plain (P := P) w hp (arr_get k xs i (by omega))
    have h2 := run_part_plain (P := P) w hp (arr_get k ys i (by omega))
    have h3 := run_equalIn_int (P := P) w d e k k (xs.getD i 0) (ys.getD i 0) he
    have ih := ih (i + 1) (by omega) (by omega)
    have ex : (xs.drop i).take (n + 1) = xs.getD i 0 :: (xs.drop (i + 1)).take n := by
      rw [List.drop_eq_getElem_cons (show i < xs.length by omega), List.take_succ_cons]
      simp [show i < xs.length by omega]
    have ey : (ys.drop i).take (n + 1) = ys.getD i 0 :: (ys.drop (i + 1)).take n := by
      rw [List.drop_eq_getElem_cons (show i < ys.length by omega), List.take_succ_cons]
      simp [show i < ys.length by omega]
    simp only [Op.eqItems, Sem.run_bind, Nat.mul_one, h1, h2, h3, Result.andThen_ok, ex, ey, List.cons.injEq]
    by_cases c : xs.getD i 0 = ys.getD i 0
    · have cb : (xs.getD i 0 == ys.getD i 0) = true := beq_iff_eq.mpr c
      rw [cb]
      simp only [Bool.not_true, Bool.false_eq_true, if_false, ih, c, true_and]
    · have cb : (xs.getD i 0 == ys.getD i 0) = false := beq_eq_false_iff_ne.mpr c
      rw [cb, decide_eq_false (fun h => c h.1)]
      simp only [Bool.not_false, if_true, Sem.run_pure]
theorem run_equalIn_arr (d n : Nat) (t e : TypeId) (k : IntKind) (xs ys : List Int) (w : World) (ht : P.underlying t = some (.array n e)) (he : P.underlying e = some (.int k)) (hc : P.cellsOf e = 1) (hx : xs.length = n) (hy : ys.length = n) :
    (Op.equalIn (d + 2) t (.agg (arr k xs)) (.agg (arr k ys))).run P w = .ok (decide (xs = ys)) w := by
  obtain ⟨i, hi⟩ := info_of_underlying he
  rw [run_equalIn_array w (d + 1) _ _ ht hi, hc, List.range_eq_range', run_eqItems d k e he xs ys w n 0 (by omega) (by omega)]
  congr 1
  rw [List.drop_zero, List.drop_zero, List.take_of_length_le (by omega), List.take_of_length_le (by omega)]
/-- '==' of arrays of numbers. -/
theorem run_eql_arr (n : Nat) (t e : TypeId) (k : IntKind) (xs ys : List Int) (w : World) (ht : P.underlying t = some (.array n e)) (he : P.underlying e = some (.int k)) (hc : P.cellsOf e = 1) (hx : xs.length = n) (hy : ys.length = n) :
    (binOp .eql t (.agg (arr k xs)) (.agg (arr k ys))).run P w = .ok (.bool (decide (xs = ys))) w := by
  rw [run_eql_struct, run_equalIn_arr 9998 n t e k xs ys w ht he hc hx hy]
  rfl
section
variable {ops : Array Oper} {rest : List Oper} {o : Oper} {a : Act} {Q : Exit → Act → World → Prop} {W : World} {Kc : Act → World → Prop} {E : Prop}
/-- 'copy(l[:], x)' into an array, as one step of a region that draws its order. -/
theorem A_copy_step (k : IntKind) (hgd : o.guard = none) (s x : Operand) (t t2 e T : TypeId) (ho : o.op = .call { callee := .builtin .copy, args := #[s, x], argTypes := #[t, t2] })
    (ht : P.underlying t = some (.slice e)) (hinfo : (P.info? e).map (·.size) = some 1) {B : Option Addr} {g n c m c2 : Nat} {xs ys : List Int}
    (hs : a.eval s = .slice (some ⟨g, 0, none⟩) n c) (hx : a.eval x = .slice B m c2) (hg : IsArr k W g T xs) (hn : xs.length = n) (HC : (Kd.int k).C W B m ys)
    (h : ∀ (z : Int) (w1 : World), IsArr k w1 g T (cpy xs ys) → W.grownBy w1 (some g) → Kc (a.put o.dst (goInt z)) w1) : if Region.wanted o (yielded ops a.tmps) = true then Oper.wp P o a W Kc Q else E := by
  have hw : Region.wanted o (yielded ops a.tmps) = true := by simp [Region.wanted, hgd]
  rw [if_pos hw]
  have hm : ys.length = m := Kd.C_len HC
  have HC' := Kd.reads_of_C (d := (0 : Int)) HC
  by_cases h0 : Nat.min m n = 0
  · have hrun := run_copy_none (P := P) W t t2 o.type e (some ⟨g, 0, none⟩) B n c m c2 ht hinfo h0
    have e1 : cpy xs ys = xs := by
      unfold cpy
      rcases Nat.min_eq_zero_iff.mp h0 with h1 | h1
      · have : ys = [] := List.length_eq_zero_iff.mp (by omega)
        subst this; simp
      · have : xs = [] := List.length_eq_zero_iff.mp (by omega)
        subst this; simp
    unfold Oper.wp
    simp [execOp, ho, resolve, invoke, builtin, hs, hx, hrun, Result.andThen]
    exact h 0 W (by rw [e1]; exact hg) ⟨rfl, rfl, rfl, Nat.le_refl _, fun _ _ _ => rfl⟩
  · have hpos : 0 < m ∧ 0 < n := by
      refine ⟨Nat.pos_of_ne_zero fun e => h0 (by rw [e]; exact Nat.zero_min _), Nat.pos_of_ne_zero fun e => h0 (by rw [e]; exact Nat.min_zero _)⟩
    obtain ⟨ad, rfl, hcell⟩ := HC'.2.2 hpos.1
    have hrun := run_copy_row (P := P) W t t2 o.type e g 0 n c ad m c2 _ T (encs (Value.int k) (ys.take n)) ht hinfo hg (by simp [encs, hm, Nat.min_comm]) (fun j v hj => by
      have hjl : j < (encs (Value.int k) (ys.take n)).length := (List.getElem?_eq_some_iff.1 hj).1
      have hjl2 : j < n ∧ j < ys.length := by simp [encs] at hjl; omega
      rw [hcell j (by omega)]
      have hg : (encs (Value.int k) (ys.take n))[j]? = some (Value.int k (ys.getD j 0)) := by
        simp [encs, hjl2.1, List.getElem?_eq_getElem hjl2.2]
      rw [hg] at hj; exact hj) (by simp [encs]; omega) (fun v hv => by
      simp only [encs, List.mem_map] at hv
      obtain ⟨y, _, rfl⟩ := hv; rfl)
    unfold Oper.wp
    simp [execOp, ho, resolve, invoke, builtin, hs, hx, hrun, Result.andThen]
    refine h _ _ ?_ (grown_setRow _)
    unfold IsArr
    rw [setRow_heap W g _ _ T (0, 0) hg]
    congr 3
    have e2 : cpy xs ys = ys.take n ++ xs.drop (min n ys.length) := by
      unfold cpy
      rw [hn]
      rcases Nat.le_total ys.length n with h1 | h1
      · rw [Nat.min_eq_right h1]
      · rw [Nat.min_eq_left h1, List.drop_of_length_le (by omega), List.drop_of_length_le (by omega)]
    rw [e2]
    simp [encs]
end
theorem len8 {r : List Int} (h : r.length = 8) : ∃ e0 e1 e2 e3 e4 e5 e6 e7 : Int, r = [e0, e1, e2, e3, e4, e5, e6, e7] := by
  match r, h with
  | [e0, e1, e2, e3, e4, e5, e6, e7], _ => exact ⟨e0, e1, e2, e3, e4, e5, e6, e7, rfl⟩
end Go.Proofs.YtconcmobjkpkcaaDoor.Arr
