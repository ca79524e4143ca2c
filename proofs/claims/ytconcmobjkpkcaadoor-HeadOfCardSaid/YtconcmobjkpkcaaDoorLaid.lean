/- What the listed package-level variable gives: the example's two cells; and a world in which it lies so. -/
import Derived.Test.YtconcmobjkpkcaaDoorG3
import Derived.Test.YtconcmobjkpkcaaDoorRows
import Derived.LaidLaws
import Derived.Lib.LaidTab
import Derived.Lib.SmallJoins
namespace Go.Proofs.YtconcmobjkpkcaaDoor.Laid
open Go Go.RowKit Go.Proofs.YtconcmobjkpkcaaDoor.G
theorem gE : Tryd.prog.globalNamed "flint/flintlaw05.example" = some 0 := by kernel_rfl
theorem gET : (Tryd.prog.globals[0]?).map (·.type) = some 23 := by kernel_rfl
theorem cE : Tryd.prog.cellsOf 23 = 2 := by kernel_rfl
theorem c1 : Tryd.prog.cellsOf 3 = 1 := by kernel_rfl
theorem ex {W : World} (h : laidMetH Tryd.prog Rows.headOfRow.laid W) : Ex W := by
  have h' : laidMet Tryd.prog [("flint/flintlaw05.example", .agg [.lit (.int .i64 6), .lit (.int .i64 512)])] W := h
  obtain ⟨ps, ⟨g, t, cs, fuel, p, q, hg, ht, hv, hd, _, _⟩, _, _⟩ := h'
  obtain rfl := Option.some.inj (gE.symm.trans hg)
  obtain rfl := Option.some.inj (gET.symm.trans ht)
  obtain ⟨xs, n, _, hx, hl, hlen, hf⟩ := DataW.trod_struct Tryd.underlying23 hd
  rw [cE] at hl
  match xs, hlen with
  | [y0, y1], _ =>
    obtain ⟨cs⟩ := cs
    match cs, hl with
    | [v0, v1], _ =>
      have f0 : DataW.trod _ _ _ _ _ _ n 3 (List.take (Tryd.prog.cellsOf 3) [v0, v1]) = some y0 := hf 0 _ rfl
      have f1 : DataW.trod _ _ _ _ _ _ n 3 (List.take (Tryd.prog.cellsOf 3) [v1]) = some y1 := hf 1 _ rfl
      rw [c1] at f0 f1
      obtain ⟨x0, e0, r0, _⟩ := DataW.trod_int Tryd.underlying3 f0
      obtain ⟨x1, e1, r1, _⟩ := DataW.trod_int Tryd.underlying3 f1
      have e0 : v0 = .int .i64 x0 := by simpa using e0
      have e1 : v1 = .int .i64 x1 := by simpa using e1
      subst e0 e1 r0 r1
      have hx' : ([.lit (.int .i64 6), .lit (.int .i64 512)] : List (DataW Unit)) = [.lit (.int .i64 x0), .lit (.int .i64 x1)] := by
        have := congrArg Prod.fst hx
        simpa using this
      simp only [List.cons.injEq, DataW.lit.injEq, Lit.int.injEq, true_and, and_true] at hx'
      obtain ⟨rfl, rfl⟩ := hx'
      exact ⟨World.var?_cell gE hv 0, World.var?_cell gE hv 1⟩
/-- A world for the witness: the settled one, the example holding what its initialiser lays. -/
def put : Obj → Obj
  | .cells _ t frozen => .cells #[.int .i64 6, .int .i64 512] t frozen
  | o => o
noncomputable def world (os : Os) : World :=
  { World.holding Tryd.prog os ⟨#[], #[], []⟩ with heap := (World.holding Tryd.prog os ⟨#[], #[], []⟩).heap.modify 0 put }
end Go.Proofs.YtconcmobjkpkcaaDoor.Laid
