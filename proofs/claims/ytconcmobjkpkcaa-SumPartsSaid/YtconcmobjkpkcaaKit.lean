/- Laws of this session's own beside the kit's printed words: rows that a constant lays, copies into a row of the call's own, a row held against nil. -/
import Derived.Test.YtconcmobjkpkcaaWWords
import Derived.Test.YtconcmobjkpkcaaWMore
import Derived.Lib.SlBytesConst
import Derived.Laws.CopyOwn
namespace Go.Proofs.Ytconcmobjkpkcaa.Kit
open Go Go.RowKit Go.Proofs.YtconcmobjkpkcaaW.PrintWords Go.Proofs.YtconcmobjkpkcaaW.PrintLast Go.Proofs.YtconcmobjkpkcaaW.PrintMore
set_option linter.unusedVariables false

/-- A block that is known whole is read as a row. -/
theorem C_blk {w : World} {g : Nat} {e : TypeId} {C : Array Value} {fr : Nat × Nat} {k : IntKind} {l : List Int} (hb : w.heap[g]? = some (.cells C e fr)) (hc : C = (l.map (Value.int k)).toArray) (hl : l.length ≤ 9223372036854775807) :
    Kd.C (Kd.int k) w (some ⟨g, 0, none⟩) l.length l := by
  refine ⟨rfl, hl, fun _ => ⟨_, rfl, fun j p hj => ⟨[.int k p], rfl, rfl, fun i u hu => ?_⟩⟩⟩
  have hi : i = 0 ∧ u = .int k p := by
    cases i with
    | zero => simpa using hu.symm
    | succ i => simp at hu
  obtain ⟨rfl, rfl⟩ := hi
  have ha : (⟨g, 0, none⟩ : Addr).add (j * (Kd.int k).sz + 0) = ⟨g, j, none⟩ := by
    have : (Kd.int k).sz = 1 := rfl
    rw [this]; unfold Addr.add; simp; exact fun h => h.symm
  rw [ha, cell_of_row w g j C e fr hb, hc]
  simp [hj]
end Go.Proofs.Ytconcmobjkpkcaa.Kit
