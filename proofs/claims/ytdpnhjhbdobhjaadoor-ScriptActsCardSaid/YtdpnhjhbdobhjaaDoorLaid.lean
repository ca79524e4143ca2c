/- What the listed package-level variables give: the two tables' cells; and a world in which they lie so. -/
import Derived.Test.YtdpnhjhbdobhjaaDoorG6
import Derived.Test.YtdpnhjhbdobhjaaDoorRows
import Derived.Lib.LaidTab
import Derived.Stop.LaidErr
namespace Go.Proofs.YtdpnhjhbdobhjaaDoor.Laid
open Go Go.RowKit Go.Proofs.YtdpnhjhbdobhjaaDoor.G
theorem gK : Tryd.prog.globalNamed "flint/script.kinds" = some 0 := by kernel_rfl
theorem gF : Tryd.prog.globalNamed "flint/script.fates" = some 1 := by kernel_rfl
theorem gKT : (Tryd.prog.globals[0]?).map (·.type) = some 42 := by kernel_rfl
theorem gFT : (Tryd.prog.globals[1]?).map (·.type) = some 44 := by kernel_rfl
theorem cK : Tryd.prog.cellsOf 42 = 32 := by kernel_rfl
theorem cF : Tryd.prog.cellsOf 44 = 8 := by kernel_rfl
theorem c1 : Tryd.prog.cellsOf 5 = 1 := by kernel_rfl
theorem tabs {W : World} (h : laidMetH Tryd.prog Rows.scriptActsRow.laid W) : Tabs W := by
  have h' : laidMet Tryd.prog [("flint/script.kinds", Lib.tabData .u8 tabKinds), ("flint/script.fates", Lib.tabData .u8 tabFates)] W := h
  have a := Lib.tabIs_of_head gK gKT Tryd.underlying42 Tryd.underlying5 c1 cK h'
  have b := Lib.tabIs_of_head gF gFT Tryd.underlying44 Tryd.underlying5 c1 cF h'.tail
  exact ⟨fun j hj => a.cell gK j hj, fun j hj => b.cell gF j hj⟩
def putTab (l : List Int) : Obj → Obj
  | .cells _ t frozen => .cells (l.map (Value.int .u8)).toArray t frozen
  | o => o
/-- A world for the witness: the settled one, the tables holding what their initialisers lay. -/
noncomputable def world (os : Os) : World :=
  { World.holding Tryd.prog os ⟨#[], #[], []⟩ with heap := ((World.holding Tryd.prog os ⟨#[], #[], []⟩).heap.modify 0 (putTab tabKinds)).modify 1 (putTab tabFates) }
end Go.Proofs.YtdpnhjhbdobhjaaDoor.Laid
