/-
  No cell of these rows narrows 'for every input' (looked for: loops, veiled, ifaces, maps, wideKeys, modest, calm, conditions, laid).
  DERIVED. THE GIVEN ROWS OF THIS SEAT. 8 by the template 'for every input the law returns true; each argument reads behind the call as it read before'; 0 by the template 'total and deterministic' (their statements: YtconcmobjkpkcaaTotals.lean).
  GIVEN WITH THE SEED: the statements are not yours to turn. If you find one false, say at which input.
  Laid BY PROGRAM, IN A SANDBOX (cutbox-rows.mjs): the forced cells as the released guide's own fill.sh prints them over the translation a6c955dcbc70a840… (all of the seat's roots in one cut). By AI agents, Wed Nov 11 2026. No macro, syntax, notation, axiom, sorry.
-/
import Derived.Test.YtconcmobjkpkcaaChecked
import GoSem.Claim
import GoSem.ClaimJoined
import GoSem.ClaimMapViews
import Derived.JoinedTies
import Derived.KernelRfl
namespace Go.Proofs.Ytconcmobjkpkcaa
/- THE CELL 'sum', in the pinned program and in every row, IS THE sha256 OF THE DUMP (.gsa) THAT YtconcmobjkpkcaaProg.lean LOADS. Nothing in Lean hashes anything: it is a label: what it is worth is what the hold of that sum in a sandbox is worth. -/
noncomputable def Try.pinned : Pinned := { name := "ytconcmobjkpkcaa", sum := "a6c955dcbc70a8407f2fbbcdead9386f1467fd377b642825b35a5dc4d8ce33d6", checked := Try.checked }
namespace Rows
def none {H : Type} : Left H := { results := [], args := [] }

/-- 'flintlaw01.SumOf': WHATEVER THE INPUT: true; the input reads as it did. -/
def sumOfSpec : ChangeSpec := { name := "sumOf", fn := fun _ => fun
  | [d1, d2, d3] => { results := [.lit (.bool true)], args := [d1, d2, d3] }
  | _ => none }
def sumOfRow : OpenClaim := { program := "ytconcmobjkpkcaa", sum := "a6c955dcbc70a8407f2fbbcdead9386f1467fd377b642825b35a5dc4d8ce33d6", func := "flint/flintlaw01.SumOf", spec := "sumOf", apart := false }
def SumOfSaid : Prop := sumOfRow.holds Try.pinned (OpenSpec.ofChange sumOfSpec)

/-- ITS FALSE NEIGHBOUR: 'it returns false'. Refute it at one input. -/
def sumOfWrong : ChangeSpec := { name := "sumOf", fn := fun _ => fun
  | [d1, d2, d3] => { results := [.lit (.bool false)], args := [d1, d2, d3] }
  | _ => none }
def SumOfWrongFalsely : Prop := sumOfRow.holds Try.pinned (OpenSpec.ofChange sumOfWrong)

/-- 'flintlaw01.SumSpoilt': WHATEVER THE INPUT: true; the input reads as it did. -/
def sumSpoiltSpec : ChangeSpec := { name := "sumSpoilt", fn := fun _ => fun
  | [d1, d2, d3] => { results := [.lit (.bool true)], args := [d1, d2, d3] }
  | _ => none }
def sumSpoiltRow : OpenClaim := { program := "ytconcmobjkpkcaa", sum := "a6c955dcbc70a8407f2fbbcdead9386f1467fd377b642825b35a5dc4d8ce33d6", func := "flint/flintlaw01.SumSpoilt", spec := "sumSpoilt", apart := false }
def SumSpoiltSaid : Prop := sumSpoiltRow.holds Try.pinned (OpenSpec.ofChange sumSpoiltSpec)

/-- ITS FALSE NEIGHBOUR: 'it returns false'. Refute it at one input. -/
def sumSpoiltWrong : ChangeSpec := { name := "sumSpoilt", fn := fun _ => fun
  | [d1, d2, d3] => { results := [.lit (.bool false)], args := [d1, d2, d3] }
  | _ => none }
def SumSpoiltWrongFalsely : Prop := sumSpoiltRow.holds Try.pinned (OpenSpec.ofChange sumSpoiltWrong)

/-- 'flintlaw01.SumParts': WHATEVER THE INPUT: true; the input reads as it did. -/
def sumPartsSpec : ChangeSpec := { name := "sumParts", fn := fun _ => fun
  | [d1, d2] => { results := [.lit (.bool true)], args := [d1, d2] }
  | _ => none }
def sumPartsRow : OpenClaim := { program := "ytconcmobjkpkcaa", sum := "a6c955dcbc70a8407f2fbbcdead9386f1467fd377b642825b35a5dc4d8ce33d6", func := "flint/flintlaw01.SumParts", spec := "sumParts", apart := false }
def SumPartsSaid : Prop := sumPartsRow.holds Try.pinned (OpenSpec.ofChange sumPartsSpec)

/-- ITS FALSE NEIGHBOUR: 'it returns false'. Refute it at one input. -/
def sumPartsWrong : ChangeSpec := { name := "sumParts", fn := fun _ => fun
  | [d1, d2] => { results := [.lit (.bool false)], args := [d1, d2] }
  | _ => none }
def SumPartsWrongFalsely : Prop := sumPartsRow.holds Try.pinned (OpenSpec.ofChange sumPartsWrong)

/-- 'flintlaw06.RecPuts': WHATEVER THE INPUT: true; the input reads as it did. -/
def recPutsSpec : ChangeSpec := { name := "recPuts", fn := fun _ => fun
  | [d1, d2] => { results := [.lit (.bool true)], args := [d1, d2] }
  | _ => none }
def recPutsRow : OpenClaim := { program := "ytconcmobjkpkcaa", sum := "a6c955dcbc70a8407f2fbbcdead9386f1467fd377b642825b35a5dc4d8ce33d6", func := "flint/flintlaw06.RecPuts", spec := "recPuts", apart := false }
def RecPutsSaid : Prop := recPutsRow.holds Try.pinned (OpenSpec.ofChange recPutsSpec)

/-- ITS FALSE NEIGHBOUR: 'it returns false'. Refute it at one input. -/
def recPutsWrong : ChangeSpec := { name := "recPuts", fn := fun _ => fun
  | [d1, d2] => { results := [.lit (.bool false)], args := [d1, d2] }
  | _ => none }
def RecPutsWrongFalsely : Prop := recPutsRow.holds Try.pinned (OpenSpec.ofChange recPutsWrong)

/-- 'flintlaw06.RecFrames': WHATEVER THE INPUT: true; the input reads as it did. -/
def recFramesSpec : ChangeSpec := { name := "recFrames", fn := fun _ => fun
  | [d] => { results := [.lit (.bool true)], args := [d] }
  | _ => none }
def recFramesRow : OpenClaim := { program := "ytconcmobjkpkcaa", sum := "a6c955dcbc70a8407f2fbbcdead9386f1467fd377b642825b35a5dc4d8ce33d6", func := "flint/flintlaw06.RecFrames", spec := "recFrames", apart := false }
def RecFramesSaid : Prop := recFramesRow.holds Try.pinned (OpenSpec.ofChange recFramesSpec)

/-- ITS FALSE NEIGHBOUR: 'it returns false'. Refute it at one input. -/
def recFramesWrong : ChangeSpec := { name := "recFrames", fn := fun _ => fun
  | [d] => { results := [.lit (.bool false)], args := [d] }
  | _ => none }
def RecFramesWrongFalsely : Prop := recFramesRow.holds Try.pinned (OpenSpec.ofChange recFramesWrong)

/-- 'flintlaw06.RecClass': WHATEVER THE INPUT: true; the input reads as it did. -/
def recClassSpec : ChangeSpec := { name := "recClass", fn := fun _ => fun
  | [d1, d2] => { results := [.lit (.bool true)], args := [d1, d2] }
  | _ => none }
def recClassRow : OpenClaim := { program := "ytconcmobjkpkcaa", sum := "a6c955dcbc70a8407f2fbbcdead9386f1467fd377b642825b35a5dc4d8ce33d6", func := "flint/flintlaw06.RecClass", spec := "recClass", apart := false }
def RecClassSaid : Prop := recClassRow.holds Try.pinned (OpenSpec.ofChange recClassSpec)

/-- ITS FALSE NEIGHBOUR: 'it returns false'. Refute it at one input. -/
def recClassWrong : ChangeSpec := { name := "recClass", fn := fun _ => fun
  | [d1, d2] => { results := [.lit (.bool false)], args := [d1, d2] }
  | _ => none }
def RecClassWrongFalsely : Prop := recClassRow.holds Try.pinned (OpenSpec.ofChange recClassWrong)

/-- 'flintlaw06.RecCut': WHATEVER THE INPUT: true; the input reads as it did. -/
def recCutSpec : ChangeSpec := { name := "recCut", fn := fun _ => fun
  | [d1, d2, d3] => { results := [.lit (.bool true)], args := [d1, d2, d3] }
  | _ => none }
def recCutRow : OpenClaim := { program := "ytconcmobjkpkcaa", sum := "a6c955dcbc70a8407f2fbbcdead9386f1467fd377b642825b35a5dc4d8ce33d6", func := "flint/flintlaw06.RecCut", spec := "recCut", apart := false }
def RecCutSaid : Prop := recCutRow.holds Try.pinned (OpenSpec.ofChange recCutSpec)

/-- ITS FALSE NEIGHBOUR: 'it returns false'. Refute it at one input. -/
def recCutWrong : ChangeSpec := { name := "recCut", fn := fun _ => fun
  | [d1, d2, d3] => { results := [.lit (.bool false)], args := [d1, d2, d3] }
  | _ => none }
def RecCutWrongFalsely : Prop := recCutRow.holds Try.pinned (OpenSpec.ofChange recCutWrong)

/-- 'flintlaw06.RecFlags': WHATEVER THE INPUT: true; the input reads as it did. -/
def recFlagsSpec : ChangeSpec := { name := "recFlags", fn := fun _ => fun
  | [d1, d2, d3, d4] => { results := [.lit (.bool true)], args := [d1, d2, d3, d4] }
  | _ => none }
def recFlagsRow : OpenClaim := { program := "ytconcmobjkpkcaa", sum := "a6c955dcbc70a8407f2fbbcdead9386f1467fd377b642825b35a5dc4d8ce33d6", func := "flint/flintlaw06.RecFlags", spec := "recFlags", apart := false }
def RecFlagsSaid : Prop := recFlagsRow.holds Try.pinned (OpenSpec.ofChange recFlagsSpec)

/-- ITS FALSE NEIGHBOUR: 'it returns false'. Refute it at one input. -/
def recFlagsWrong : ChangeSpec := { name := "recFlags", fn := fun _ => fun
  | [d1, d2, d3, d4] => { results := [.lit (.bool false)], args := [d1, d2, d3, d4] }
  | _ => none }
def RecFlagsWrongFalsely : Prop := recFlagsRow.holds Try.pinned (OpenSpec.ofChange recFlagsWrong)

/- THE SECOND FORM. 'bulk': how many values and letters a reading holds, each counted each time it is reached (what is shared counts as often as it is met; a slice's spare places count too). A statement '..UptoSaid' is the law's where the arguments, and the package variables that the reading takes, are together of bulk at most 1048576: NARROWER than '..Said'. Prove '..Said' where nothing that the law and all that it calls make is longer than what came in: it says more and counts as full. Else prove '..UptoSaid'. A law counts once. -/
mutual
def uptoBulk {H : Type} : DataW H → Nat
  | .lit (.string bytes) => bytes.length + 1
  | .lit _ => 1
  | .nil => 1
  | .ptr d => uptoBulk d + 1
  | .slice elems spare => uptoBulkAll elems + uptoBulkAll spare + 1
  | .agg parts => uptoBulkAll parts + 1
  | .iface _ d => uptoBulk d + 1
  | .map entries => uptoBulkEntries entries + 1
  | .held _ => 1
def uptoBulkAll {H : Type} : List (DataW H) → Nat
  | [] => 0
  | d :: r => uptoBulk d + uptoBulkAll r
def uptoBulkEntries {H : Type} : List (Lit × DataW H) → Nat
  | [] => 0
  | x :: r => uptoBulkEntry x + uptoBulkEntries r
def uptoBulkEntry {H : Type} : Lit × DataW H → Nat
  | (.string bytes, d) => bytes.length + uptoBulk d + 1
  | (_, d) => uptoBulk d + 1
 end
def uptoSmall : (H : Type) → List (DataW H) → Bool := fun _ ds => decide (uptoBulkAll ds ≤ 1048576)
def OpenSpec.upto (s : _root_.Go.ChangeSpec) : _root_.Go.OpenSpec := { _root_.Go.OpenSpec.ofChange s with cond := some uptoSmall }

/-- 'flintlaw01.SumOf', WHERE WHAT IT READS IS OF BULK AT MOST 1048576: true; the input reads as it did. -/
def sumOfUptoRow : OpenClaim := { program := "ytconcmobjkpkcaa", sum := "a6c955dcbc70a8407f2fbbcdead9386f1467fd377b642825b35a5dc4d8ce33d6", func := "flint/flintlaw01.SumOf", spec := "sumOf", apart := false, narrowed := true }
def SumOfUptoSaid : Prop := sumOfUptoRow.holds Try.pinned (OpenSpec.upto sumOfSpec)

/-- 'flintlaw01.SumSpoilt', WHERE WHAT IT READS IS OF BULK AT MOST 1048576: true; the input reads as it did. -/
def sumSpoiltUptoRow : OpenClaim := { program := "ytconcmobjkpkcaa", sum := "a6c955dcbc70a8407f2fbbcdead9386f1467fd377b642825b35a5dc4d8ce33d6", func := "flint/flintlaw01.SumSpoilt", spec := "sumSpoilt", apart := false, narrowed := true }
def SumSpoiltUptoSaid : Prop := sumSpoiltUptoRow.holds Try.pinned (OpenSpec.upto sumSpoiltSpec)

/-- 'flintlaw01.SumParts', WHERE WHAT IT READS IS OF BULK AT MOST 1048576: true; the input reads as it did. -/
def sumPartsUptoRow : OpenClaim := { program := "ytconcmobjkpkcaa", sum := "a6c955dcbc70a8407f2fbbcdead9386f1467fd377b642825b35a5dc4d8ce33d6", func := "flint/flintlaw01.SumParts", spec := "sumParts", apart := false, narrowed := true }
def SumPartsUptoSaid : Prop := sumPartsUptoRow.holds Try.pinned (OpenSpec.upto sumPartsSpec)

/-- 'flintlaw06.RecPuts', WHERE WHAT IT READS IS OF BULK AT MOST 1048576: true; the input reads as it did. -/
def recPutsUptoRow : OpenClaim := { program := "ytconcmobjkpkcaa", sum := "a6c955dcbc70a8407f2fbbcdead9386f1467fd377b642825b35a5dc4d8ce33d6", func := "flint/flintlaw06.RecPuts", spec := "recPuts", apart := false, narrowed := true }
def RecPutsUptoSaid : Prop := recPutsUptoRow.holds Try.pinned (OpenSpec.upto recPutsSpec)

/-- 'flintlaw06.RecFrames', WHERE WHAT IT READS IS OF BULK AT MOST 1048576: true; the input reads as it did. -/
def recFramesUptoRow : OpenClaim := { program := "ytconcmobjkpkcaa", sum := "a6c955dcbc70a8407f2fbbcdead9386f1467fd377b642825b35a5dc4d8ce33d6", func := "flint/flintlaw06.RecFrames", spec := "recFrames", apart := false, narrowed := true }
def RecFramesUptoSaid : Prop := recFramesUptoRow.holds Try.pinned (OpenSpec.upto recFramesSpec)

/-- 'flintlaw06.RecClass', WHERE WHAT IT READS IS OF BULK AT MOST 1048576: true; the input reads as it did. -/
def recClassUptoRow : OpenClaim := { program := "ytconcmobjkpkcaa", sum := "a6c955dcbc70a8407f2fbbcdead9386f1467fd377b642825b35a5dc4d8ce33d6", func := "flint/flintlaw06.RecClass", spec := "recClass", apart := false, narrowed := true }
def RecClassUptoSaid : Prop := recClassUptoRow.holds Try.pinned (OpenSpec.upto recClassSpec)

/-- 'flintlaw06.RecCut', WHERE WHAT IT READS IS OF BULK AT MOST 1048576: true; the input reads as it did. -/
def recCutUptoRow : OpenClaim := { program := "ytconcmobjkpkcaa", sum := "a6c955dcbc70a8407f2fbbcdead9386f1467fd377b642825b35a5dc4d8ce33d6", func := "flint/flintlaw06.RecCut", spec := "recCut", apart := false, narrowed := true }
def RecCutUptoSaid : Prop := recCutUptoRow.holds Try.pinned (OpenSpec.upto recCutSpec)

/-- 'flintlaw06.RecFlags', WHERE WHAT IT READS IS OF BULK AT MOST 1048576: true; the input reads as it did. -/
def recFlagsUptoRow : OpenClaim := { program := "ytconcmobjkpkcaa", sum := "a6c955dcbc70a8407f2fbbcdead9386f1467fd377b642825b35a5dc4d8ce33d6", func := "flint/flintlaw06.RecFlags", spec := "recFlags", apart := false, narrowed := true }
def RecFlagsUptoSaid : Prop := recFlagsUptoRow.holds Try.pinned (OpenSpec.upto recFlagsSpec)

end Rows
end Go.Proofs.Ytconcmobjkpkcaa
