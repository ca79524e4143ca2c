/-
  NARROWER THAN 'FOR EVERY INPUT', by the rows' own cells (each row's printed sentence says how): HeadClass: laid · HeadOf: laid · HeadLess: laid · HeadAges: laid.
  DERIVED. THE GIVEN ROWS OF THIS SEAT. 4 by the template 'for every input the law returns true; each argument reads behind the call as it read before'; 0 by the template 'total and deterministic' (their statements: YtconcmobjkpkcaaDoorTotals.lean).
  GIVEN WITH THE SEED: the statements are not yours to turn. If you find one false, say at which input.
  Laid BY PROGRAM, IN A SANDBOX (cutbox-rows.mjs): the forced cells as the released guide's own fill.sh prints them over the translation 28954fe35b9621cd… (all of the seat's roots in one cut). By AI agents, Wed Nov 11 2026. No macro, syntax, notation, axiom, sorry.
-/
import Derived.Test.YtconcmobjkpkcaaDoorChecked
import GoSem.Claim
import GoSem.ClaimJoined
import GoSem.ClaimMapViews
import Derived.JoinedTies
import Derived.KernelRfl
namespace Go.Proofs.YtconcmobjkpkcaaDoor
/- THE CELL 'sum', in the pinned program and in every row, IS THE sha256 OF THE DUMP (.gsa) THAT YtconcmobjkpkcaaDoorProg.lean LOADS. Nothing in Lean hashes anything: it is a label: what it is worth is what the hold of that sum in a sandbox is worth. -/
noncomputable def Tryd.pinned : Pinned := { name := "ytconcmobjkpkcaadoor", sum := "28954fe35b9621cd9271febab8005c7efb4eaacad4399ebdfd282897f23781e0", checked := Tryd.checked }
namespace Rows
def none {H : Type} : Left H := { results := [], args := [] }

/- WHAT THE LISTED PACKAGE-LEVEL VARIABLES READ AS WHEN THE CALL BEGINS. Each datum BY PROGRAM (the guide's laid-datum.mjs) off the statement by which the dump's own 'gosem.cut.vars' lays the variable. In a bare row this is a premise. The card (YtconcmobjkpkcaaDoorCards.lean) ties it to the program's text. -/
def laid_flint_flintlaw05_example {H : Type} : DataW H := .agg [.lit (.int .i64 6), .lit (.int .i64 512)]

/-- 'flintlaw05.HeadClass': WHATEVER THE INPUT: true; the input reads as it did. -/
def headClassSpec : ChangeSpec := { name := "headClass", fn := fun _ => fun
  | [d1, d2, d3, d4] => { results := [.lit (.bool true)], args := [d1, d2, d3, d4] }
  | _ => none }
def headClassRow : OpenClaim := { program := "ytconcmobjkpkcaadoor", sum := "28954fe35b9621cd9271febab8005c7efb4eaacad4399ebdfd282897f23781e0", func := "flint/flintlaw05.HeadClass", spec := "headClass", unfollowed := true, recurses := true, named := ["flint/flintlaw05.example"], apart := false, laid := [("flint/flintlaw05.example", laid_flint_flintlaw05_example)] }
def HeadClassSaid : Prop := headClassRow.holds Tryd.pinned (OpenSpec.ofChange headClassSpec)

/-- ITS FALSE NEIGHBOUR: 'it returns false'. Refute it at one input. -/
def headClassWrong : ChangeSpec := { name := "headClass", fn := fun _ => fun
  | [d1, d2, d3, d4] => { results := [.lit (.bool false)], args := [d1, d2, d3, d4] }
  | _ => none }
def HeadClassWrongFalsely : Prop := headClassRow.holds Tryd.pinned (OpenSpec.ofChange headClassWrong)

/-- 'flintlaw05.HeadOf': WHATEVER THE INPUT: true; the input reads as it did. -/
def headOfSpec : ChangeSpec := { name := "headOf", fn := fun _ => fun
  | [d] => { results := [.lit (.bool true)], args := [d] }
  | _ => none }
def headOfRow : OpenClaim := { program := "ytconcmobjkpkcaadoor", sum := "28954fe35b9621cd9271febab8005c7efb4eaacad4399ebdfd282897f23781e0", func := "flint/flintlaw05.HeadOf", spec := "headOf", unfollowed := true, recurses := true, named := ["flint/flintlaw05.example"], apart := false, laid := [("flint/flintlaw05.example", laid_flint_flintlaw05_example)] }
def HeadOfSaid : Prop := headOfRow.holds Tryd.pinned (OpenSpec.ofChange headOfSpec)

/-- ITS FALSE NEIGHBOUR: 'it returns false'. Refute it at one input. -/
def headOfWrong : ChangeSpec := { name := "headOf", fn := fun _ => fun
  | [d] => { results := [.lit (.bool false)], args := [d] }
  | _ => none }
def HeadOfWrongFalsely : Prop := headOfRow.holds Tryd.pinned (OpenSpec.ofChange headOfWrong)

/-- 'flintlaw05.HeadLess': WHATEVER THE INPUT: true; the input reads as it did. -/
def headLessSpec : ChangeSpec := { name := "headLess", fn := fun _ => fun
  | [d1, d2, d3] => { results := [.lit (.bool true)], args := [d1, d2, d3] }
  | _ => none }
def headLessRow : OpenClaim := { program := "ytconcmobjkpkcaadoor", sum := "28954fe35b9621cd9271febab8005c7efb4eaacad4399ebdfd282897f23781e0", func := "flint/flintlaw05.HeadLess", spec := "headLess", unfollowed := true, recurses := true, named := ["flint/flintlaw05.example"], apart := false, laid := [("flint/flintlaw05.example", laid_flint_flintlaw05_example)] }
def HeadLessSaid : Prop := headLessRow.holds Tryd.pinned (OpenSpec.ofChange headLessSpec)

/-- ITS FALSE NEIGHBOUR: 'it returns false'. Refute it at one input. -/
def headLessWrong : ChangeSpec := { name := "headLess", fn := fun _ => fun
  | [d1, d2, d3] => { results := [.lit (.bool false)], args := [d1, d2, d3] }
  | _ => none }
def HeadLessWrongFalsely : Prop := headLessRow.holds Tryd.pinned (OpenSpec.ofChange headLessWrong)

/-- 'flintlaw05.HeadAges': WHATEVER THE INPUT: true; the input reads as it did. -/
def headAgesSpec : ChangeSpec := { name := "headAges", fn := fun _ => fun
  | [d] => { results := [.lit (.bool true)], args := [d] }
  | _ => none }
def headAgesRow : OpenClaim := { program := "ytconcmobjkpkcaadoor", sum := "28954fe35b9621cd9271febab8005c7efb4eaacad4399ebdfd282897f23781e0", func := "flint/flintlaw05.HeadAges", spec := "headAges", unfollowed := true, recurses := true, named := ["flint/flintlaw05.example"], apart := false, laid := [("flint/flintlaw05.example", laid_flint_flintlaw05_example)] }
def HeadAgesSaid : Prop := headAgesRow.holds Tryd.pinned (OpenSpec.ofChange headAgesSpec)

/-- ITS FALSE NEIGHBOUR: 'it returns false'. Refute it at one input. -/
def headAgesWrong : ChangeSpec := { name := "headAges", fn := fun _ => fun
  | [d] => { results := [.lit (.bool false)], args := [d] }
  | _ => none }
def HeadAgesWrongFalsely : Prop := headAgesRow.holds Tryd.pinned (OpenSpec.ofChange headAgesWrong)

/- THE SECOND FORM. 'bulk': how many values and letters a reading holds, each counted each time it is reached (what is shared counts as often as it is met; a slice's spare places count too). A statement '..UptoSaid' is the law's where the arguments, and the package variables that the reading takes, are together of bulk at most 1048576: NARROWER than '..Said'. Prove '..Said' where nothing that the law and all that it calls make is longer than what came in: it says more and counts as full. Else prove '..UptoSaid'. A law counts once. -/
mutual
def uptoBulk {H : Type} : DataW H → Nat
  | .lit (.string bytes) => bytes.length + 1
  | .lit _ => 1
  | .nil => 1
  | .ptr d => uptoBulk d + 1
  | .slice elems spare => uptoBulkAll elems + uptoBulkAll spare + 1
  | .agg parts => uptoBulkAll parts + 1
  | .iface _ d => uptoBulk d + 1
  | .map entries => uptoBulkEntries entries + 1
  | .held _ => 1
def uptoBulkAll {H : Type} : List (DataW H) → Nat
  | [] => 0
  | d :: r => uptoBulk d + uptoBulkAll r
def uptoBulkEntries {H : Type} : List (Lit × DataW H) → Nat
  | [] => 0
  | x :: r => uptoBulkEntry x + uptoBulkEntries r
def uptoBulkEntry {H : Type} : Lit × DataW H → Nat
  | (.string bytes, d) => bytes.length + uptoBulk d + 1
  | (_, d) => uptoBulk d + 1
 end
def uptoSmall : (H : Type) → List (DataW H) → Bool := fun _ ds => decide (uptoBulkAll ds ≤ 1048576)
def OpenSpec.upto (s : _root_.Go.ChangeSpec) : _root_.Go.OpenSpec := { _root_.Go.OpenSpec.ofChange s with cond := some uptoSmall }

/-- 'flintlaw05.HeadClass', WHERE WHAT IT READS IS OF BULK AT MOST 1048576: true; the input reads as it did. -/
def headClassUptoRow : OpenClaim := { program := "ytconcmobjkpkcaadoor", sum := "28954fe35b9621cd9271febab8005c7efb4eaacad4399ebdfd282897f23781e0", func := "flint/flintlaw05.HeadClass", spec := "headClass", unfollowed := true, recurses := true, named := ["flint/flintlaw05.example"], apart := false, laid := [("flint/flintlaw05.example", laid_flint_flintlaw05_example)], narrowed := true }
def HeadClassUptoSaid : Prop := headClassUptoRow.holds Tryd.pinned (OpenSpec.upto headClassSpec)

/-- 'flintlaw05.HeadOf', WHERE WHAT IT READS IS OF BULK AT MOST 1048576: true; the input reads as it did. -/
def headOfUptoRow : OpenClaim := { program := "ytconcmobjkpkcaadoor", sum := "28954fe35b9621cd9271febab8005c7efb4eaacad4399ebdfd282897f23781e0", func := "flint/flintlaw05.HeadOf", spec := "headOf", unfollowed := true, recurses := true, named := ["flint/flintlaw05.example"], apart := false, laid := [("flint/flintlaw05.example", laid_flint_flintlaw05_example)], narrowed := true }
def HeadOfUptoSaid : Prop := headOfUptoRow.holds Tryd.pinned (OpenSpec.upto headOfSpec)

/-- 'flintlaw05.HeadLess', WHERE WHAT IT READS IS OF BULK AT MOST 1048576: true; the input reads as it did. -/
def headLessUptoRow : OpenClaim := { program := "ytconcmobjkpkcaadoor", sum := "28954fe35b9621cd9271febab8005c7efb4eaacad4399ebdfd282897f23781e0", func := "flint/flintlaw05.HeadLess", spec := "headLess", unfollowed := true, recurses := true, named := ["flint/flintlaw05.example"], apart := false, laid := [("flint/flintlaw05.example", laid_flint_flintlaw05_example)], narrowed := true }
def HeadLessUptoSaid : Prop := headLessUptoRow.holds Tryd.pinned (OpenSpec.upto headLessSpec)

/-- 'flintlaw05.HeadAges', WHERE WHAT IT READS IS OF BULK AT MOST 1048576: true; the input reads as it did. -/
def headAgesUptoRow : OpenClaim := { program := "ytconcmobjkpkcaadoor", sum := "28954fe35b9621cd9271febab8005c7efb4eaacad4399ebdfd282897f23781e0", func := "flint/flintlaw05.HeadAges", spec := "headAges", unfollowed := true, recurses := true, named := ["flint/flintlaw05.example"], apart := false, laid := [("flint/flintlaw05.example", laid_flint_flintlaw05_example)], narrowed := true }
def HeadAgesUptoSaid : Prop := headAgesUptoRow.holds Tryd.pinned (OpenSpec.upto headAgesSpec)

end Rows
end Go.Proofs.YtconcmobjkpkcaaDoor
