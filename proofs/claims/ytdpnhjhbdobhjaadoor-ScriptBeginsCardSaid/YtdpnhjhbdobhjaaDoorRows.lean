/-
  NARROWER THAN 'FOR EVERY INPUT', by the rows' own cells (each row's printed sentence says how): ScriptActs: laid · ScriptBegins: laid.
  DERIVED. THE GIVEN ROWS OF THIS SEAT. 2 by the template 'for every input the law returns true; each argument reads behind the call as it read before'; 0 by the template 'total and deterministic' (their statements: YtdpnhjhbdobhjaaDoorTotals.lean).
  GIVEN WITH THE SEED: the statements are not yours to turn. If you find one false, say at which input.
  Laid BY PROGRAM, IN A SANDBOX (cutbox-rows.mjs): the forced cells as the released guide's own fill.sh prints them over the translation bb2ecee55b287e86… (all of the seat's roots in one cut). By AI agents, Wed Nov 11 2026. No macro, syntax, notation, axiom, sorry.
-/
import Derived.Test.YtdpnhjhbdobhjaaDoorChecked
import GoSem.Claim
import GoSem.ClaimJoined
import GoSem.ClaimMapViews
import Derived.JoinedTies
import Derived.KernelRfl
namespace Go.Proofs.YtdpnhjhbdobhjaaDoor
/- THE CELL 'sum', in the pinned program and in every row, IS THE sha256 OF THE DUMP (.gsa) THAT YtdpnhjhbdobhjaaDoorProg.lean LOADS. Nothing in Lean hashes anything: it is a label: what it is worth is what the hold of that sum in a sandbox is worth. -/
noncomputable def Tryd.pinned : Pinned := { name := "ytdpnhjhbdobhjaadoor", sum := "bb2ecee55b287e86ace89e83ebdc5394e9eec4be715d2d0fae6026f2d6de5859", checked := Tryd.checked }
namespace Rows
def none {H : Type} : Left H := { results := [], args := [] }

/- WHAT THE LISTED PACKAGE-LEVEL VARIABLES READ AS WHEN THE CALL BEGINS. Each datum BY PROGRAM (the guide's laid-datum.mjs) off the statement by which the dump's own 'gosem.cut.vars' lays the variable. In a bare row this is a premise. The card (YtdpnhjhbdobhjaaDoorCards.lean) ties it to the program's text. -/
def laid_flint_script_kinds {H : Type} : DataW H := .agg [.lit (.int .u8 1), .lit (.int .u8 1), .lit (.int .u8 1), .lit (.int .u8 2), .lit (.int .u8 2), .lit (.int .u8 2), .lit (.int .u8 2), .lit (.int .u8 3), .lit (.int .u8 4), .lit (.int .u8 4), .lit (.int .u8 4), .lit (.int .u8 4), .lit (.int .u8 5), .lit (.int .u8 5), .lit (.int .u8 6), .lit (.int .u8 6), .lit (.int .u8 6), .lit (.int .u8 7), .lit (.int .u8 8), .lit (.int .u8 8), .lit (.int .u8 9), .lit (.int .u8 9), .lit (.int .u8 9), .lit (.int .u8 9), .lit (.int .u8 10), .lit (.int .u8 11), .lit (.int .u8 12), .lit (.int .u8 13), .lit (.int .u8 14), .lit (.int .u8 15), .lit (.int .u8 16), .lit (.int .u8 0)]
def laid_flint_script_fates {H : Type} : DataW H := .agg [.lit (.int .u8 2), .lit (.int .u8 2), .lit (.int .u8 2), .lit (.int .u8 2), .lit (.int .u8 3), .lit (.int .u8 4), .lit (.int .u8 4), .lit (.int .u8 5)]

/-- 'flintlaw25.ScriptActs': WHATEVER THE INPUT: true; the input reads as it did. -/
def scriptActsSpec : ChangeSpec := { name := "scriptActs", fn := fun _ => fun
  | [d] => { results := [.lit (.bool true)], args := [d] }
  | _ => none }
def scriptActsRow : OpenClaim := { program := "ytdpnhjhbdobhjaadoor", sum := "bb2ecee55b287e86ace89e83ebdc5394e9eec4be715d2d0fae6026f2d6de5859", func := "flint/flintlaw25.ScriptActs", spec := "scriptActs", named := ["flint/script.kinds", "flint/script.fates"], apart := false, laid := [("flint/script.kinds", laid_flint_script_kinds), ("flint/script.fates", laid_flint_script_fates)] }
def ScriptActsSaid : Prop := scriptActsRow.holds Tryd.pinned (OpenSpec.ofChange scriptActsSpec)

/-- ITS FALSE NEIGHBOUR: 'it returns false'. Refute it at one input. -/
def scriptActsWrong : ChangeSpec := { name := "scriptActs", fn := fun _ => fun
  | [d] => { results := [.lit (.bool false)], args := [d] }
  | _ => none }
def ScriptActsWrongFalsely : Prop := scriptActsRow.holds Tryd.pinned (OpenSpec.ofChange scriptActsWrong)

/-- 'flintlaw25.ScriptBegins': WHATEVER THE INPUT: true; the input reads as it did. -/
def scriptBeginsSpec : ChangeSpec := { name := "scriptBegins", fn := fun _ => fun
  | [d1, d2] => { results := [.lit (.bool true)], args := [d1, d2] }
  | _ => none }
def scriptBeginsRow : OpenClaim := { program := "ytdpnhjhbdobhjaadoor", sum := "bb2ecee55b287e86ace89e83ebdc5394e9eec4be715d2d0fae6026f2d6de5859", func := "flint/flintlaw25.ScriptBegins", spec := "scriptBegins", named := ["flint/script.kinds", "flint/script.fates"], apart := false, laid := [("flint/script.kinds", laid_flint_script_kinds), ("flint/script.fates", laid_flint_script_fates)] }
def ScriptBeginsSaid : Prop := scriptBeginsRow.holds Tryd.pinned (OpenSpec.ofChange scriptBeginsSpec)

/-- ITS FALSE NEIGHBOUR: 'it returns false'. Refute it at one input. -/
def scriptBeginsWrong : ChangeSpec := { name := "scriptBegins", fn := fun _ => fun
  | [d1, d2] => { results := [.lit (.bool false)], args := [d1, d2] }
  | _ => none }
def ScriptBeginsWrongFalsely : Prop := scriptBeginsRow.holds Tryd.pinned (OpenSpec.ofChange scriptBeginsWrong)

/- THE SECOND FORM. 'bulk': how many values and letters a reading holds, each counted each time it is reached (what is shared counts as often as it is met; a slice's spare places count too). A statement '..UptoSaid' is the law's where the arguments, and the package variables that the reading takes, are together of bulk at most 1048576: NARROWER than '..Said'. Prove '..Said' where nothing that the law and all that it calls make is longer than what came in: it says more and counts as full. Else prove '..UptoSaid'. A law counts once. -/
mutual
def uptoBulk {H : Type} : DataW H → Nat
  | .lit (.string bytes) => bytes.length + 1
  | .lit _ => 1
  | .nil => 1
  | .ptr d => uptoBulk d + 1
  | .slice elems spare => uptoBulkAll elems + uptoBulkAll spare + 1
  | .agg parts => uptoBulkAll parts + 1
  | .iface _ d => uptoBulk d + 1
  | .map entries => uptoBulkEntries entries + 1
  | .held _ => 1
def uptoBulkAll {H : Type} : List (DataW H) → Nat
  | [] => 0
  | d :: r => uptoBulk d + uptoBulkAll r
def uptoBulkEntries {H : Type} : List (Lit × DataW H) → Nat
  | [] => 0
  | x :: r => uptoBulkEntry x + uptoBulkEntries r
def uptoBulkEntry {H : Type} : Lit × DataW H → Nat
  | (.string bytes, d) => bytes.length + uptoBulk d + 1
  | (_, d) => uptoBulk d + 1
 end
def uptoSmall : (H : Type) → List (DataW H) → Bool := fun _ ds => decide (uptoBulkAll ds ≤ 1048576)
def OpenSpec.upto (s : _root_.Go.ChangeSpec) : _root_.Go.OpenSpec := { _root_.Go.OpenSpec.ofChange s with cond := some uptoSmall }

/-- 'flintlaw25.ScriptActs', WHERE WHAT IT READS IS OF BULK AT MOST 1048576: true; the input reads as it did. -/
def scriptActsUptoRow : OpenClaim := { program := "ytdpnhjhbdobhjaadoor", sum := "bb2ecee55b287e86ace89e83ebdc5394e9eec4be715d2d0fae6026f2d6de5859", func := "flint/flintlaw25.ScriptActs", spec := "scriptActs", named := ["flint/script.kinds", "flint/script.fates"], apart := false, laid := [("flint/script.kinds", laid_flint_script_kinds), ("flint/script.fates", laid_flint_script_fates)], narrowed := true }
def ScriptActsUptoSaid : Prop := scriptActsUptoRow.holds Tryd.pinned (OpenSpec.upto scriptActsSpec)

/-- 'flintlaw25.ScriptBegins', WHERE WHAT IT READS IS OF BULK AT MOST 1048576: true; the input reads as it did. -/
def scriptBeginsUptoRow : OpenClaim := { program := "ytdpnhjhbdobhjaadoor", sum := "bb2ecee55b287e86ace89e83ebdc5394e9eec4be715d2d0fae6026f2d6de5859", func := "flint/flintlaw25.ScriptBegins", spec := "scriptBegins", named := ["flint/script.kinds", "flint/script.fates"], apart := false, laid := [("flint/script.kinds", laid_flint_script_kinds), ("flint/script.fates", laid_flint_script_fates)], narrowed := true }
def ScriptBeginsUptoSaid : Prop := scriptBeginsUptoRow.holds Tryd.pinned (OpenSpec.upto scriptBeginsSpec)

end Rows
end Go.Proofs.YtdpnhjhbdobhjaaDoor
