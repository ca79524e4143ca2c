/-
  DERIVED. GIVEN WITH THE SEED: THE CARDS: each row of YtconcmobjkpkcaaDoorRows.lean that lists a variable, with what it lists TIED to the program's text (the seventh form; the later family's looks); each row that meets fmt, with fmt's text TOLD by the authors' own Lean function (tested against real Go, not proved from fmt's source: count such statements apart). THE CARD IS WHAT COUNTS. Prove the row's statement (the work); the ties are given (YtconcmobjkpkcaaDoorTie.lean); close each card by the builder's one call (the guide's Derived/Test/ToyasCard.lean, 'card_holds'). Laid BY PROGRAM, IN A SANDBOX (cutbox-door.mjs). By AI agents, Wed Nov 11 2026. No macro, syntax, notation, axiom, sorry.
-/
import Derived.Test.YtconcmobjkpkcaaDoorRows
import GoSem.ClaimSeven
namespace Go.Proofs.YtconcmobjkpkcaaDoor
namespace Rows

/-- THE TIED CARD OF 'flintlaw05.HeadClass'. -/
def headClassCard : Claim7 := { stood := { row := headClassRow, standIns := [], harness := (true, "e79b3d54f47f90568eec73aa9f3710510cf8c3ccb02a12671abcc974338432ca"), looks := false }, kinds := [], alts := [], laidByText := true, laidKinds := [.data], laidTests := true, laidLooks := .later }
def HeadClassCardSaid : Prop := Claim7.holds Tryd.pinned (.plain (OpenSpec.ofChange headClassSpec)) headClassCard

/-- THE TIED CARD OF 'flintlaw05.HeadOf'. -/
def headOfCard : Claim7 := { stood := { row := headOfRow, standIns := [], harness := (true, "e79b3d54f47f90568eec73aa9f3710510cf8c3ccb02a12671abcc974338432ca"), looks := false }, kinds := [], alts := [], laidByText := true, laidKinds := [.data], laidTests := true, laidLooks := .later }
def HeadOfCardSaid : Prop := Claim7.holds Tryd.pinned (.plain (OpenSpec.ofChange headOfSpec)) headOfCard

/-- THE TIED CARD OF 'flintlaw05.HeadLess'. -/
def headLessCard : Claim7 := { stood := { row := headLessRow, standIns := [], harness := (true, "e79b3d54f47f90568eec73aa9f3710510cf8c3ccb02a12671abcc974338432ca"), looks := false }, kinds := [], alts := [], laidByText := true, laidKinds := [.data], laidTests := true, laidLooks := .later }
def HeadLessCardSaid : Prop := Claim7.holds Tryd.pinned (.plain (OpenSpec.ofChange headLessSpec)) headLessCard

/-- THE TIED CARD OF 'flintlaw05.HeadAges'. -/
def headAgesCard : Claim7 := { stood := { row := headAgesRow, standIns := [], harness := (true, "e79b3d54f47f90568eec73aa9f3710510cf8c3ccb02a12671abcc974338432ca"), looks := false }, kinds := [], alts := [], laidByText := true, laidKinds := [.data], laidTests := true, laidLooks := .later }
def HeadAgesCardSaid : Prop := Claim7.holds Tryd.pinned (.plain (OpenSpec.ofChange headAgesSpec)) headAgesCard

/-- THE SECOND FORM's CARD OF 'flintlaw05.HeadClass'. -/
def headClassUptoCard : Claim7 := { stood := { row := headClassUptoRow, standIns := [], harness := (true, "e79b3d54f47f90568eec73aa9f3710510cf8c3ccb02a12671abcc974338432ca"), looks := false }, kinds := [], alts := [], laidByText := true, laidKinds := [.data], laidTests := true, laidLooks := .later }
def HeadClassUptoCardSaid : Prop := Claim7.holds Tryd.pinned (.plain (OpenSpec.upto headClassSpec)) headClassUptoCard

/-- THE SECOND FORM's CARD OF 'flintlaw05.HeadOf'. -/
def headOfUptoCard : Claim7 := { stood := { row := headOfUptoRow, standIns := [], harness := (true, "e79b3d54f47f90568eec73aa9f3710510cf8c3ccb02a12671abcc974338432ca"), looks := false }, kinds := [], alts := [], laidByText := true, laidKinds := [.data], laidTests := true, laidLooks := .later }
def HeadOfUptoCardSaid : Prop := Claim7.holds Tryd.pinned (.plain (OpenSpec.upto headOfSpec)) headOfUptoCard

/-- THE SECOND FORM's CARD OF 'flintlaw05.HeadLess'. -/
def headLessUptoCard : Claim7 := { stood := { row := headLessUptoRow, standIns := [], harness := (true, "e79b3d54f47f90568eec73aa9f3710510cf8c3ccb02a12671abcc974338432ca"), looks := false }, kinds := [], alts := [], laidByText := true, laidKinds := [.data], laidTests := true, laidLooks := .later }
def HeadLessUptoCardSaid : Prop := Claim7.holds Tryd.pinned (.plain (OpenSpec.upto headLessSpec)) headLessUptoCard

/-- THE SECOND FORM's CARD OF 'flintlaw05.HeadAges'. -/
def headAgesUptoCard : Claim7 := { stood := { row := headAgesUptoRow, standIns := [], harness := (true, "e79b3d54f47f90568eec73aa9f3710510cf8c3ccb02a12671abcc974338432ca"), looks := false }, kinds := [], alts := [], laidByText := true, laidKinds := [.data], laidTests := true, laidLooks := .later }
def HeadAgesUptoCardSaid : Prop := Claim7.holds Tryd.pinned (.plain (OpenSpec.upto headAgesSpec)) headAgesUptoCard
end Rows
end Go.Proofs.YtconcmobjkpkcaaDoor
