/-
  DERIVED. GIVEN WITH THE SEED: THE CARDS: each row of YtdpnhjhbdobhjaaDoorRows.lean that lists a variable, with what it lists TIED to the program's text (the seventh form; the later family's looks); each row that meets fmt, with fmt's text TOLD by the authors' own Lean function (tested against real Go, not proved from fmt's source: count such statements apart). THE CARD IS WHAT COUNTS. Prove the row's statement (the work); the ties are given (YtdpnhjhbdobhjaaDoorTie.lean); close each card by the builder's one call (the guide's Derived/Test/ToyasCard.lean, 'card_holds'). Laid BY PROGRAM, IN A SANDBOX (cutbox-door.mjs). By AI agents, Wed Nov 11 2026. No macro, syntax, notation, axiom, sorry.
-/
import Derived.Test.YtdpnhjhbdobhjaaDoorRows
import GoSem.ClaimSeven
namespace Go.Proofs.YtdpnhjhbdobhjaaDoor
namespace Rows

/-- THE TIED CARD OF 'flintlaw25.ScriptActs'. -/
def scriptActsCard : Claim7 := { stood := { row := scriptActsRow, standIns := [], harness := (true, "16437025587aad51bd8075ee48a0e1aad78dece4e82d7527af6123f0dd03a04d"), looks := false }, kinds := [], alts := [], laidByText := true, laidKinds := [.data, .data], laidTests := true, laidLooks := .later }
def ScriptActsCardSaid : Prop := Claim7.holds Tryd.pinned (.plain (OpenSpec.ofChange scriptActsSpec)) scriptActsCard

/-- THE TIED CARD OF 'flintlaw25.ScriptBegins'. -/
def scriptBeginsCard : Claim7 := { stood := { row := scriptBeginsRow, standIns := [], harness := (true, "16437025587aad51bd8075ee48a0e1aad78dece4e82d7527af6123f0dd03a04d"), looks := false }, kinds := [], alts := [], laidByText := true, laidKinds := [.data, .data], laidTests := true, laidLooks := .later }
def ScriptBeginsCardSaid : Prop := Claim7.holds Tryd.pinned (.plain (OpenSpec.ofChange scriptBeginsSpec)) scriptBeginsCard

/-- THE SECOND FORM's CARD OF 'flintlaw25.ScriptActs'. -/
def scriptActsUptoCard : Claim7 := { stood := { row := scriptActsUptoRow, standIns := [], harness := (true, "16437025587aad51bd8075ee48a0e1aad78dece4e82d7527af6123f0dd03a04d"), looks := false }, kinds := [], alts := [], laidByText := true, laidKinds := [.data, .data], laidTests := true, laidLooks := .later }
def ScriptActsUptoCardSaid : Prop := Claim7.holds Tryd.pinned (.plain (OpenSpec.upto scriptActsSpec)) scriptActsUptoCard

/-- THE SECOND FORM's CARD OF 'flintlaw25.ScriptBegins'. -/
def scriptBeginsUptoCard : Claim7 := { stood := { row := scriptBeginsUptoRow, standIns := [], harness := (true, "16437025587aad51bd8075ee48a0e1aad78dece4e82d7527af6123f0dd03a04d"), looks := false }, kinds := [], alts := [], laidByText := true, laidKinds := [.data, .data], laidTests := true, laidLooks := .later }
def ScriptBeginsUptoCardSaid : Prop := Claim7.holds Tryd.pinned (.plain (OpenSpec.upto scriptBeginsSpec)) scriptBeginsUptoCard
end Rows
end Go.Proofs.YtdpnhjhbdobhjaaDoor
