/-
  DERIVED. GIVEN WITH THE SEED: THE CARDS: each row of YtklclcenfjecpaaDoorRows.lean that lists a variable, with what it lists TIED to the program's text (the seventh form; the later family's looks); each row that meets fmt, with fmt's text TOLD by the authors' own Lean function (tested against real Go, not proved from fmt's source: count such statements apart). THE CARD IS WHAT COUNTS. Prove the row's statement (the work); the ties are given (YtklclcenfjecpaaDoorTie.lean); close each card by the builder's one call (the guide's Derived/Test/ToyasCard.lean, 'card_holds'). Laid BY PROGRAM, IN A SANDBOX (cutbox-door.mjs). By AI agents, Wed Nov 11 2026. No macro, syntax, notation, axiom, sorry.
-/
import Derived.Test.YtklclcenfjecpaaDoorRows
import GoSem.ClaimSeven
namespace Go.Proofs.YtklclcenfjecpaaDoor
namespace Rows

/-- THE TIED CARD OF 'grapnellaw01.WordDigits'. -/
def wordDigitsCard : Claim7 := { stood := { row := wordDigitsRow, standIns := [], harness := (true, "3f30cfc683ac6045f8f021d3222fff7bdf0182b06c4b7c60afeeeeb858ec36c5"), looks := true }, kinds := [], alts := [], laidByText := true, laidKinds := [.data, .data, .data], laidTests := true, laidLooks := .later }
def WordDigitsCardSaid : Prop := Claim7.holds Tryd.pinned (.plain (OpenSpec.ofChange wordDigitsSpec)) wordDigitsCard

/-- THE TIED CARD OF 'grapnellaw01.WordParses'. -/
def wordParsesCard : Claim7 := { stood := { row := wordParsesRow, standIns := [], harness := (true, "3f30cfc683ac6045f8f021d3222fff7bdf0182b06c4b7c60afeeeeb858ec36c5"), looks := true }, kinds := [], alts := [], laidByText := true, laidKinds := [.data, .data, .data, .data, .sentinel, .sentinel, .pinned], laidTests := true, laidLooks := .later }
def WordParsesCardSaid : Prop := Claim7.holds Tryd.pinned (.plain (OpenSpec.ofChange wordParsesSpec)) wordParsesCard

/-- THE TIED CARD OF 'grapnellaw01.WordBack'. -/
def wordBackCard : Claim7 := { stood := { row := wordBackRow, standIns := [], harness := (true, "3f30cfc683ac6045f8f021d3222fff7bdf0182b06c4b7c60afeeeeb858ec36c5"), looks := true }, kinds := [], alts := [], laidByText := true, laidKinds := [.data, .data, .data, .data, .sentinel, .sentinel, .pinned], laidTests := true, laidLooks := .later }
def WordBackCardSaid : Prop := Claim7.holds Tryd.pinned (.plain (OpenSpec.ofChange wordBackSpec)) wordBackCard

/-- THE SECOND FORM's CARD OF 'grapnellaw01.WordDigits'. -/
def wordDigitsUptoCard : Claim7 := { stood := { row := wordDigitsUptoRow, standIns := [], harness := (true, "3f30cfc683ac6045f8f021d3222fff7bdf0182b06c4b7c60afeeeeb858ec36c5"), looks := true }, kinds := [], alts := [], laidByText := true, laidKinds := [.data, .data, .data], laidTests := true, laidLooks := .later }
def WordDigitsUptoCardSaid : Prop := Claim7.holds Tryd.pinned (.plain (OpenSpec.upto wordDigitsSpec)) wordDigitsUptoCard

/-- THE SECOND FORM's CARD OF 'grapnellaw01.WordParses'. -/
def wordParsesUptoCard : Claim7 := { stood := { row := wordParsesUptoRow, standIns := [], harness := (true, "3f30cfc683ac6045f8f021d3222fff7bdf0182b06c4b7c60afeeeeb858ec36c5"), looks := true }, kinds := [], alts := [], laidByText := true, laidKinds := [.data, .data, .data, .data, .sentinel, .sentinel, .pinned], laidTests := true, laidLooks := .later }
def WordParsesUptoCardSaid : Prop := Claim7.holds Tryd.pinned (.plain (OpenSpec.upto wordParsesSpec)) wordParsesUptoCard

/-- THE SECOND FORM's CARD OF 'grapnellaw01.WordBack'. -/
def wordBackUptoCard : Claim7 := { stood := { row := wordBackUptoRow, standIns := [], harness := (true, "3f30cfc683ac6045f8f021d3222fff7bdf0182b06c4b7c60afeeeeb858ec36c5"), looks := true }, kinds := [], alts := [], laidByText := true, laidKinds := [.data, .data, .data, .data, .sentinel, .sentinel, .pinned], laidTests := true, laidLooks := .later }
def WordBackUptoCardSaid : Prop := Claim7.holds Tryd.pinned (.plain (OpenSpec.upto wordBackSpec)) wordBackUptoCard
end Rows
end Go.Proofs.YtklclcenfjecpaaDoor
