/-
  DERIVED. GIVEN WITH THE SEED: THE CARDS: each row of YtopbicbgolcmpaaGreatDoorRows.lean that lists a variable, with what it lists TIED to the program's text (the seventh form; the later family's looks); each row that meets fmt, with fmt's text TOLD by the authors' own Lean function (tested against real Go, not proved from fmt's source: count such statements apart). THE CARD IS WHAT COUNTS. Prove the row's statement (the work); the ties are given (YtopbicbgolcmpaaGreatDoorTie.lean); close each card by the builder's one call (the guide's Derived/Test/ToyasCard.lean, 'card_holds'). Laid BY PROGRAM, IN A SANDBOX (cutbox-door.mjs). By AI agents, Wed Nov 11 2026. No macro, syntax, notation, axiom, sorry.
-/
import Derived.Test.YtopbicbgolcmpaaGreatDoorRows
import GoSem.ClaimSeven
namespace Go.Proofs.YtopbicbgolcmpaaGreatDoor
namespace Rows

/-- THE TIED CARD OF 'rollbacknetlaw02.SyntaxParses'. -/
def syntaxParsesCard : Claim7 := { stood := { row := syntaxParsesRow, standIns := [], harness := (true, "f815796a806db4922f3695d53be111d7b35ab9d9a5835037962b4383fdbfdb0c"), looks := true }, kinds := [], alts := [], laidByText := true, laidKinds := [.data, .data, .data, .sentinel, .sentinel], laidTests := true, laidLooks := .later }
def SyntaxParsesCardSaid : Prop := Claim7.holds Tryz.pinned (.plain (OpenSpec.ofChange syntaxParsesSpec)) syntaxParsesCard

/-- THE TIED CARD OF 'rollbacknetlaw02.SyntaxSpoilt'. -/
def syntaxSpoiltCard : Claim7 := { stood := { row := syntaxSpoiltRow, standIns := [], harness := (true, "f815796a806db4922f3695d53be111d7b35ab9d9a5835037962b4383fdbfdb0c"), looks := true }, kinds := [], alts := [], laidByText := true, laidKinds := [.data, .data, .data, .sentinel, .sentinel, .data, .data], laidTests := true, laidLooks := .later }
def SyntaxSpoiltCardSaid : Prop := Claim7.holds Tryz.pinned (.plain (OpenSpec.ofChange syntaxSpoiltSpec)) syntaxSpoiltCard

/-- THE TIED CARD OF 'rollbacknetlaw02.SyntaxFormats'. -/
def syntaxFormatsCard : Claim7 := { stood := { row := syntaxFormatsRow, standIns := [], harness := (true, "f815796a806db4922f3695d53be111d7b35ab9d9a5835037962b4383fdbfdb0c"), looks := true }, kinds := [], alts := [], laidByText := true, laidKinds := [.data, .data, .data, .sentinel, .sentinel, .data, .data], laidTests := true, laidLooks := .later }
def SyntaxFormatsCardSaid : Prop := Claim7.holds Tryz.pinned (.plain (OpenSpec.ofChange syntaxFormatsSpec)) syntaxFormatsCard

/-- THE SECOND FORM's CARD OF 'rollbacknetlaw02.SyntaxParses'. -/
def syntaxParsesUptoCard : Claim7 := { stood := { row := syntaxParsesUptoRow, standIns := [], harness := (true, "f815796a806db4922f3695d53be111d7b35ab9d9a5835037962b4383fdbfdb0c"), looks := true }, kinds := [], alts := [], laidByText := true, laidKinds := [.data, .data, .data, .sentinel, .sentinel], laidTests := true, laidLooks := .later }
def SyntaxParsesUptoCardSaid : Prop := Claim7.holds Tryz.pinned (.plain (OpenSpec.upto syntaxParsesSpec)) syntaxParsesUptoCard

/-- THE SECOND FORM's CARD OF 'rollbacknetlaw02.SyntaxSpoilt'. -/
def syntaxSpoiltUptoCard : Claim7 := { stood := { row := syntaxSpoiltUptoRow, standIns := [], harness := (true, "f815796a806db4922f3695d53be111d7b35ab9d9a5835037962b4383fdbfdb0c"), looks := true }, kinds := [], alts := [], laidByText := true, laidKinds := [.data, .data, .data, .sentinel, .sentinel, .data, .data], laidTests := true, laidLooks := .later }
def SyntaxSpoiltUptoCardSaid : Prop := Claim7.holds Tryz.pinned (.plain (OpenSpec.upto syntaxSpoiltSpec)) syntaxSpoiltUptoCard

/-- THE SECOND FORM's CARD OF 'rollbacknetlaw02.SyntaxFormats'. -/
def syntaxFormatsUptoCard : Claim7 := { stood := { row := syntaxFormatsUptoRow, standIns := [], harness := (true, "f815796a806db4922f3695d53be111d7b35ab9d9a5835037962b4383fdbfdb0c"), looks := true }, kinds := [], alts := [], laidByText := true, laidKinds := [.data, .data, .data, .sentinel, .sentinel, .data, .data], laidTests := true, laidLooks := .later }
def SyntaxFormatsUptoCardSaid : Prop := Claim7.holds Tryz.pinned (.plain (OpenSpec.upto syntaxFormatsSpec)) syntaxFormatsUptoCard
end Rows
end Go.Proofs.YtopbicbgolcmpaaGreatDoor
