/-
  DERIVED. GIVEN WITH THE SEED: THE CARDS: each row of YtopbicbgolcmpaaDoorRows.lean that lists a variable, with what it lists TIED to the program's text (the seventh form; the later family's looks); each row that meets fmt, with fmt's text TOLD by the authors' own Lean function (tested against real Go, not proved from fmt's source: count such statements apart). THE CARD IS WHAT COUNTS. Prove the row's statement (the work); the ties are given (YtopbicbgolcmpaaDoorTie.lean); close each card by the builder's one call (the guide's Derived/Test/ToyasCard.lean, 'card_holds'). Laid BY PROGRAM, IN A SANDBOX (cutbox-door.mjs). By AI agents, Wed Nov 11 2026. No macro, syntax, notation, axiom, sorry.
-/
import Derived.Test.YtopbicbgolcmpaaDoorRows
import GoSem.ClaimSeven
namespace Go.Proofs.YtopbicbgolcmpaaDoor
namespace Rows

/-- THE TIED CARD OF 'rollbacknetlaw02.SyntaxGroups'. -/
def syntaxGroupsCard : Claim7 := { stood := { row := syntaxGroupsRow, standIns := [], harness := (true, "ca8dde549624410b4806fb1481057da87c046412ecf1625e421f69b2e981caac"), looks := true }, kinds := [], alts := [], laidByText := true, laidKinds := [.data, .data, .data, .sentinel, .sentinel], laidTests := true, laidLooks := .later }
def SyntaxGroupsCardSaid : Prop := Claim7.holds Tryd.pinned (.plain (OpenSpec.ofChange syntaxGroupsSpec)) syntaxGroupsCard

/-- THE TIED CARD OF 'rollbacknetlaw02.SyntaxDeep'. -/
def syntaxDeepCard : Claim7 := { stood := { row := syntaxDeepRow, standIns := [], harness := (true, "ca8dde549624410b4806fb1481057da87c046412ecf1625e421f69b2e981caac"), looks := true }, kinds := [], alts := [], laidByText := true, laidKinds := [.data, .data, .data, .sentinel, .sentinel], laidTests := true, laidLooks := .later }
def SyntaxDeepCardSaid : Prop := Claim7.holds Tryd.pinned (.plain (OpenSpec.ofChange syntaxDeepSpec)) syntaxDeepCard

/-- THE TIED CARD OF 'rollbacknetlaw02.SyntaxBack'. -/
def syntaxBackCard : Claim7 := { stood := { row := syntaxBackRow, standIns := [], harness := (true, "ca8dde549624410b4806fb1481057da87c046412ecf1625e421f69b2e981caac"), looks := true }, kinds := [], alts := [], laidByText := true, laidKinds := [.data, .data, .data, .sentinel, .sentinel, .data, .data], laidTests := true, laidLooks := .later }
def SyntaxBackCardSaid : Prop := Claim7.holds Tryd.pinned (.plain (OpenSpec.ofChange syntaxBackSpec)) syntaxBackCard

/-- THE TIED CARD OF 'rollbacknetlaw02.SyntaxHandlers'. -/
def syntaxHandlersCard : Claim7 := { stood := { row := syntaxHandlersRow, standIns := [], harness := (true, "ca8dde549624410b4806fb1481057da87c046412ecf1625e421f69b2e981caac"), looks := true }, kinds := [], alts := [], laidByText := true, laidKinds := [.data, .data, .data, .sentinel, .sentinel, .data, .data], laidTests := true, laidLooks := .later }
def SyntaxHandlersCardSaid : Prop := Claim7.holds Tryd.pinned (.plain (OpenSpec.ofChange syntaxHandlersSpec)) syntaxHandlersCard

/-- THE SECOND FORM's CARD OF 'rollbacknetlaw02.SyntaxGroups'. -/
def syntaxGroupsUptoCard : Claim7 := { stood := { row := syntaxGroupsUptoRow, standIns := [], harness := (true, "ca8dde549624410b4806fb1481057da87c046412ecf1625e421f69b2e981caac"), looks := true }, kinds := [], alts := [], laidByText := true, laidKinds := [.data, .data, .data, .sentinel, .sentinel], laidTests := true, laidLooks := .later }
def SyntaxGroupsUptoCardSaid : Prop := Claim7.holds Tryd.pinned (.plain (OpenSpec.upto syntaxGroupsSpec)) syntaxGroupsUptoCard

/-- THE SECOND FORM's CARD OF 'rollbacknetlaw02.SyntaxDeep'. -/
def syntaxDeepUptoCard : Claim7 := { stood := { row := syntaxDeepUptoRow, standIns := [], harness := (true, "ca8dde549624410b4806fb1481057da87c046412ecf1625e421f69b2e981caac"), looks := true }, kinds := [], alts := [], laidByText := true, laidKinds := [.data, .data, .data, .sentinel, .sentinel], laidTests := true, laidLooks := .later }
def SyntaxDeepUptoCardSaid : Prop := Claim7.holds Tryd.pinned (.plain (OpenSpec.upto syntaxDeepSpec)) syntaxDeepUptoCard

/-- THE SECOND FORM's CARD OF 'rollbacknetlaw02.SyntaxBack'. -/
def syntaxBackUptoCard : Claim7 := { stood := { row := syntaxBackUptoRow, standIns := [], harness := (true, "ca8dde549624410b4806fb1481057da87c046412ecf1625e421f69b2e981caac"), looks := true }, kinds := [], alts := [], laidByText := true, laidKinds := [.data, .data, .data, .sentinel, .sentinel, .data, .data], laidTests := true, laidLooks := .later }
def SyntaxBackUptoCardSaid : Prop := Claim7.holds Tryd.pinned (.plain (OpenSpec.upto syntaxBackSpec)) syntaxBackUptoCard

/-- THE SECOND FORM's CARD OF 'rollbacknetlaw02.SyntaxHandlers'. -/
def syntaxHandlersUptoCard : Claim7 := { stood := { row := syntaxHandlersUptoRow, standIns := [], harness := (true, "ca8dde549624410b4806fb1481057da87c046412ecf1625e421f69b2e981caac"), looks := true }, kinds := [], alts := [], laidByText := true, laidKinds := [.data, .data, .data, .sentinel, .sentinel, .data, .data], laidTests := true, laidLooks := .later }
def SyntaxHandlersUptoCardSaid : Prop := Claim7.holds Tryd.pinned (.plain (OpenSpec.upto syntaxHandlersSpec)) syntaxHandlersUptoCard
end Rows
end Go.Proofs.YtopbicbgolcmpaaDoor
