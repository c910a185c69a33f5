/-
  DERIVED. GIVEN WITH THE SEED: THE CARDS: each row of YtdhllkbcheokfaaDoorRows.lean that lists a variable, with what it lists TIED to the program's text (the seventh form; the later family's looks); each row that meets fmt, with fmt's text TOLD by the authors' own Lean function (tested against real Go, not proved from fmt's source: count such statements apart). THE CARD IS WHAT COUNTS. Prove the row's statement (the work); the ties are given (YtdhllkbcheokfaaDoorTie.lean); close each card by the builder's one call (the guide's Derived/Test/ToyasCard.lean, 'card_holds'). Laid BY PROGRAM, IN A SANDBOX (cutbox-door.mjs). By AI agents, Wed Nov 11 2026. No macro, syntax, notation, axiom, sorry.
-/
import Derived.Test.YtdhllkbcheokfaaDoorRows
import GoSem.ClaimSeven
namespace Go.Proofs.YtdhllkbcheokfaaDoor
namespace Rows

/-- THE TIED CARD OF 'rootcauselaw05.LexerTokens'. -/
def lexerTokensCard : Claim7 := { stood := { row := lexerTokensRow, standIns := [], harness := (true, "c735ac00475baab4d8766cc4f1fbc284c0f3d5bb6903373441703dc79d63ea9e"), looks := false }, kinds := [], alts := [], laidByText := true, laidKinds := [.data, .data], laidTests := true, laidLooks := .later }
def LexerTokensCardSaid : Prop := Claim7.holds Tryd.pinned (.plain (OpenSpec.ofChange lexerTokensSpec)) lexerTokensCard

/-- THE TIED CARD OF 'rootcauselaw05.LexerLeaves'. -/
def lexerLeavesCard : Claim7 := { stood := { row := lexerLeavesRow, standIns := [], harness := (true, "c735ac00475baab4d8766cc4f1fbc284c0f3d5bb6903373441703dc79d63ea9e"), looks := false }, kinds := [], alts := [], laidByText := true, laidKinds := [.data, .data], laidTests := true, laidLooks := .later }
def LexerLeavesCardSaid : Prop := Claim7.holds Tryd.pinned (.plain (OpenSpec.ofChange lexerLeavesSpec)) lexerLeavesCard

/-- THE TIED CARD OF 'rootcauselaw05.LexerLines'. -/
def lexerLinesCard : Claim7 := { stood := { row := lexerLinesRow, standIns := [], harness := (true, "c735ac00475baab4d8766cc4f1fbc284c0f3d5bb6903373441703dc79d63ea9e"), looks := false }, kinds := [], alts := [], laidByText := true, laidKinds := [.data, .data], laidTests := true, laidLooks := .later }
def LexerLinesCardSaid : Prop := Claim7.holds Tryd.pinned (.plain (OpenSpec.ofChange lexerLinesSpec)) lexerLinesCard

/-- THE TIED CARD OF 'rootcauselaw05.LexerCovers'. -/
def lexerCoversCard : Claim7 := { stood := { row := lexerCoversRow, standIns := [], harness := (true, "c735ac00475baab4d8766cc4f1fbc284c0f3d5bb6903373441703dc79d63ea9e"), looks := false }, kinds := [], alts := [], laidByText := true, laidKinds := [.data, .data], laidTests := true, laidLooks := .later }
def LexerCoversCardSaid : Prop := Claim7.holds Tryd.pinned (.plain (OpenSpec.ofChange lexerCoversSpec)) lexerCoversCard

/-- THE TIED CARD OF 'rootcauselaw05.LexerJoins'. -/
def lexerJoinsCard : Claim7 := { stood := { row := lexerJoinsRow, standIns := [], harness := (true, "c735ac00475baab4d8766cc4f1fbc284c0f3d5bb6903373441703dc79d63ea9e"), looks := false }, kinds := [], alts := [], laidByText := true, laidKinds := [.data, .data], laidTests := true, laidLooks := .later }
def LexerJoinsCardSaid : Prop := Claim7.holds Tryd.pinned (.plain (OpenSpec.ofChange lexerJoinsSpec)) lexerJoinsCard

/-- THE TIED CARD OF 'rootcauselaw05.LexerNames'. -/
def lexerNamesCard : Claim7 := { stood := { row := lexerNamesRow, standIns := [], harness := (true, "c735ac00475baab4d8766cc4f1fbc284c0f3d5bb6903373441703dc79d63ea9e"), looks := false }, kinds := [], alts := [], laidByText := true, laidKinds := [.data, .data], laidTests := true, laidLooks := .later }
def LexerNamesCardSaid : Prop := Claim7.holds Tryd.pinned (.plain (OpenSpec.ofChange lexerNamesSpec)) lexerNamesCard

/-- THE TIED CARD OF 'rootcauselaw05.LexerValues'. -/
def lexerValuesCard : Claim7 := { stood := { row := lexerValuesRow, standIns := [], harness := (true, "c735ac00475baab4d8766cc4f1fbc284c0f3d5bb6903373441703dc79d63ea9e"), looks := false }, kinds := [], alts := [], laidByText := true, laidKinds := [.data, .data], laidTests := true, laidLooks := .later }
def LexerValuesCardSaid : Prop := Claim7.holds Tryd.pinned (.plain (OpenSpec.ofChange lexerValuesSpec)) lexerValuesCard

/-- THE SECOND FORM's CARD OF 'rootcauselaw05.LexerTokens'. -/
def lexerTokensUptoCard : Claim7 := { stood := { row := lexerTokensUptoRow, standIns := [], harness := (true, "c735ac00475baab4d8766cc4f1fbc284c0f3d5bb6903373441703dc79d63ea9e"), looks := false }, kinds := [], alts := [], laidByText := true, laidKinds := [.data, .data], laidTests := true, laidLooks := .later }
def LexerTokensUptoCardSaid : Prop := Claim7.holds Tryd.pinned (.plain (OpenSpec.upto lexerTokensSpec)) lexerTokensUptoCard

/-- THE SECOND FORM's CARD OF 'rootcauselaw05.LexerLeaves'. -/
def lexerLeavesUptoCard : Claim7 := { stood := { row := lexerLeavesUptoRow, standIns := [], harness := (true, "c735ac00475baab4d8766cc4f1fbc284c0f3d5bb6903373441703dc79d63ea9e"), looks := false }, kinds := [], alts := [], laidByText := true, laidKinds := [.data, .data], laidTests := true, laidLooks := .later }
def LexerLeavesUptoCardSaid : Prop := Claim7.holds Tryd.pinned (.plain (OpenSpec.upto lexerLeavesSpec)) lexerLeavesUptoCard

/-- THE SECOND FORM's CARD OF 'rootcauselaw05.LexerLines'. -/
def lexerLinesUptoCard : Claim7 := { stood := { row := lexerLinesUptoRow, standIns := [], harness := (true, "c735ac00475baab4d8766cc4f1fbc284c0f3d5bb6903373441703dc79d63ea9e"), looks := false }, kinds := [], alts := [], laidByText := true, laidKinds := [.data, .data], laidTests := true, laidLooks := .later }
def LexerLinesUptoCardSaid : Prop := Claim7.holds Tryd.pinned (.plain (OpenSpec.upto lexerLinesSpec)) lexerLinesUptoCard

/-- THE SECOND FORM's CARD OF 'rootcauselaw05.LexerCovers'. -/
def lexerCoversUptoCard : Claim7 := { stood := { row := lexerCoversUptoRow, standIns := [], harness := (true, "c735ac00475baab4d8766cc4f1fbc284c0f3d5bb6903373441703dc79d63ea9e"), looks := false }, kinds := [], alts := [], laidByText := true, laidKinds := [.data, .data], laidTests := true, laidLooks := .later }
def LexerCoversUptoCardSaid : Prop := Claim7.holds Tryd.pinned (.plain (OpenSpec.upto lexerCoversSpec)) lexerCoversUptoCard

/-- THE SECOND FORM's CARD OF 'rootcauselaw05.LexerJoins'. -/
def lexerJoinsUptoCard : Claim7 := { stood := { row := lexerJoinsUptoRow, standIns := [], harness := (true, "c735ac00475baab4d8766cc4f1fbc284c0f3d5bb6903373441703dc79d63ea9e"), looks := false }, kinds := [], alts := [], laidByText := true, laidKinds := [.data, .data], laidTests := true, laidLooks := .later }
def LexerJoinsUptoCardSaid : Prop := Claim7.holds Tryd.pinned (.plain (OpenSpec.upto lexerJoinsSpec)) lexerJoinsUptoCard

/-- THE SECOND FORM's CARD OF 'rootcauselaw05.LexerNames'. -/
def lexerNamesUptoCard : Claim7 := { stood := { row := lexerNamesUptoRow, standIns := [], harness := (true, "c735ac00475baab4d8766cc4f1fbc284c0f3d5bb6903373441703dc79d63ea9e"), looks := false }, kinds := [], alts := [], laidByText := true, laidKinds := [.data, .data], laidTests := true, laidLooks := .later }
def LexerNamesUptoCardSaid : Prop := Claim7.holds Tryd.pinned (.plain (OpenSpec.upto lexerNamesSpec)) lexerNamesUptoCard

/-- THE SECOND FORM's CARD OF 'rootcauselaw05.LexerValues'. -/
def lexerValuesUptoCard : Claim7 := { stood := { row := lexerValuesUptoRow, standIns := [], harness := (true, "c735ac00475baab4d8766cc4f1fbc284c0f3d5bb6903373441703dc79d63ea9e"), looks := false }, kinds := [], alts := [], laidByText := true, laidKinds := [.data, .data], laidTests := true, laidLooks := .later }
def LexerValuesUptoCardSaid : Prop := Claim7.holds Tryd.pinned (.plain (OpenSpec.upto lexerValuesSpec)) lexerValuesUptoCard
end Rows
end Go.Proofs.YtdhllkbcheokfaaDoor
