/-
  NARROWER THAN 'FOR EVERY INPUT', by the rows' own cells (each row's printed sentence says how): LexerTokens: laid · LexerLeaves: laid · LexerLines: laid · LexerCovers: laid · LexerJoins: laid · LexerNames: laid · LexerValues: laid.
  DERIVED. THE GIVEN ROWS OF THIS SEAT. 7 by the template 'for every input the law returns true; each argument reads behind the call as it read before'; 0 by the template 'total and deterministic' (their statements: YtdhllkbcheokfaaDoorTotals.lean).
  GIVEN WITH THE SEED: the statements are not yours to turn. If you find one false, say at which input.
  Laid BY PROGRAM, IN A SANDBOX (cutbox-rows.mjs): the forced cells as the released guide's own fill.sh prints them over the translation 89e10697347f68e1… (all of the seat's roots in one cut). By AI agents, Wed Nov 11 2026. No macro, syntax, notation, axiom, sorry.
-/
import Derived.Test.YtdhllkbcheokfaaDoorChecked
import GoSem.Claim
import GoSem.ClaimJoined
import GoSem.ClaimMapViews
import Derived.JoinedTies
import Derived.KernelRfl
namespace Go.Proofs.YtdhllkbcheokfaaDoor
/- THE CELL 'sum', in the pinned program and in every row, IS THE sha256 OF THE DUMP (.gsa) THAT YtdhllkbcheokfaaDoorProg.lean LOADS. Nothing in Lean hashes anything: it is a label: what it is worth is what the hold of that sum in a sandbox is worth. -/
noncomputable def Tryd.pinned : Pinned := { name := "ytdhllkbcheokfaadoor", sum := "89e10697347f68e13130236b013ee6d770a1a044e849d63b6ae3bf4c57bba0dd", checked := Tryd.checked }
namespace Rows
def none {H : Type} : Left H := { results := [], args := [] }

/- WHAT THE LISTED PACKAGE-LEVEL VARIABLES READ AS WHEN THE CALL BEGINS. Each datum BY PROGRAM (the guide's laid-datum.mjs) off the statement by which the dump's own 'gosem.cut.vars' lays the variable. In a bare row this is a premise. The card (YtdhllkbcheokfaaDoorCards.lean) ties it to the program's text. -/
def laid_rootcause_lexer_words {H : Type} : DataW H := .agg [.lit (.string [97, 102, 116, 101, 114]), .lit (.string [97, 108, 119, 97, 121, 115]), .lit (.string [97, 110, 100]), .lit (.string [97, 114, 114, 105, 118, 101, 115]), .lit (.string [98, 111, 111, 108]), .lit (.string [99, 111, 109, 112, 111, 110, 101, 110, 116]), .lit (.string [99, 111, 117, 110, 116]), .lit (.string [100, 101, 108, 101, 116, 101]), .lit (.string [100, 111]), .lit (.string [101, 108, 115, 101]), .lit (.string [101, 120, 105, 115, 116, 115]), .lit (.string [102, 97, 108, 115, 101]), .lit (.string [102, 101, 116, 99, 104]), .lit (.string [102, 108, 97, 103]), .lit (.string [102, 108, 101, 101, 116]), .lit (.string [102, 111, 114, 97, 108, 108]), .lit (.string [104, 97, 115]), .lit (.string [105, 102]), .lit (.string [105, 109, 112, 108, 105, 101, 115]), .lit (.string [105, 110]), .lit (.string [105, 110, 116]), .lit (.string [108, 97, 116, 101, 110, 99, 121]), .lit (.string [108, 105, 110, 107]), .lit (.string [110, 111, 116]), .lit (.string [110, 111, 119]), .lit (.string [111, 110]), .lit (.string [111, 110, 99, 101]), .lit (.string [111, 114]), .lit (.string [112, 114, 101, 118, 105, 111, 117, 115]), .lit (.string [115, 101, 110, 100]), .lit (.string [115, 105, 110, 99, 101]), .lit (.string [115, 105, 122, 101]), .lit (.string [115, 116, 111, 112]), .lit (.string [115, 116, 111, 114, 101]), .lit (.string [116, 97, 98, 108, 101]), .lit (.string [116, 114, 117, 101]), .lit (.string [118, 97, 114]), .lit (.string [118, 101, 114, 115, 105, 111, 110]), .lit (.string [119, 104, 105, 108, 101])]
def laid_rootcause_lexer_symbols {H : Type} : DataW H := .agg [.lit (.string [46, 46]), .lit (.string [61, 61]), .lit (.string [33, 61]), .lit (.string [60, 61]), .lit (.string [62, 61]), .lit (.string [45, 62]), .lit (.string [123]), .lit (.string [125]), .lit (.string [40]), .lit (.string [41]), .lit (.string [91]), .lit (.string [93]), .lit (.string [44]), .lit (.string [59]), .lit (.string [58]), .lit (.string [46]), .lit (.string [61]), .lit (.string [60]), .lit (.string [62]), .lit (.string [43]), .lit (.string [45]), .lit (.string [42]), .lit (.string [47]), .lit (.string [37]), .lit (.string [95])]

/-- 'rootcauselaw05.LexerTokens': WHATEVER THE INPUT: true; the input reads as it did. -/
def lexerTokensSpec : ChangeSpec := { name := "lexerTokens", fn := fun _ => fun
  | [d] => { results := [.lit (.bool true)], args := [d] }
  | _ => none }
def lexerTokensRow : OpenClaim := { program := "ytdhllkbcheokfaadoor", sum := "89e10697347f68e13130236b013ee6d770a1a044e849d63b6ae3bf4c57bba0dd", func := "rootcause/rootcauselaw05.LexerTokens", spec := "lexerTokens", inPlace := ["internal/bytealg.CountString", "internal/bytealg.IndexByteString", "internal/bytealg.IndexString"], unfollowed := true, recurses := true, named := ["rootcause/lexer.symbols", "rootcause/lexer.words", "internal/bytealg.MaxLen"], apart := false, laid := [("rootcause/lexer.words", laid_rootcause_lexer_words), ("rootcause/lexer.symbols", laid_rootcause_lexer_symbols)] }
def LexerTokensSaid : Prop := lexerTokensRow.holds Tryd.pinned (OpenSpec.ofChange lexerTokensSpec)

/-- ITS FALSE NEIGHBOUR: 'it returns false'. Refute it at one input. -/
def lexerTokensWrong : ChangeSpec := { name := "lexerTokens", fn := fun _ => fun
  | [d] => { results := [.lit (.bool false)], args := [d] }
  | _ => none }
def LexerTokensWrongFalsely : Prop := lexerTokensRow.holds Tryd.pinned (OpenSpec.ofChange lexerTokensWrong)

/-- 'rootcauselaw05.LexerLeaves': WHATEVER THE INPUT: true; the input reads as it did. -/
def lexerLeavesSpec : ChangeSpec := { name := "lexerLeaves", fn := fun _ => fun
  | [d1, d2] => { results := [.lit (.bool true)], args := [d1, d2] }
  | _ => none }
def lexerLeavesRow : OpenClaim := { program := "ytdhllkbcheokfaadoor", sum := "89e10697347f68e13130236b013ee6d770a1a044e849d63b6ae3bf4c57bba0dd", func := "rootcause/rootcauselaw05.LexerLeaves", spec := "lexerLeaves", inPlace := ["internal/bytealg.CountString", "internal/bytealg.IndexByteString", "internal/bytealg.IndexString"], unfollowed := true, recurses := true, named := ["rootcause/lexer.symbols", "rootcause/lexer.words", "internal/bytealg.MaxLen"], apart := false, laid := [("rootcause/lexer.words", laid_rootcause_lexer_words), ("rootcause/lexer.symbols", laid_rootcause_lexer_symbols)] }
def LexerLeavesSaid : Prop := lexerLeavesRow.holds Tryd.pinned (OpenSpec.ofChange lexerLeavesSpec)

/-- ITS FALSE NEIGHBOUR: 'it returns false'. Refute it at one input. -/
def lexerLeavesWrong : ChangeSpec := { name := "lexerLeaves", fn := fun _ => fun
  | [d1, d2] => { results := [.lit (.bool false)], args := [d1, d2] }
  | _ => none }
def LexerLeavesWrongFalsely : Prop := lexerLeavesRow.holds Tryd.pinned (OpenSpec.ofChange lexerLeavesWrong)

/-- 'rootcauselaw05.LexerLines': WHATEVER THE INPUT: true; the input reads as it did. -/
def lexerLinesSpec : ChangeSpec := { name := "lexerLines", fn := fun _ => fun
  | [d1, d2] => { results := [.lit (.bool true)], args := [d1, d2] }
  | _ => none }
def lexerLinesRow : OpenClaim := { program := "ytdhllkbcheokfaadoor", sum := "89e10697347f68e13130236b013ee6d770a1a044e849d63b6ae3bf4c57bba0dd", func := "rootcause/rootcauselaw05.LexerLines", spec := "lexerLines", inPlace := ["internal/bytealg.CountString", "internal/bytealg.IndexByteString", "internal/bytealg.IndexString"], unfollowed := true, recurses := true, named := ["rootcause/lexer.symbols", "rootcause/lexer.words", "internal/bytealg.MaxLen"], apart := false, laid := [("rootcause/lexer.words", laid_rootcause_lexer_words), ("rootcause/lexer.symbols", laid_rootcause_lexer_symbols)] }
def LexerLinesSaid : Prop := lexerLinesRow.holds Tryd.pinned (OpenSpec.ofChange lexerLinesSpec)

/-- ITS FALSE NEIGHBOUR: 'it returns false'. Refute it at one input. -/
def lexerLinesWrong : ChangeSpec := { name := "lexerLines", fn := fun _ => fun
  | [d1, d2] => { results := [.lit (.bool false)], args := [d1, d2] }
  | _ => none }
def LexerLinesWrongFalsely : Prop := lexerLinesRow.holds Tryd.pinned (OpenSpec.ofChange lexerLinesWrong)

/-- 'rootcauselaw05.LexerCovers': WHATEVER THE INPUT: true; the input reads as it did. -/
def lexerCoversSpec : ChangeSpec := { name := "lexerCovers", fn := fun _ => fun
  | [d] => { results := [.lit (.bool true)], args := [d] }
  | _ => none }
def lexerCoversRow : OpenClaim := { program := "ytdhllkbcheokfaadoor", sum := "89e10697347f68e13130236b013ee6d770a1a044e849d63b6ae3bf4c57bba0dd", func := "rootcause/rootcauselaw05.LexerCovers", spec := "lexerCovers", inPlace := ["internal/bytealg.CountString", "internal/bytealg.IndexByteString", "internal/bytealg.IndexString"], unfollowed := true, recurses := true, named := ["rootcause/lexer.symbols", "rootcause/lexer.words", "internal/bytealg.MaxLen"], apart := false, laid := [("rootcause/lexer.words", laid_rootcause_lexer_words), ("rootcause/lexer.symbols", laid_rootcause_lexer_symbols)] }
def LexerCoversSaid : Prop := lexerCoversRow.holds Tryd.pinned (OpenSpec.ofChange lexerCoversSpec)

/-- ITS FALSE NEIGHBOUR: 'it returns false'. Refute it at one input. -/
def lexerCoversWrong : ChangeSpec := { name := "lexerCovers", fn := fun _ => fun
  | [d] => { results := [.lit (.bool false)], args := [d] }
  | _ => none }
def LexerCoversWrongFalsely : Prop := lexerCoversRow.holds Tryd.pinned (OpenSpec.ofChange lexerCoversWrong)

/-- 'rootcauselaw05.LexerJoins': WHATEVER THE INPUT: true; the input reads as it did. -/
def lexerJoinsSpec : ChangeSpec := { name := "lexerJoins", fn := fun _ => fun
  | [d1, d2] => { results := [.lit (.bool true)], args := [d1, d2] }
  | _ => none }
def lexerJoinsRow : OpenClaim := { program := "ytdhllkbcheokfaadoor", sum := "89e10697347f68e13130236b013ee6d770a1a044e849d63b6ae3bf4c57bba0dd", func := "rootcause/rootcauselaw05.LexerJoins", spec := "lexerJoins", inPlace := ["internal/bytealg.CountString", "internal/bytealg.IndexByteString", "internal/bytealg.IndexString"], unfollowed := true, recurses := true, named := ["rootcause/lexer.symbols", "rootcause/lexer.words", "internal/bytealg.MaxLen"], apart := false, laid := [("rootcause/lexer.words", laid_rootcause_lexer_words), ("rootcause/lexer.symbols", laid_rootcause_lexer_symbols)] }
def LexerJoinsSaid : Prop := lexerJoinsRow.holds Tryd.pinned (OpenSpec.ofChange lexerJoinsSpec)

/-- ITS FALSE NEIGHBOUR: 'it returns false'. Refute it at one input. -/
def lexerJoinsWrong : ChangeSpec := { name := "lexerJoins", fn := fun _ => fun
  | [d1, d2] => { results := [.lit (.bool false)], args := [d1, d2] }
  | _ => none }
def LexerJoinsWrongFalsely : Prop := lexerJoinsRow.holds Tryd.pinned (OpenSpec.ofChange lexerJoinsWrong)

/-- 'rootcauselaw05.LexerNames': WHATEVER THE INPUT: true; the input reads as it did. -/
def lexerNamesSpec : ChangeSpec := { name := "lexerNames", fn := fun _ => fun
  | [d] => { results := [.lit (.bool true)], args := [d] }
  | _ => none }
def lexerNamesRow : OpenClaim := { program := "ytdhllkbcheokfaadoor", sum := "89e10697347f68e13130236b013ee6d770a1a044e849d63b6ae3bf4c57bba0dd", func := "rootcause/rootcauselaw05.LexerNames", spec := "lexerNames", inPlace := ["internal/bytealg.CountString", "internal/bytealg.IndexByteString", "internal/bytealg.IndexString"], unfollowed := true, recurses := true, named := ["rootcause/lexer.symbols", "rootcause/lexer.words", "internal/bytealg.MaxLen"], apart := false, laid := [("rootcause/lexer.words", laid_rootcause_lexer_words), ("rootcause/lexer.symbols", laid_rootcause_lexer_symbols)] }
def LexerNamesSaid : Prop := lexerNamesRow.holds Tryd.pinned (OpenSpec.ofChange lexerNamesSpec)

/-- ITS FALSE NEIGHBOUR: 'it returns false'. Refute it at one input. -/
def lexerNamesWrong : ChangeSpec := { name := "lexerNames", fn := fun _ => fun
  | [d] => { results := [.lit (.bool false)], args := [d] }
  | _ => none }
def LexerNamesWrongFalsely : Prop := lexerNamesRow.holds Tryd.pinned (OpenSpec.ofChange lexerNamesWrong)

/-- 'rootcauselaw05.LexerValues': WHATEVER THE INPUT: true; the input reads as it did. -/
def lexerValuesSpec : ChangeSpec := { name := "lexerValues", fn := fun _ => fun
  | [d1, d2] => { results := [.lit (.bool true)], args := [d1, d2] }
  | _ => none }
def lexerValuesRow : OpenClaim := { program := "ytdhllkbcheokfaadoor", sum := "89e10697347f68e13130236b013ee6d770a1a044e849d63b6ae3bf4c57bba0dd", func := "rootcause/rootcauselaw05.LexerValues", spec := "lexerValues", inPlace := ["internal/bytealg.CountString", "internal/bytealg.IndexByteString", "internal/bytealg.IndexString"], unfollowed := true, recurses := true, named := ["rootcause/lexer.symbols", "rootcause/lexer.words", "internal/bytealg.MaxLen"], apart := false, laid := [("rootcause/lexer.words", laid_rootcause_lexer_words), ("rootcause/lexer.symbols", laid_rootcause_lexer_symbols)] }
def LexerValuesSaid : Prop := lexerValuesRow.holds Tryd.pinned (OpenSpec.ofChange lexerValuesSpec)

/-- ITS FALSE NEIGHBOUR: 'it returns false'. Refute it at one input. -/
def lexerValuesWrong : ChangeSpec := { name := "lexerValues", fn := fun _ => fun
  | [d1, d2] => { results := [.lit (.bool false)], args := [d1, d2] }
  | _ => none }
def LexerValuesWrongFalsely : Prop := lexerValuesRow.holds Tryd.pinned (OpenSpec.ofChange lexerValuesWrong)

/- THE SECOND FORM. 'bulk': how many values and letters a reading holds, each counted each time it is reached (what is shared counts as often as it is met; a slice's spare places count too). A statement '..UptoSaid' is the law's where the arguments, and the package variables that the reading takes, are together of bulk at most 1048576: NARROWER than '..Said'. Prove '..Said' where nothing that the law and all that it calls make is longer than what came in: it says more and counts as full. Else prove '..UptoSaid'. A law counts once. -/
mutual
def uptoBulk {H : Type} : DataW H → Nat
  | .lit (.string bytes) => bytes.length + 1
  | .lit _ => 1
  | .nil => 1
  | .ptr d => uptoBulk d + 1
  | .slice elems spare => uptoBulkAll elems + uptoBulkAll spare + 1
  | .agg parts => uptoBulkAll parts + 1
  | .iface _ d => uptoBulk d + 1
  | .map entries => uptoBulkEntries entries + 1
  | .held _ => 1
def uptoBulkAll {H : Type} : List (DataW H) → Nat
  | [] => 0
  | d :: r => uptoBulk d + uptoBulkAll r
def uptoBulkEntries {H : Type} : List (Lit × DataW H) → Nat
  | [] => 0
  | x :: r => uptoBulkEntry x + uptoBulkEntries r
def uptoBulkEntry {H : Type} : Lit × DataW H → Nat
  | (.string bytes, d) => bytes.length + uptoBulk d + 1
  | (_, d) => uptoBulk d + 1
 end
def uptoSmall : (H : Type) → List (DataW H) → Bool := fun _ ds => decide (uptoBulkAll ds ≤ 1048576)
def OpenSpec.upto (s : _root_.Go.ChangeSpec) : _root_.Go.OpenSpec := { _root_.Go.OpenSpec.ofChange s with cond := some uptoSmall }

/-- 'rootcauselaw05.LexerTokens', WHERE WHAT IT READS IS OF BULK AT MOST 1048576: true; the input reads as it did. -/
def lexerTokensUptoRow : OpenClaim := { program := "ytdhllkbcheokfaadoor", sum := "89e10697347f68e13130236b013ee6d770a1a044e849d63b6ae3bf4c57bba0dd", func := "rootcause/rootcauselaw05.LexerTokens", spec := "lexerTokens", inPlace := ["internal/bytealg.CountString", "internal/bytealg.IndexByteString", "internal/bytealg.IndexString"], unfollowed := true, recurses := true, named := ["rootcause/lexer.symbols", "rootcause/lexer.words", "internal/bytealg.MaxLen"], apart := false, laid := [("rootcause/lexer.words", laid_rootcause_lexer_words), ("rootcause/lexer.symbols", laid_rootcause_lexer_symbols)], narrowed := true }
def LexerTokensUptoSaid : Prop := lexerTokensUptoRow.holds Tryd.pinned (OpenSpec.upto lexerTokensSpec)

/-- 'rootcauselaw05.LexerLeaves', WHERE WHAT IT READS IS OF BULK AT MOST 1048576: true; the input reads as it did. -/
def lexerLeavesUptoRow : OpenClaim := { program := "ytdhllkbcheokfaadoor", sum := "89e10697347f68e13130236b013ee6d770a1a044e849d63b6ae3bf4c57bba0dd", func := "rootcause/rootcauselaw05.LexerLeaves", spec := "lexerLeaves", inPlace := ["internal/bytealg.CountString", "internal/bytealg.IndexByteString", "internal/bytealg.IndexString"], unfollowed := true, recurses := true, named := ["rootcause/lexer.symbols", "rootcause/lexer.words", "internal/bytealg.MaxLen"], apart := false, laid := [("rootcause/lexer.words", laid_rootcause_lexer_words), ("rootcause/lexer.symbols", laid_rootcause_lexer_symbols)], narrowed := true }
def LexerLeavesUptoSaid : Prop := lexerLeavesUptoRow.holds Tryd.pinned (OpenSpec.upto lexerLeavesSpec)

/-- 'rootcauselaw05.LexerLines', WHERE WHAT IT READS IS OF BULK AT MOST 1048576: true; the input reads as it did. -/
def lexerLinesUptoRow : OpenClaim := { program := "ytdhllkbcheokfaadoor", sum := "89e10697347f68e13130236b013ee6d770a1a044e849d63b6ae3bf4c57bba0dd", func := "rootcause/rootcauselaw05.LexerLines", spec := "lexerLines", inPlace := ["internal/bytealg.CountString", "internal/bytealg.IndexByteString", "internal/bytealg.IndexString"], unfollowed := true, recurses := true, named := ["rootcause/lexer.symbols", "rootcause/lexer.words", "internal/bytealg.MaxLen"], apart := false, laid := [("rootcause/lexer.words", laid_rootcause_lexer_words), ("rootcause/lexer.symbols", laid_rootcause_lexer_symbols)], narrowed := true }
def LexerLinesUptoSaid : Prop := lexerLinesUptoRow.holds Tryd.pinned (OpenSpec.upto lexerLinesSpec)

/-- 'rootcauselaw05.LexerCovers', WHERE WHAT IT READS IS OF BULK AT MOST 1048576: true; the input reads as it did. -/
def lexerCoversUptoRow : OpenClaim := { program := "ytdhllkbcheokfaadoor", sum := "89e10697347f68e13130236b013ee6d770a1a044e849d63b6ae3bf4c57bba0dd", func := "rootcause/rootcauselaw05.LexerCovers", spec := "lexerCovers", inPlace := ["internal/bytealg.CountString", "internal/bytealg.IndexByteString", "internal/bytealg.IndexString"], unfollowed := true, recurses := true, named := ["rootcause/lexer.symbols", "rootcause/lexer.words", "internal/bytealg.MaxLen"], apart := false, laid := [("rootcause/lexer.words", laid_rootcause_lexer_words), ("rootcause/lexer.symbols", laid_rootcause_lexer_symbols)], narrowed := true }
def LexerCoversUptoSaid : Prop := lexerCoversUptoRow.holds Tryd.pinned (OpenSpec.upto lexerCoversSpec)

/-- 'rootcauselaw05.LexerJoins', WHERE WHAT IT READS IS OF BULK AT MOST 1048576: true; the input reads as it did. -/
def lexerJoinsUptoRow : OpenClaim := { program := "ytdhllkbcheokfaadoor", sum := "89e10697347f68e13130236b013ee6d770a1a044e849d63b6ae3bf4c57bba0dd", func := "rootcause/rootcauselaw05.LexerJoins", spec := "lexerJoins", inPlace := ["internal/bytealg.CountString", "internal/bytealg.IndexByteString", "internal/bytealg.IndexString"], unfollowed := true, recurses := true, named := ["rootcause/lexer.symbols", "rootcause/lexer.words", "internal/bytealg.MaxLen"], apart := false, laid := [("rootcause/lexer.words", laid_rootcause_lexer_words), ("rootcause/lexer.symbols", laid_rootcause_lexer_symbols)], narrowed := true }
def LexerJoinsUptoSaid : Prop := lexerJoinsUptoRow.holds Tryd.pinned (OpenSpec.upto lexerJoinsSpec)

/-- 'rootcauselaw05.LexerNames', WHERE WHAT IT READS IS OF BULK AT MOST 1048576: true; the input reads as it did. -/
def lexerNamesUptoRow : OpenClaim := { program := "ytdhllkbcheokfaadoor", sum := "89e10697347f68e13130236b013ee6d770a1a044e849d63b6ae3bf4c57bba0dd", func := "rootcause/rootcauselaw05.LexerNames", spec := "lexerNames", inPlace := ["internal/bytealg.CountString", "internal/bytealg.IndexByteString", "internal/bytealg.IndexString"], unfollowed := true, recurses := true, named := ["rootcause/lexer.symbols", "rootcause/lexer.words", "internal/bytealg.MaxLen"], apart := false, laid := [("rootcause/lexer.words", laid_rootcause_lexer_words), ("rootcause/lexer.symbols", laid_rootcause_lexer_symbols)], narrowed := true }
def LexerNamesUptoSaid : Prop := lexerNamesUptoRow.holds Tryd.pinned (OpenSpec.upto lexerNamesSpec)

/-- 'rootcauselaw05.LexerValues', WHERE WHAT IT READS IS OF BULK AT MOST 1048576: true; the input reads as it did. -/
def lexerValuesUptoRow : OpenClaim := { program := "ytdhllkbcheokfaadoor", sum := "89e10697347f68e13130236b013ee6d770a1a044e849d63b6ae3bf4c57bba0dd", func := "rootcause/rootcauselaw05.LexerValues", spec := "lexerValues", inPlace := ["internal/bytealg.CountString", "internal/bytealg.IndexByteString", "internal/bytealg.IndexString"], unfollowed := true, recurses := true, named := ["rootcause/lexer.symbols", "rootcause/lexer.words", "internal/bytealg.MaxLen"], apart := false, laid := [("rootcause/lexer.words", laid_rootcause_lexer_words), ("rootcause/lexer.symbols", laid_rootcause_lexer_symbols)], narrowed := true }
def LexerValuesUptoSaid : Prop := lexerValuesUptoRow.holds Tryd.pinned (OpenSpec.upto lexerValuesSpec)

end Rows
end Go.Proofs.YtdhllkbcheokfaaDoor
