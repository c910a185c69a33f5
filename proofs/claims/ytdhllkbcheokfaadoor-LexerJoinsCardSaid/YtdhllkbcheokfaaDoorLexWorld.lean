/- The lexer's two tables in memory: what it means that a world holds them, that it lasts, and how an element is read. -/
import Derived.Test.YtdhllkbcheokfaaDoorChecked
import Derived.Test.YtdhllkbcheokfaaDoorLexPlainA
import Derived.WalkKit
import Derived.Laws.Rows
import Derived.Lib.LaidTab
namespace Go.Proofs.YtdhllkbcheokfaaDoor
open Go.RowKit
/-- a string of a list of bytes -/
abbrev strV (l : List UInt8) : Value := .string ⟨l.toArray⟩
def wordsV : Array Value := (LexP.words.map strV).toArray
def symsV : Array Value := (LexP.syms.map strV).toArray
/-- the two tables lie where the program has them -/
def Laid (w : World) : Prop :=
  (∃ t fr, w.heap[0]? = some (.cells wordsV t fr)) ∧ (∃ t fr, w.heap[1]? = some (.cells symsV t fr))
theorem run_index_row {P : Program} (w : World) (t e : TypeId) (n : Nat) (cs : Array Value) (k : Nat) (v : Value) (h : P.underlying t = some (.array n e)) (hk : k < n)
    (ha : (isAgg e).run P w = .ok false w) (hv : cs[k]? = some v) (hs : (sizeOf e).run P w = .ok 1 w) :
    (Instr.index t (.agg cs) (.int .i64 k)).run P w = .ok v w := by
  simp [Instr.index, run_underlying h, asIntOf, hk, hs, ha, hv, go_sem]
theorem idx_words (w : World) (k : Nat) (hk : k < 39) : (Instr.index 59 (.agg wordsV) (.int .i64 k)).run Tryd.prog w = .ok (strV (LexP.words.getD k [])) w :=
  run_index_row w _ 9 39 _ k _ (by kernel_rfl) hk (by kernel_rfl)
    (by have h2 : k < LexP.words.length := hk
        simp [wordsV, strV, h2]) (by kernel_rfl)
theorem idx_syms (w : World) (k : Nat) (hk : k < 25) : (Instr.index 64 (.agg symsV) (.int .i64 k)).run Tryd.prog w = .ok (strV (LexP.syms.getD k [])) w :=
  run_index_row w _ 9 25 _ k _ (by kernel_rfl) hk (by kernel_rfl)
    (by have h2 : k < LexP.syms.length := hk
        simp [symsV, strV, h2]) (by kernel_rfl)
theorem size_words : (Tryd.prog.info? 59).map (·.size) = some wordsV.size := by kernel_rfl
theorem size_syms : (Tryd.prog.info? 64).map (·.size) = some symsV.size := by kernel_rfl
theorem under_words : Tryd.prog.underlying 59 = some (.array 39 9) := by kernel_rfl
theorem under_syms : Tryd.prog.underlying 64 = some (.array 25 9) := by kernel_rfl
end Go.Proofs.YtdhllkbcheokfaaDoor
