/- What the law rows on texts list: the tables, the two errors of strconv; that MaxLen's cell is there comes from the world's shape. -/
import Derived.Test.YtpniilgkceadeaaGreatDoorChoFrame
import Derived.Test.YtpniilgkceadeaaGreatDoorChoScan
import Derived.Stop.LaidErr
import Derived.Shelf.Vars
import Derived.LaidLaws
namespace Go.Proofs.YtpniilgkceadeaaGreatDoor
open Go.ChangeShapes Go.WideShapes Go.ChangeAt Go.RowKit
def laidListP : List (String × DataW Unit) := [("math/bits.deBruijn32tab", Rows.laid_math_bits_deBruijn32tab), ("math/bits.deBruijn64tab", Rows.laid_math_bits_deBruijn64tab), ("internal/strconv.uint64pow10", Rows.laid_internal_strconv_uint64pow10), ("unicode/utf8.acceptRanges", Rows.laid_unicode_utf8_acceptRanges), ("strconv.ErrRange", Rows.laid_strconv_ErrRange), ("strconv.ErrSyntax", Rows.laid_strconv_ErrSyntax), ("rootcause/choice.words", Rows.laid_rootcause_choice_words), ("unicode/utf8.first", Rows.laid_unicode_utf8_first)]
theorem gER : Tryz.prog.globalNamed "strconv.ErrRange" = some 6 := by kernel_rfl
theorem gES : Tryz.prog.globalNamed "strconv.ErrSyntax" = some 5 := by kernel_rfl
theorem tER : (Tryz.prog.globals[6]?).map (·.type) = some 101 := by kernel_rfl
theorem tES : (Tryz.prog.globals[5]?).map (·.type) = some 101 := by kernel_rfl
theorem starE : "*" ++ "errors.errorString" = "*errors.errorString" := by decide
theorem rowE (u : TypeId) (h : Tryz.prog.typeName? 3 u = some "*errors.errorString") : u = 200 :=
  typeName_ptr_named (nm := "errors.errorString") (by rw [starE]; kernel_rfl) (by kernel_rfl) (by decide) u (by rw [starE]; exact h)
theorem cellsE : Tryz.prog.cellsOf 202 = 1 := by kernel_rfl
theorem laidP_of {W : World} (h : laidMetH Tryz.prog laidListP W) (hsh : W.ShapedOpen Tryz.prog) : LaidP W := by
  have h : laidMet Tryz.prog laidListP W := h
  refine ⟨⟨?_, ?_⟩, ?_, ?_, ?_⟩
  · obtain ⟨g, t, cs, fuel, p, h1, h2, h3, h4⟩ := Lib.laidMet.reads h (n := "rootcause/choice.words") (d := Rows.laid_rootcause_choice_words) (by simp [laidListP])
    obtain rfl := Option.some.inj (gWords.symm.trans h1)
    obtain rfl := Option.some.inj (tWords.symm.trans h2)
    obtain ⟨t, fr, e⟩ := var_block gWords h3
    refine ⟨t, fr, ?_⟩
    rw [words_data] at h4
    have hc := cells_of_strs (zs := ChoP.words) under_words Tryz.underlying9 cellsS cellsWords h4
    rw [e, show cs = wordsV from by unfold wordsV; rw [← hc]]
  · obtain ⟨g, t, cs, fuel, p, h1, h2, h3, h4⟩ := Lib.laidMet.reads h (n := "internal/strconv.uint64pow10") (d := Rows.laid_internal_strconv_uint64pow10) (by simp [laidListP])
    obtain rfl := Option.some.inj (gPow.symm.trans h1)
    obtain rfl := Option.some.inj (tPow.symm.trans h2)
    obtain ⟨t, fr, e⟩ := var_block gPow h3
    refine ⟨t, fr, ?_⟩
    rw [pow_data] at h4
    have hc := Lib.cells_of_tab (zs := Lib.pow10Tab) under_pow Tryz.underlying69 cellsU cellsPow h4
    rw [e, show cs = powV from by unfold powV; rw [← hc]]
  · exact cell_of_shapedOpen_int (P := Tryz.prog) (g := 1) (t := 3) (zero := #[.int .i64 0]) hsh (of_decide_eq_true (by kernel_rfl)) (by kernel_rfl) rfl (by kernel_rfl) (by kernel_rfl) Tryz.underlying3
  · obtain ⟨a1, s1, hv1, -, -, -⟩ := laid_sentinel h.tail.tail.tail.tail.tail gES tES Tryz.underlying101 rowE Tryz.underlying200 Tryz.underlying202 rfl rfl Tryz.underlying9 cellsE cellsS
    exact ⟨_, by have h0 := World.var?_cell gES hv1 0; simpa using h0, Or.inr ⟨_, _, rfl⟩⟩
  · obtain ⟨a1, s1, hv1, -, -, -⟩ := laid_sentinel h.tail.tail.tail.tail gER tER Tryz.underlying101 rowE Tryz.underlying200 Tryz.underlying202 rfl rfl Tryz.underlying9 cellsE cellsS
    exact ⟨_, by have h0 := World.var?_cell gER hv1 0; simpa using h0, Or.inr ⟨_, _, rfl⟩⟩
def flatOne : DataW Unit → List Value
  | .lit (.int k z) => [Value.int k z]
  | .lit (.string s) => [.string ⟨s.toArray⟩]
  | _ => [undef]
/-- the cells that a listed table of pairs reads as -/
def tabCells2 : DataW Unit → Array Value
  | .agg l => (l.flatMap fun | .agg m => m.flatMap flatOne | x => flatOne x).toArray
  | _ => #[]
def errText : DataW Unit → ByteArray
  | .iface _ (.ptr (.agg [.lit (.string s)])) => ⟨s.toArray⟩
  | _ => ⟨#[]⟩
/-- so many blocks has the settled world -/
noncomputable def lowP : Nat := (World.holding Tryz.prog default ⟨#[], #[], []⟩).heap.size
/-- A WORLD FOR THE WITNESS: the settled one, the tables and the two errors holding what their initialisers lay. -/
noncomputable def laidWorldP (os : Os) : World :=
  let w0 := World.holding Tryz.prog os ⟨#[.cells #[.string (errText Rows.laid_strconv_ErrRange)] 202, .cells #[.string (errText Rows.laid_strconv_ErrSyntax)] 202], #[], []⟩
  { w0 with heap := ((((((((w0.heap.modify 0 (putCells (tabCells Rows.laid_rootcause_choice_words))).modify 2 (putCells (tabCells Rows.laid_internal_strconv_uint64pow10))).modify 7 (putCells (tabCells Rows.laid_math_bits_deBruijn32tab))).modify 8 (putCells (tabCells Rows.laid_math_bits_deBruijn64tab))).modify 3 (putCells (tabCells2 Rows.laid_unicode_utf8_first))).modify 4 (putCells (tabCells2 Rows.laid_unicode_utf8_acceptRanges))).modify 6 (putCells #[.iface 200 (.pointer (some ⟨lowP, 0, none⟩))])).modify 5 (putCells #[.iface 200 (.pointer (some ⟨lowP + 1, 0, none⟩))])) }
theorem laidP_met (os : Os) (args : Array Value) : laidMet Tryz.prog laidListP ((laidWorldP os).forCall (fun _ _ => 0) ⟨#[], args, []⟩).memory :=
  laidMet_of_run' 8 (by kernel_rfl) (by kernel_rfl)
end Go.Proofs.YtpniilgkceadeaaGreatDoor
