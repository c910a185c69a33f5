/- What the law rows' listed variables give: the words of the kinds and the powers of ten lie in memory. -/
import Derived.Test.YtpniilgkceadeaaGreatDoorCards
import Derived.Test.YtpniilgkceadeaaGreatDoorTie
import Derived.Test.YtpniilgkceadeaaGreatDoorChoAwake
import Derived.ProofKit
import Derived.OpenShut
import Derived.Deep.DeepHandedRow
import Derived.Lib.LaidU8
import Derived.Lib.LaidTab
namespace Go.Proofs.YtpniilgkceadeaaGreatDoor
open Go.ChangeShapes Go.WideShapes Go.ChangeAt Go.RowKit
/-- an array of strings that reads as a list of strings holds them, cell for cell -/
theorem cells_of_strs {H : Type} {enc : TypeId × Value → H} {P : Program} {w : World} {base : Nat} {sp : Nat → Bool} {held : Bool} {fuel : Nat} {t e : TypeId} {n : Nat} {cs : List Value} {zs : List (List UInt8)} {p : List MemPlace}
    (ht : P.underlying t = some (.array n e)) (he : P.underlying e = some .string) (hce : P.cellsOf e = 1) (hct : P.cellsOf t = n)
    (h : DataW.trod enc P w base sp held fuel t cs = some (.agg (zs.map fun z => .lit (.string z)), p)) : cs = zs.map strV := by
  cases fuel with
  | zero => simp [DataW.trod] at h
  | succ fuel =>
    simp only [DataW.trod, ht, hce, hct, Nat.mul_one] at h
    split at h
    · rename_i hl
      obtain ⟨xs, hm, hx⟩ := Option.map_eq_some_iff.1 h
      have hxs : xs.map (·.1) = zs.map fun z => (DataW.lit (.string z) : DataW H) := by
        have := congrArg Prod.fst hx
        simpa using this
      have hxl : xs.length = n := by simpa using Lib.mapM_length hm
      have hzl : zs.length = n := by
        have := congrArg List.length hxs
        simp at this
        omega
      apply List.ext_getElem?
      intro i
      by_cases hi : i < n
      · obtain ⟨b, hb, hf⟩ := Lib.mapM_at hm i i (by simp [hi])
        obtain ⟨z, hc, rfl, _⟩ := DataW.trod_string he hf
        have h1 : cs[i]? = some (.string z) := by
          have := congrArg (·[0]?) hc
          simpa [List.getElem?_take, List.getElem?_drop] using this
        have h2 : (xs.map (·.1))[i]? = some (DataW.lit (.string z.data.toList) : DataW H) := by simp [hb]
        rw [hxs] at h2
        simp only [List.getElem?_map, Option.map_eq_some_iff, DataW.lit.injEq, Lit.string.injEq] at h2
        obtain ⟨z', hz', e2⟩ := h2
        rw [h1, List.getElem?_map, hz', e2]
        rfl
      · rw [List.getElem?_eq_none (by omega), List.getElem?_eq_none (by simp; omega)]
    · cases h
/-- what every row of this seat lists -/
def laidList : List (String × DataW Unit) := [("math/bits.deBruijn32tab", Rows.laid_math_bits_deBruijn32tab), ("math/bits.deBruijn64tab", Rows.laid_math_bits_deBruijn64tab), ("internal/strconv.uint64pow10", Rows.laid_internal_strconv_uint64pow10), ("rootcause/choice.words", Rows.laid_rootcause_choice_words)]
theorem var_block {P : Program} {w : World} {n : String} {g : Nat} {cs : Array Value} (hg : P.globalNamed n = some g) (h : w.var? P n = some cs) : ∃ t fr, w.heap[g]? = some (.cells cs t fr) := by
  unfold World.var? at h
  rw [hg] at h
  simp only [Option.bind_some] at h
  split at h
  · rename_i cs' t fr e
    cases h
    exact ⟨t, fr, e⟩
  · cases h
theorem gWords : Tryz.prog.globalNamed "rootcause/choice.words" = some 0 := by kernel_rfl
theorem tWords : (Tryz.prog.globals[0]?).map (·.type) = some 106 := by kernel_rfl
theorem tPow : (Tryz.prog.globals[2]?).map (·.type) = some 178 := by kernel_rfl
theorem cellsS : Tryz.prog.cellsOf 9 = 1 := by kernel_rfl
theorem cellsU : Tryz.prog.cellsOf 69 = 1 := by kernel_rfl
theorem cellsWords : Tryz.prog.cellsOf 106 = 10 := by kernel_rfl
theorem cellsPow : Tryz.prog.cellsOf 178 = 20 := by kernel_rfl
theorem under_words : Tryz.prog.underlying 106 = some (.array 10 9) := by kernel_rfl
theorem under_pow : Tryz.prog.underlying 178 = some (.array 20 69) := by kernel_rfl
theorem pow_data : (Rows.laid_internal_strconv_uint64pow10 : DataW Unit) = Lib.tabData .u64 Lib.pow10Tab := by kernel_rfl
theorem words_data : (Rows.laid_rootcause_choice_words : DataW Unit) = .agg (ChoP.words.map fun z => .lit (.string z)) := by kernel_rfl
theorem laid_of {W : World} (h : laidMetH Tryz.prog laidList W) : Laid W := by
  have h : laidMet Tryz.prog laidList W := h
  constructor
  · obtain ⟨g, t, cs, fuel, p, h1, h2, h3, h4⟩ := Lib.laidMet.reads h (n := "rootcause/choice.words") (d := Rows.laid_rootcause_choice_words) (by simp [laidList])
    obtain rfl := Option.some.inj (gWords.symm.trans h1)
    obtain rfl := Option.some.inj (tWords.symm.trans h2)
    obtain ⟨t, fr, e⟩ := var_block gWords h3
    refine ⟨t, fr, ?_⟩
    rw [words_data] at h4
    have hc := cells_of_strs (zs := ChoP.words) under_words Tryz.underlying9 cellsS cellsWords h4
    rw [e, show cs = wordsV from by unfold wordsV; rw [← hc]]
  · obtain ⟨g, t, cs, fuel, p, h1, h2, h3, h4⟩ := Lib.laidMet.reads h (n := "internal/strconv.uint64pow10") (d := Rows.laid_internal_strconv_uint64pow10) (by simp [laidList])
    obtain rfl := Option.some.inj (gPow.symm.trans h1)
    obtain rfl := Option.some.inj (tPow.symm.trans h2)
    obtain ⟨t, fr, e⟩ := var_block gPow h3
    refine ⟨t, fr, ?_⟩
    rw [pow_data] at h4
    have hc := Lib.cells_of_tab (zs := Lib.pow10Tab) under_pow Tryz.underlying69 cellsU cellsPow h4
    rw [e, show cs = powV from by unfold powV; rw [← hc]]
theorem own : ownKnob Tryz.prog.godebug = none := by kernel_rfl
def putCells (cs : Array Value) : Obj → Obj
  | .cells _ t frozen => .cells cs t frozen
  | o => o
/-- the cells that a listed table reads as -/
def tabCells : DataW Unit → Array Value
  | .agg l => (l.map fun | .lit (.int k z) => Value.int k z | .lit (.string s) => .string ⟨s.toArray⟩ | _ => undef).toArray
  | _ => #[]
/-- A WORLD FOR THE WITNESS: the settled one, the tables holding what their initialisers lay. -/
noncomputable def laidWorld (os : Os) : World :=
  { World.holding Tryz.prog os ⟨#[], #[], []⟩ with heap := ((((World.holding Tryz.prog os ⟨#[], #[], []⟩).heap.modify 0 (putCells (tabCells Rows.laid_rootcause_choice_words))).modify 2 (putCells (tabCells Rows.laid_internal_strconv_uint64pow10))).modify 7 (putCells (tabCells Rows.laid_math_bits_deBruijn32tab))).modify 8 (putCells (tabCells Rows.laid_math_bits_deBruijn64tab)) }
end Go.Proofs.YtpniilgkceadeaaGreatDoor
