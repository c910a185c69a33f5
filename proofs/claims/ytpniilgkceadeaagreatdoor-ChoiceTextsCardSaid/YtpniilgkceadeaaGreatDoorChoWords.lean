/- Rows of strings: words that are appended, and strings.Join. The tables that lie in memory. -/
import Derived.Test.YtpniilgkceadeaaGreatDoorChoShelf
import Derived.Test.YtpniilgkceadeaaGreatDoorChoMem
import Derived.Test.YtpniilgkceadeaaGreatDoorChoCmp
import Derived.Test.YtpniilgkceadeaaGreatDoorChoPlain
import Derived.Lib.ItoaLen
import Derived.Lib.LaidTab
import Derived.Lib.SmallJoins
namespace Go.Proofs.YtpniilgkceadeaaGreatDoor
open Go.RowKit Go.Shelf Go.Sort
/-- a string of a list of bytes -/
abbrev strV (l : List UInt8) : Value := .string ⟨l.toArray⟩
def strs (xs : List (List UInt8)) : List Value := xs.map strV
/-- the value v is a slice of the call's own that holds these words -/
def Words (w : World) (base : Nat) (v : Value) (xs : List (List UInt8)) : Prop := w.ownsRow base 9 1 v xs.length (strs xs)
theorem info_str : (Tryz.prog.info? 9).map (fun i => (i.zero, i.size, i.bytes)) = some (some (.string ⟨#[]⟩), 1, 16) := by kernel_rfl
theorem strs_one (xs : List (List UInt8)) : ∀ u ∈ strs xs, u.oneCell' = true := by
  intro u hu
  simp only [strs, List.mem_map] at hu
  obtain ⟨z, _, rfl⟩ := hu
  rfl
theorem words_new (w : World) (base : Nat) (xs : List (List UInt8)) (hb : base ≤ w.heap.size) (hm : xs.length ≤ 1000) : Words (w.alloc (.cells (strs xs).toArray 9)) base (.slice (some ⟨w.heap.size, 0, none⟩) xs.length xs.length) xs := by
  refine ⟨by simp [strs], .inr ⟨w.heap.size, xs.length, (strs xs).toArray, rfl, hb, heap_alloc_new w _, Nat.le_refl _, by unfold maxLen; omega, by simp [strs], by rw [List.toList_toArray, List.take_of_length_le (by simp [strs])]⟩⟩
theorem Words.below {w w' : World} {base : Nat} {v : Value} {xs : List (List UInt8)} (h : Words w base v xs) (hb : Below w.heap.size w w') : Words w' base v xs := own_below h hb
theorem join_words (w : World) (base : Nat) (v : Value) (xs : List (List UInt8)) (h : Words w base v xs) (h0 : 0 < xs.length) (hm : xs.length ≤ 1000) (hlen : (Lib.join xs [32]).length ≤ 140737488355328) :
    Calls Tryz.prog 63 #[v, .string ⟨#[32]⟩] w fun e w' => e = .returned (strV (Lib.join xs [32])) ∧ Below w.heap.size w w' := by
  obtain ⟨g, cap, rfl, _, hlt⟩ := World.ownsRow.form h h0
  have hc : xs.length ≤ cap := by
    rcases h.2 with ⟨e, _⟩ | ⟨g', cap', cur, e, _, _, hc, _⟩
    · cases e
    · injection e with _ _ e; omega
  have hj := Tryz.strings_Join g 0 cap (xs.map fun l => ⟨l.toArray⟩) ⟨#[32]⟩ w (fun j x hx => by
    rw [List.getElem?_map, Option.map_eq_some_iff] at hx
    obtain ⟨l, hl, rfl⟩ := hx
    rw [Nat.zero_add, World.ownsRow.cellAt h j (by have := (List.getElem?_eq_some_iff.1 hl).1; omega), strs, List.getElem?_map, hl]
    rfl) hlt (by simp; omega) (by simpa using hc)
  have e1 : (xs.map fun l => (⟨l.toArray⟩ : ByteArray)).map (·.data.toList) = xs := by
    rw [List.map_map]
    exact List.map_id'' (fun _ => rfl) xs
  rw [e1] at hj
  simpa using hj (by simpa using hlen)
/-- how long a joined text is at most -/
theorem join_le (B : Nat) : ∀ (xs : List (List UInt8)), (∀ x ∈ xs, x.length ≤ B) → (Lib.join xs [32]).length ≤ xs.length * (B + 1)
  | [], _ => by simp [Lib.join_nil]
  | x :: r, h => by
    rw [Lib.join_length]
    have : ∀ ys : List (List UInt8), (∀ y ∈ ys, y.length ≤ B) → Lib.lens ys ≤ ys.length * B := by
      intro ys
      induction ys with
      | nil => intro _; simp [Lib.lens]
      | cons y r ih =>
        intro h
        have h1 := h y (by simp)
        have h2 := ih (fun z hz => h z (by simp [hz]))
        simp only [Lib.lens, List.map_cons, List.sum_cons, List.length_cons] at *
        rw [Nat.add_mul]
        omega
    have h2 := this (x :: r) h
    simp only [List.length_cons, List.length_nil] at *
    rw [Nat.mul_add]
    omega
def wordsV : Array Value := (ChoP.words.map strV).toArray
def powV : Array Value := (Lib.pow10Tab.map fun z => Value.int .u64 z).toArray
/-- the tables that the program and the library read lie where they were laid -/
def Laid (w : World) : Prop := (∃ t fr, w.heap[0]? = some (.cells wordsV t fr)) ∧ (∃ t fr, w.heap[2]? = some (.cells powV t fr))
theorem gPow : Tryz.prog.globalNamed "internal/strconv.uint64pow10" = some 2 := by kernel_rfl
theorem Laid.tab {w : World} (h : Laid w) : Lib.TabIs Tryz.prog w "internal/strconv.uint64pow10" .u64 Lib.pow10Tab := by
  obtain ⟨_, t, fr, e⟩ := h
  unfold Lib.TabIs World.var?
  rw [gPow]
  simp only [Option.bind_some, e]
  rfl
/-- the tables lie below B -/
def Low (B : Nat) : Prop := 0 < B ∧ 2 < B
theorem Laid.low {w : World} (h : Laid w) : Low w.heap.size := by
  obtain ⟨⟨_, _, e1⟩, ⟨_, _, e2⟩⟩ := h
  exact ⟨(Array.getElem?_eq_some_iff.1 e1).1, (Array.getElem?_eq_some_iff.1 e2).1⟩
theorem Low.mono {B B' : Nat} (h : Low B) (hB : B ≤ B') : Low B' := ⟨Nat.lt_of_lt_of_le h.1 hB, Nat.lt_of_lt_of_le h.2 hB⟩
theorem Laid.keep {w w' : World} {B : Nat} (h : Laid w) (hl : Low B) (hb : Below B w w') : Laid w' := by
  obtain ⟨⟨t1, f1, e1⟩, ⟨t2, f2, e2⟩⟩ := h
  exact ⟨⟨t1, f1, (hb.block _ hl.1).trans e1⟩, ⟨t2, f2, (hb.block _ hl.2).trans e2⟩⟩
theorem Laid.below {w w' : World} (h : Laid w) (hb : Below w.heap.size w w') : Laid w' := h.keep h.low hb
theorem Laid.word {w : World} (h : Laid w) (k : Nat) (hk : k < 10) : w.cell? ⟨0, k, none⟩ = some (strV (ChoP.words.getD k [])) := by
  obtain ⟨⟨t, fr, e⟩, _⟩ := h
  have hl : k < ChoP.words.length := hk
  exact cell_at e k _ (by simp [wordsV, hl])
/-- strconv.Itoa -/
def StrPost (l : List UInt8) (w : World) (e : Ending) (w' : World) : Prop := e = .returned (strV l) ∧ Below w.heap.size w w'
theorem itoa_any (n : Int) (w : World) (hL : Laid w) (h0 : -9223372036854775808 ≤ n) (h1 : n ≤ 9223372036854775807) : Calls Tryz.prog 61 #[.int .i64 n] w (StrPost (Lib.itoa n) w) :=
  Calls.mono (Tryz.strconv_Itoa n h0 h1 w hL.tab) fun _ _ ⟨he, k, os, hw⟩ => ⟨he, by rw [hw]; exact Grows.below ⟨k, os, rfl⟩ (Nat.le_refl _)⟩
theorem formatInt_any (n : Int) (w : World) (hL : Laid w) (h0 : -9223372036854775808 ≤ n) (h1 : n ≤ 9223372036854775807) : Calls Tryz.prog 92 #[.int .i64 n, .int .i64 10] w (StrPost (Lib.itoa n) w) :=
  Calls.mono (Tryz.strconv_FormatInt_10 n h0 h1 w hL.tab) fun _ _ ⟨he, k, os, hw⟩ => ⟨he, by rw [hw]; exact Grows.below ⟨k, os, rfl⟩ (Nat.le_refl _)⟩
theorem itoa_small (n : Int) (w : World) (h0 : 0 ≤ n) (h1 : n < 100) : Calls Tryz.prog 61 #[.int .i64 n] w fun e w' => e = .returned (strV (Lib.itoa n)) ∧ w' = w := by
  obtain ⟨i, rfl⟩ := Int.eq_ofNat_of_zero_le h0
  have h := Tryz.strconv_Itoa_small i (by omega) w
  have e : Lib.itoa (i : Int) = Lib.decDigits i := by unfold Lib.itoa; rw [if_neg (by omega), Int.toNat_natCast]
  rw [e]
  exact h
end Go.Proofs.YtpniilgkceadeaaGreatDoor
