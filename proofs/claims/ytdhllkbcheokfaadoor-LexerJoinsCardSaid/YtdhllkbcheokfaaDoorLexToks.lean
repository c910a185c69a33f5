/- Plain mathematics of the lexer: the list of the tokens of a text. No program here. -/
import Derived.Test.YtdhllkbcheokfaaDoorLexPlain
namespace LexP
/-- a token: its kind, its text, its offset -/
structure Tok where
  kind : Nat
  text : ByteArray
  off : Nat
def readAt (s : ByteArray) (off : Nat) : Nat × Nat := readL (s.data.toList.drop off)
def skipAt (s : ByteArray) (off : Nat) : Nat := skipL false (s.data.toList.drop off)
def tokAt (s : ByteArray) (off : Nat) : Tok := ⟨(readAt s off).1, s.extract off (off + (readAt s off).2), off⟩
def nextAt (s : ByteArray) (off : Nat) : Nat := off + (readAt s off).2 + skipAt s (off + (readAt s off).2)
def toks (s : ByteArray) : Nat → Nat → List Tok
  | 0, _ => []
  | f + 1, off => if off < s.size then tokAt s off :: toks s f (nextAt s off) else []
def toksFrom (s : ByteArray) (off : Nat) : List Tok := toks s (s.size + 1 - off) off
/-- the tokens of a text -/
def lexB (s : ByteArray) : List Tok := toksFrom s (skipAt s 0)
theorem pfx_len (l p : List UInt8) (h : pfx l p = true) : p.length ≤ l.length := by
  unfold pfx at h
  rw [List.isPrefixOf_iff_prefix] at h
  exact h.length_le
theorem syms_pos : ∀ x ∈ syms, 1 ≤ x.length ∧ x.length ≤ 2 := by decide
theorem pre_pos (p : Int → Bool) (l : List UInt8) (h : l ≠ []) (hp : p (l.headD 0).toNat = true) : 1 ≤ pre p l := by
  match l, h with
  | c :: t, _ => rw [pre_cons, if_pos (by simpa using hp)]; omega
theorem read_bounds (l : List UInt8) (h : l ≠ []) : 1 ≤ (readL l).2 ∧ (readL l).2 ≤ l.length := by
  have hl : 1 ≤ l.length := by cases l with | nil => exact absurd rfl h | cons => simp
  unfold readL
  split
  · rename_i hc
    have h1 := pre_pos insideI l h (by unfold insideI; rw [hc]; rfl)
    have h2 := pre_le insideI l
    split
    · exact ⟨h1, h2⟩
    · split
      · exact ⟨h1, h2⟩
      · exact ⟨hl, Nat.le_refl _⟩
  · split
    · rename_i hc
      have h1 := pre_pos digitI l h hc
      have h2 := pre_le digitI l
      split
      · exact ⟨h1, h2⟩
      · exact ⟨hl, Nat.le_refl _⟩
    · split
      · rename_i x hx
        unfold firstSym at hx
        have hm := List.mem_of_find?_eq_some hx
        have hp := List.find?_some hx
        exact ⟨(syms_pos x hm).1, pfx_len _ _ hp⟩
      · exact ⟨hl, Nat.le_refl _⟩
theorem read_kind (l : List UInt8) : 1 ≤ (readL l).1 ∧ (readL l).1 ≤ 5 := by
  unfold readL
  repeat' (first | split | simp)
theorem readAt_bounds (s : ByteArray) (off : Nat) (h : off < s.size) : 1 ≤ (readAt s off).2 ∧ off + (readAt s off).2 ≤ s.size := by
  have hl : (s.data.toList.drop off).length = s.size - off := by simp
  have := read_bounds (s.data.toList.drop off) (by intro e; rw [e] at hl; simp at hl; omega)
  unfold readAt
  omega
theorem skipAt_le (s : ByteArray) (off : Nat) (h : off ≤ s.size) : off + skipAt s off ≤ s.size := by
  have := skipL_le false (s.data.toList.drop off)
  unfold skipAt
  simp at this
  omega
theorem nextAt_bounds (s : ByteArray) (off : Nat) (h : off < s.size) : off < nextAt s off ∧ nextAt s off ≤ s.size := by
  have h1 := readAt_bounds s off h
  have h2 := skipAt_le s _ h1.2
  unfold nextAt
  omega
theorem toks_fuel (s : ByteArray) : ∀ (f g off : Nat), s.size + 1 - off ≤ f → s.size + 1 - off ≤ g → toks s f off = toks s g off
  | 0, g, off, h1, h2 => by
    cases g with
    | zero => rfl
    | succ g => rw [toks, toks, if_neg (by omega)]
  | f + 1, 0, off, h1, h2 => by rw [toks, toks, if_neg (by omega)]
  | f + 1, g + 1, off, h1, h2 => by
    rw [toks, toks]
    split
    · rename_i h
      have := nextAt_bounds s off h
      rw [toks_fuel s f g _ (by omega) (by omega)]
    · rfl
theorem toksFrom_end (s : ByteArray) (off : Nat) (h : ¬ off < s.size) : toksFrom s off = [] := by
  unfold toksFrom
  cases hf : s.size + 1 - off with
  | zero => rfl
  | succ f => rw [toks, if_neg h]
theorem toksFrom_step (s : ByteArray) (off : Nat) (h : off < s.size) : toksFrom s off = tokAt s off :: toksFrom s (nextAt s off) := by
  have hb := nextAt_bounds s off h
  unfold toksFrom
  rw [show s.size + 1 - off = (s.size - off) + 1 by omega, toks, if_pos h, toks_fuel s (s.size - off) (s.size + 1 - nextAt s off) _ (by omega) (by omega)]
theorem toksFrom_length (s : ByteArray) : ∀ (n off : Nat), s.size - off ≤ n → (toksFrom s off).length ≤ n
  | 0, off, h => by rw [toksFrom_end s off (by omega)]; simp
  | n + 1, off, h => by
    by_cases hl : off < s.size
    · have hb := nextAt_bounds s off hl
      rw [toksFrom_step s off hl]
      have := toksFrom_length s n (nextAt s off) (by omega)
      simp; omega
    · rw [toksFrom_end s off hl]; simp
theorem lexB_length (s : ByteArray) : (lexB s).length ≤ s.size := toksFrom_length s _ _ (by omega)
end LexP
