/- Plain mathematics of the lexer: bytes, blanks, comments and tokens as functions on lists of bytes. No program here. -/
namespace LexP
def letterI (n : Int) : Bool := (decide (97 ≤ n) && decide (n ≤ 122)) || (decide (65 ≤ n) && decide (n ≤ 90))
def digitI (n : Int) : Bool := decide (48 ≤ n) && decide (n ≤ 57)
def insideI (n : Int) : Bool := letterI n || digitI n || (n == 95)
def blankI (n : Int) : Bool := (n == 32) || (n == 9) || (n == 10) || (n == 13)
def notnlI (n : Int) : Bool := (n != 10)
/-- how many bytes at the beginning are accepted -/
def pre (p : Int → Bool) (l : List UInt8) : Nat := (l.takeWhile fun c => p c.toNat).length
theorem pre_le (p : Int → Bool) (l : List UInt8) : pre p l ≤ l.length := by
  unfold pre; exact (List.takeWhile_sublist _).length_le
theorem pre_nil (p : Int → Bool) : pre p [] = 0 := rfl
theorem pre_cons (p : Int → Bool) (c : UInt8) (l : List UInt8) : pre p (c :: l) = if p c.toNat then pre p l + 1 else 0 := by
  unfold pre; rw [List.takeWhile_cons]; split <;> simp
theorem pre_step (p : Int → Bool) : ∀ (l : List UInt8) (k : Nat) (h : k < l.length), k ≤ pre p l → p (l[k]).toNat = true → k + 1 ≤ pre p l
  | [], _, h, _, _ => absurd h (by simp)
  | c :: l, 0, _, _, hp => by rw [pre_cons, if_pos (by simpa using hp)]; omega
  | c :: l, k + 1, h, hk, hp => by
    rw [pre_cons] at hk ⊢
    split at hk
    · rename_i hc
      rw [if_pos hc]
      have := pre_step p l k (by simpa using h) (by omega) (by simpa using hp)
      omega
    · omega
theorem pre_stop (p : Int → Bool) : ∀ (l : List UInt8) (k : Nat) (h : k < l.length), k ≤ pre p l → p (l[k]).toNat = false → pre p l = k
  | [], _, h, _, _ => absurd h (by simp)
  | c :: l, 0, _, _, hp => by rw [pre_cons, if_neg (by simpa using hp)]
  | c :: l, k + 1, h, hk, hp => by
    rw [pre_cons] at hk ⊢
    split at hk
    · rename_i hc
      rw [if_pos hc, pre_stop p l k (by simpa using h) (by omega) (by simpa using hp)]
    · omega
theorem pre_step' (p : Int → Bool) (s : ByteArray) (k : Nat) (h : k < s.size) (hk : k ≤ pre p s.data.toList) (hp : p (s[k]).toNat = true) : k + 1 ≤ pre p s.data.toList :=
  pre_step p _ k (by simpa using h) hk (by simpa [ByteArray.getElem_eq_getElem_data] using hp)
theorem pre_stop' (p : Int → Bool) (s : ByteArray) (k : Nat) (h : k < s.size) (hk : k ≤ pre p s.data.toList) (hp : p (s[k]).toNat = false) : pre p s.data.toList = k :=
  pre_stop p _ k (by simpa using h) hk (by simpa [ByteArray.getElem_eq_getElem_data] using hp)
theorem pre_end' (p : Int → Bool) (s : ByteArray) (k : Nat) (h : ¬ k < s.size) (hk : k ≤ pre p s.data.toList) : pre p s.data.toList = k := by
  have := pre_le p s.data.toList
  simp at this; omega
/-- the keywords, in order -/
def words : List (List UInt8) := [[97, 102, 116, 101, 114], [97, 108, 119, 97, 121, 115], [97, 110, 100], [97, 114, 114, 105, 118, 101, 115], [98, 111, 111, 108], [99, 111, 109, 112, 111, 110, 101, 110, 116], [99, 111, 117, 110, 116], [100, 101, 108, 101, 116, 101], [100, 111], [101, 108, 115, 101], [101, 120, 105, 115, 116, 115], [102, 97, 108, 115, 101], [102, 101, 116, 99, 104], [102, 108, 97, 103], [102, 108, 101, 101, 116], [102, 111, 114, 97, 108, 108], [104, 97, 115], [105, 102], [105, 109, 112, 108, 105, 101, 115], [105, 110], [105, 110, 116], [108, 97, 116, 101, 110, 99, 121], [108, 105, 110, 107], [110, 111, 116], [110, 111, 119], [111, 110], [111, 110, 99, 101], [111, 114], [112, 114, 101, 118, 105, 111, 117, 115], [115, 101, 110, 100], [115, 105, 110, 99, 101], [115, 105, 122, 101], [115, 116, 111, 112], [115, 116, 111, 114, 101], [116, 97, 98, 108, 101], [116, 114, 117, 101], [118, 97, 114], [118, 101, 114, 115, 105, 111, 110], [119, 104, 105, 108, 101]]
/-- the symbols, those of two bytes first -/
def syms : List (List UInt8) := [[46, 46], [61, 61], [33, 61], [60, 61], [62, 61], [45, 62], [123], [125], [40], [41], [91], [93], [44], [59], [58], [46], [61], [60], [62], [43], [45], [42], [47], [37], [95]]
end LexP
