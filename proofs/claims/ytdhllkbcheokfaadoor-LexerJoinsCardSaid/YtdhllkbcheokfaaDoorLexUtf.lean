/- Plain: a byte 10 is met by every walk over the runes of a text. -/
import Derived.Laws.RangeAny
import Derived.Laws.RangeString
namespace LexP
open Go
theorem get_ne (s : ByteArray) (j : Nat) (h : j < s.size) (h2 : 128 ≤ (s.get! j).toNat) : (s[j]).toNat ≠ 10 := by
  have e : s.get! j = s[j] := by
    show s.data[j]! = s.data[j]
    exact getElem!_pos s.data j h
  rw [← e]; omega
theorem decode_clean (s : ByteArray) (pos : Nat) (h : pos < s.size) (hr : (Utf8.decode s pos).1 ≠ 10) : ∀ j, pos ≤ j → j < pos + (Utf8.decode s pos).2 → ∀ hj : j < s.size, (s[j]).toNat ≠ 10 := by
  by_cases ha : (s[pos]).toNat < 128
  · rw [decode_ascii s pos h ha] at hr ⊢
    intro j h1 h2 hj
    obtain rfl : j = pos := by simp at h2; omega
    exact hr
  · have hp : 128 ≤ (s[pos]).toNat := by omega
    have hw : ∀ k, 1 ≤ k → k < (Utf8.decode s pos).2 → 128 ≤ (s.get! (pos + k)).toNat := by
      intro k hk1 hk2
      have hn : ¬ (s.get! (pos + 0)).toNat < 128 := by
        have e : s.get! (pos + 0) = s[pos] := by
          show s.data[pos + 0]! = s.data[pos]
          exact getElem!_pos s.data pos h
        rw [e]; omega
      unfold Utf8.decode at hk2
      simp only [hn, if_false] at hk2
      split at hk2
      · rename_i c
        simp only [Bool.and_eq_true, decide_eq_true_eq, beq_iff_eq] at c
        split at hk2
        · obtain rfl : k = 1 := by simp at hk2; omega
          omega
        · simp at hk2; omega
      · split at hk2
        · rename_i c
          simp only [Bool.and_eq_true, decide_eq_true_eq, beq_iff_eq] at c
          split at hk2
          · have : k = 1 ∨ k = 2 := by simp at hk2; omega
            rcases this with rfl | rfl <;> omega
          · simp at hk2; omega
        · split at hk2
          · rename_i c
            simp only [Bool.and_eq_true, decide_eq_true_eq, beq_iff_eq] at c
            split at hk2
            · have : k = 1 ∨ k = 2 ∨ k = 3 := by simp at hk2; omega
              rcases this with rfl | rfl | rfl <;> omega
            · simp at hk2; omega
          · simp at hk2; omega
    intro j h1 h2 hj
    rcases Nat.eq_or_lt_of_le h1 with rfl | h3
    · omega
    · have := hw (j - pos) (by omega) (by omega)
      rw [show pos + (j - pos) = j by omega] at this
      exact get_ne s j hj this
theorem width_pos (s : ByteArray) (pos : Nat) (h : pos < s.size) : 1 ≤ (Utf8.decode s pos).2 := by
  by_cases ha : (s[pos]'h).toNat < 128
  · rw [decode_ascii s pos h ha]
    exact Nat.le_refl _
  · exact (decode_high s pos h (by omega)).2
end LexP
