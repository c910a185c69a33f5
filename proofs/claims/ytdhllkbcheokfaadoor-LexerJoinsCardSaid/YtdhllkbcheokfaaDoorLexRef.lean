/- The reference's lexer: Letter, Digit, Keywords, symbols, skip. -/
import Derived.Test.YtdhllkbcheokfaaDoorLexAwake
import Derived.Laws.ResultCell
namespace LexP
theorem blank_cases (n : Int) (h : blankI n = true) : (n == 32) = true ∨ ((n == 32) = false ∧ (n == 9) = true) ∨ ((n == 32) = false ∧ (n == 9) = false ∧ (n == 10) = true) ∨ ((n == 32) = false ∧ (n == 9) = false ∧ (n == 10) = false ∧ (n == 13) = true) := by
  unfold blankI at h
  cases h1 : (n == 32) <;> cases h2 : (n == 9) <;> cases h3 : (n == 10) <;> cases h4 : (n == 13) <;> simp_all
theorem not_blank (n : Int) (h : blankI n = false) : (n == 32) = false ∧ (n == 9) = false ∧ (n == 10) = false ∧ (n == 13) = false := by
  unfold blankI at h
  cases h1 : (n == 32) <;> cases h2 : (n == 9) <;> cases h3 : (n == 10) <;> cases h4 : (n == 13) <;> simp_all
theorem drop_cons (s : ByteArray) (k : Nat) (h : k < s.size) : s.data.toList.drop k = s[k] :: s.data.toList.drop (k + 1) := by
  rw [List.drop_eq_getElem_cons (by simpa using h)]
  rfl
theorem skip_blank1 (s : ByteArray) (k : Nat) (h : k < s.size) (hb : blankI (s[k]).toNat = true) : skipAt s k = skipAt s (k + 1) + 1 := by
  unfold skipAt
  rw [drop_cons s k h, skipL, if_pos hb]
theorem pfx_at (s : ByteArray) (k : Nat) (h : k < s.size) : pfx (s.data.toList.drop k) [47, 47] = (decide (k + 1 < s.size) && (((s[k]).toNat : Int) == 47) && (((s[k + 1]?.getD 0).toNat : Int) == 47)) := by
  rw [drop_cons s k h]
  by_cases h1 : k + 1 < s.size
  · rw [drop_cons s (k + 1) h1]
    have e : s[k + 1]?.getD 0 = s[k + 1] := by rw [getElem?_pos s (k + 1) h1]; rfl
    rw [e]
    unfold pfx
    have hb : ∀ c : UInt8, ((47 : UInt8) == c) = ((c.toNat : Int) == 47) := by
      intro c
      rw [Bool.eq_iff_iff]
      simp only [beq_iff_eq]
      constructor
      · rintro rfl; rfl
      · intro h; apply UInt8.toNat.inj; exact (Int.ofNat.inj h).symm
    simp only [List.isPrefixOf, hb, h1, decide_true, Bool.true_and, Bool.and_true]
  · have hd : s.data.toList.drop (k + 1) = [] := by
      apply List.drop_eq_nil_of_le; simp; omega
    rw [hd]
    unfold pfx
    simp [List.isPrefixOf, h1]
end LexP
namespace Go.Proofs.YtdhllkbcheokfaaDoor
open Go.RowKit Go.Shelf
set_option maxHeartbeats 400000
theorem refLetter_any (n : Int) (w : World) : Calls Tryd.prog 34 #[.int .u8 n] w fun e w' => e = .returned (.bool (LexP.letterI n)) ∧ w = w' := by
  by_cases h1 : 97 ≤ n <;> by_cases h2 : n ≤ 122 <;> by_cases h3 : 65 ≤ n <;> by_cases h4 : n ≤ 90
  all_goals
    first
    | omega
    | (go_enter Tryd.func34, Tryd.ntmps34
       go_wp2
       go_ret
       exact ⟨by simp [LexP.letterI, h1, h2, h3, h4], rfl⟩)
theorem refDigit_any (n : Int) (w : World) : Calls Tryd.prog 33 #[.int .u8 n] w fun e w' => e = .returned (.bool (LexP.digitI n)) ∧ w = w' := by
  by_cases h1 : 48 ≤ n <;> by_cases h2 : n ≤ 57
  all_goals
    first
    | omega
    | (go_enter Tryd.func33, Tryd.ntmps33
       go_wp2
       go_ret
       exact ⟨by simp [LexP.digitI, h1, h2], rfl⟩)
set_option maxRecDepth 100000 in
theorem refKeywords_any (w : World) : Calls Tryd.prog 19 #[] w fun e w' => e = .returned (.slice (some ⟨w.heap.size, 0, none⟩) 39 39) ∧ w.alloc (.cells wordsV 9) = w' := by
  go_enter Tryd.func19, Tryd.ntmps19
  go_wp2
  go_ret
  exact ⟨rfl, rfl⟩
set_option maxRecDepth 100000 in
theorem refSymbols_any (w : World) : Calls Tryd.prog 35 #[] w fun e w' => e = .returned (.slice (some ⟨w.heap.size, 0, none⟩) 25 25) ∧ w.alloc (.cells symsV 9) = w' := by
  go_enter Tryd.func35, Tryd.ntmps35
  go_wp2
  go_ret
  exact ⟨rfl, rfl⟩
theorem short_any (s : ByteArray) (w : World) : Calls Tryd.prog 11 #[.string s] w fun e w' => e = .returned (.string (s.extract 0 (min s.size 500))) ∧ w = w' := by
  go_enter Tryd.func11, Tryd.ntmps11
  go_wp2
  go_ret
  exact ⟨by rw [← show (min (s.size : Int) 500).toNat = min s.size 500 by omega]; rfl, rfl⟩
end Go.Proofs.YtdhllkbcheokfaaDoor
