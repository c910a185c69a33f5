/- Names: plain facts; the lexer's Keywords and IsName; the reference's IsName. -/
import Derived.Test.YtdhllkbcheokfaaDoorLexRefLex
import Derived.Test.YtdhllkbcheokfaaDoorLexSame
import Derived.Deep.QuietTactic
import Derived.BigQuiet
namespace LexP
/-- a name: the whole text is one token of kind 1 -/
def isNameB (s : ByteArray) : Bool := !s.data.toList.isEmpty && ((readL s.data.toList).1 == 1) && ((readL s.data.toList).2 == s.size)
theorem read_one (l : List UInt8) (h : (readL l).1 = 1) : letterI (l.headD 0).toNat = true ∧ (readL l).2 ≤ 12 := by
  unfold readL at h ⊢
  split at h
  · rename_i hc
    refine ⟨hc, ?_⟩
    rw [if_pos hc]
    split at h
    · simp at h
    · rename_i hk
      split at h
      · rename_i h12; rw [if_neg hk, if_pos h12]; exact h12
      · simp at h
  · split at h
    · split at h <;> simp at h
    · split at h <;> simp at h
theorem letter_skip (l : List UInt8) (h : letterI (l.headD 0).toNat = true) : skipL false l = 0 := by
  match l, h with
  | [], _ => rfl
  | c :: t, h =>
    have hc : letterI c.toNat = true := h
    have hb : blankI c.toNat = false := by
      unfold letterI at hc; unfold blankI
      simp at hc ⊢
      omega
    have hp : pfx (c :: t) [47, 47] = false := by
      cases hq : pfx (c :: t) [47, 47]
      · rfl
      · obtain ⟨t', e⟩ := pfx_two _ hq
        injection e with e1 _
        rw [e1] at hc
        exact absurd hc (by decide)
    rw [skipL, if_neg (by rw [hb]; simp), if_neg (by rw [hp]; simp)]
theorem nextAt_end (s : ByteArray) (h : (readAt s 0).2 = s.size) : nextAt s 0 = s.size := by
  unfold nextAt
  rw [h, Nat.zero_add]
  unfold skipAt
  rw [List.drop_eq_nil_of_le (by simp), skipL]; rfl
theorem name_lex (s : ByteArray) (h : isNameB s = true) : lexB s = [⟨1, s, 0⟩] := by
  unfold isNameB at h
  simp only [Bool.and_eq_true, Bool.not_eq_true', beq_iff_eq] at h
  obtain ⟨⟨h0, h1⟩, h2⟩ := h
  obtain ⟨hl, _⟩ := read_one _ h1
  have hpos : 0 < s.size := by
    cases hs : s.data.toList with
    | nil => rw [hs] at h0; cases h0
    | cons c t =>
      have := congrArg List.length hs
      simp at this; omega
  have hr : readAt s 0 = readL s.data.toList := by unfold readAt; simp
  have e0 : skipAt s 0 = 0 := by unfold skipAt; rw [List.drop_zero]; exact letter_skip _ hl
  unfold lexB
  rw [e0, toksFrom_step s 0 hpos, nextAt_end s (by rw [hr]; exact h2), toksFrom_end s _ (by omega)]
  unfold tokAt
  rw [hr, h1, h2]
  simp
theorem lex_name (s : ByteArray) (x : Tok) (h : lexB s = [x]) (h1 : x.kind = 1) (h2 : x.text.data.toList = s.data.toList) : isNameB s = true := by
  unfold lexB at h
  by_cases hlt : skipAt s 0 < s.size
  · rw [toksFrom_step s _ hlt] at h
    injection h with hx _
    have hb := readAt_bounds s _ hlt
    rw [← hx] at h1 h2
    have hn := congrArg List.length h2
    unfold tokAt at hn h1
    simp at hn h1
    have e0 : skipAt s 0 = 0 := by omega
    rw [e0] at h1 hn hb
    have hr : readAt s 0 = readL s.data.toList := by unfold readAt; simp
    rw [hr] at h1 hn hb
    unfold isNameB
    have hne : s.data.toList.isEmpty = false := by
      cases hs : s.data.toList with
      | nil =>
        exfalso
        have hlen : s.data.toList.length = s.size := by simp
        rw [hs] at hlen
        rw [List.length_nil] at hlen
        omega
      | cons => rfl
    rw [hne, h1]
    have : (readL s.data.toList).2 = s.size := by omega
    rw [this]; simp
  · rw [toksFrom_end s _ hlt] at h
    cases h
/-- what the reference asks -/
def refNameB (s : ByteArray) : Bool := match lexB s with
  | [x] => ((x.kind : Int) == 1) && (x.text.toList == s.toList)
  | _ => false
theorem refName_eq (s : ByteArray) : refNameB s = isNameB s := by
  unfold refNameB
  cases hn : isNameB s
  · split
    · rename_i x hx
      rw [Bool.eq_false_iff]
      intro hc
      simp only [Bool.and_eq_true, beq_iff_eq] at hc
      have h1 : x.kind = 1 := by omega
      have h2 := hc.2
      rw [Go.ByteArray.toList_eq, Go.ByteArray.toList_eq] at h2
      rw [lex_name s x hx h1 h2] at hn
      cases hn
    · rfl
  · rw [name_lex s hn]
    simp
theorem name_short (s : ByteArray) (h : isNameB s = true) : s.size ≤ 12 := by
  unfold isNameB at h
  simp only [Bool.and_eq_true, Bool.not_eq_true', beq_iff_eq] at h
  obtain ⟨⟨h0, h1⟩, h2⟩ := h
  have := (read_one _ h1).2
  omega
theorem words_no : (words.all fun x => !isNameB ⟨x.toArray⟩) = true := by decide +kernel
theorem word_no (k : Nat) : isNameB ⟨(words[k]?.getD []).toArray⟩ = false := by
  by_cases h : k < words.length
  · have := List.all_eq_true.1 words_no words[k] (List.getElem_mem _)
    rw [List.getElem?_eq_getElem h, Option.getD_some]
    simpa using this
  · rw [List.getElem?_eq_none (by omega)]; rfl
end LexP
namespace Go.Proofs.YtdhllkbcheokfaaDoor
open Go.RowKit Go.Shelf
set_option maxRecDepth 100000 in
set_option maxHeartbeats 1000000 in
theorem isName_any (s : ByteArray) (w : World) (hL : Laid w) (hs : s.size ≤ 140737488351232) :
    Calls Tryd.prog 20 #[.string s] w fun e w' => e = .returned (.bool (LexP.isNameB s)) ∧ w = w' := by
  have HL := Lib.hid hL
  clear hL
  cases he : s.toList.isEmpty
  · have hne : s.toList ≠ [] := by intro e; rw [e] at he; cases he
    have h0 : 0 < s.size := by
      rw [ByteArray.toList_eq] at hne
      have := List.length_pos_iff.2 hne
      simpa using this
    have hv : LexP.isNameB s = ((((LexP.readL s.data.toList).1 : Nat) : Int) == 1 && ((((LexP.readL s.data.toList).2 : Nat) : Int) == s.size)) := by
      unfold LexP.isNameB
      rw [← ByteArray.toList_eq, he, ByteArray.toList_eq]
      rw [Bool.eq_iff_iff]
      simp
      omega
    have HV := Lib.hid hv
    clear hv
    go_enter Tryd.func20, Tryd.ntmps20
    go_wp2_with fail
    refine (read_any _ _ HL.out (by unfold maxLen; omega) h0).mono ?_
    rintro e w' ⟨rfl, rfl⟩
    have ev : readV s.data.toList = .tuple #[.int .u8 ((LexP.readL s.data.toList).1 : Nat), .int .i64 ((LexP.readL s.data.toList).2 : Nat)] := rfl
    rw [ev]
    clear ev
    generalize (LexP.readL s.data.toList).1 = A at *
    generalize (LexP.readL s.data.toList).2 = B at *
    cases h1 : ((A : Int) == 1) <;> cases h2 : ((B : Int) == (s.size : Int))
    all_goals
      have HF := HV.out
      rw [h1, h2] at HF
      have HF2 := Lib.hid HF
      clear HF
      go_wp2_with fail
      go_ret
      exact ⟨by rw [HF2.out]; rfl, rfl⟩
  · have hne : s.toList = [] := List.isEmpty_iff.1 he
    have hv : LexP.isNameB s = false := by
      unfold LexP.isNameB
      rw [← ByteArray.toList_eq, he]; rfl
    have HV := Lib.hid hv
    clear hv
    go_enter Tryd.func20, Tryd.ntmps20
    go_wp2_with fail
    go_ret
    exact ⟨by rw [HV.out]; rfl, rfl⟩
end Go.Proofs.YtdhllkbcheokfaaDoor
