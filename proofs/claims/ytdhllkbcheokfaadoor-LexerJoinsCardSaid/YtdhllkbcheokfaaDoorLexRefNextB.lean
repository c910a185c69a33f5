/- The reference's next, at a digit and at any other byte. -/
import Derived.Test.YtdhllkbcheokfaaDoorLexRefNext
namespace Go.Proofs.YtdhllkbcheokfaaDoor
open Go.RowKit Go.Shelf
set_option maxRecDepth 100000 in
set_option maxHeartbeats 2000000 in
theorem refnext_digit (s : ByteArray) (a : Nat) (w : World) (hs : s.size ≤ 140737488351232) (ha : a < s.size) (hl : LexP.letterI (s[a]).toNat = false) (hd : LexP.digitI (s[a]).toNat = true) :
    Calls Tryd.prog 25 #[.string s, .int .i64 (a : Nat)] w (NextPost s a w) := by
  have HH := Lib.hid hl
  have HD := Lib.hid hd
  go_enter Tryd.func25, Tryd.ntmps25
  go_wp2_with (first | (go_at_call 34; refine (refLetter_any _ _).mono ?_; rintro e w' ⟨rfl, rfl⟩) | (go_at_call 33; refine (refDigit_any _ _).mono ?_; rintro e w' ⟨rfl, rfl⟩))
  clear hl hd
  go_loop [5] (fun i => ∃ k : Nat, a + k ≤ s.size ∧ i = .int .i64 (a + k : Nat) ∧ k ≤ LexP.pre LexP.digitI (s.data.toList.drop a)) (fun i => s.size - (intOf i).toNat)
  case atStart => exact ⟨0, by omega, rfl, Nat.zero_le _⟩
  case round =>
    obtain ⟨k, hk, rfl, hpre⟩ := hrel
    have HP := Lib.hid hpre
    clear hpre
    have hor : (∃ h : a + k < s.size, LexP.digitI (s[a + k]).toNat = true) ∨ LexP.pre LexP.digitI (s.data.toList.drop a) = k := by
      by_cases h : a + k < s.size
      · cases hq : LexP.digitI (s[a + k]).toNat
        · exact .inr (LexP.pre_stop_at _ s a k h HP.out hq)
        · exact .inl ⟨h, hq⟩
      · exact .inr (LexP.pre_end_at _ s a k h (by omega) HP.out)
    rcases hor with ⟨h, hq⟩ | hq
    · have hst := Lib.hid (LexP.pre_step_at _ s a k h HP.out hq)
      go_wp2_with (first | (go_at_call 33; refine (refDigit_any _ _).mono ?_; rintro e w' ⟨rfl, rfl⟩))
      go_round
      case rel => exact ⟨k + 1, by omega, by go_num, hst.out⟩
      case measure => simp [intOf]; omega
    · have hor : ¬ a + k < s.size ∨ (∃ h : a + k < s.size, LexP.digitI (s[a + k]).toNat = false) := by
        by_cases h : a + k < s.size
        · right
          refine ⟨h, ?_⟩
          cases hi : LexP.digitI (s[a + k]).toNat
          · rfl
          · have := LexP.pre_step_at _ s a k h HP.out hi
            omega
        · exact .inl h
      have hk1 : 1 ≤ k := by
        have := LexP.pre_step_at LexP.digitI s a 0 ha (Nat.zero_le _) HD.out
        omega
      have HQ := Lib.hid hq
      clear hq HP
      cases h0 : (((s[a]).toNat : Int) == 48)
      · have HF := Lib.hid (LexP.tok_num s a ha HH.out HD.out k HQ.out (.inl h0))
        rcases hor with h | ⟨h, h1⟩
        all_goals
          go_wp2_with (first | (go_at_call 33; refine (refDigit_any _ _).mono ?_; rintro e w' ⟨rfl, rfl⟩))
          exact bodyPost_ret (v := .agg #[.int .i64 3, .string (s.extract a (a + k)), .int .i64 (a : Nat)]) (by simp [results, Tryd.results25, go_sem]) rfl ⟨by rw [HF.out]; rfl, (Below.refl _ _).alloc (Nat.le_refl _) _⟩
      · by_cases e1 : k = 1
        · have HF := Lib.hid (LexP.tok_num s a ha HH.out HD.out k HQ.out (.inr e1))
          subst e1
          rcases hor with h | ⟨h, h1⟩
          all_goals
            go_wp2_with (first | (go_at_call 33; refine (refDigit_any _ _).mono ?_; rintro e w' ⟨rfl, rfl⟩))
            exact bodyPost_ret (v := .agg #[.int .i64 3, .string (s.extract a (a + 1)), .int .i64 (a : Nat)]) (by simp [results, Tryd.results25, go_sem]) rfl ⟨by rw [HF.out]; rfl, (Below.refl _ _).alloc (Nat.le_refl _) _⟩
        · have HF := Lib.hid (LexP.tok_zero s a ha HH.out HD.out k HQ.out h0 e1)
          have hk2 : 2 ≤ k := by omega
          clear e1
          rcases hor with h | ⟨h, h1⟩
          all_goals
            go_wp2_with (first | (go_at_call 33; refine (refDigit_any _ _).mono ?_; rintro e w' ⟨rfl, rfl⟩))
            exact bodyPost_ret (v := .agg #[.int .i64 5, .string (s.extract a s.size), .int .i64 (a : Nat)]) (by simp [results, Tryd.results25, go_sem]) rfl ⟨by rw [HF.out]; rfl, (Below.refl _ _).alloc (Nat.le_refl _) _⟩
set_option maxRecDepth 100000 in
set_option maxHeartbeats 2000000 in
theorem refnext_other (s : ByteArray) (a : Nat) (w : World) (hs : s.size ≤ 140737488351232) (ha : a < s.size) (hl : LexP.letterI (s[a]).toNat = false) (hd : LexP.digitI (s[a]).toNat = false) :
    Calls Tryd.prog 25 #[.string s, .int .i64 (a : Nat)] w (NextPost s a w) := by
  have HH := Lib.hid hl
  have HD := Lib.hid hd
  go_enter Tryd.func25, Tryd.ntmps25
  go_wp2_with (first | (go_at_call 34; refine (refLetter_any _ _).mono ?_; rintro e w' ⟨rfl, rfl⟩) | (go_at_call 33; refine (refDigit_any _ _).mono ?_; rintro e w' ⟨rfl, rfl⟩) | (go_at_call 35; refine (refSymbols_any _).mono ?_; rintro e w' ⟨rfl, rfl⟩))
  clear hl hd
  have hcw := fun (j : Nat) (hj : j < 25) => cell_syms (w.alloc (Obj.cells #[Value.int IntKind.i64 0, Value.string { data := #[] }, Value.int IntKind.i64 0] 33)) j hj
  simp only [World.size_alloc] at hcw
  have HC := Lib.hid hcw
  clear hcw
  go_loop [10, 107] (fun _ i => ∃ j : Nat, j ≤ 25 ∧ i = .int .i64 j ∧ ∀ j', j' < j → LexP.pfx (s.data.toList.drop a) (LexP.syms[j']?.getD []) = false) (fun _ i => 25 - (intOf i).toNat)
  case atStart => exact ⟨0, Nat.zero_le _, rfl, by omega⟩
  case round =>
    obtain ⟨j, hj, rfl, hno⟩ := hrel
    have HN := Lib.hid hno
    clear hno
    by_cases hlt : j < 25
    · have hc := HC.out j hlt
      have hsy := LexP.sym_at s a (LexP.syms[j]?.getD []) (by omega)
      have hxl : (LexP.syms[j]?.getD []).length ≤ 2 := by
        have h2 : j < LexP.syms.length := hlt
        rw [List.getElem?_eq_getElem h2, Option.getD_some]
        exact (LexP.syms_pos _ (List.getElem_mem _)).2
      cases hq : LexP.pfx (s.data.toList.drop a) (LexP.syms[j]?.getD [])
      · have HR : Hid (∀ j', j' < j + 1 → LexP.pfx (s.data.toList.drop a) (LexP.syms[j']?.getD []) = false) := Lib.hid (fun j' hj' => by
          by_cases e : j' = j
          · rw [e]; exact hq
          · exact HN.out j' (by omega))
        rw [hq] at hsy
        clear hq
        generalize hx : LexP.syms[j]?.getD [] = x at *
        clear hx
        by_cases h1 : x.length ≤ s.size - a
        · have h2 : ((s.extract a (a + x.length)).toList == x) = false := by simpa [h1] using hsy.symm
          clear hsy
          go_wp2_with fail
          go_round
          case rel => exact ⟨j + 1, by omega, by go_num, HR.out⟩
          case measure => simp [intOf]; omega
        · clear hsy
          go_wp2_with fail
          go_round
          case rel => exact ⟨j + 1, by omega, by go_num, HR.out⟩
          case measure => simp [intOf]; omega
      · have HF := Lib.hid (LexP.tok_sym s a ha HH.out HD.out j hlt HN.out hq)
        rw [hq] at hsy
        clear hq
        generalize hx : LexP.syms[j]?.getD [] = x at *
        clear hx
        by_cases h1 : x.length ≤ s.size - a
        · have h2 : ((s.extract a (a + x.length)).toList == x) = true := by simpa [h1] using hsy.symm
          clear hsy
          go_wp2_with fail
          exact bodyPost_ret (v := .agg #[.int .i64 4, .string ⟨x.toArray⟩, .int .i64 (a : Nat)]) (by simp [results, Tryd.results25, go_sem]) rfl ⟨by rw [HF.out]; rfl, ((Below.refl _ _).alloc (Nat.le_refl _) _).alloc (by simp) _⟩
        · exfalso; simp [h1] at hsy
    · have HF := Lib.hid (LexP.tok_none s a ha HH.out HD.out (fun j' hj' => HN.out j' (by omega)))
      go_wp2_with fail
      exact bodyPost_ret (v := .agg #[.int .i64 5, .string (s.extract a s.size), .int .i64 (a : Nat)]) (by simp [results, Tryd.results25, go_sem]) rfl ⟨by rw [HF.out]; rfl, ((Below.refl _ _).alloc (Nat.le_refl _) _).alloc (by simp) _⟩
theorem refnext_any (s : ByteArray) (a : Nat) (w : World) (hs : s.size ≤ 140737488351232) (ha : a < s.size) :
    Calls Tryd.prog 25 #[.string s, .int .i64 (a : Nat)] w (NextPost s a w) := by
  cases hl : LexP.letterI (s[a]).toNat
  · cases hd : LexP.digitI (s[a]).toNat
    · exact refnext_other s a w hs ha hl hd
    · exact refnext_digit s a w hs ha hl hd
  · exact refnext_letter s a w hs ha hl
end Go.Proofs.YtdhllkbcheokfaaDoor
