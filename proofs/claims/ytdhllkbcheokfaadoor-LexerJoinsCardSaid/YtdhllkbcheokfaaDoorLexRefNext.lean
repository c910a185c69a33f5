/- The reference's next returns the token at an offset. -/
import Derived.Test.YtdhllkbcheokfaaDoorLexRefSkip
namespace LexP
theorem inside_cases (n : Int) (h : insideI n = true) : letterI n = true ∨ (letterI n = false ∧ digitI n = true) ∨ (letterI n = false ∧ digitI n = false ∧ (n == 95) = true) := by
  unfold insideI at h
  cases h1 : letterI n <;> cases h2 : digitI n <;> cases h3 : (n == 95) <;> simp_all
theorem not_inside (n : Int) (h : insideI n = false) : letterI n = false ∧ digitI n = false ∧ (n == 95) = false := by
  unfold insideI at h
  cases h1 : letterI n <;> cases h2 : digitI n <;> cases h3 : (n == 95) <;> simp_all
theorem drop_get (s : ByteArray) (a k : Nat) (h : a + k < s.size) (h2 : k < (s.data.toList.drop a).length) : (s.data.toList.drop a)[k] = s[a + k] := by
  rw [List.getElem_drop]; rfl
theorem pre_step_at (p : Int → Bool) (s : ByteArray) (a k : Nat) (h : a + k < s.size) (hk : k ≤ pre p (s.data.toList.drop a)) (hp : p (s[a + k]).toNat = true) : k + 1 ≤ pre p (s.data.toList.drop a) := by
  have h2 : k < (s.data.toList.drop a).length := by simp; omega
  exact pre_step p _ k h2 hk (by rw [drop_get s a k h h2]; exact hp)
theorem pre_stop_at (p : Int → Bool) (s : ByteArray) (a k : Nat) (h : a + k < s.size) (hk : k ≤ pre p (s.data.toList.drop a)) (hp : p (s[a + k]).toNat = false) : pre p (s.data.toList.drop a) = k := by
  have h2 : k < (s.data.toList.drop a).length := by simp; omega
  exact pre_stop p _ k h2 hk (by rw [drop_get s a k h h2]; exact hp)
theorem pre_end_at (p : Int → Bool) (s : ByteArray) (a k : Nat) (h : ¬ a + k < s.size) (ha : a ≤ s.size) (hk : k ≤ pre p (s.data.toList.drop a)) : pre p (s.data.toList.drop a) = k := by
  have := pre_drop_le p s a ha
  omega
theorem head_at (s : ByteArray) (a : Nat) (h : a < s.size) : (s.data.toList.drop a).headD 0 = s[a] := by
  rw [drop_cons s a h]; rfl
theorem data_mid (s : ByteArray) (a k : Nat) : (s.extract a (a + k)).data.toList = (s.data.toList.drop a).take k := by
  rw [ByteArray.data_extract, Array.toList_extract, List.extract_eq_take_drop]
  congr 1; omega
section
variable (s : ByteArray) (a : Nat) (h : a < s.size)
theorem tok_kw (hl : letterI (s[a]).toNat = true) (k : Nat) (e : pre insideI (s.data.toList.drop a) = k) (hk : isKw (s.extract a (a + k)).data.toList = true) :
    tokAt s a = ⟨2, s.extract a (a + k), a⟩ := by
  unfold tokAt readAt readL; rw [data_mid] at hk; rw [head_at s a h, if_pos hl, e, if_pos hk]
theorem tok_name (hl : letterI (s[a]).toNat = true) (k : Nat) (e : pre insideI (s.data.toList.drop a) = k) (hk : isKw (s.extract a (a + k)).data.toList = false) (h12 : k ≤ 12) :
    tokAt s a = ⟨1, s.extract a (a + k), a⟩ := by
  unfold tokAt readAt readL; rw [data_mid] at hk; rw [head_at s a h, if_pos hl, e, if_neg (by rw [hk]; simp), if_pos h12]
theorem len_at (h : a < s.size) : a + (s.data.toList.drop a).length = s.size := by simp; omega
theorem tok_long (hl : letterI (s[a]).toNat = true) (k : Nat) (e : pre insideI (s.data.toList.drop a) = k) (hk : isKw (s.extract a (a + k)).data.toList = false) (h12 : ¬ k ≤ 12) :
    tokAt s a = ⟨5, s.extract a s.size, a⟩ := by
  unfold tokAt readAt readL; rw [data_mid] at hk; rw [head_at s a h, if_pos hl, e, if_neg (by rw [hk]; simp), if_neg h12, len_at s a h]
theorem tok_num (hl : letterI (s[a]).toNat = false) (hd : digitI (s[a]).toNat = true) (k : Nat) (e : pre digitI (s.data.toList.drop a) = k) (h0 : (((s[a]).toNat : Int) == 48) = false ∨ k = 1) :
    tokAt s a = ⟨3, s.extract a (a + k), a⟩ := by
  unfold tokAt readAt readL; rw [head_at s a h, if_neg (by rw [hl]; simp), if_pos hd, e, if_pos]
  rcases h0 with h0 | h0
  · simp [bne, h0]
  · simp [h0]
theorem tok_zero (hl : letterI (s[a]).toNat = false) (hd : digitI (s[a]).toNat = true) (k : Nat) (e : pre digitI (s.data.toList.drop a) = k) (h0 : (((s[a]).toNat : Int) == 48) = true) (h1 : k ≠ 1) :
    tokAt s a = ⟨5, s.extract a s.size, a⟩ := by
  unfold tokAt readAt readL; rw [head_at s a h, if_neg (by rw [hl]; simp), if_pos hd, e, if_neg, len_at s a h]
  simp [bne, h0, h1]
theorem tok_sym (hl : letterI (s[a]).toNat = false) (hd : digitI (s[a]).toNat = false) (k : Nat) (hk : k < 25) (hn : ∀ j, j < k → pfx (s.data.toList.drop a) (syms[j]?.getD []) = false) (hp : pfx (s.data.toList.drop a) (syms[k]?.getD []) = true) :
    tokAt s a = ⟨4, ⟨(syms[k]?.getD []).toArray⟩, a⟩ := by
  have e : s.extract a (a + (syms[k]?.getD []).length) = ⟨(syms[k]?.getD []).toArray⟩ := by
    apply ByteArray.ext
    apply Array.toList_inj.1
    rw [data_mid]
    unfold pfx at hp
    rw [List.isPrefixOf_iff_prefix] at hp
    rw [← List.prefix_iff_eq_take.1 hp]
  unfold tokAt readAt readL; rw [head_at s a h, if_neg (by rw [hl]; simp), if_neg (by rw [hd]; simp), firstSym_at _ k hk hn hp]
  simp only [e]
theorem tok_none (hl : letterI (s[a]).toNat = false) (hd : digitI (s[a]).toNat = false) (hn : ∀ j, j < 25 → pfx (s.data.toList.drop a) (syms[j]?.getD []) = false) :
    tokAt s a = ⟨5, s.extract a s.size, a⟩ := by
  unfold tokAt readAt readL; rw [head_at s a h, if_neg (by rw [hl]; simp), if_neg (by rw [hd]; simp), firstSym_none _ hn, len_at s a h]
/-- how the reference asks whether a symbol stands at an offset -/
theorem sym_at (x : List UInt8) (h : a ≤ s.size) : pfx (s.data.toList.drop a) x = (decide (x.length ≤ s.size - a) && ((s.extract a (a + x.length)).toList == x)) := by
  rw [Go.ByteArray.toList_eq, data_mid]
  unfold pfx
  rw [Bool.eq_iff_iff, List.isPrefixOf_iff_prefix, Bool.and_eq_true, decide_eq_true_eq, beq_iff_eq, List.prefix_iff_eq_take]
  constructor
  · intro hx
    refine ⟨?_, hx.symm⟩
    have := congrArg List.length hx
    simp at this
    omega
  · exact fun hx => hx.2.symm
end
end LexP
namespace Go.Proofs.YtdhllkbcheokfaaDoor
open Go.RowKit Go.Shelf
/-- a token of the reference as a value -/
def rtokV (x : LexP.Tok) : Value := .agg #[.int .i64 (x.kind : Nat), .string x.text, .int .i64 (x.off : Nat)]
theorem cell_words (W : World) (k : Nat) (hk : k < 39) : (W.alloc (.cells wordsV 9)).cell? ⟨W.heap.size, k, none⟩ = some (strV (LexP.words[k]?.getD [])) := by
  refine cell_at (World.alloc_heap_new W _) k _ ?_
  have h2 : k < LexP.words.length := hk
  simp [wordsV, strV, h2]
theorem cell_syms (W : World) (k : Nat) (hk : k < 25) : (W.alloc (.cells symsV 9)).cell? ⟨W.heap.size, k, none⟩ = some (strV (LexP.syms[k]?.getD [])) := by
  refine cell_at (World.alloc_heap_new W _) k _ ?_
  have h2 : k < LexP.syms.length := hk
  simp [symsV, strV, h2]
def NextPost (s : ByteArray) (a : Nat) (w : World) (e : Ending) (w' : World) : Prop := e = .returned (rtokV (LexP.tokAt s a)) ∧ Below w.heap.size w w'
set_option maxRecDepth 100000 in
set_option maxHeartbeats 2000000 in
theorem refnext_letter (s : ByteArray) (a : Nat) (w : World) (hs : s.size ≤ 140737488351232) (ha : a < s.size) (hl : LexP.letterI (s[a]).toNat = true) :
    Calls Tryd.prog 25 #[.string s, .int .i64 (a : Nat)] w (NextPost s a w) := by
  have HH := Lib.hid hl
  go_enter Tryd.func25, Tryd.ntmps25
  go_wp2_with (first | (go_at_call 34; refine (refLetter_any _ _).mono ?_; rintro e w' ⟨rfl, rfl⟩))
  clear hl
  go_loop [5] (fun i => ∃ k : Nat, a + k ≤ s.size ∧ i = .int .i64 (a + k : Nat) ∧ k ≤ LexP.pre LexP.insideI (s.data.toList.drop a)) (fun i => s.size - (intOf i).toNat)
  case atStart => exact ⟨0, by omega, rfl, Nat.zero_le _⟩
  case round =>
    obtain ⟨k, hk, rfl, hpre⟩ := hrel
    have HP := Lib.hid hpre
    clear hpre
    have hor : (∃ h : a + k < s.size, LexP.insideI (s[a + k]).toNat = true) ∨ LexP.pre LexP.insideI (s.data.toList.drop a) = k := by
      by_cases h : a + k < s.size
      · cases hq : LexP.insideI (s[a + k]).toNat
        · exact .inr (LexP.pre_stop_at _ s a k h HP.out hq)
        · exact .inl ⟨h, hq⟩
      · exact .inr (LexP.pre_end_at _ s a k h (by omega) HP.out)
    rcases hor with ⟨h, hq⟩ | hq
    · have hst := Lib.hid (LexP.pre_step_at _ s a k h HP.out hq)
      have hor := LexP.inside_cases _ hq
      clear hq
      rcases hor with h1 | ⟨h1, h2⟩ | ⟨h1, h2, h3⟩
      all_goals
        go_wp2_with (first | (go_at_call 34; refine (refLetter_any _ _).mono ?_; rintro e w' ⟨rfl, rfl⟩) | (go_at_call 33; refine (refDigit_any _ _).mono ?_; rintro e w' ⟨rfl, rfl⟩))
        go_round
        case rel => exact ⟨k + 1, by omega, by go_num, hst.out⟩
        case measure => simp [intOf]; omega
    · have hor : ¬ a + k < s.size ∨ (∃ h : a + k < s.size, LexP.letterI (s[a + k]).toNat = false ∧ LexP.digitI (s[a + k]).toNat = false ∧ (((s[a + k]).toNat : Int) == 95) = false) := by
        by_cases h : a + k < s.size
        · right
          refine ⟨h, LexP.not_inside _ ?_⟩
          cases hi : LexP.insideI (s[a + k]).toNat
          · rfl
          · have := LexP.pre_step_at _ s a k h HP.out hi
            omega
        · exact .inl h
      have HQ := Lib.hid hq
      clear hq HP
      rcases hor with h | ⟨h, h1, h2, h3⟩
      all_goals
        go_wp2_with (first | (go_at_call 34; refine (refLetter_any _ _).mono ?_; rintro e w' ⟨rfl, rfl⟩) | (go_at_call 33; refine (refDigit_any _ _).mono ?_; rintro e w' ⟨rfl, rfl⟩) | (go_at_call 19; refine (refKeywords_any _).mono ?_; rintro e w' ⟨rfl, rfl⟩))
        have hcw := fun (j : Nat) (hj : j < 39) => cell_words (w.alloc (Obj.cells #[Value.int IntKind.i64 0, Value.string { data := #[] }, Value.int IntKind.i64 0] 33)) j hj
        simp only [World.size_alloc] at hcw
        have HC := Lib.hid hcw
        clear hcw
        go_loop [8, 46] (fun _ i => ∃ j : Nat, j ≤ 39 ∧ i = .int .i64 j ∧ ∀ j', j' < j → (LexP.words[j']?.getD [] == (s.extract a (a + k)).toList) = false) (fun _ i => 39 - (intOf i).toNat)
        case atStart => exact ⟨0, Nat.zero_le _, rfl, by omega⟩
        case round =>
          obtain ⟨j, hj, rfl, hno⟩ := hrel
          have HN := Lib.hid hno
          clear hno
          by_cases hlt : j < 39
          · have hc := HC.out j hlt
            cases hq : (LexP.words[j]?.getD [] == (s.extract a (a + k)).toList)
            · go_wp2_with fail
              go_round
              case rel =>
                refine ⟨j + 1, by omega, by go_num, fun j' hj' => ?_⟩
                by_cases e : j' = j
                · rw [e]; exact hq
                · exact HN.out j' (by omega)
              case measure => simp [intOf]; omega
            · have HF := Lib.hid (LexP.tok_kw s a ha HH.out k HQ.out (LexP.isKw_of _ j hlt (by rw [← ByteArray.toList_eq]; exact hq)))
              go_wp2_with fail
              exact bodyPost_ret (v := .agg #[.int .i64 2, .string (s.extract a (a + k)), .int .i64 (a : Nat)]) (by simp [results, Tryd.results25, go_sem]) rfl ⟨by rw [HF.out]; rfl, ((Below.refl _ _).alloc (Nat.le_refl _) _).alloc (by simp) _⟩
          · have hkw := LexP.isKw_not (s.extract a (a + k)).data.toList (fun j' hj' => by rw [← ByteArray.toList_eq]; exact HN.out j' (by omega))
            have hsz : (s.extract a (a + k)).size = k := by simp; omega
            by_cases h12 : k ≤ 12
            · have HF := Lib.hid (LexP.tok_name s a ha HH.out k HQ.out hkw h12)
              clear hkw
              go_wp2_with fail
              exact bodyPost_ret (v := .agg #[.int .i64 1, .string (s.extract a (a + k)), .int .i64 (a : Nat)]) (by simp [results, Tryd.results25, go_sem]) rfl ⟨by rw [HF.out]; rfl, ((Below.refl _ _).alloc (Nat.le_refl _) _).alloc (by simp) _⟩
            · have HF := Lib.hid (LexP.tok_long s a ha HH.out k HQ.out hkw h12)
              clear hkw
              go_wp2_with fail
              exact bodyPost_ret (v := .agg #[.int .i64 5, .string (s.extract a s.size), .int .i64 (a : Nat)]) (by simp [results, Tryd.results25, go_sem]) rfl ⟨by rw [HF.out]; rfl, ((Below.refl _ _).alloc (Nat.le_refl _) _).alloc (by simp) _⟩
end Go.Proofs.YtdhllkbcheokfaaDoor
