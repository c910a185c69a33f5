/- The reference's Value, and the walk of the law on values. -/
import Derived.Test.YtdhllkbcheokfaaDoorLexValue
namespace Go.Proofs.YtdhllkbcheokfaaDoor
open Go.RowKit Go.Shelf
set_option maxRecDepth 100000 in
set_option maxHeartbeats 1000000 in
theorem refvalue_kind (kd : Int) (s : ByteArray) (w : World) (hk : (kd != 3) = true) :
    Calls Tryd.prog 23 #[.agg #[.int .i64 kd, .string s, .int .i64 0]] w (ValPost kd s w) := by
  have hv : LexP.valOf kd s.data.toList = (0, 1) := by
    unfold LexP.valOf
    rw [if_neg]
    have : (kd == 3) = false := by simpa [bne] using hk
    rw [this]; simp
  have HV := Lib.hid (valV_of hv)
  clear hv
  go_enter Tryd.func23, Tryd.ntmps23
  go_wp2_with fail
  go_ret2
  exact ⟨by rw [HV.out]; rfl, (Below.refl _ _).alloc (Nat.le_refl _) _⟩
set_option maxRecDepth 100000 in
set_option maxHeartbeats 1000000 in
theorem refvalue_empty (s : ByteArray) (w : World) (he : s.toList = []) (he2 : s.toList.isEmpty = true) :
    Calls Tryd.prog 23 #[.agg #[.int .i64 3, .string s, .int .i64 0]] w (ValPost 3 s w) := by
  have hv : LexP.valOf 3 s.data.toList = (0, 1) := by
    unfold LexP.valOf
    rw [if_neg]
    rw [empty_iff, he2]; simp
  have HV := Lib.hid (valV_of hv)
  clear hv
  go_enter Tryd.func23, Tryd.ntmps23
  go_wp2_with fail
  go_ret2
  exact ⟨by rw [HV.out]; rfl, (Below.refl _ _).alloc (Nat.le_refl _) _⟩
set_option maxRecDepth 100000 in
set_option maxHeartbeats 2000000 in
theorem refvalue_loop (s : ByteArray) (w : World) (hs : s.size ≤ 140737488351232) (he : s.toList.isEmpty = false) :
    Calls Tryd.prog 23 #[.agg #[.int .i64 3, .string s, .int .i64 0]] w (ValPost 3 s w) := by
  have hyes : LexP.pre LexP.digitI s.data.toList = s.size → LexP.valOf 3 s.data.toList = match LexP.valK s.data.toList s.size with | none => (0, 2) | some v => (v, 0) := by
    intro hp
    unfold LexP.valOf
    rw [if_pos]
    · simp; cases LexP.valK s.data.toList s.size <;> rfl
    · rw [empty_iff, he, hp]; simp
  have hno : LexP.pre LexP.digitI s.data.toList ≠ s.size → LexP.valOf 3 s.data.toList = (0, 1) := by
    intro hp
    unfold LexP.valOf
    rw [if_neg]
    intro hc
    simp at hc
    exact hp hc.2
  have HY := Lib.hid hyes
  have HN := Lib.hid hno
  have hne : s.toList ≠ [] := by intro e; rw [e] at he; cases he
  clear hyes hno
  go_enter Tryd.func23, Tryd.ntmps23
  go_wp2_with fail
  go_loop [4, 5, 6, 7] (fun a b i _ => ∃ k : Nat, k ≤ s.size ∧ i = .int .i64 k ∧ k ≤ LexP.pre LexP.digitI s.data.toList ∧ ∃ v : Nat, v ≤ 9223372036854775807 ∧ a = .int .u64 v ∧ ((b = .bool false ∧ LexP.valK s.data.toList k = some v) ∨ (b = .bool true ∧ LexP.valK s.data.toList k = none))) (fun _ _ i _ => s.size - (intOf i).toNat)
  case atStart => exact ⟨0, Nat.zero_le _, rfl, Nat.zero_le _, 0, by decide, rfl, .inl ⟨rfl, rfl⟩⟩
  case round =>
    obtain ⟨k, hk, rfl, hpre, v, hvle, rfl, hor⟩ := hrel
    have HP := Lib.hid hpre
    clear hpre
    by_cases hlt : k < s.size
    · cases hd : LexP.digitI (s[k].toNat : Int)
      · have hst := LexP.pre_stop' LexP.digitI s k hlt HP.out hd
        have HF : Hid (valV 3 s = .tuple #[.int .i64 (0 : Nat), .int .i64 (1 : Nat)]) := Lib.hid (valV_of (HN.out (by omega)))
        clear hst
        rcases hor with ⟨rfl, hval⟩ | ⟨rfl, hval⟩
        all_goals
          clear hval
          go_wp2_with (go_at_call 33; refine (refDigit_any _ _).mono ?_; rintro e w' ⟨rfl, rfl⟩)
          go_ret2
          exact ⟨by rw [HF.out]; rfl, (Below.refl _ _).alloc (Nat.le_refl _) _⟩
      · have HS := Lib.hid (LexP.pre_step' LexP.digitI s k hlt HP.out hd)
        have hdg := LexP.digit_bounds _ hd
        rcases hor with ⟨rfl, hval⟩ | ⟨rfl, hval⟩
        · have HVK := Lib.hid hval
          clear hval
          by_cases hbig : (9223372036854775807 - ((s[k]).toNat - 48)) / 10 < v
          · have HB := Lib.hid (LexP.valK_big s k v hlt HVK.out hbig)
            generalize hc : (s[k]).toNat = c at *
            go_wp2_with (go_at_call 33; refine (refDigit_any _ _).mono ?_; rintro e w' ⟨rfl, rfl⟩)
            go_round
            case rel => exact ⟨k + 1, by omega, by go_num, HS.out, v, hvle, rfl, .inr ⟨rfl, HB.out⟩⟩
            case measure => simp [intOf]; omega
          · have HB := Lib.hid (LexP.valK_ok s k v hlt HVK.out hbig)
            have hle := LexP.valK_le _ _ _ HB.out
            generalize hc : (s[k]).toNat = c at *
            go_wp2_with (go_at_call 33; refine (refDigit_any _ _).mono ?_; rintro e w' ⟨rfl, rfl⟩)
            go_round
            case rel => exact ⟨k + 1, by omega, by go_num, HS.out, 10 * v + (c - 48), hle, by go_num, .inl ⟨rfl, HB.out⟩⟩
            case measure => simp [intOf]; omega
        · have HB := Lib.hid (LexP.valK_none _ _ hval)
          clear hval
          generalize hc : (s[k]).toNat = c at *
          go_wp2_with (go_at_call 33; refine (refDigit_any _ _).mono ?_; rintro e w' ⟨rfl, rfl⟩)
          go_round
          case rel => exact ⟨k + 1, by omega, by go_num, HS.out, v, hvle, rfl, .inr ⟨rfl, HB.out⟩⟩
          case measure => simp [intOf]; omega
    · have hst := LexP.pre_end' LexP.digitI s k hlt HP.out
      have hks : k = s.size := by omega
      rcases hor with ⟨rfl, hval⟩ | ⟨rfl, hval⟩
      · have HF : Hid (valV 3 s = .tuple #[.int .i64 (v : Nat), .int .i64 (0 : Nat)]) := Lib.hid (valV_of (by rw [HY.out (by omega), ← hks, hval]))
        clear hval hst hks
        go_wp2_with fail
        go_ret2
        exact ⟨by rw [HF.out]; rfl, (Below.refl _ _).alloc (Nat.le_refl _) _⟩
      · have HF : Hid (valV 3 s = .tuple #[.int .i64 (0 : Nat), .int .i64 (2 : Nat)]) := Lib.hid (valV_of (by rw [HY.out (by omega), ← hks, hval]))
        clear hval hst hks
        go_wp2_with fail
        go_ret2
        exact ⟨by rw [HF.out]; rfl, (Below.refl _ _).alloc (Nat.le_refl _) _⟩
theorem refvalue_any (kd : Int) (s : ByteArray) (w : World) (hs : s.size ≤ 140737488351232) :
    Calls Tryd.prog 23 #[.agg #[.int .i64 kd, .string s, .int .i64 0]] w (ValPost kd s w) := by
  cases hk : (kd != 3)
  · obtain rfl : kd = 3 := by simpa [bne] using hk
    cases he : s.toList.isEmpty
    · exact refvalue_loop s w hs he
    · exact refvalue_empty s w (List.isEmpty_iff.1 he) he
  · exact refvalue_kind kd s w hk
set_option maxRecDepth 100000 in
set_option maxHeartbeats 1000000 in
theorem lexerValues_walk (kd : Int) (s : ByteArray) (w : World) (hL : Laid w) (h1 : 0 ≤ kd) (h2 : kd ≤ 255) (hs : s.size ≤ 140737488351232) :
    Calls Tryd.prog 9 #[.int .u8 kd, .string s] w (TruePost w) := by
  have h2' : 2 ≤ w.heap.size := by
    obtain ⟨_, t, fr, e⟩ := hL
    have := (Array.getElem?_eq_some_iff.1 e).1
    omega
  have HL := Lib.hid hL
  clear hL
  go_enter Tryd.func9, Tryd.ntmps9
  go_wp2_with fail
  refine (awake_any w HL.out h2').mono ?_
  rintro e w1 ⟨rfl, hb⟩
  have HB := Lib.hid hb
  have hz1 := hb.size
  clear hb
  go_wp2_with fail
  refine (value_any kd s _ hs).mono ?_
  rintro e w2 ⟨rfl, hb2⟩
  have hz2 := hb2.size
  have HB2 := Lib.hid (HB.out.trans (hb2.mono hz1))
  clear hb2
  have hv : valV kd s = .tuple #[.int .i64 ((LexP.valOf kd s.data.toList).1 : Nat), .int .i64 ((LexP.valOf kd s.data.toList).2 : Nat)] := rfl
  have HV := Lib.hid hv
  clear hv
  rw [HV.out]
  go_wp2_with fail
  refine (refvalue_any kd s _ hs).mono ?_
  rintro e w3 ⟨rfl, hb3⟩
  have HB3 := Lib.hid (HB2.out.trans (hb3.mono (by omega)))
  clear hb3
  rw [HV.out]
  go_wp2_with fail
  go_ret
  exact ⟨rfl, HB3.out⟩
end Go.Proofs.YtdhllkbcheokfaaDoor
