/- The lexer's functions keyword, skip and read. -/
import Derived.Test.YtdhllkbcheokfaaDoorLexPlain
import Derived.Test.YtdhllkbcheokfaaDoorLexWorld
import Derived.Test.YtdhllkbcheokfaaDoorLexSmall
import Derived.Test.YtdhllkbcheokfaaDoorShelf
import Derived.WalkKit
import Derived.Outline
import Derived.WalkSpells
import Derived.Lib.Hide
namespace Go.Proofs.YtdhllkbcheokfaaDoor
open Go.RowKit
set_option maxHeartbeats 400000
theorem keyword_any (s : ByteArray) (w : World) (hL : Laid w) :
    Calls Tryd.prog 41 #[.string s] w fun e w' => e = .returned (.bool (LexP.isKw s.data.toList)) ∧ w = w' := by
  obtain ⟨⟨tt, fr, hg⟩, _⟩ := hL
  have HG := Lib.hid hg
  clear hg
  go_enter Tryd.func41, Tryd.ntmps41
  go_wp2_with (refine wpList_load_row rfl 59 _ rfl 0 rfl tt _ fr _ HG.out under_words rfl size_words ?_)
  go_loop [4, 6] (fun _ i => ∃ k : Nat, k ≤ 39 ∧ i = .int .i64 k ∧ ∀ j, j < k → (LexP.words[j]?.getD [] == s.toList) = false) (fun _ i => 39 - (intOf i).toNat)
  case atStart => exact ⟨0, Nat.zero_le _, rfl, by omega⟩
  case round =>
    obtain ⟨k, hk, rfl, hno⟩ := hrel
    have HN := Lib.hid hno
    clear hno
    by_cases hlt : k < 39
    · have hix := fun w => idx_words w k hlt
      cases hq : (LexP.words[k]?.getD [] == s.toList)
      · go_wp2_with fail
        go_round
        case rel =>
          refine ⟨k + 1, by omega, by go_num, fun j hj => ?_⟩
          by_cases e : j = k
          · rw [e]; exact hq
          · exact HN.out j (by omega)
        case measure => simp [intOf]; omega
      · go_wp2_with fail
        go_ret
        exact ⟨by rw [LexP.isKw_of _ k hlt (by rw [← ByteArray.toList_eq]; exact hq)]; rfl, rfl⟩
    · go_wp2_with fail
      go_ret
      exact ⟨by rw [LexP.isKw_not _ (fun j hj => by rw [← ByteArray.toList_eq]; exact HN.out j (by omega))]; rfl, rfl⟩
theorem skip_any (s : ByteArray) (w : World) (hs : s.size ≤ maxLen) :
    Calls Tryd.prog 27 #[.string s] w fun e w' => e = .returned (.int .i64 (LexP.skipL false s.data.toList)) ∧ w = w' := by
  unfold maxLen at hs
  go_enter Tryd.func27, Tryd.ntmps27
  go_wp2_with fail
  go_loop [3] (fun i => ∃ k : Nat, k ≤ s.size ∧ i = .int .i64 k ∧ k + LexP.skipL false (s.data.toList.drop k) = LexP.skipL false s.data.toList) (fun i => s.size - (intOf i).toNat)
  case atStart => exact ⟨0, Nat.zero_le _, rfl, by simp⟩
  case round =>
    obtain ⟨k, hk, rfl, hno⟩ := hrel
    have HN := Lib.hid hno
    clear hno
    go_wp2_with fail
    refine (prefix_blank _ _ (by simp [maxLen]; omega)).mono ?_
    rintro e w' ⟨rfl, rfl⟩
    rw [LexP.data_drop]
    have hb := LexP.pre_drop_le LexP.blankI s k hk
    generalize hx : LexP.pre LexP.blankI (s.data.toList.drop k) = n1 at *
    have HX := Lib.hid hx
    have H2 := Lib.hid (LexP.skip_round _ _ _ HN.out hx)
    clear hx
    go_wp2_with fail
    refine (Tryd.strings_HasPrefix _ _ _).mono ?_
    rintro e w' ⟨rfl, rfl⟩
    rw [LexP.data_drop]
    cases hp : LexP.pfx (s.data.toList.drop (k + n1)) [47, 47]
    · have HP := Lib.hid hp
      have hq : Lib.hasPrefix (s.data.toList.drop (k + n1)) ({ data := #[47, 47] } : ByteArray).data.toList = false := hp
      clear hp
      rw [hq]
      clear hq
      go_wp2_with fail
      go_ret
      exact ⟨by rw [LexP.skip_end _ _ _ H2.out HX.out HP.out]; rfl, rfl⟩
    · have HP := Lib.hid hp
      have hq : Lib.hasPrefix (s.data.toList.drop (k + n1)) ({ data := #[47, 47] } : ByteArray).data.toList = true := hp
      clear hp
      rw [hq]
      clear hq
      go_wp2_with fail
      refine (prefix_notnl _ _ (by simp [maxLen]; omega)).mono ?_
      rintro e w' ⟨rfl, rfl⟩
      rw [LexP.data_drop]
      have hb2 := LexP.pre_drop_le LexP.notnlI s (k + n1) hb
      generalize hx : LexP.pre LexP.notnlI (s.data.toList.drop (k + n1)) = n2 at *
      obtain ⟨H3, h4⟩ := LexP.skip_round2 _ _ _ H2.out HP.out hx
      have H4 := Lib.hid H3
      clear hx H3
      go_wp2_with fail
      go_round
      case rel => exact ⟨k + n1 + n2, hb2, by go_num, H4.out⟩
      case measure => simp [intOf]; omega
/-- what read hands back -/
def readV (l : List UInt8) : Value := .tuple #[.int .u8 ((LexP.readL l).1 : Nat), .int .i64 ((LexP.readL l).2 : Nat)]
theorem readV_of {l : List UInt8} {a b : Nat} (h : LexP.readL l = (a, b)) : readV l = .tuple #[.int .u8 (a : Nat), .int .i64 (b : Nat)] := by unfold readV; rw [h]
theorem pre_le_size (p : Int → Bool) (s : ByteArray) : LexP.pre p s.data.toList ≤ s.size := by
  have := LexP.pre_le p s.data.toList
  simpa using this
theorem read_letter (s : ByteArray) (w : World) (hL : Laid w) (hs : s.size ≤ maxLen) (h0 : 0 < s.size) (hl : LexP.letterI (s[0]).toNat = true) :
    Calls Tryd.prog 28 #[.string s] w fun e w' => e = .returned (readV s.data.toList) ∧ w = w' := by
  have HL := Lib.hid hL
  clear hL
  have HH := Lib.hid hl
  unfold maxLen at hs
  go_enter Tryd.func28, Tryd.ntmps28
  go_wp2_with (go_at_call 39; refine (letter_any _ _).mono ?_; rintro e w' ⟨rfl, rfl⟩)
  refine (prefix_inside _ _ (by simp [maxLen]; omega)).mono ?_
  rintro e w' ⟨rfl, rfl⟩
  have hb := pre_le_size LexP.insideI s
  generalize hx : LexP.pre LexP.insideI s.data.toList = n at *
  have HX := Lib.hid hx
  clear hx
  go_wp2_with fail
  refine (keyword_any _ _ HL.out).mono ?_
  rintro e w' ⟨rfl, rfl⟩
  rw [LexP.data_take]
  cases hk : LexP.isKw (s.data.toList.take n)
  · have HK := Lib.hid hk
    clear hk
    by_cases hn : n ≤ 12
    · have HF : Hid (readV s.data.toList = .tuple #[.int .u8 (1 : Nat), .int .i64 (n : Nat)]) := Lib.hid (readV_of (by rw [LexP.read_name s h0 HH.out (by rw [HX.out]; exact HK.out) (by rw [HX.out]; exact hn), HX.out]))
      go_wp2_with fail
      go_ret2
      exact ⟨by rw [HF.out]; rfl, rfl⟩
    · have HF : Hid (readV s.data.toList = .tuple #[.int .u8 (5 : Nat), .int .i64 (s.size : Nat)]) := Lib.hid (readV_of (by rw [LexP.read_long s h0 HH.out (by rw [HX.out]; exact HK.out) (by rw [HX.out]; exact hn)]))
      go_wp2_with fail
      go_ret2
      exact ⟨by rw [HF.out]; rfl, rfl⟩
  · have HK := Lib.hid hk
    clear hk
    have HF : Hid (readV s.data.toList = .tuple #[.int .u8 (2 : Nat), .int .i64 (n : Nat)]) := Lib.hid (readV_of (by rw [LexP.read_kw s h0 HH.out (by rw [HX.out]; exact HK.out), HX.out]))
    go_wp2_with fail
    go_ret2
    exact ⟨by rw [HF.out]; rfl, rfl⟩
theorem read_digit (s : ByteArray) (w : World) (hs : s.size ≤ maxLen) (h0 : 0 < s.size) (hl : LexP.letterI (s[0]).toNat = false) (hd : LexP.digitI (s[0]).toNat = true) :
    Calls Tryd.prog 28 #[.string s] w fun e w' => e = .returned (readV s.data.toList) ∧ w = w' := by
  have HH := Lib.hid hl
  have HD := Lib.hid hd
  unfold maxLen at hs
  go_enter Tryd.func28, Tryd.ntmps28
  go_wp2_with (first | (go_at_call 39; refine (letter_any _ _).mono ?_; rintro e w' ⟨rfl, rfl⟩) | (go_at_call 32; refine (digit_any _ _).mono ?_; rintro e w' ⟨rfl, rfl⟩))
  refine (prefix_digit _ _ (by simp [maxLen]; omega)).mono ?_
  rintro e w' ⟨rfl, rfl⟩
  have hb := pre_le_size LexP.digitI s
  generalize hx : LexP.pre LexP.digitI s.data.toList = n at *
  have HX := Lib.hid hx
  clear hx
  cases h1 : ((n : Int) == 1) <;> cases hc : (((s[0]).toNat : Int) != 48)
  · have HF : Hid (readV s.data.toList = .tuple #[.int .u8 (5 : Nat), .int .i64 (s.size : Nat)]) := Lib.hid (readV_of (by rw [LexP.read_zero s h0 HH.out HD.out (by rw [HX.out]; rw [beq_eq_false_iff_ne] at h1; omega) hc]))
    go_wp2_with fail
    go_ret2
    exact ⟨by rw [HF.out]; rfl, rfl⟩
  all_goals
    have HF : Hid (readV s.data.toList = .tuple #[.int .u8 (3 : Nat), .int .i64 (n : Nat)]) := Lib.hid (readV_of (by rw [LexP.read_num s h0 HH.out HD.out (by rw [HX.out]; first | exact .inr hc | (left; rw [beq_iff_eq] at h1; omega)), HX.out]))
    go_wp2_with fail
    go_ret2
    exact ⟨by rw [HF.out]; rfl, rfl⟩
theorem read_other (s : ByteArray) (w : World) (hL : Laid w) (h0 : 0 < s.size) (hl : LexP.letterI (s[0]).toNat = false) (hd : LexP.digitI (s[0]).toNat = false) :
    Calls Tryd.prog 28 #[.string s] w fun e w' => e = .returned (readV s.data.toList) ∧ w = w' := by
  obtain ⟨_, tt, fr, hg⟩ := hL
  have HG := Lib.hid hg
  clear hg
  have HH := Lib.hid hl
  have HD := Lib.hid hd
  go_enter Tryd.func28, Tryd.ntmps28
  go_wp2_with (first | (go_at_call 39; refine (letter_any _ _).mono ?_; rintro e w' ⟨rfl, rfl⟩) | (go_at_call 32; refine (digit_any _ _).mono ?_; rintro e w' ⟨rfl, rfl⟩) | refine wpList_load_row rfl 64 _ rfl 1 rfl tt _ fr _ HG.out under_syms rfl size_syms ?_)
  go_loop [8, 12] (fun _ i => ∃ k : Nat, k ≤ 25 ∧ i = .int .i64 k ∧ ∀ j, j < k → LexP.pfx s.data.toList (LexP.syms[j]?.getD []) = false) (fun _ i => 25 - (intOf i).toNat)
  case atStart => exact ⟨0, Nat.zero_le _, rfl, by omega⟩
  case round =>
    obtain ⟨k, hk, rfl, hno⟩ := hrel
    have HN := Lib.hid hno
    clear hno
    by_cases hlt : k < 25
    · have hix := fun w => idx_syms w k hlt
      go_wp2_with fail
      refine (Tryd.strings_HasPrefix _ _ _).mono ?_
      rintro e w' ⟨rfl, rfl⟩
      cases hp : LexP.pfx s.data.toList (LexP.syms[k]?.getD [])
      · have HP := Lib.hid hp
        have hq : Lib.hasPrefix s.data.toList ({ data := (LexP.syms[k]?.getD []).toArray } : ByteArray).data.toList = false := hp
        clear hp
        rw [hq]
        clear hq
        go_wp2_with fail
        go_round
        case rel =>
          refine ⟨k + 1, by omega, by go_num, fun j hj => ?_⟩
          by_cases e : j = k
          · rw [e]; exact HP.out
          · exact HN.out j (by omega)
        case measure => simp [intOf]; omega
      · have HF := Lib.hid (readV_of (LexP.read_sym s h0 HH.out HD.out k hlt HN.out hp))
        have hq : Lib.hasPrefix s.data.toList ({ data := (LexP.syms[k]?.getD []).toArray } : ByteArray).data.toList = true := hp
        clear hp
        rw [hq]
        clear hq
        go_wp2_with fail
        go_ret2
        exact ⟨by rw [HF.out]; rfl, rfl⟩
    · have HF := Lib.hid (readV_of (LexP.read_none s h0 HH.out HD.out (fun j hj => HN.out j (by omega))))
      go_wp2_with fail
      go_ret2
      exact ⟨by rw [HF.out]; rfl, rfl⟩
theorem read_any (s : ByteArray) (w : World) (hL : Laid w) (hs : s.size ≤ maxLen) (h0 : 0 < s.size) :
    Calls Tryd.prog 28 #[.string s] w fun e w' => e = .returned (readV s.data.toList) ∧ w = w' := by
  cases hl : LexP.letterI (s[0]).toNat
  · cases hd : LexP.digitI (s[0]).toNat
    · exact read_other s w hL h0 hl hd
    · exact read_digit s w hs h0 hl hd
  · exact read_letter s w hL hs h0 hl
end Go.Proofs.YtdhllkbcheokfaaDoor
