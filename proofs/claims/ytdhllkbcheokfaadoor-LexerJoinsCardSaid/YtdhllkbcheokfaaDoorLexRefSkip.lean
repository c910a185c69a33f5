/- The reference's skip returns the offset behind blanks and comments. -/
import Derived.Test.YtdhllkbcheokfaaDoorLexRef
namespace LexP
theorem skip_end1 (s : ByteArray) (k : Nat) (h : k < s.size) (hb : blankI (s[k]).toNat = false) (hp : pfx (s.data.toList.drop k) [47, 47] = false) : skipAt s k = 0 := by
  unfold skipAt
  rw [drop_cons s k h] at hp ⊢
  rw [skipL, if_neg (by rw [hb]; simp), if_neg (by rw [hp]; simp)]
theorem skip_size (s : ByteArray) (k : Nat) (h : ¬ k < s.size) : skipAt s k = 0 := by
  unfold skipAt
  rw [List.drop_eq_nil_of_le (by simp; omega), skipL]
def noteAt (s : ByteArray) (k : Nat) : Nat := skipL true (s.data.toList.drop k)
theorem note_start (s : ByteArray) (k : Nat) (hp : pfx (s.data.toList.drop k) [47, 47] = true) : skipAt s k = noteAt s k := by
  unfold skipAt noteAt
  rw [skip_comment _ hp, skip_note]
theorem note_step (s : ByteArray) (k : Nat) (h : k < s.size) (hn : (((s[k]).toNat : Int) != 10) = true) : noteAt s k = noteAt s (k + 1) + 1 := by
  unfold noteAt
  rw [drop_cons s k h, skipL, if_neg]
  intro hc
  rw [beq_iff_eq] at hc
  rw [hc] at hn
  simp at hn
theorem note_end (s : ByteArray) (k : Nat) (h : k < s.size) (hn : (((s[k]).toNat : Int) != 10) = false) : noteAt s k = skipAt s k := by
  have hc : s[k] = 10 := by
    have h2 : ((s[k]).toNat : Int) = 10 := by simpa using hn
    apply UInt8.toNat.inj; exact Int.ofNat.inj h2
  unfold noteAt skipAt
  rw [drop_cons s k h, hc]
  simp [skipL, blankI]
theorem note_size (s : ByteArray) (k : Nat) (h : ¬ k < s.size) : noteAt s k = skipAt s k := by
  unfold skipAt noteAt
  rw [List.drop_eq_nil_of_le (by simp; omega), skipL, skipL]
end LexP
namespace Go.Proofs.YtdhllkbcheokfaaDoor
open Go.RowKit Go.Shelf
set_option maxRecDepth 100000 in
set_option maxHeartbeats 2000000 in
theorem refskip_any (s : ByteArray) (at0 : Nat) (w : World) (hs : s.size ≤ 140737488351232) (h0 : at0 ≤ s.size) :
    Calls Tryd.prog 24 #[.string s, .int .i64 (at0 : Nat)] w fun e w' => e = .returned (.int .i64 ((at0 + LexP.skipAt s at0 : Nat))) ∧ w = w' := by
  generalize hT : at0 + LexP.skipAt s at0 = T
  go_enter Tryd.func24, Tryd.ntmps24
  go_wp2_with fail
  have HT := Lib.hid hT
  clear hT
  go_loop [1] (fun i => ∃ k : Nat, k ≤ s.size ∧ i = .int .i64 k ∧ k + LexP.skipAt s k = T) (fun i => s.size - (intOf i).toNat)
  case atStart => exact ⟨at0, h0, rfl, HT.out⟩
  case round =>
    obtain ⟨k, hk, rfl, hT⟩ := hrel
    have HK := Lib.hid hT
    clear hT HT
    by_cases hlt : k < s.size
    · cases hb : LexP.blankI (s[k].toNat : Int)
      · obtain ⟨b1, b2, b3, b4⟩ := LexP.not_blank _ hb
        have HBL := Lib.hid hb
        clear hb
        have hpf := LexP.pfx_at s k hlt
        cases hp : LexP.pfx (s.data.toList.drop k) [47, 47]
        · have he := Lib.hid (LexP.skip_end1 s k hlt HBL.out hp)
          rw [hp] at hpf
          have hor : ¬ k + 1 < s.size ∨ (k + 1 < s.size ∧ ((s[k].toNat : Int) == 47) = false) ∨ (∃ h : k + 1 < s.size, ((s[k].toNat : Int) == 47) = true ∧ ((s[k + 1].toNat : Int) == 47) = false) := by
            by_cases h1 : k + 1 < s.size
            · right
              rw [getElem?_pos s (k + 1) h1, Option.getD_some] at hpf
              cases h2 : ((s[k].toNat : Int) == 47)
              · exact .inl ⟨h1, rfl⟩
              · right; refine ⟨h1, rfl, ?_⟩
                rw [h2] at hpf; simpa [h1] using hpf.symm
            · exact .inl h1
          clear hpf hp
          rcases hor with h1 | ⟨h1, h2⟩ | ⟨h1, h2, h3⟩
          all_goals
            go_wp2_with fail
            go_ret
            exact ⟨by rw [← HK.out, he.out]; simp, rfl⟩
        · have he := Lib.hid (LexP.note_start s k hp)
          rw [hp] at hpf
          have h1 : k + 1 < s.size := by
            cases hd : decide (k + 1 < s.size)
            · rw [hd] at hpf; simp at hpf
            · exact of_decide_eq_true hd
          rw [getElem?_pos s (k + 1) h1, Option.getD_some] at hpf
          have h2 : ((s[k].toNat : Int) == 47) = true := by
            cases hd : ((s[k].toNat : Int) == 47)
            · rw [hd] at hpf; simp at hpf
            · rfl
          have h3 : ((s[k + 1].toNat : Int) == 47) = true := by
            cases hd : ((s[k + 1].toNat : Int) == 47)
            · rw [hd] at hpf; simp at hpf
            · rfl
          clear hpf hp
          go_wp2_with fail
          have hne : (((s[k]).toNat : Int) != 10) = true := by rw [beq_iff_eq] at h2; rw [h2]; rfl
          have HNE := Lib.hid hne
          clear hne
          go_loop [1] (fun i => ∃ j : Nat, k ≤ j ∧ j ≤ s.size ∧ i = .int .i64 j ∧ j + LexP.noteAt s j = T) (fun i => s.size - (intOf i).toNat)
          case atStart => exact ⟨k, Nat.le_refl _, hk, rfl, by rw [← he.out]; exact HK.out⟩
          case round =>
            obtain ⟨j, hkj, hj, rfl, hT⟩ := hrel
            have HJ := Lib.hid hT
            clear hT
            by_cases hjs : j < s.size
            · cases hn : ((s[j].toNat : Int) != 10)
              · have hlt2 : k < j := by
                  rcases Nat.lt_or_ge k j with h | h
                  · exact h
                  · obtain rfl : k = j := by omega
                    have := HNE.out
                    rw [hn] at this; cases this
                have he2 := Lib.hid (LexP.note_end s j hjs hn)
                go_wp2_with fail
                go_round
                case rel => exact ⟨j, hj, rfl, by rw [← he2.out]; exact HJ.out⟩
                case measure => simp [intOf]; omega
              · have he2 := Lib.hid (LexP.note_step s j hjs hn)
                go_wp2_with fail
                go_round
                case rel => exact ⟨j + 1, by omega, by omega, by go_num, by have := HJ.out; have := he2.out; omega⟩
                case measure => simp [intOf]; omega
            · have he2 := Lib.hid (LexP.note_size s j hjs)
              go_wp2_with fail
              go_round
              case rel => exact ⟨j, hj, rfl, by rw [← he2.out]; exact HJ.out⟩
              case measure => simp [intOf]; omega
      · have he := Lib.hid (LexP.skip_blank1 s k hlt hb)
        have hor := LexP.blank_cases _ hb
        clear hb
        rcases hor with b1 | ⟨b1, b2⟩ | ⟨b1, b2, b3⟩ | ⟨b1, b2, b3, b4⟩
        all_goals
          go_wp2_with fail
          go_round
          case rel => exact ⟨k + 1, by omega, by go_num, by have := HK.out; have := he.out; omega⟩
          case measure => simp [intOf]; omega
    · have he := Lib.hid (LexP.skip_size s k hlt)
      go_wp2_with fail
      go_ret
      exact ⟨by rw [← HK.out, he.out]; simp, rfl⟩
end Go.Proofs.YtdhllkbcheokfaaDoor
