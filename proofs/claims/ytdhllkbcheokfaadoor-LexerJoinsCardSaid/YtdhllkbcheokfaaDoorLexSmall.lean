/- The lexer's small functions: what each byte test returns. -/
import Derived.Test.YtdhllkbcheokfaaDoorChecked
import Derived.Test.YtdhllkbcheokfaaDoorLexPlainA
import Derived.WalkKit
import Derived.Outline
import Derived.WalkSpells
import Derived.Lib.Hide
namespace Go.Proofs.YtdhllkbcheokfaaDoor
open Go.RowKit
set_option maxHeartbeats 400000
theorem letter_any (n : Int) (w : World) : Calls Tryd.prog 39 #[.int .u8 n] w fun e w' => e = .returned (.bool (LexP.letterI n)) ∧ w = w' := by
  by_cases h1 : 97 ≤ n <;> by_cases h2 : n ≤ 122 <;> by_cases h3 : 65 ≤ n <;> by_cases h4 : n ≤ 90
  all_goals
    first
    | omega
    | (go_enter Tryd.func39, Tryd.ntmps39
       go_wp2
       go_ret
       exact ⟨by simp [LexP.letterI, h1, h2, h3, h4], rfl⟩)
theorem digit_any (n : Int) (w : World) : Calls Tryd.prog 32 #[.int .u8 n] w fun e w' => e = .returned (.bool (LexP.digitI n)) ∧ w = w' := by
  by_cases h1 : 48 ≤ n <;> by_cases h2 : n ≤ 57
  all_goals
    first
    | omega
    | (go_enter Tryd.func32, Tryd.ntmps32
       go_wp2
       go_ret
       exact ⟨by simp [LexP.digitI, h1, h2], rfl⟩)
theorem blank_any (n : Int) (w : World) : Calls Tryd.prog 36 #[.int .u8 n] w fun e w' => e = .returned (.bool (LexP.blankI n)) ∧ w = w' := by
  cases h1 : (n == 32) <;> cases h2 : (n == 9) <;> cases h3 : (n == 10) <;> cases h4 : (n == 13)
  all_goals
    (go_enter Tryd.func36, Tryd.ntmps36
     go_wp2
     go_ret
     exact ⟨by simp [LexP.blankI, h1, h2, h3, h4], rfl⟩)
theorem notnl_any (n : Int) (w : World) : Calls Tryd.prog 38 #[.int .u8 n] w fun e w' => e = .returned (.bool (LexP.notnlI n)) ∧ w = w' := by
  go_enter Tryd.func38, Tryd.ntmps38
  go_wp2
  go_ret
  exact ⟨by simp [LexP.notnlI], rfl⟩
theorem inside_any (n : Int) (w : World) : Calls Tryd.prog 40 #[.int .u8 n] w fun e w' => e = .returned (.bool (LexP.insideI n)) ∧ w = w' := by
  cases h1 : LexP.letterI n <;> cases h2 : LexP.digitI n <;> cases h3 : (n == 95)
  all_goals
    (go_enter Tryd.func40, Tryd.ntmps40
     go_wp2_with (first | (go_at_call 39; refine (letter_any _ _).mono ?_; rintro e w' ⟨rfl, rfl⟩) | (go_at_call 32; refine (digit_any _ _).mono ?_; rintro e w' ⟨rfl, rfl⟩))
     go_ret
     exact ⟨by simp [LexP.insideI, h1, h2, h3], rfl⟩)
theorem prefix_core (f : FuncId) (p : Int → Bool) (hcf : ∀ (a : Array Value) (w : World), Sem.run Tryd.prog (callFunc f a) w = .ok (.enter f a) w) (hp : ∀ n w, Calls Tryd.prog f #[.int .u8 n] w fun e w' => e = .returned (.bool (p n)) ∧ w = w') (s : ByteArray) (w : World) (hs : s.size ≤ maxLen) :
    Calls Tryd.prog 31 #[.string s, .func (.func f) #[] #[]] w fun e w' => e = .returned (.int .i64 (LexP.pre p s.data.toList)) ∧ w = w' := by
  unfold maxLen at hs
  have H := Lib.hid hp
  clear hp
  go_enter Tryd.func31, Tryd.ntmps31
  go_wp2
  go_loop [5] (fun i => ∃ k : Nat, k ≤ s.size ∧ i = .int .i64 k ∧ k ≤ LexP.pre p s.data.toList) (fun i => s.size - (intOf i).toNat)
  case atStart => exact ⟨0, Nat.zero_le _, rfl, Nat.zero_le _⟩
  case round =>
    obtain ⟨k, hk, rfl, hpre⟩ := hrel
    have HP := Lib.hid hpre
    clear hpre
    by_cases hlt : k < s.size
    · cases hq : p (s[k].toNat : Int)
      · have hst := Lib.hid (LexP.pre_stop' p s k hlt HP.out hq)
        go_wp2_with (refine (H.out _ _).mono ?_; rintro e w' ⟨rfl, rfl⟩)
        go_ret
        exact ⟨by rw [hst.out]; rfl, rfl⟩
      · have hst := Lib.hid (LexP.pre_step' p s k hlt HP.out hq)
        go_wp2_with (refine (H.out _ _).mono ?_; rintro e w' ⟨rfl, rfl⟩)
        go_round
        case rel => exact ⟨k + 1, by omega, by go_num, hst.out⟩
        case measure => simp [intOf]; omega
    · have hst := Lib.hid (LexP.pre_end' p s k hlt HP.out)
      go_wp2_with fail
      go_ret
      exact ⟨by rw [hst.out]; rfl, rfl⟩
theorem prefix_blank (s : ByteArray) (w : World) (hs : s.size ≤ maxLen) :
    Calls Tryd.prog 31 #[.string s, .func (.func 36) #[] #[]] w fun e w' => e = .returned (.int .i64 (LexP.pre LexP.blankI s.data.toList)) ∧ w = w' :=
  prefix_core _ _ (fun _ _ => by kernel_rfl) blank_any s w hs
theorem prefix_notnl (s : ByteArray) (w : World) (hs : s.size ≤ maxLen) :
    Calls Tryd.prog 31 #[.string s, .func (.func 38) #[] #[]] w fun e w' => e = .returned (.int .i64 (LexP.pre LexP.notnlI s.data.toList)) ∧ w = w' :=
  prefix_core _ _ (fun _ _ => by kernel_rfl) notnl_any s w hs
theorem prefix_inside (s : ByteArray) (w : World) (hs : s.size ≤ maxLen) :
    Calls Tryd.prog 31 #[.string s, .func (.func 40) #[] #[]] w fun e w' => e = .returned (.int .i64 (LexP.pre LexP.insideI s.data.toList)) ∧ w = w' :=
  prefix_core _ _ (fun _ _ => by kernel_rfl) inside_any s w hs
theorem prefix_digit (s : ByteArray) (w : World) (hs : s.size ≤ maxLen) :
    Calls Tryd.prog 31 #[.string s, .func (.func 32) #[] #[]] w fun e w' => e = .returned (.int .i64 (LexP.pre LexP.digitI s.data.toList)) ∧ w = w' :=
  prefix_core _ _ (fun _ _ => by kernel_rfl) digit_any s w hs
end Go.Proofs.YtdhllkbcheokfaaDoor
