/- The small functions of choices. -/
import Derived.Test.YtpniilgkceadeaaGreatDoorProg
import Derived.Test.YtpniilgkceadeaaGreatDoorChoPlain
import Derived.WalkKit
import Derived.Outline
import Derived.WalkSpells
import Derived.Lib.Hide
namespace Go.Proofs.YtpniilgkceadeaaGreatDoor
open Go.RowKit
set_option maxHeartbeats 400000
theorem within_any (v l h : Int) (w : World) : Calls Tryz.prog 68 #[.int .i64 v, .int .i64 l, .int .i64 h] w fun e w' => e = .returned (.bool (ChoP.inB v l h)) ∧ w = w' := by
  by_cases h1 : l ≤ v <;> by_cases h2 : v ≤ h
  all_goals
    (go_enter Tryz.func68, Tryz.ntmps68
     go_wp2
     go_ret
     exact ⟨by simp [ChoP.inB, h1, h2], rfl⟩)
theorem refin_any (v l h : Int) (w : World) : Calls Tryz.prog 89 #[.int .i64 v, .int .i64 l, .int .i64 h] w fun e w' => e = .returned (.bool (ChoP.inB v l h)) ∧ w = w' := by
  by_cases h1 : l ≤ v <;> by_cases h2 : v ≤ h
  all_goals
    (go_enter Tryz.func89, Tryz.ntmps89
     go_wp2
     go_ret
     exact ⟨by simp [ChoP.inB, h1, h2], rfl⟩)
theorem timed_any (k : Int) (w : World) : Calls Tryz.prog 67 #[.int .u8 k] w fun e w' => e = .returned (.bool (ChoP.timedB k)) ∧ w = w' := by
  cases h1 : (k == 1) <;> cases h2 : (k == 2) <;> cases h3 : (k == 3) <;> cases h4 : (k == 4)
  all_goals
    (go_enter Tryz.func67, Tryz.ntmps67
     go_wp2
     go_ret
     exact ⟨by simp [ChoP.timedB, h1, h2, h3, h4], rfl⟩)
theorem two_any (k : Int) (w : World) : Calls Tryz.prog 66 #[.int .u8 k] w fun e w' => e = .returned (.bool (ChoP.pairB k)) ∧ w = w' := by
  cases h1 : (k == 1) <;> cases h2 : (k == 5) <;> cases h3 : (k == 6) <;> cases h4 : (k == 7)
  all_goals
    (go_enter Tryz.func66, Tryz.ntmps66
     go_wp2
     go_ret
     exact ⟨by simp [ChoP.pairB, h1, h2, h3, h4], rfl⟩)
end Go.Proofs.YtpniilgkceadeaaGreatDoor
