/- The small functions of choices. -/
import Derived.Test.YtolfbnjmkgikdaaDoorProg
import Derived.Test.YtolfbnjmkgikdaaDoorChoPlain
import Derived.WalkKit
import Derived.Outline
import Derived.WalkSpells
import Derived.Lib.Hide
namespace Go.Proofs.YtolfbnjmkgikdaaDoor
open Go.RowKit
set_option maxHeartbeats 400000
theorem within_any (v l h : Int) (w : World) : Calls Tryd.prog 57 #[.int .i64 v, .int .i64 l, .int .i64 h] w fun e w' => e = .returned (.bool (ChoP.inB v l h)) ∧ w = w' := by
  by_cases h1 : l ≤ v <;> by_cases h2 : v ≤ h
  all_goals
    (go_enter Tryd.func57, Tryd.ntmps57
     go_wp2
     go_ret
     exact ⟨by simp [ChoP.inB, h1, h2], rfl⟩)
theorem refin_any (v l h : Int) (w : World) : Calls Tryd.prog 65 #[.int .i64 v, .int .i64 l, .int .i64 h] w fun e w' => e = .returned (.bool (ChoP.inB v l h)) ∧ w = w' := by
  by_cases h1 : l ≤ v <;> by_cases h2 : v ≤ h
  all_goals
    (go_enter Tryd.func65, Tryd.ntmps65
     go_wp2
     go_ret
     exact ⟨by simp [ChoP.inB, h1, h2], rfl⟩)
theorem timed_any (k : Int) (w : World) : Calls Tryd.prog 56 #[.int .u8 k] w fun e w' => e = .returned (.bool (ChoP.timedB k)) ∧ w = w' := by
  cases h1 : (k == 1) <;> cases h2 : (k == 2) <;> cases h3 : (k == 3) <;> cases h4 : (k == 4)
  all_goals
    (go_enter Tryd.func56, Tryd.ntmps56
     go_wp2
     go_ret
     exact ⟨by simp [ChoP.timedB, h1, h2, h3, h4], rfl⟩)
theorem two_any (k : Int) (w : World) : Calls Tryd.prog 95 #[.int .u8 k] w fun e w' => e = .returned (.bool (ChoP.pairB k)) ∧ w = w' := by
  cases h1 : (k == 1) <;> cases h2 : (k == 5) <;> cases h3 : (k == 6) <;> cases h4 : (k == 7)
  all_goals
    (go_enter Tryd.func95, Tryd.ntmps95
     go_wp2
     go_ret
     exact ⟨by simp [ChoP.pairB, h1, h2, h3, h4], rfl⟩)
end Go.Proofs.YtolfbnjmkgikdaaDoor
