/- The reference's Less. -/
import Derived.Test.YtpniilgkceadeaaGreatDoorChoCmp
namespace ChoP
theorem lessB_eq (x y : Key) : lessB x y = if x.kind = y.kind then (if x.a = y.a then (if x.b = y.b then decide (x.n < y.n) else decide (x.b < y.b)) else decide (x.a < y.a)) else decide (x.kind < y.kind) := by
  rw [Bool.eq_iff_iff, lessB_iff]
  unfold ltK
  by_cases h1 : x.kind = y.kind <;> by_cases h2 : x.a = y.a <;> by_cases h3 : x.b = y.b <;> simp [h1, h2, h3] <;> omega
end ChoP
namespace Go.Proofs.YtpniilgkceadeaaGreatDoor
open Go.RowKit Go.Sort
set_option maxHeartbeats 1000000 in
theorem refLess_any (x y : ChoP.Key) (w : World) : Calls Tryz.prog 113 #[keyV x, keyV y] w (BoolPost (ChoP.lessB x y) w) := by
  have e1 : keyV x = .agg #[.int .u8 x.kind, .int .i64 x.a, .int .i64 x.b, .int .i64 x.n] := rfl
  have e2 : keyV y = .agg #[.int .u8 y.kind, .int .i64 y.a, .int .i64 y.b, .int .i64 y.n] := rfl
  rw [e1, e2, ChoP.lessB_eq]
  clear e1 e2
  generalize x.kind = xk
  generalize x.a = xa
  generalize x.b = xb
  generalize x.n = xn
  generalize y.kind = yk
  generalize y.a = ya
  generalize y.b = yb
  generalize y.n = yn
  by_cases h1 : xk = yk
  · subst h1
    by_cases h2 : xa = ya
    · subst h2
      by_cases h3 : xb = yb
      · subst h3
        rw [if_pos rfl, if_pos rfl, if_pos rfl]
        go_enter Tryz.func113, Tryz.ntmps113
        go_wp2_with fail
        go_ret
        exact ⟨rfl, ((Below.refl _ _).alloc (Nat.le_refl _) _).alloc (by simp) _⟩
      · rw [if_pos rfl, if_pos rfl, if_neg h3]
        have h3' : (xb == yb) = false := by simp [h3]
        clear h3
        go_enter Tryz.func113, Tryz.ntmps113
        go_wp2_with fail
        go_ret
        exact ⟨rfl, ((Below.refl _ _).alloc (Nat.le_refl _) _).alloc (by simp) _⟩
    · rw [if_pos rfl, if_neg h2]
      have h2' : (xa == ya) = false := by simp [h2]
      clear h2
      go_enter Tryz.func113, Tryz.ntmps113
      go_wp2_with fail
      go_ret
      exact ⟨rfl, ((Below.refl _ _).alloc (Nat.le_refl _) _).alloc (by simp) _⟩
  · rw [if_neg h1]
    have h1' : (xk == yk) = false := by simp [h1]
    clear h1
    go_enter Tryz.func113, Tryz.ntmps113
    go_wp2_with fail
    go_ret
    exact ⟨rfl, ((Below.refl _ _).alloc (Nat.le_refl _) _).alloc (by simp) _⟩
end Go.Proofs.YtpniilgkceadeaaGreatDoor
