/- Valid keys and choices: CheckKey and the reference's ValidKey. -/
import Derived.Test.YtpniilgkceadeaaGreatDoorChoSmall
namespace ChoP
theorem kinds (k : Int) (h : inB k 1 9 = true) : k = 1 ∨ k = 2 ∨ k = 3 ∨ k = 4 ∨ k = 5 ∨ k = 6 ∨ k = 7 ∨ k = 8 ∨ k = 9 := by
  simp [inB] at h
  omega
end ChoP
namespace Go.Proofs.YtpniilgkceadeaaGreatDoor
open Go.RowKit
def keyV (k : ChoP.Key) : Value := .agg #[.int .u8 k.kind, .int .i64 k.a, .int .i64 k.b, .int .i64 k.n]
def ErrPost (n : Int) (w : World) (e : Ending) (w' : World) : Prop := e = .returned (.int .i64 n) ∧ Below w.heap.size w w'
def BoolPost (b : Bool) (w : World) (e : Ending) (w' : World) : Prop := e = .returned (.bool b) ∧ Below w.heap.size w w'
set_option maxHeartbeats 1000000 in
theorem checkKey_bad (k : ChoP.Key) (w : World) (h : ChoP.inB k.kind 1 9 = false) : Calls Tryz.prog 53 #[keyV k] w (ErrPost 1 w) := by
  have e1 : keyV k = .agg #[.int .u8 k.kind, .int .i64 k.a, .int .i64 k.b, .int .i64 k.n] := rfl
  rw [e1]
  clear e1
  have hor : k.kind < 1 ∨ (¬ k.kind < 1 ∧ 9 < k.kind) := by simp [ChoP.inB] at h; omega
  generalize k.kind = kd at *
  clear h
  rcases hor with h1 | ⟨h1, h2⟩
  all_goals
    go_enter Tryz.func53, Tryz.ntmps53
    go_wp2_with fail
    go_ret
    exact ⟨rfl, (Below.refl _ _).alloc (Nat.le_refl _) _⟩
set_option maxHeartbeats 4000000 in
theorem checkKey_good (k : ChoP.Key) (w : World) (h : ChoP.inB k.kind 1 9 = true) : Calls Tryz.prog 53 #[keyV k] w (ErrPost (if ChoP.keyOK k then 0 else 1) w) := by
  have e1 : keyV k = .agg #[.int .u8 k.kind, .int .i64 k.a, .int .i64 k.b, .int .i64 k.n] := rfl
  rw [e1]
  clear e1
  have hK : ChoP.keyOK k = (ChoP.inB k.a 0 7 && ChoP.inB k.b 0 (if ChoP.pairB k.kind then 7 else 0) && ChoP.inB k.n 0 65535) := by unfold ChoP.keyOK; rw [h]; simp
  have hor := ChoP.kinds _ h
  generalize ChoP.keyOK k = R at *
  generalize k.kind = kd at *
  generalize k.a = ka at *
  generalize k.b = kb at *
  generalize k.n = kn at *
  clear h
  rcases hor with rfl | rfl | rfl | rfl | rfl | rfl | rfl | rfl | rfl
  all_goals
    simp [ChoP.pairB] at hK
    cases hA : ChoP.inB ka 0 7
    · have hE : (if R then (0 : Int) else 1) = 1 := by rw [hK, hA]; rfl
      rw [hE]
      clear hK hE
      go_enter Tryz.func53, Tryz.ntmps53
      go_wp2_with (go_at_call 68; refine (within_any _ _ _ _).mono ?_; rintro e w' ⟨rfl, rfl⟩)
      go_ret
      exact ⟨rfl, (Below.refl _ _).alloc (Nat.le_refl _) _⟩
    · first
      | (cases hB : ChoP.inB kb 0 7 <;> cases hN : ChoP.inB kn 0 65535 <;> rw [hA, hB, hN] at hK)
      | (cases hB : ChoP.inB kb 0 0 <;> cases hN : ChoP.inB kn 0 65535 <;> rw [hA, hB, hN] at hK)
      all_goals
        obtain ⟨E, hE⟩ : ∃ E : Int, (if R then (0 : Int) else 1) = E := ⟨_, rfl⟩
        rw [hE]
        rw [hK] at hE
        simp at hE
        subst hE
        clear hK
        go_enter Tryz.func53, Tryz.ntmps53
        go_wp2_with (go_at_call 68; refine (within_any _ _ _ _).mono ?_; rintro e w' ⟨rfl, rfl⟩)
        go_ret
        exact ⟨rfl, (Below.refl _ _).alloc (Nat.le_refl _) _⟩
end Go.Proofs.YtpniilgkceadeaaGreatDoor
