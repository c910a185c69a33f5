/- Valid keys: the reference's ValidKey. -/
import Derived.Test.YtpniilgkceadeaaGreatDoorChoCheck
namespace Go.Proofs.YtpniilgkceadeaaGreatDoor
open Go.RowKit
set_option maxHeartbeats 2000000 in
theorem validKey_any (k : ChoP.Key) (w : World) : Calls Tryz.prog 54 #[keyV k] w (BoolPost (ChoP.keyOK k) w) := by
  have e1 : keyV k = .agg #[.int .u8 k.kind, .int .i64 k.a, .int .i64 k.b, .int .i64 k.n] := rfl
  rw [e1]
  clear e1
  have hK : ChoP.keyOK k = (ChoP.inB k.kind 1 9 && ChoP.inB k.a 0 7 && ChoP.inB k.b 0 (if ChoP.pairB k.kind then 7 else 0) && ChoP.inB k.n 0 65535) := rfl
  have hkd : ChoP.inB k.kind 1 9 = (decide (¬ k.kind < 1) && decide (¬ 9 < k.kind)) := by unfold ChoP.inB; congr 1 <;> simp
  have hb0 : ChoP.inB k.b 0 0 = (k.b == 0) := by unfold ChoP.inB; rw [Bool.eq_iff_iff]; simp; omega
  rw [hkd] at hK
  clear hkd
  generalize ChoP.keyOK k = R at *
  generalize k.kind = kd at *
  generalize k.a = ka at *
  generalize k.b = kb at *
  generalize k.n = kn at *
  have fin : ∀ b : Bool, R = b → Calls Tryz.prog 54 #[.agg #[.int .u8 kd, .int .i64 ka, .int .i64 kb, .int .i64 kn]] w (BoolPost b w) → Calls Tryz.prog 54 #[.agg #[.int .u8 kd, .int .i64 ka, .int .i64 kb, .int .i64 kn]] w (BoolPost R w) := fun b e h => by rw [e]; exact h
  by_cases h1 : kd < 1
  · refine fin false (by rw [hK]; simp [h1]) ?_
    clear hK fin hb0
    go_enter Tryz.func54, Tryz.ntmps54
    go_wp2_with fail
    go_ret
    exact ⟨rfl, (Below.refl _ _).alloc (Nat.le_refl _) _⟩
  · by_cases h2 : 9 < kd
    · refine fin false (by rw [hK]; simp [h1, h2]) ?_
      clear hK fin hb0
      go_enter Tryz.func54, Tryz.ntmps54
      go_wp2_with fail
      go_ret
      exact ⟨rfl, (Below.refl _ _).alloc (Nat.le_refl _) _⟩
    · cases hN : ChoP.inB kn 0 65535
      · refine fin false (by rw [hK, hN]; simp) ?_
        clear hK fin hb0
        go_enter Tryz.func54, Tryz.ntmps54
        go_wp2_with (go_at_call 89; refine (refin_any _ _ _ _).mono ?_; rintro e w' ⟨rfl, rfl⟩)
        go_ret
        exact ⟨rfl, (Below.refl _ _).alloc (Nat.le_refl _) _⟩
      · cases hA : ChoP.inB ka 0 7
        · refine fin false (by rw [hK, hA]; simp) ?_
          clear hK fin hb0
          go_enter Tryz.func54, Tryz.ntmps54
          go_wp2_with (go_at_call 89; refine (refin_any _ _ _ _).mono ?_; rintro e w' ⟨rfl, rfl⟩)
          go_ret
          exact ⟨rfl, (Below.refl _ _).alloc (Nat.le_refl _) _⟩
        · cases hP : ChoP.pairB kd
          · refine fin (kb == 0) (by rw [hK, hN, hA, hP, ← hb0]; simp [h1, h2]) ?_
            clear hK fin hb0
            go_enter Tryz.func54, Tryz.ntmps54
            go_wp2_with (first | (go_at_call 89; refine (refin_any _ _ _ _).mono ?_; rintro e w' ⟨rfl, rfl⟩) | (go_at_call 66; refine (two_any _ _).mono ?_; rintro e w' ⟨rfl, rfl⟩))
            go_ret
            exact ⟨rfl, (Below.refl _ _).alloc (Nat.le_refl _) _⟩
          · refine fin (ChoP.inB kb 0 7) (by rw [hK, hN, hA, hP]; simp [h1, h2]) ?_
            clear hK fin hb0
            go_enter Tryz.func54, Tryz.ntmps54
            go_wp2_with (first | (go_at_call 89; refine (refin_any _ _ _ _).mono ?_; rintro e w' ⟨rfl, rfl⟩) | (go_at_call 66; refine (two_any _ _).mono ?_; rintro e w' ⟨rfl, rfl⟩))
            go_ret
            exact ⟨rfl, (Below.refl _ _).alloc (Nat.le_refl _) _⟩
end Go.Proofs.YtpniilgkceadeaaGreatDoor
