/- Valid choices: the reference's Valid. -/
import Derived.Test.YtpniilgkceadeaaGreatDoorChoRefKey
import Derived.Test.YtpniilgkceadeaaGreatDoorChoValid
namespace ChoP
theorem inB00 (x : Int) : inB x 0 0 = (x == 0) := by unfold inB; rw [Bool.eq_iff_iff]; simp; omega
end ChoP
namespace Go.Proofs.YtpniilgkceadeaaGreatDoor
open Go.RowKit
theorem reftimed_any (k : Int) (w : World) : Calls Tryz.prog 88 #[.int .u8 k] w fun e w' => e = .returned (.bool (decide (k ≤ 4))) ∧ w = w' := by
  go_enter Tryz.func88, Tryz.ntmps88
  go_wp2
  go_ret
  exact ⟨rfl, rfl⟩
set_option maxHeartbeats 4000000 in
theorem refValid_any (r : Row) (w : World) (hn : r.n ≤ 9223372036854775807) : Calls Tryz.prog 49 #[choV r] w (BoolPost (ChoP.choOK r.key r.t r.d r.n) w) := by
  have e1 : choV r = .agg #[.int .u8 r.key.kind, .int .i64 r.key.a, .int .i64 r.key.b, .int .i64 r.key.n, .int .i64 r.t, .int .i64 r.d, .slice r.p r.n r.c] := rfl
  rw [e1]
  clear e1
  have hck := fun W => validKey_any r.key W
  have e2 : keyV r.key = .agg #[.int .u8 r.key.kind, .int .i64 r.key.a, .int .i64 r.key.b, .int .i64 r.key.n] := rfl
  rw [e2] at hck
  clear e2
  have hE : ChoP.choOK r.key r.t r.d r.n = (ChoP.keyOK r.key && ChoP.inB r.t 0 (if ChoP.timedB r.key.kind then 200 else 0) && ChoP.inB r.d (ChoP.lowD r.key.kind) (ChoP.highD r.key.kind) && decide (r.n ≤ if r.key.kind == 1 then 4 else 0)) := rfl
  rw [hE]
  clear hE
  cases hK : ChoP.keyOK r.key
  · rw [hK] at hck
    have hP : (false && ChoP.inB r.t 0 (if ChoP.timedB r.key.kind then 200 else 0) && ChoP.inB r.d (ChoP.lowD r.key.kind) (ChoP.highD r.key.kind) && decide (r.n ≤ if r.key.kind == 1 then 4 else 0)) = false := by simp
    rw [hP]
    clear hP hK
    have HC := Lib.hid hck
    clear hck
    generalize r.key.kind = kd at *
    generalize r.key.a = ka at *
    generalize r.key.b = kb at *
    generalize r.key.n = kn at *
    go_enter Tryz.func49, Tryz.ntmps49
    go_wp2_with fail
    refine (HC.out _).mono ?_
    rintro e w1 ⟨rfl, hb⟩
    obtain ⟨hB, c0, c4, c5, c6⟩ := box7 hb
    have HB := Lib.hid hB
    clear hb hB
    go_wp2_with fail
    go_ret
    exact ⟨rfl, HB.out⟩
  · rw [hK] at hck
    have hor : r.key.kind = 1 ∨ r.key.kind = 2 ∨ r.key.kind = 3 ∨ r.key.kind = 4 ∨ r.key.kind = 5 ∨ r.key.kind = 6 ∨ r.key.kind = 7 ∨ r.key.kind = 8 ∨ r.key.kind = 9 := by
      apply ChoP.kinds
      unfold ChoP.keyOK at hK
      cases h : ChoP.inB r.key.kind 1 9
      · rw [h] at hK; simp at hK
      · rfl
    clear hK
    have HC := Lib.hid hck
    clear hck
    generalize r.key.kind = kd at *
    generalize r.key.a = ka at *
    generalize r.key.b = kb at *
    generalize r.key.n = kn at *
    generalize r.t = rt at *
    generalize r.d = rd at *
    generalize r.n = n at *
    generalize r.c = c at *
    generalize r.p = p at *
    obtain ⟨T, hT⟩ : ∃ T : Int, (if ChoP.timedB kd = true then (200 : Int) else 0) = T := ⟨_, rfl⟩
    obtain ⟨lo, hlo⟩ : ∃ T : Int, ChoP.lowD kd = T := ⟨_, rfl⟩
    obtain ⟨hi, hhi⟩ : ∃ T : Int, ChoP.highD kd = T := ⟨_, rfl⟩
    obtain ⟨m, hm⟩ : ∃ T : Nat, (if (kd == 1) = true then 4 else 0) = T := ⟨_, rfl⟩
    rw [hT, hlo, hhi, hm]
    have hm4 : m ≤ 4 := by rw [← hm]; split <;> omega
    obtain ⟨E, hE, hcase⟩ : ∃ E : Bool, (true && ChoP.inB rt 0 T && ChoP.inB rd lo hi && decide (n ≤ m)) = E ∧ ((E = false ∧ 4 < n) ∨ (E = false ∧ m < n ∧ n ≤ 4) ∨ (E = false ∧ n ≤ m ∧ ChoP.inB rt 0 T = false) ∨ (E = ChoP.inB rd lo hi ∧ n ≤ m ∧ ChoP.inB rt 0 T = true)) := by
      by_cases h : n ≤ m
      · cases ht : ChoP.inB rt 0 T
        · exact ⟨false, by simp, .inr (.inr (.inl ⟨rfl, h, rfl⟩))⟩
        · exact ⟨ChoP.inB rd lo hi, by simp [h], .inr (.inr (.inr ⟨rfl, h, rfl⟩))⟩
      · by_cases h4 : 4 < n
        · exact ⟨false, by simp [h], .inl ⟨rfl, h4⟩⟩
        · exact ⟨false, by simp [h], .inr (.inl ⟨rfl, by omega, by omega⟩)⟩
    have fin : ∀ (E : Bool), (true && ChoP.inB rt 0 T && ChoP.inB rd lo hi && decide (n ≤ m)) = E → Calls Tryz.prog 49 #[.agg #[.int .u8 kd, .int .i64 ka, .int .i64 kb, .int .i64 kn, .int .i64 rt, .int .i64 rd, .slice p n c]] w (BoolPost E w) → Calls Tryz.prog 49 #[.agg #[.int .u8 kd, .int .i64 ka, .int .i64 kb, .int .i64 kn, .int .i64 rt, .int .i64 rd, .slice p n c]] w (BoolPost (true && ChoP.inB rt 0 T && ChoP.inB rd lo hi && decide (n ≤ m)) w) := fun E h1 h2 => by rw [h1]; exact h2
    refine fin E hE ?_
    clear fin hE hm4
    rcases hor with rfl | rfl | rfl | rfl | rfl | rfl | rfl | rfl | rfl
    all_goals
      simp [ChoP.timedB] at hT
      simp [ChoP.lowD] at hlo
      simp [ChoP.highD] at hhi
      simp at hm
      subst hT hlo hhi hm
      rcases hcase with ⟨rfl, hN⟩ | ⟨rfl, hN, hN4⟩ | ⟨rfl, hN, hA⟩ | ⟨rfl, hN, hA⟩
    all_goals first
    | (exfalso; omega)
    | (try rw [ChoP.inB00] at hA
       go_enter Tryz.func49, Tryz.ntmps49
       go_wp2_with fail
       refine (HC.out _).mono ?_
       rintro e w1 ⟨rfl, hb⟩
       obtain ⟨hB, c0, c4, c5, c6⟩ := box7 hb
       have HB := Lib.hid hB
       clear hb hB
       go_wp2_with (first | (go_at_call 88; refine (reftimed_any _ _).mono ?_; rintro e w' ⟨rfl, rfl⟩) | (go_at_call 89; refine (refin_any _ _ _ _).mono ?_; rintro e w' ⟨rfl, rfl⟩))
       go_ret
       first | exact ⟨rfl, HB.out⟩ | (rw [ChoP.inB00]; exact ⟨rfl, HB.out⟩))
end Go.Proofs.YtpniilgkceadeaaGreatDoor
