/- Valid choices: Check. -/
import Derived.Test.YtpniilgkceadeaaGreatDoorChoCheck
import Derived.Test.YtpniilgkceadeaaGreatDoorChoMem
namespace Go.Proofs.YtpniilgkceadeaaGreatDoor
open Go.RowKit
def errK (k : ChoP.Key) : Int := if ChoP.keyOK k = true then 0 else 1
def errR (r : Row) : Int := if ChoP.choOK r.key r.t r.d r.n = true then 0 else 1
theorem checkKey_any (k : ChoP.Key) (w : World) : Calls Tryz.prog 53 #[keyV k] w (ErrPost (errK k) w) := by
  unfold errK
  cases h : ChoP.inB k.kind 1 9
  · have h0 : ChoP.keyOK k = false := by unfold ChoP.keyOK; rw [h]; rfl
    rw [h0]
    exact checkKey_bad k w h
  · exact checkKey_good k w h
/-- a boxed choice's cells after a call that changed nothing -/
theorem box7 {w w1 : World} {v0 v1 v2 v3 v4 v5 v6 : Value} {T : TypeId} (hb : Below (w.alloc (.cells #[v0, v1, v2, v3, v4, v5, v6] T)).heap.size (w.alloc (.cells #[v0, v1, v2, v3, v4, v5, v6] T)) w1) :
    Below w.heap.size w w1 ∧ w1.cell? ⟨w.heap.size, 0, none⟩ = some v0 ∧ w1.cell? ⟨w.heap.size, 4, none⟩ = some v4 ∧ w1.cell? ⟨w.heap.size, 5, none⟩ = some v5 ∧ w1.cell? ⟨w.heap.size, 6, none⟩ = some v6 := by
  have h := heap_alloc_new w (.cells #[v0, v1, v2, v3, v4, v5, v6] T)
  rw [World.size_alloc] at hb
  have hc : ∀ (j : Nat) (u : Value), #[v0, v1, v2, v3, v4, v5, v6][j]? = some u → w1.cell? ⟨w.heap.size, j, none⟩ = some u := fun j u hu => (hb.cell (p := ⟨w.heap.size, j, none⟩) (by simp)).trans (cell_at h j u hu)
  exact ⟨((Below.refl w.heap.size w).alloc (Nat.le_refl _) _).trans (hb.mono (by omega)), hc 0 _ rfl, hc 4 _ rfl, hc 5 _ rfl, hc 6 _ rfl⟩
set_option maxHeartbeats 4000000 in
theorem check_any (r : Row) (w : World) (hn : r.n ≤ 9223372036854775807) : Calls Tryz.prog 28 #[choV r] w (ErrPost (errR r) w) := by
  have e1 : choV r = .agg #[.int .u8 r.key.kind, .int .i64 r.key.a, .int .i64 r.key.b, .int .i64 r.key.n, .int .i64 r.t, .int .i64 r.d, .slice r.p r.n r.c] := rfl
  rw [e1]
  clear e1
  have hck := fun W => checkKey_any r.key W
  have e2 : keyV r.key = .agg #[.int .u8 r.key.kind, .int .i64 r.key.a, .int .i64 r.key.b, .int .i64 r.key.n] := rfl
  rw [e2] at hck
  clear e2
  have hE : errR r = if (ChoP.keyOK r.key && ChoP.inB r.t 0 (if ChoP.timedB r.key.kind then 200 else 0) && ChoP.inB r.d (ChoP.lowD r.key.kind) (ChoP.highD r.key.kind) && decide (r.n ≤ if r.key.kind == 1 then 4 else 0)) = true then 0 else 1 := rfl
  rw [hE]
  clear hE
  cases hK : ChoP.keyOK r.key
  · have : errK r.key = 1 := by unfold errK; rw [hK]; rfl
    rw [this] at hck
    clear this hK
    have hP : (if (false && ChoP.inB r.t 0 (if ChoP.timedB r.key.kind then 200 else 0) && ChoP.inB r.d (ChoP.lowD r.key.kind) (ChoP.highD r.key.kind) && decide (r.n ≤ if r.key.kind == 1 then 4 else 0)) = true then (0 : Int) else 1) = 1 := by simp
    rw [hP]
    clear hP
    have HC := Lib.hid hck
    clear hck
    generalize r.key.kind = kd at *
    generalize r.key.a = ka at *
    generalize r.key.b = kb at *
    generalize r.key.n = kn at *
    go_enter Tryz.func28, Tryz.ntmps28
    go_wp2_with fail
    refine (HC.out _).mono ?_
    rintro e w' ⟨rfl, hb⟩
    have HB := Lib.hid hb
    clear hb
    go_wp2_with fail
    go_ret
    have := HB.out
    simp only [World.size_alloc] at this
    exact ⟨rfl, ((Below.refl w.heap.size w).alloc (Nat.le_refl _) _).trans (this.mono (by omega))⟩
  · have : errK r.key = 0 := by unfold errK; rw [hK]; rfl
    rw [this] at hck
    clear this
    have hor : r.key.kind = 1 ∨ r.key.kind = 2 ∨ r.key.kind = 3 ∨ r.key.kind = 4 ∨ r.key.kind = 5 ∨ r.key.kind = 6 ∨ r.key.kind = 7 ∨ r.key.kind = 8 ∨ r.key.kind = 9 := by
      apply ChoP.kinds
      unfold ChoP.keyOK at hK
      cases h : ChoP.inB r.key.kind 1 9
      · rw [h] at hK; simp at hK
      · rfl
    clear hK
    have HC := Lib.hid hck
    clear hck
    generalize r.key.kind = kd at *
    generalize r.key.a = ka at *
    generalize r.key.b = kb at *
    generalize r.key.n = kn at *
    generalize r.t = rt at *
    generalize r.d = rd at *
    generalize r.n = n at *
    generalize r.c = c at *
    generalize r.p = p at *
    obtain ⟨T, hT⟩ : ∃ T : Int, (if ChoP.timedB kd = true then (200 : Int) else 0) = T := ⟨_, rfl⟩
    obtain ⟨lo, hlo⟩ : ∃ T : Int, ChoP.lowD kd = T := ⟨_, rfl⟩
    obtain ⟨hi, hhi⟩ : ∃ T : Int, ChoP.highD kd = T := ⟨_, rfl⟩
    obtain ⟨m, hm⟩ : ∃ T : Nat, (if (kd == 1) = true then 4 else 0) = T := ⟨_, rfl⟩
    rw [hT, hlo, hhi, hm]
    have fin : ∀ (E : Int), (if (true && ChoP.inB rt 0 T && ChoP.inB rd lo hi && decide (n ≤ m)) = true then (0 : Int) else 1) = E → Calls Tryz.prog 28 #[.agg #[.int .u8 kd, .int .i64 ka, .int .i64 kb, .int .i64 kn, .int .i64 rt, .int .i64 rd, .slice p n c]] w (ErrPost E w) → Calls Tryz.prog 28 #[.agg #[.int .u8 kd, .int .i64 ka, .int .i64 kb, .int .i64 kn, .int .i64 rt, .int .i64 rd, .slice p n c]] w (ErrPost (if (true && ChoP.inB rt 0 T && ChoP.inB rd lo hi && decide (n ≤ m)) = true then (0 : Int) else 1) w) := fun E h1 h2 => by rw [h1]; exact h2
    have hcase : (ChoP.inB rt 0 T = false) ∨ (ChoP.inB rt 0 T = true ∧ ChoP.inB rd lo hi = false) ∨ (ChoP.inB rt 0 T = true ∧ ChoP.inB rd lo hi = true ∧ m < n) ∨ (ChoP.inB rt 0 T = true ∧ ChoP.inB rd lo hi = true ∧ n ≤ m) := by
      cases ChoP.inB rt 0 T <;> cases ChoP.inB rd lo hi <;> simp
      omega
    obtain ⟨E, hE, hcase⟩ : ∃ E : Int, (if (true && ChoP.inB rt 0 T && ChoP.inB rd lo hi && decide (n ≤ m)) = true then (0 : Int) else 1) = E ∧ ((E = 1 ∧ ChoP.inB rt 0 T = false) ∨ (E = 1 ∧ ChoP.inB rt 0 T = true ∧ ChoP.inB rd lo hi = false) ∨ (E = 1 ∧ ChoP.inB rt 0 T = true ∧ ChoP.inB rd lo hi = true ∧ m < n) ∨ (E = 0 ∧ ChoP.inB rt 0 T = true ∧ ChoP.inB rd lo hi = true ∧ n ≤ m)) := by
      rcases hcase with h | ⟨h1, h2⟩ | ⟨h1, h2, h3⟩ | ⟨h1, h2, h3⟩
      · exact ⟨1, by simp [h], .inl ⟨rfl, h⟩⟩
      · exact ⟨1, by simp [h1, h2], .inr (.inl ⟨rfl, h1, h2⟩)⟩
      · exact ⟨1, by simp [h1, h2]; omega, .inr (.inr (.inl ⟨rfl, h1, h2, h3⟩))⟩
      · exact ⟨0, by simp [h1, h2]; omega, .inr (.inr (.inr ⟨rfl, h1, h2, h3⟩))⟩
    refine fin E hE ?_
    clear fin hE
    rcases hor with rfl | rfl | rfl | rfl | rfl | rfl | rfl | rfl | rfl
    all_goals
      simp [ChoP.timedB] at hT
      simp [ChoP.lowD] at hlo
      simp [ChoP.highD] at hhi
      simp at hm
      subst hT hlo hhi hm
      rcases hcase with ⟨rfl, hA⟩ | ⟨rfl, hA, hD⟩ | ⟨rfl, hA, hD, hN⟩ | ⟨rfl, hA, hD, hN⟩
    all_goals
      go_enter Tryz.func28, Tryz.ntmps28
      go_wp2_with fail
      refine (HC.out _).mono ?_
      rintro e w1 ⟨rfl, hb⟩
      obtain ⟨hB, c0, c4, c5, c6⟩ := box7 hb
      have HB := Lib.hid hB
      clear hb hB
      go_wp2_with (first | (go_at_call 67; refine (timed_any _ _).mono ?_; rintro e w' ⟨rfl, rfl⟩) | (go_at_call 68; refine (within_any _ _ _ _).mono ?_; rintro e w' ⟨rfl, rfl⟩))
      go_ret
      exact ⟨rfl, HB.out⟩
end Go.Proofs.YtpniilgkceadeaaGreatDoor
