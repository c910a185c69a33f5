/- Plain mathematics of reading: numbers of seven bits to a byte, choices and sets out of bytes. No program here. -/
import Derived.Test.YtpniilgkceadeaaGreatDoorChoPlain
namespace ChoP
def uintG : Nat → List Nat → Option (Nat × Nat)
  | _, [] => none
  | i, b :: r => if i = 9 ∧ 1 < b then none else if b < 128 then (if b = 0 ∧ 0 < i then none else some (b, 1)) else (uintG (i + 1) r).map fun x => (b % 128 + 128 * x.1, x.2 + 1)
def uintF (p : List Nat) : Option (Nat × Nat) := uintG 0 p
theorem pow_step (i : Nat) (h : i < 9) : 2 ^ (64 - 7 * i) = 128 * 2 ^ (64 - 7 * (i + 1)) := by
  rw [show 64 - 7 * i = 64 - 7 * (i + 1) + 7 by omega, Nat.pow_add]
  omega
theorem uintG_facts : ∀ (p : List Nat) (i v n : Nat), i ≤ 9 → uintG i p = some (v, n) → (∀ x ∈ p, x < 256) → v < 2 ^ (64 - 7 * i) ∧ 1 ≤ n ∧ n + i ≤ 10 ∧ n ≤ p.length ∧ (0 < i → 0 < v) ∧ ∀ f, n ≤ f + 1 → putF f v = p.take n
  | [], i, v, n, _, h, _ => by simp [uintG] at h
  | b :: r, i, v, n, hi, h, hb => by
    have hb0 := hb b (by simp)
    rw [uintG] at h
    by_cases h9 : i = 9 ∧ 1 < b
    · rw [if_pos h9] at h; cases h
    · rw [if_neg h9] at h
      by_cases hl : b < 128
      · rw [if_pos hl] at h
        by_cases hz : b = 0 ∧ 0 < i
        · rw [if_pos hz] at h; cases h
        · rw [if_neg hz] at h
          simp only [Option.some.injEq, Prod.mk.injEq] at h
          obtain ⟨rfl, rfl⟩ := h
          refine ⟨?_, by omega, by omega, by simp, by omega, fun f _ => ?_⟩
          · by_cases e : i = 9
            · subst e; simp; omega
            · have h1 : 2 ^ 7 ≤ 2 ^ (64 - 7 * i) := Nat.pow_le_pow_right (by omega) (by omega)
              omega
          · cases f with
            | zero => simp [putF]
            | succ f => simp [putF, hl]
      · rw [if_neg hl] at h
        have hi9 : i < 9 := by omega
        cases hr : uintG (i + 1) r with
        | none => rw [hr] at h; cases h
        | some x =>
          obtain ⟨v', n'⟩ := x
          rw [hr] at h
          simp only [Option.map_some, Option.some.injEq, Prod.mk.injEq] at h
          obtain ⟨rfl, rfl⟩ := h
          obtain ⟨k1, k2, k3, k4, k5, k6⟩ := uintG_facts r (i + 1) v' n' (by omega) hr (fun x hx => hb x (List.mem_cons_of_mem _ hx))
          have hv : 0 < v' := k5 (by omega)
          have hp := pow_step i hi9
          refine ⟨by omega, by omega, by omega, by simp; omega, by omega, fun f hf => ?_⟩
          obtain ⟨f, rfl⟩ : ∃ g, f = g + 1 := ⟨f - 1, by omega⟩
          rw [putF, if_neg (by omega), List.take_succ_cons, ← k6 f (by omega)]
          congr 1
          · omega
          · congr 1
            omega
theorem uintG_put : ∀ (f v i : Nat) (rest : List Nat), i ≤ 9 → v < 2 ^ (64 - 7 * i) → (0 < i → 0 < v) → v < 128 ^ (f + 1) → uintG i (putF f v ++ rest) = some (v, (putF f v).length)
  | 0, v, i, rest, hi, hv, h0, hf => by
    rw [putF, List.singleton_append, uintG, if_neg ?_, if_pos (by simpa using hf), if_neg (by omega)]
    · rfl
    · rintro ⟨rfl, h1⟩
      simp at hv
      omega
  | f + 1, v, i, rest, hi, hv, h0, hf => by
    rw [putF]
    by_cases hl : v < 128
    · rw [if_pos hl, List.singleton_append, uintG, if_neg ?_, if_pos hl, if_neg (by omega)]
      · rfl
      · rintro ⟨rfl, h1⟩
        simp at hv
        omega
    · rw [if_neg hl]
      have hi9 : i < 9 := by
        rcases Nat.lt_or_ge i 9 with h | h
        · exact h
        · obtain rfl : i = 9 := by omega
          simp at hv
          omega
      have hp := pow_step i hi9
      rw [List.cons_append, uintG, if_neg (by omega), if_neg (by omega), uintG_put f (v / 128) (i + 1) rest (by omega) (by omega) (by omega) (by rw [Nat.div_lt_iff_lt_mul (by omega)]; rwa [Nat.pow_succ] at hf)]
      simp only [Option.map_some, Option.some.injEq, Prod.mk.injEq, List.length_cons, and_true]
      omega
theorem uintF_put (v : Nat) (rest : List Nat) (h : v < 18446744073709551616) : uintF (putL v ++ rest) = some (v, (putL v).length) :=
  uintG_put 10 v 0 rest (by omega) (by simpa using h) (by omega) (by simp; omega)
theorem uintF_some {p : List Nat} {v n : Nat} (h : uintF p = some (v, n)) (hb : ∀ x ∈ p, x < 256) : v < 18446744073709551616 ∧ n ≤ p.length ∧ p = putL v ++ p.drop n := by
  obtain ⟨k1, k2, k3, k4, _, k6⟩ := uintG_facts p 0 v n (by omega) h hb
  refine ⟨by simpa using k1, k4, ?_⟩
  rw [putL, k6 10 (by omega), List.take_append_drop]
/-- a reader: the bytes that are left, its error -/
structure RS where
  p : List Nat
  err : Int
def uintR (p : List Nat) : Nat × Nat × Int := match uintF p with | none => (0, 0, 6) | some x => (x.1, x.2, 0)
theorem uintR_none' {p : List Nat} (h : uintF p = none) : uintR p = (0, 0, 6) := by unfold uintR; rw [h]
theorem uintR_some' {p : List Nat} {v n : Nat} (h : uintF p = some (v, n)) : uintR p = (v, n, 0) := by unfold uintR; rw [h]
def takeS (s : RS) (n : Nat) (e : Int) : RS := if e = 0 then ⟨s.p.drop n, s.err⟩ else ⟨s.p, e⟩
def limE (most v : Nat) (e : Int) : Int := if e = 0 ∧ most < v then 2 else e
def uintS (most : Nat) (s : RS) : Nat × RS :=
  if s.err = 0 then (if limE most (uintR s.p).1 (uintR s.p).2.2 = 0 then (uintR s.p).1 else 0, takeS s (uintR s.p).2.1 (limE most (uintR s.p).1 (uintR s.p).2.2)) else (0, s)
def byteS (s : RS) : Nat × RS := if s.err = 0 then (match s.p with | [] => (0, ⟨[], 6⟩) | b :: r => (b, ⟨r, s.err⟩)) else (0, s)
def unzig (u : Nat) : Int := if u % 2 = 1 then -((u / 2 : Nat) : Int) - 1 else ((u / 2 : Nat) : Int)
def intS (s : RS) : Int × RS :=
  if s.err = 0 then (if (uintR s.p).2.2 = 0 then unzig (uintR s.p).1 else 0, takeS s (uintR s.p).2.1 (uintR s.p).2.2) else (0, s)
theorem zig_unzig (u : Nat) : zig (unzig u) = u := by
  unfold unzig zig
  split
  · rw [if_pos (by omega)]; omega
  · rw [if_neg (by omega)]; omega
theorem unzig_zig (x : Int) : unzig (zig x) = x := by
  unfold unzig zig
  split <;> split <;> omega
theorem unzig_in (u : Nat) (h : u < 18446744073709551616) : -9223372036854775808 ≤ unzig u ∧ unzig u ≤ 9223372036854775807 := by
  unfold unzig
  split <;> omega
end ChoP
