/- How choices lie in memory: cells from an address on, a row of seven cells a choice, its arguments. -/
import Derived.Test.YtolfbnjmkgikdaaDoorProg
import Derived.Test.YtolfbnjmkgikdaaDoorChoSet
import Derived.WalkKit
import Derived.Outline
import Derived.WalkSpells
import Derived.Lib.Hide
import Derived.OwnWalk
import Derived.Deep.AppendLies
import Derived.Sort.Grow
import Derived.Deep.Draws
namespace Go.Proofs.YtolfbnjmkgikdaaDoor
open Go.RowKit Go.Sort
theorem cell_at {w : World} {b : Nat} {cs : Array Value} {t : TypeId} {fr : Nat × Nat} (h : w.heap[b]? = some (.cells cs t fr)) (j : Nat) (v : Value) (hv : cs[j]? = some v) : w.cell? ⟨b, j, none⟩ = some v := by
  simp [World.cell?, h, hv]
theorem cells_new (w : World) (cs : List Value) (t : TypeId) : ∀ (j : Nat) (u : Value), cs[j]? = some u → (w.alloc (.cells cs.toArray t)).cell? ((⟨w.heap.size, 0, none⟩ : Addr).add j) = some u := by
  intro j u hj
  have h1 : (w.alloc (.cells cs.toArray t)).heap[w.heap.size]? = some (.cells cs.toArray t (0, 0)) := heap_alloc_new w _
  have h2 := cell_at h1 j u (by simpa using hj)
  unfold Addr.add
  split
  · rename_i h; subst h; exact h2
  · simpa using h2
/-- from the address A on lie the cells xs, in a block below B -/
def Lie (w : World) (B : Nat) (A : Option Addr) (xs : List Value) : Prop :=
  xs ≠ [] → ∃ b o, A = some ⟨b, o, none⟩ ∧ b < B ∧ ∀ (j : Nat) (u : Value), xs[j]? = some u → w.cell? ⟨b, o + j, none⟩ = some u
theorem Lie.nil (w : World) (B : Nat) (A : Option Addr) : Lie w B A [] := fun h => absurd rfl h
theorem Lie.keep {w w' : World} {B B' : Nat} {A : Option Addr} {xs : List Value} (h : Lie w B A xs) (hB : B ≤ B') (hc : ∀ b o, b < B → w'.cell? ⟨b, o, none⟩ = w.cell? ⟨b, o, none⟩) : Lie w' B' A xs := fun hx => by
  obtain ⟨b, o, e, hb, h⟩ := h hx
  exact ⟨b, o, e, by omega, fun j u hu => (hc b _ hb).trans (h j u hu)⟩
theorem Lie.below {w w' : World} {B B' : Nat} {A : Option Addr} {xs : List Value} (h : Lie w B A xs) (hb : Below B w w') (hB : B ≤ B') : Lie w' B' A xs :=
  h.keep hB fun b o hl => hb.cell (p := ⟨b, o, none⟩) hl
theorem Lie.at_ {w : World} {B : Nat} {A : Option Addr} {xs : List Value} (h : Lie w B A xs) (j : Nat) (u : Value) (hu : xs[j]? = some u) :
    ∃ b o, A = some ⟨b, o, none⟩ ∧ b < B ∧ w.cell? ⟨b, o + j, none⟩ = some u := by
  obtain ⟨b, o, e, hb, h⟩ := h (by rintro rfl; simp at hu)
  exact ⟨b, o, e, hb, h j u hu⟩
theorem Lie.of_own {w : World} {base e size n : Nat} {A : Option Addr} {c : Nat} {xs : List Value} (h : w.ownsRow base e size (.slice A n c) n xs) : Lie w w.heap.size A xs := fun hx => by
  obtain ⟨hl, h⟩ := h
  rcases h with ⟨_, h0⟩ | ⟨g, cap, cur, hv, hb, hg, hc, _, hsz, ht⟩
  · subst h0; exact absurd (List.eq_nil_of_length_eq_zero (by simpa using hl)) hx
  · injection hv with hv
    refine ⟨g, 0, hv, (Array.getElem?_eq_some_iff.1 hg).1, fun j u hj => ?_⟩
    rw [Nat.zero_add]
    refine cell_at hg j u ?_
    rw [← ht, List.getElem?_take] at hj
    split at hj
    · simpa using hj
    · cases hj
/-- a choice's seven cells -/
structure Row where
  key : ChoP.Key
  t : Int
  d : Int
  p : Option Addr
  n : Nat
  c : Nat
instance : Inhabited Row := ⟨⟨⟨0, 0, 0, 0⟩, 0, 0, none, 0, 0⟩⟩
def Row.vs (r : Row) : List Value := [.int .u8 r.key.kind, .int .i64 r.key.a, .int .i64 r.key.b, .int .i64 r.key.n, .int .i64 r.t, .int .i64 r.d, .slice r.p r.n r.c]
def choV (r : Row) : Value := .agg #[.int .u8 r.key.kind, .int .i64 r.key.a, .int .i64 r.key.b, .int .i64 r.key.n, .int .i64 r.t, .int .i64 r.d, .slice r.p r.n r.c]
def intV (l : List Int) : List Value := l.map (Value.int .i64)
/-- the row r holds the choice x -/
structure RowIs (w : World) (B : Nat) (r : Row) (x : ChoP.Cho) : Prop where
  key : r.key = x.key
  t : r.t = x.t
  d : r.d = x.d
  n : r.n = x.args.length
  c : r.n ≤ r.c
  m : r.c ≤ 9223372036854775807
  lie : Lie w B r.p (intV x.args)
theorem RowIs.below {w w' : World} {B B' : Nat} {r : Row} {x : ChoP.Cho} (h : RowIs w B r x) (hb : Below B w w') (hB : B ≤ B') : RowIs w' B' r x :=
  ⟨h.key, h.t, h.d, h.n, h.c, h.m, h.lie.below hb hB⟩
abbrev Pair := Row × ChoP.Cho
def encP (p : Pair) : List Value := p.1.vs
def cellsP (ps : List Pair) : List Value := ps.flatMap encP
theorem encP_len (p : Pair) : (encP p).length = 7 := rfl
theorem cellsP_len (ps : List Pair) : (cellsP ps).length = ps.length * 7 := by
  induction ps with
  | nil => rfl
  | cons p r ih => rw [cellsP, List.flatMap_cons, List.length_append, encP_len, ← cellsP, ih, List.length_cons]; omega
theorem cellsP_at (ps : List Pair) (k j : Nat) (p : Pair) (hk : ps[k]? = some p) (hj : j < 7) : (cellsP ps)[k * 7 + j]? = (encP p)[j]? := by
  induction ps generalizing k with
  | nil => simp at hk
  | cons q r ih =>
    rw [cellsP, List.flatMap_cons, ← cellsP]
    cases k with
    | zero =>
      simp at hk
      subst hk
      rw [List.getElem?_append_left (by rw [encP_len]; omega)]
      simp
    | succ k =>
      rw [List.getElem?_append_right (by rw [encP_len]; omega), encP_len, show (k + 1) * 7 + j - 7 = k * 7 + j by omega]
      exact ih k (by simpa using hk)
theorem cellsP_append (a b : List Pair) : cellsP (a ++ b) = cellsP a ++ cellsP b := by simp [cellsP]
/-- a slice of choices -/
structure Chos (w : World) (B : Nat) (A : Option Addr) (ps : List Pair) : Prop where
  lie : Lie w B A (cellsP ps)
  row : ∀ p ∈ ps, RowIs w B p.1 p.2
theorem Chos.below {w w' : World} {B B' : Nat} {A : Option Addr} {ps : List Pair} (h : Chos w B A ps) (hb : Below B w w') (hB : B ≤ B') : Chos w' B' A ps :=
  ⟨h.lie.below hb hB, fun p hp => (h.row p hp).below hb hB⟩
/-- the seven cells of the choice at place k -/
theorem Chos.at_ {w : World} {B : Nat} {A : Option Addr} {ps : List Pair} (h : Chos w B A ps) (k : Nat) (p : Pair) (hk : ps[k]? = some p) :
    ∃ b o, A = some ⟨b, o, none⟩ ∧ b < B ∧ ∀ (j : Nat) (u : Value), p.1.vs[j]? = some u → w.cell? ⟨b, o + k * 7 + j, none⟩ = some u := by
  have hne : cellsP ps ≠ [] := by
    intro e
    have := cellsP_len ps
    rw [e] at this
    have : k < ps.length := (List.getElem?_eq_some_iff.1 hk).1
    simp at *
    omega
  obtain ⟨b, o, e, hb, hc⟩ := h.lie hne
  refine ⟨b, o, e, hb, fun j u hu => ?_⟩
  rw [Nat.add_assoc]
  refine hc _ u ?_
  have hj : j < 7 := by have := (List.getElem?_eq_some_iff.1 hu).1; simpa [Row.vs] using this
  rw [cellsP_at ps k j p hk hj]
  exact hu
/-- draws and new blocks alone -/
def Grows (w w' : World) : Prop := ∃ q os, w' = grow (w.drewN q) os
theorem Grows.refl (w : World) : Grows w w := ⟨0, #[], by simp [grow, World.drewN]⟩
end Go.Proofs.YtolfbnjmkgikdaaDoor
