/- The reference's parse: a choice or a key out of the words of a line. -/
import Derived.Test.YtpniilgkceadeaaGreatDoorChoRefNum2
import Derived.Test.YtpniilgkceadeaaGreatDoorChoRefValid
import Derived.Deep.RegionLaw
import Derived.BigRegion
namespace ChoP
/-- what the reference's parse finds: a choice, or only a key -/
def refP (key : Bool) (w : List (List UInt8)) : Option Cho := if key = true then (refK w).map fun k => ⟨k, 0, 0, []⟩ else refC w
theorem refP_none {key : Bool} {w : List (List UInt8)} (h : refKey w = none) : refP key w = none := by
  unfold refP refK refC
  rw [h]
  cases key <;> rfl
theorem meas6 (k : Int) : ((k == 2) = true ∧ measuredB k = true) ∨ ((k == 2) = false ∧ (k == 3) = true ∧ measuredB k = true) ∨ ((k == 2) = false ∧ (k == 3) = false ∧ (k == 6) = true ∧ measuredB k = true) ∨ ((k == 2) = false ∧ (k == 3) = false ∧ (k == 6) = false ∧ (k == 7) = true ∧ measuredB k = true) ∨ ((k == 2) = false ∧ (k == 3) = false ∧ (k == 6) = false ∧ (k == 7) = false ∧ (k == 9) = true ∧ measuredB k = true) ∨ ((k == 2) = false ∧ (k == 3) = false ∧ (k == 6) = false ∧ (k == 7) = false ∧ (k == 9) = false ∧ measuredB k = false) := by
  unfold measuredB
  cases (k == 2) <;> cases (k == 3) <;> cases (k == 6) <;> cases (k == 7) <;> cases (k == 9) <;> simp
theorem refT_nil {k : Int} (h : timedB k = true) : refT k [] = none := by unfold refT; rw [if_pos h]
theorem refT_one {k : Int} (h : timedB k = true) (y : List UInt8) : refT k [y] = none := by
  unfold refT
  rw [if_pos h]
  show (if y = [97, 116] then takeN [] else none) = none
  split <;> rfl
theorem refT_two {k : Int} (h : timedB k = true) (y : List UInt8) (r : List (List UInt8)) : refT k (y :: r) = if y = [97, 116] then takeN r else none := by
  unfold refT
  rw [if_pos h]
theorem takeN_le {w : List (List UInt8)} {v : Int} {r : List (List UInt8)} (h : takeN w = some (v, r)) : r.length ≤ w.length := by
  rcases w with _ | ⟨x, t⟩
  · cases h
  · cases hx : numOk x
    · rw [takeN_no hx] at h; cases h
    · rw [takeN_ok hx] at h
      injection h with h
      injection h with _ h
      subst h
      simp
theorem refT_le {k : Int} {w : List (List UInt8)} {v : Int} {r : List (List UInt8)} (h : refT k w = some (v, r)) : r.length ≤ w.length := by
  cases ht : timedB k
  · unfold refT at h
    rw [if_neg (by rw [ht]; simp)] at h
    injection h with h
    injection h with _ h
    subst h
    exact Nat.le_refl _
  · rcases w with _ | ⟨x, t⟩
    · rw [refT_nil ht] at h; cases h
    · rw [refT_two ht] at h
      split at h
      · have := takeN_le h
        simp
        omega
      · cases h
theorem refD_le {k : Int} {w : List (List UInt8)} {v : Int} {r : List (List UInt8)} (h : refD k w = some (v, r)) : r.length ≤ w.length := by
  unfold refD at h
  split at h
  · exact takeN_le h
  · injection h with h
    injection h with _ h
    subst h
    exact Nat.le_refl _
theorem fixS_le : ∀ (n : Nat) {w : List (List UInt8)} {f : List Int} {r : List (List UInt8)}, fixS n w = some (f, r) → r.length ≤ w.length
  | 0, w, f, r, h => by
    simp only [fixS, Option.some.injEq, Prod.mk.injEq] at h
    rw [← h.2]
    exact Nat.le_refl _
  | n + 1, w, f, r, h => by
    rw [fixS] at h
    cases e : fixS n w with
    | none => rw [e] at h; cases h
    | some p =>
      rw [e, Option.bind_some] at h
      cases e2 : takeN p.2 with
      | none => rw [e2] at h; cases h
      | some q =>
        rw [e2] at h
        simp only [Option.map_some, Option.some.injEq, Prod.mk.injEq] at h
        have h1 := fixS_le n (f := p.1) (r := p.2) e
        have h2 := takeN_le (v := q.1) (r := q.2) e2
        rw [← h.2]
        omega
theorem refKey_le {x : List UInt8} {rs : List (List UInt8)} {k : Key} {r : List (List UInt8)} (h : refKey (x :: rs) = some (k, r)) : r.length ≤ rs.length := by
  have h' : (if kindOf x = 0 then none else (fixS (needK (kindOf x : Int)) rs).map fun p => (keyOfFix (kindOf x) p.1, p.2)) = some (k, r) := h
  split at h'
  · cases h'
  · cases e : fixS (needK (kindOf x : Int)) rs with
    | none => rw [e] at h'; cases h'
    | some p =>
      rw [e] at h'
      simp only [Option.map_some, Option.some.injEq, Prod.mk.injEq] at h'
      have := fixS_le _ (f := p.1) (r := p.2) e
      rw [← h'.2]
      exact this
theorem all_no {w : List (List UInt8)} {k : Nat} {y : List UInt8} (h : w[k]? = some y) (hn : numOk y = false) : ¬ w.all numOk = true := by
  intro e
  rw [List.all_eq_true] at e
  have := e y (List.mem_of_getElem? h)
  rw [hn] at this
  cases this
theorem take_one {w : List (List UInt8)} {k : Nat} {y : List UInt8} (h : w[k]? = some y) : w.take (k + 1) = w.take k ++ [y] := by
  rw [List.take_add_one, h]
  rfl
theorem fixS_none {n : Nat} {w : List (List UInt8)} {i : Nat} {f : List Int} {r : List (List UInt8)} (h : fixS i w = some (f, r)) (hr : takeN r = none) (hi : i < n) : fixS n w = none := by
  have h1 : fixS (i + 1) w = none := by rw [fixS, h]; simp [hr]
  have h2 : ∀ d, fixS (i + 1 + d) w = none := by
    intro d
    induction d with
    | zero => exact h1
    | succ d ih => rw [← Nat.add_assoc, fixS, ih]; rfl
  have := h2 (n - (i + 1))
  rwa [show i + 1 + (n - (i + 1)) = n by omega] at this
theorem fixS_len : ∀ (n : Nat) {w : List (List UInt8)} {f : List Int} {r : List (List UInt8)}, fixS n w = some (f, r) → f.length = n
  | 0, w, f, r, h => by
    simp only [fixS, Option.some.injEq, Prod.mk.injEq] at h
    rw [← h.1]
    rfl
  | n + 1, w, f, r, h => by
    rw [fixS] at h
    cases e : fixS n w with
    | none => rw [e] at h; cases h
    | some p =>
      rw [e, Option.bind_some] at h
      cases e2 : takeN p.2 with
      | none => rw [e2] at h; cases h
      | some q =>
        rw [e2] at h
        simp only [Option.map_some, Option.some.injEq, Prod.mk.injEq] at h
        have := fixS_len n (f := p.1) (r := p.2) e
        rw [← h.1]
        simp [this]
end ChoP
namespace Go.Proofs.YtpniilgkceadeaaGreatDoor
open Go.RowKit
theorem refNames_any (w : World) : Calls Tryz.prog 64 #[] w fun e w' => e = .returned (.slice (some ⟨w.heap.size, 0, none⟩) 10 10) ∧ w.alloc (.cells wordsV 9) = w' := by
  go_enter Tryz.func64, Tryz.ntmps64
  go_wp2
  go_ret
  exact ⟨rfl, rfl⟩
/-- what the reference's parse returns -/
def RPPost (o : Option ChoP.Cho) (w : World) (e : Ending) (w' : World) : Prop :=
  ∃ r : Row, e = .returned (.tuple #[choV r, .bool o.isSome]) ∧ (∀ c, o = some c → RowIs w' w'.heap.size r c ∧ ∀ b p, r.p = some ⟨b, p, none⟩ → w.heap.size ≤ b ∧ b < w'.heap.size) ∧ Below w.heap.size w w'
/-- while the reference parses: the result's block, the choice's block -/
structure RPS (w wx : World) (cs : Array Value) : Prop where
  z : wx.heap[w.heap.size]? = some (.cells zeroCho 59 (0, 0))
  g : wx.heap[w.heap.size + 1]? = some (.cells cs 59 (0, 0))
  below : Below w.heap.size w wx
theorem RPS.sz {w wx : World} {cs : Array Value} (h : RPS w wx cs) : w.heap.size + 1 < wx.heap.size := (Array.getElem?_eq_some_iff.1 h.g).1
theorem RPS.next {w wx w2 : World} {cs : Array Value} (h : RPS w wx cs) (hb : Below wx.heap.size wx w2) : RPS w w2 cs := by
  have hs := h.sz
  exact ⟨(hb.block _ (by omega)).trans h.z, (hb.block _ (by omega)).trans h.g, h.below.trans (hb.mono (by omega))⟩
theorem RPS.setG {w wx : World} {cs : Array Value} (h : RPS w wx cs) (i : Nat) (u : Value) : RPS w (wx.setCell ⟨w.heap.size + 1, i, none⟩ u) (cs.setIfInBounds i u) :=
  ⟨(Go.Deep.blk_setCell_other _ _ _ _ (by show w.heap.size ≠ w.heap.size + 1; omega)).trans h.z, blk_set h.g, h.below.setCell (by show w.heap.size ≤ w.heap.size + 1; omega) _⟩
theorem RPS.app {w w2 w3 : World} {cs : Array Value} {o : Obj} {row : Option Nat} (h : RPS w w2 cs) (hg : (w2.alloc o).grownBy w3 row) (hr : ∀ z, row = some z → w.heap.size + 2 ≤ z) : RPS w w3 cs ∧ Below w.heap.size w2 w3 := by
  have hs := h.sz
  have hsz := hg.size
  rw [World.size_alloc] at hsz
  have hb : ∀ b, b < w.heap.size + 2 → w3.heap[b]? = w2.heap[b]? := fun b hb => (hg.block b (by rw [World.size_alloc]; omega) (fun e => by have := hr b e.symm; omega)).trans (heap_alloc_old w2 o (by omega))
  have h2 : Below w.heap.size w2 w3 := ⟨hg.os, hg.tape, hg.output, by omega, fun k hk => hb k (by omega)⟩
  exact ⟨⟨(hb _ (by omega)).trans h.z, (hb _ (by omega)).trans h.g, h.below.trans h2⟩, h2⟩
/-- a choice that is taken -/
theorem RPS.yes {w wx : World} {k : ChoP.Key} {t d : Int} {A : Option Addr} {n c : Nat} {ar : List Int} (h : RPS w wx (rowK k t d (.slice A n c))) (hn : n = ar.length) (hc : n ≤ c) (hm : c ≤ 9223372036854775807) (hl : Lie wx wx.heap.size A (intV ar))
    (hna : ∀ b o, A = some ⟨b, o, none⟩ → w.heap.size + 2 ≤ b ∧ b < wx.heap.size) (u0 u1 u2 u3 u4 u5 u6 : Value) :
    RPPost (some ⟨k, t, d, ar⟩) w (.returned (.tuple #[choV ⟨k, t, d, A, n, c⟩, .bool true])) (((((((wx.setCell ⟨w.heap.size, 0, none⟩ u0).setCell ⟨w.heap.size, 1, none⟩ u1).setCell ⟨w.heap.size, 2, none⟩ u2).setCell ⟨w.heap.size, 3, none⟩ u3).setCell ⟨w.heap.size, 4, none⟩ u4).setCell ⟨w.heap.size, 5, none⟩ u5).setCell ⟨w.heap.size, 6, none⟩ u6) := by
  have hne : ∀ b' o', A = some ⟨b', o', none⟩ → b' ≠ w.heap.size := fun b' o' e => by have := hna b' o' e; omega
  refine ⟨_, rfl, fun c' e => ?_, ((((((h.below.setCell (Nat.le_refl _) _).setCell (Nat.le_refl _) _).setCell (Nat.le_refl _) _).setCell (Nat.le_refl _) _).setCell (Nat.le_refl _) _).setCell (Nat.le_refl _) _).setCell (Nat.le_refl _) _⟩
  injection e with e
  subst e
  refine ⟨⟨rfl, rfl, rfl, hn, hc, hm, ?_⟩, fun b o e => ?_⟩
  · simp only [World.size_setCell]
    exact ((((((hl.set _ _ hne).set _ _ hne).set _ _ hne).set _ _ hne).set _ _ hne).set _ _ hne).set _ _ hne
  · have := hna b o e
    simp only [World.size_setCell]
    omega
/-- a choice that is refused -/
theorem RPS.no {w wx : World} {cs : Array Value} (h : RPS w wx cs) (r : Row) (u0 u1 u2 u3 u4 u5 u6 : Value) :
    RPPost none w (.returned (.tuple #[choV r, .bool false])) (((((((wx.setCell ⟨w.heap.size, 0, none⟩ u0).setCell ⟨w.heap.size, 1, none⟩ u1).setCell ⟨w.heap.size, 2, none⟩ u2).setCell ⟨w.heap.size, 3, none⟩ u3).setCell ⟨w.heap.size, 4, none⟩ u4).setCell ⟨w.heap.size, 5, none⟩ u5).setCell ⟨w.heap.size, 6, none⟩ u6) :=
  ⟨r, rfl, fun c e => (by cases e), ((((((h.below.setCell (Nat.le_refl _) _).setCell (Nat.le_refl _) _).setCell (Nat.le_refl _) _).setCell (Nat.le_refl _) _).setCell (Nat.le_refl _) _).setCell (Nat.le_refl _) _).setCell (Nat.le_refl _) _⟩
/-- a slice of words that lies -/
def WSl (w : World) (B : Nat) (v : Value) (ws : List (List UInt8)) : Prop := ∃ (X : Option Addr) (c : Nat), v = .slice X ws.length c ∧ Lie w B X (strs ws) ∧ ws.length ≤ c ∧ c ≤ 9223372036854775807
theorem WSl.below {w w' : World} {B : Nat} {v : Value} {ws : List (List UInt8)} (h : WSl w B v ws) (hb : Below B w w') : WSl w' B v ws := by
  obtain ⟨X, c, h1, h2, h3, h4⟩ := h
  exact ⟨X, c, h1, h2.below hb (Nat.le_refl _), h3, h4⟩
theorem WSl.tail {w : World} {B : Nat} {X : Option Addr} {c : Nat} {y : List UInt8} {r : List (List UInt8)} (hl : Lie w B X (strs (y :: r))) (h3 : r.length + 1 ≤ c) (h4 : c ≤ 9223372036854775807) :
    WSl w B (.slice (if c = 1 then X else Option.map (fun x => x.add 1) X) r.length (c - 1)) r :=
  ⟨_, c - 1, rfl, hl.cut1 1 c (by simpa [strs] using h3), by omega, by omega⟩
/-- the number of the first region -/
def firstR : Code → Option Nat
  | .region n _ _ => some n
  | .seq a _ => firstR a
  | .block _ c => firstR c
  | .scope c => firstR c
  | _ => none
/-- the outermost part of a text that begins with the region n -/
def fromR (n : Nat) : Code → Option Code
  | .seq a b => if firstR a = some n then some (.seq a b) else match fromR n a with | some c => some c | none => fromR n b
  | .block i c => if firstR c = some n then some (.block i c) else fromR n c
  | .scope c => if firstR c = some n then some (.scope c) else fromR n c
  | .cond _ a b => match fromR n a with | some c => some c | none => fromR n b
  | .loop c => fromR n c
  | .region k o d => if k = n then some (.region k o d) else none
  | _ => none
noncomputable def parseFrom (n : Nat) : Code := (Tryz.f47.body.bind (fromR n)).getD .skip
end Go.Proofs.YtpniilgkceadeaaGreatDoor
