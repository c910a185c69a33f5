/- Choices that are gathered into a row of the call's own. -/
import Derived.Test.YtpniilgkceadeaaGreatDoorChoMem2
namespace Go.Proofs.YtpniilgkceadeaaGreatDoor
open Go.RowKit Go.Sort
/-- the choices that were read so far -/
structure RL (wr : World) (B : Nat) (v : Value) (ps : List Pair) : Prop where
  own : wr.ownsRow B 59 7 v ps.length (cellsP ps)
  row : ∀ q ∈ ps, RowIs wr wr.heap.size q.1 q.2 ∧ ∀ b o, q.1.p = some ⟨b, o, none⟩ → B ≤ b ∧ b < wr.heap.size ∧ some b ≠ v.ownBlock
theorem RL.grown {w w' : World} {B R : Nat} {v : Value} {ps : List Pair} (h : RL w B v ps) (hg : w.grownBy w' (some R)) (hR : R < B) : RL w' B v ps := by
  refine ⟨h.own.kept hg ?_, fun q hq => ⟨(h.row q hq).1.grown hg (Nat.le_refl _) (fun b o e _ e2 => ?_), fun b o e => ?_⟩⟩
  · cases hv : v.ownBlock with
    | none => exact .inl rfl
    | some q => exact .inr (fun e => by injection e with e; subst e; have := own_ge h.own _ hv; omega)
  · injection e2 with e2
    have := (h.row q hq).2 b o e
    omega
  · have := (h.row q hq).2 b o e
    have := hg.size
    exact ⟨by omega, by omega, ((h.row q hq).2 b o e).2.2⟩
theorem RL.below {w w' : World} {B : Nat} {v : Value} {ps : List Pair} (h : RL w B v ps) (hb : RowKit.Below w.heap.size w w') : RL w' B v ps :=
  ⟨own_below h.own hb, fun q hq => ⟨(h.row q hq).1.below hb hb.size, fun b o e => by have := (h.row q hq).2 b o e; have := hb.size; exact ⟨by omega, by omega, ((h.row q hq).2 b o e).2.2⟩⟩⟩
theorem RL.snoc {w w6 : World} {B : Nat} {v v6 : Value} {ps : List Pair} {r : Row} {X : ChoP.Cho} {o : Obj} (h : RL w B v ps) (hrow : RowIs w w.heap.size r X) (hnew : ∀ b o, r.p = some ⟨b, o, none⟩ → B ≤ b ∧ b < w.heap.size ∧ some b ≠ v.ownBlock)
    (hown : w6.ownsRow B 59 7 v6 (ps.length + 1) (cellsP ps ++ r.vs)) (hg : (w.alloc o).grownBy w6 v.ownBlock) (hat : v6.ownBlock = v.ownBlock ∨ v6.ownBlock = some (w.heap.size + 1)) : RL w6 B v6 (ps ++ [(r, X)]) := by
  have hsz := hg.size
  rw [World.size_alloc] at hsz
  refine ⟨by rw [List.length_append, cellsP_append]; simpa [cellsP, encP] using hown, fun q hq => ?_⟩
  have hq' : RowIs w w.heap.size q.1 q.2 ∧ ∀ b o, q.1.p = some ⟨b, o, none⟩ → B ≤ b ∧ b < w.heap.size ∧ some b ≠ v.ownBlock := by
    rcases List.mem_append.1 hq with hq | hq
    · exact h.row q hq
    · simp at hq
      rw [hq]
      exact ⟨hrow, hnew⟩
  refine ⟨(hq'.1.below ((RowKit.Below.refl _ _).alloc (Nat.le_refl _) o) (Nat.le_refl _)).grown hg (by rw [World.size_alloc]; omega) (fun b o e _ => (hq'.2 b o e).2.2), fun b o e => ?_⟩
  have hb := hq'.2 b o e
  refine ⟨hb.1, by omega, fun e2 => ?_⟩
  rcases hat with hat | hat
  · exact hb.2.2 (e2.trans hat)
  · rw [hat] at e2
    injection e2 with e2
    omega
end Go.Proofs.YtpniilgkceadeaaGreatDoor
