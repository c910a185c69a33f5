/- Rows that lie, cut; blocks that last; what a call that writes into one block leaves. -/
import Derived.Test.YtpniilgkceadeaaGreatDoorChoFindP
import Derived.Deep.OwnRows
import Derived.Laws.DeepNot64
namespace Go.Proofs.YtpniilgkceadeaaGreatDoor
open Go.RowKit
theorem Lie.cut1 {w : World} {B : Nat} {A : Option Addr} {xs : List Value} (h : Lie w B A xs) (pos c : Nat) (hn : xs.length ≤ c) : Lie w B (if c = pos then A else Option.map (fun x => x.add pos) A) (xs.drop pos) := fun hx => by
  have hp : pos < xs.length := by
    rcases Nat.lt_or_ge pos xs.length with e | e
    · exact e
    · exact absurd (List.drop_eq_nil_of_le e) hx
  obtain ⟨b, o, rfl, hb, hc⟩ := h (by rintro rfl; simp at hp)
  refine ⟨b, o + pos, ?_, hb, fun j u hu => ?_⟩
  · rw [if_neg (by omega), Option.map_some, addr_add]
  · rw [Nat.add_assoc]
    exact hc _ u (by rwa [List.getElem?_drop] at hu)
theorem blk2 {w : World} {b : Nat} {v0 v1 : Value} {t : TypeId} (h : w.heap[b]? = some (.cells #[v0, v1] t (0, 0))) :
    (w.cell? ⟨b, 0, none⟩ = some v0 ∧ w.cell? ⟨b, 1, none⟩ = some v1) ∧ (w.frozen? ⟨b, 0, none⟩ = false ∧ w.frozen? ⟨b, 1, none⟩ = false) :=
  ⟨⟨cell_at h 0 _ rfl, cell_at h 1 _ rfl⟩, ⟨frozen_at h 0, frozen_at h 1⟩⟩
theorem Lie.mono {w : World} {B B' : Nat} {A : Option Addr} {xs : List Value} (h : Lie w B A xs) (hB : B ≤ B') : Lie w B' A xs := h.below (RowKit.Below.refl _ _) hB
theorem Lie.blocks {w w' : World} {B : Nat} {A : Option Addr} {xs : List Value} (h : Lie w B A xs) (hb : ∀ b, b < B → w'.heap[b]? = w.heap[b]?) : Lie w' B A xs := fun hx => by
  obtain ⟨b, o, e, hlt, hc⟩ := h hx
  exact ⟨b, o, e, hlt, fun j u hu => (World.cell?_of_block (a := ⟨b, o + j, none⟩) (hb b hlt)).trans (hc j u hu)⟩
theorem grown_set (w : World) (R i : Nat) (v : Value) : w.grownBy (w.setCell ⟨R, i, none⟩ v) (some R) :=
  ⟨rfl, rfl, rfl, by rw [World.size_setCell]; exact Nat.le_refl _, fun k _ hne => Go.Deep.blk_setCell_other _ _ _ _ (fun e => hne (by rw [e]))⟩
theorem blk_set {w : World} {b i : Nat} {cs : Array Value} {t : TypeId} {u : Value} (h : w.heap[b]? = some (.cells cs t (0, 0))) : (w.setCell ⟨b, i, none⟩ u).heap[b]? = some (.cells (cs.setIfInBounds i u) t (0, 0)) := by
  simp [World.setCell, Array.getElem?_modify, h]
theorem grown_trans {a b c : World} {R : Nat} (h : a.grownBy b (some R)) (k : b.grownBy c (some R)) : a.grownBy c (some R) :=
  ⟨k.os.trans h.os, k.tape.trans h.tape, k.output.trans h.output, Nat.le_trans h.size k.size, fun q hq hne => (k.block q (Nat.lt_of_lt_of_le hq h.size) hne).trans (h.block q hq hne)⟩
theorem grown_set_ge {a b : World} {R : Nat} (h : a.grownBy b (some R)) (p : Addr) (hp : a.heap.size ≤ p.block) (u : Value) : a.grownBy (b.setCell p u) (some R) :=
  ⟨h.os, h.tape, h.output, by rw [World.size_setCell]; exact h.size, fun q hq hne => (Go.Deep.blk_setCell_other _ _ _ _ (by omega)).trans (h.block q hq hne)⟩
theorem grown_alloc {a b : World} {R : Nat} (h : a.grownBy b (some R)) (o : Obj) : a.grownBy (b.alloc o) (some R) := grown_trans h (World.grownBy_alloc b o (some R))
theorem grown_far {a b c : World} {R : Nat} {row : Option Nat} (h : a.grownBy b (some R)) (k : b.grownBy c row) (hr : ∀ q, row = some q → a.heap.size ≤ q) : a.grownBy c (some R) :=
  ⟨k.os.trans h.os, k.tape.trans h.tape, k.output.trans h.output, Nat.le_trans h.size k.size, fun q hq hne => (k.block q (Nat.lt_of_lt_of_le hq h.size) (fun e => by have := hr q e.symm; omega)).trans (h.block q hq hne)⟩
end Go.Proofs.YtpniilgkceadeaaGreatDoor
