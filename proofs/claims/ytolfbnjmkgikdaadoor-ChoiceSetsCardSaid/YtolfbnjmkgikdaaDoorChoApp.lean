/- An append onto a row of the call's own, its source any slice that lies (nil and empty too). -/
import Derived.Test.YtolfbnjmkgikdaaDoorChoMem
import Derived.Maps.AppendAt
namespace Go.Proofs.YtolfbnjmkgikdaaDoor
open Go.RowKit
theorem addr_add (b o j : Nat) : (⟨b, o, none⟩ : Addr).add j = ⟨b, o + j, none⟩ := by
  unfold Addr.add
  split
  · rename_i h; subst h; rfl
  · rfl
theorem run_append_none {P : Program} {w : World} (base : Nat) (t ty e : TypeId) (i : TypeInfo) (size : Nat) (ht : P.underlying t = some (.slice e)) (hi : P.info? e = some i) (v : Value) (n : Nat) (xs : List Value) (hown : w.ownsRow base e size v n xs) (c : Nat) :
    (Builtin.append_ #[t, t] ty #[v, .slice none 0 c]).run P w = .ok v w := by
  rcases hown.2 with ⟨rfl, rfl⟩ | ⟨g, cap, cur, rfl, _, _, hnc, _⟩
  · simp [Builtin.append_, run_underlying ht, sizeOf, typeInfo, hi, Builtin.lenOf, Builtin.firstCells]
  · simp [Builtin.append_, run_underlying ht, sizeOf, typeInfo, hi, Builtin.lenOf, Builtin.firstCells, hnc, storeCells]
/-- a slice's value lies: its cells, its length -/
def SliceIs (w : World) (B : Nat) (size : Nat) (A : Option Addr) (m : Nat) (news : List Value) : Prop := news.length = m * size ∧ Lie w B A news
theorem wpList_append_lie {P : Program} {w : World} {ops : Array Oper} {rest : List Oper} {o : Oper} {a : Act} {Q : Exit → Act → World → Prop} (hgd : o.guard = none) (s x : Operand) (t : TypeId)
    (ho : o.op = .call { callee := .builtin .append, args := #[s, x], argTypes := #[t, t] })
    (base : Nat) (e : TypeId) (i : TypeInfo) (z : Value) (size bytes : Nat) (ht : P.underlying t = some (.slice e)) (hi : P.info? e = some i) (hz : i.zero = some z)
    (hsize : i.size = size) (hby : i.bytes = bytes) (hzs : z.cells.size = size) (hsz : 0 < size)
    (v : Value) (n : Nat) (xs : List Value) (hs : a.eval s = v) (hown : w.ownsRow base e size v n xs)
    (B : Nat) (A : Option Addr) (m c : Nat) (news : List Value) (hx : a.eval x = .slice A m c) (hl : SliceIs w B size A m news) (h1 : ∀ u ∈ news, u.oneCell' = true)
    (h63 : n + m ≤ maxLen) (hbytes : (n + m) * bytes ≤ 140737488355328) (hbase : base ≤ w.heap.size)
    (h : ∀ v' w', w'.ownsRow base e size v' (n + m) (xs ++ news) → w.grownBy w' v.ownBlock → (v'.ownBlock = v.ownBlock ∨ v'.ownBlock = some w.heap.size) → wpList P ops Q rest (a.put o.dst v') w') : wpList P ops Q (o :: rest) a w := by
  have hrun : ∃ v' w', (Builtin.append_ #[t, t] o.type #[v, .slice A m c]).run P w = .ok v' w' ∧ w'.ownsRow base e size v' (n + m) (xs ++ news) ∧ w.grownBy w' v.ownBlock ∧ (v'.ownBlock = v.ownBlock ∨ v'.ownBlock = some w.heap.size) := by
    obtain ⟨hl, hL⟩ := hl
    cases A with
    | none =>
      have hn : news = [] := by
        cases news with
        | nil => rfl
        | cons u r => obtain ⟨b, o, e, _⟩ := hL (by simp); cases e
      subst hn
      have hm : m = 0 := by
        rcases Nat.eq_zero_or_pos m with h0 | h0
        · exact h0
        · have := Nat.mul_pos h0 hsz
          rw [← hl] at this
          exact absurd this (by simp)
      subst hm
      exact ⟨v, w, run_append_none base t o.type e i size ht hi v n xs hown c, by simpa using hown, World.grownBy.refl w _, .inl rfl⟩
    | some ad =>
      have hcells : ∀ j u, news[j]? = some u → w.cell? (ad.add j) = some u := by
        intro j u hu
        obtain ⟨b, o, e, _, hc⟩ := hL.at_ j u hu
        injection e with e
        subst e
        rw [addr_add]
        exact hc
      obtain ⟨v', w', r1, r2, r3, _, r5⟩ := run_append_own_at (P := P) w base t o.type e i z size bytes ht hi hz hsize hby hzs hsz v n xs hown ad m c news hl hcells h1 h63 hbytes hbase
      exact ⟨v', w', r1, r2, r3, r5⟩
  obtain ⟨v', w', r1, r2, r3, r4⟩ := hrun
  refine wpList_plain hgd fun K hK => ?_
  unfold Oper.wp execOp
  simp only [ho, resolve, invoke, builtin, Sem.run_bind, Sem.run_pure, Result.andThen_ok, List.map_toArray, List.map_cons, List.map_nil, hs, hx, r1]
  exact hK _ _ (h v' w' r2 r3 r4)
/-- an owned row's value: a slice of n cells-groups, what it owns lies -/
theorem own_form {w : World} {base e size : Nat} {v : Value} {n : Nat} {xs : List Value} (h : w.ownsRow base e size v n xs) : ∃ A c, v = .slice A n c ∧ n ≤ c ∧ c ≤ 9223372036854775807 ∧ SliceIs w w.heap.size size A n xs := by
  have h' := h
  rcases h.2 with ⟨rfl, rfl⟩ | ⟨g, cap, cur, rfl, hb, hg, hc, hm, hsz, ht⟩
  · exact ⟨none, 0, rfl, Nat.le_refl _, by omega, h.1, Lie.of_own h'⟩
  · exact ⟨_, cap, rfl, hc, by unfold maxLen at hm; omega, h.1, Lie.of_own h'⟩
theorem below_grownBy {W W' : World} (h : Below W.heap.size W W') : W.grownBy W' none := ⟨h.os, h.tape, h.output, h.size, fun k hk _ => h.block k hk⟩
theorem own_below {W W' : World} {base e size : Nat} {v : Value} {n : Nat} {xs : List Value} (h : W.ownsRow base e size v n xs) (hb : Below W.heap.size W W') : W'.ownsRow base e size v n xs := by
  refine h.kept (below_grownBy hb) ?_
  cases hv : v.ownBlock with
  | none => exact .inl rfl
  | some g => exact .inr (by simp)
theorem own_ge {W : World} {base e size : Nat} {v : Value} {n : Nat} {xs : List Value} (h : W.ownsRow base e size v n xs) : ∀ k, v.ownBlock = some k → base ≤ k := by
  rcases h.2 with ⟨rfl, _⟩ | ⟨g, cap, cur, rfl, hb, _⟩
  · intro k e; simp [Value.ownBlock] at e
  · intro k e
    obtain rfl : g = k := by simpa [Value.ownBlock] using e
    exact hb
theorem own_lt {W : World} {base e size : Nat} {v : Value} {n : Nat} {xs : List Value} (h : W.ownsRow base e size v n xs) : ∀ k, v.ownBlock = some k → k < W.heap.size := by
  rcases h.2 with ⟨rfl, _⟩ | ⟨g, cap, cur, rfl, hb, hg, _⟩
  · intro k e; simp [Value.ownBlock] at e
  · intro k e
    obtain rfl : g = k := by simpa [Value.ownBlock] using e
    exact (Array.getElem?_eq_some_iff.1 hg).1
theorem Lie.set {w : World} {B : Nat} {A : Option Addr} {xs : List Value} (h : Lie w B A xs) (p : Addr) (u : Value) (hne : ∀ b o, A = some ⟨b, o, none⟩ → b ≠ p.block) : Lie (w.setCell p u) B A xs := fun hx => by
  obtain ⟨b, o, e, hb, hc⟩ := h hx
  refine ⟨b, o, e, hb, fun j v hv => (World.cell?_setCell_other w p _ u (fun e' => hne b o e ?_)).trans (hc j v hv)⟩
  first | rw [← e'] | rw [e']
/-- what lies stays where one block alone has changed, and it isn't that one -/
theorem Lie.keepNe {w w' : World} {B B' g : Nat} {A : Option Addr} {xs : List Value} (h : Lie w B A xs) (hB : B ≤ B') (hc : ∀ b, b < B → b ≠ g → w'.heap[b]? = w.heap[b]?) (hne : ∀ b o, A = some ⟨b, o, none⟩ → b ≠ g) : Lie w' B' A xs := fun hx => by
  obtain ⟨b, o, e, hb, h⟩ := h hx
  exact ⟨b, o, e, by omega, fun j u hu => (World.cell?_of_block (a := ⟨b, o + j, none⟩) (hc b hb (hne b o e))).trans (h j u hu)⟩
theorem RowIs.keepNe {w w' : World} {B B' g : Nat} {r : Row} {x : ChoP.Cho} (h : RowIs w B r x) (hB : B ≤ B') (hc : ∀ b, b < B → b ≠ g → w'.heap[b]? = w.heap[b]?) (hne : ∀ b o, r.p = some ⟨b, o, none⟩ → b ≠ g) : RowIs w' B' r x :=
  ⟨h.key, h.t, h.d, h.n, h.c, h.m, h.lie.keepNe hB hc hne⟩
theorem frozen_at {w : World} {b : Nat} {cs : Array Value} {t : TypeId} (h : w.heap[b]? = some (.cells cs t (0, 0))) (j : Nat) : w.frozen? ⟨b, j, none⟩ = false := by
  simp [World.frozen?, h]
/-- a block of seven cells: its cells and marks -/
theorem blk7 {w : World} {b : Nat} {v0 v1 v2 v3 v4 v5 v6 : Value} {t : TypeId} (h : w.heap[b]? = some (.cells #[v0, v1, v2, v3, v4, v5, v6] t (0, 0))) :
    (w.cell? ⟨b, 0, none⟩ = some v0 ∧ w.cell? ⟨b, 1, none⟩ = some v1 ∧ w.cell? ⟨b, 2, none⟩ = some v2 ∧ w.cell? ⟨b, 3, none⟩ = some v3 ∧ w.cell? ⟨b, 4, none⟩ = some v4 ∧ w.cell? ⟨b, 5, none⟩ = some v5 ∧ w.cell? ⟨b, 6, none⟩ = some v6) ∧
    (w.frozen? ⟨b, 0, none⟩ = false ∧ w.frozen? ⟨b, 1, none⟩ = false ∧ w.frozen? ⟨b, 2, none⟩ = false ∧ w.frozen? ⟨b, 3, none⟩ = false ∧ w.frozen? ⟨b, 4, none⟩ = false ∧ w.frozen? ⟨b, 5, none⟩ = false ∧ w.frozen? ⟨b, 6, none⟩ = false) :=
  ⟨⟨cell_at h 0 _ rfl, cell_at h 1 _ rfl, cell_at h 2 _ rfl, cell_at h 3 _ rfl, cell_at h 4 _ rfl, cell_at h 5 _ rfl, cell_at h 6 _ rfl⟩, ⟨frozen_at h 0, frozen_at h 1, frozen_at h 2, frozen_at h 3, frozen_at h 4, frozen_at h 5, frozen_at h 6⟩⟩
end Go.Proofs.YtolfbnjmkgikdaaDoor
