/- How choices lie in memory: cells from an address on, a row of seven cells a choice, its arguments. -/
import Derived.Test.YtpniilgkceadeaaGreatDoorProg
import Derived.Test.YtpniilgkceadeaaGreatDoorChoPlain
import Derived.WalkKit
import Derived.Outline
import Derived.WalkSpells
import Derived.Lib.Hide
import Derived.OwnWalk
import Derived.Deep.AppendLies
import Derived.Sort.Grow
import Derived.Deep.Draws
import Derived.Maps.AppendAt
namespace Go.Proofs.YtpniilgkceadeaaGreatDoor
open Go.RowKit Go.Sort
theorem cell_at {w : World} {b : Nat} {cs : Array Value} {t : TypeId} {fr : Nat × Nat} (h : w.heap[b]? = some (.cells cs t fr)) (j : Nat) (v : Value) (hv : cs[j]? = some v) : w.cell? ⟨b, j, none⟩ = some v := by
  simp [World.cell?, h, hv]
theorem cells_new (w : World) (cs : List Value) (t : TypeId) : ∀ (j : Nat) (u : Value), cs[j]? = some u → (w.alloc (.cells cs.toArray t)).cell? ((⟨w.heap.size, 0, none⟩ : Addr).add j) = some u := by
  intro j u hj
  have h1 : (w.alloc (.cells cs.toArray t)).heap[w.heap.size]? = some (.cells cs.toArray t (0, 0)) := heap_alloc_new w _
  have h2 := cell_at h1 j u (by simpa using hj)
  unfold Addr.add
  split
  · rename_i h; subst h; exact h2
  · simpa using h2
/-- from the address A on lie the cells xs, in a block below B -/
def Lie (w : World) (B : Nat) (A : Option Addr) (xs : List Value) : Prop :=
  xs ≠ [] → ∃ b o, A = some ⟨b, o, none⟩ ∧ b < B ∧ ∀ (j : Nat) (u : Value), xs[j]? = some u → w.cell? ⟨b, o + j, none⟩ = some u
theorem Lie.nil (w : World) (B : Nat) (A : Option Addr) : Lie w B A [] := fun h => absurd rfl h
theorem Lie.keep {w w' : World} {B B' : Nat} {A : Option Addr} {xs : List Value} (h : Lie w B A xs) (hB : B ≤ B') (hc : ∀ b o, b < B → w'.cell? ⟨b, o, none⟩ = w.cell? ⟨b, o, none⟩) : Lie w' B' A xs := fun hx => by
  obtain ⟨b, o, e, hb, h⟩ := h hx
  exact ⟨b, o, e, by omega, fun j u hu => (hc b _ hb).trans (h j u hu)⟩
theorem Lie.below {w w' : World} {B B' : Nat} {A : Option Addr} {xs : List Value} (h : Lie w B A xs) (hb : Below B w w') (hB : B ≤ B') : Lie w' B' A xs :=
  h.keep hB fun b o hl => hb.cell (p := ⟨b, o, none⟩) hl
theorem Lie.at_ {w : World} {B : Nat} {A : Option Addr} {xs : List Value} (h : Lie w B A xs) (j : Nat) (u : Value) (hu : xs[j]? = some u) :
    ∃ b o, A = some ⟨b, o, none⟩ ∧ b < B ∧ w.cell? ⟨b, o + j, none⟩ = some u := by
  obtain ⟨b, o, e, hb, h⟩ := h (by rintro rfl; simp at hu)
  exact ⟨b, o, e, hb, h j u hu⟩
theorem Lie.of_own {w : World} {base e size n : Nat} {A : Option Addr} {c : Nat} {xs : List Value} (h : w.ownsRow base e size (.slice A n c) n xs) : Lie w w.heap.size A xs := fun hx => by
  obtain ⟨hl, h⟩ := h
  rcases h with ⟨_, h0⟩ | ⟨g, cap, cur, hv, hb, hg, hc, _, hsz, ht⟩
  · subst h0; exact absurd (List.eq_nil_of_length_eq_zero (by simpa using hl)) hx
  · injection hv with hv
    refine ⟨g, 0, hv, (Array.getElem?_eq_some_iff.1 hg).1, fun j u hj => ?_⟩
    rw [Nat.zero_add]
    refine cell_at hg j u ?_
    rw [← ht, List.getElem?_take] at hj
    split at hj
    · simpa using hj
    · cases hj
/-- a choice's seven cells -/
structure Row where
  key : ChoP.Key
  t : Int
  d : Int
  p : Option Addr
  n : Nat
  c : Nat
instance : Inhabited Row := ⟨⟨⟨0, 0, 0, 0⟩, 0, 0, none, 0, 0⟩⟩
def Row.vs (r : Row) : List Value := [.int .u8 r.key.kind, .int .i64 r.key.a, .int .i64 r.key.b, .int .i64 r.key.n, .int .i64 r.t, .int .i64 r.d, .slice r.p r.n r.c]
def choV (r : Row) : Value := .agg #[.int .u8 r.key.kind, .int .i64 r.key.a, .int .i64 r.key.b, .int .i64 r.key.n, .int .i64 r.t, .int .i64 r.d, .slice r.p r.n r.c]
def intV (l : List Int) : List Value := l.map (Value.int .i64)
/-- the row r holds the choice x -/
structure RowIs (w : World) (B : Nat) (r : Row) (x : ChoP.Cho) : Prop where
  key : r.key = x.key
  t : r.t = x.t
  d : r.d = x.d
  n : r.n = x.args.length
  c : r.n ≤ r.c
  m : r.c ≤ 9223372036854775807
  lie : Lie w B r.p (intV x.args)
theorem RowIs.below {w w' : World} {B B' : Nat} {r : Row} {x : ChoP.Cho} (h : RowIs w B r x) (hb : Below B w w') (hB : B ≤ B') : RowIs w' B' r x :=
  ⟨h.key, h.t, h.d, h.n, h.c, h.m, h.lie.below hb hB⟩
abbrev Pair := Row × ChoP.Cho
def encP (p : Pair) : List Value := p.1.vs
def cellsP (ps : List Pair) : List Value := ps.flatMap encP
theorem encP_len (p : Pair) : (encP p).length = 7 := rfl
theorem cellsP_len (ps : List Pair) : (cellsP ps).length = ps.length * 7 := by
  induction ps with
  | nil => rfl
  | cons p r ih => rw [cellsP, List.flatMap_cons, List.length_append, encP_len, ← cellsP, ih, List.length_cons]; omega
theorem cellsP_at (ps : List Pair) (k j : Nat) (p : Pair) (hk : ps[k]? = some p) (hj : j < 7) : (cellsP ps)[k * 7 + j]? = (encP p)[j]? := by
  induction ps generalizing k with
  | nil => simp at hk
  | cons q r ih =>
    rw [cellsP, List.flatMap_cons, ← cellsP]
    cases k with
    | zero =>
      simp at hk
      subst hk
      rw [List.getElem?_append_left (by rw [encP_len]; omega)]
      simp
    | succ k =>
      rw [List.getElem?_append_right (by rw [encP_len]; omega), encP_len, show (k + 1) * 7 + j - 7 = k * 7 + j by omega]
      exact ih k (by simpa using hk)
theorem cellsP_append (a b : List Pair) : cellsP (a ++ b) = cellsP a ++ cellsP b := by simp [cellsP]
/-- a slice of choices -/
structure Chos (w : World) (B : Nat) (A : Option Addr) (ps : List Pair) : Prop where
  lie : Lie w B A (cellsP ps)
  row : ∀ p ∈ ps, RowIs w B p.1 p.2
theorem Chos.below {w w' : World} {B B' : Nat} {A : Option Addr} {ps : List Pair} (h : Chos w B A ps) (hb : Below B w w') (hB : B ≤ B') : Chos w' B' A ps :=
  ⟨h.lie.below hb hB, fun p hp => (h.row p hp).below hb hB⟩
/-- the seven cells of the choice at place k -/
theorem Chos.at_ {w : World} {B : Nat} {A : Option Addr} {ps : List Pair} (h : Chos w B A ps) (k : Nat) (p : Pair) (hk : ps[k]? = some p) :
    ∃ b o, A = some ⟨b, o, none⟩ ∧ b < B ∧ ∀ (j : Nat) (u : Value), p.1.vs[j]? = some u → w.cell? ⟨b, o + k * 7 + j, none⟩ = some u := by
  have hne : cellsP ps ≠ [] := by
    intro e
    have := cellsP_len ps
    rw [e] at this
    have : k < ps.length := (List.getElem?_eq_some_iff.1 hk).1
    simp at *
    omega
  obtain ⟨b, o, e, hb, hc⟩ := h.lie hne
  refine ⟨b, o, e, hb, fun j u hu => ?_⟩
  rw [Nat.add_assoc]
  refine hc _ u ?_
  have hj : j < 7 := by have := (List.getElem?_eq_some_iff.1 hu).1; simpa [Row.vs] using this
  rw [cellsP_at ps k j p hk hj]
  exact hu
/-- draws and new blocks alone -/
def Grows (w w' : World) : Prop := ∃ q os, w' = grow (w.drewN q) os
theorem Grows.refl (w : World) : Grows w w := ⟨0, #[], by simp [grow, World.drewN]⟩
end Go.Proofs.YtpniilgkceadeaaGreatDoor
/- An append onto a row of the call's own, its source any slice that lies (nil and empty too). -/
namespace Go.Proofs.YtpniilgkceadeaaGreatDoor
open Go.RowKit
theorem addr_add (b o j : Nat) : (⟨b, o, none⟩ : Addr).add j = ⟨b, o + j, none⟩ := by
  unfold Addr.add
  split
  · rename_i h; subst h; rfl
  · rfl
theorem run_append_none {P : Program} {w : World} (base : Nat) (t ty e : TypeId) (i : TypeInfo) (size : Nat) (ht : P.underlying t = some (.slice e)) (hi : P.info? e = some i) (v : Value) (n : Nat) (xs : List Value) (hown : w.ownsRow base e size v n xs) (c : Nat) :
    (Builtin.append_ #[t, t] ty #[v, .slice none 0 c]).run P w = .ok v w := by
  rcases hown.2 with ⟨rfl, rfl⟩ | ⟨g, cap, cur, rfl, _, _, hnc, _⟩
  · simp [Builtin.append_, run_underlying ht, sizeOf, typeInfo, hi, Builtin.lenOf, Builtin.firstCells]
  · simp [Builtin.append_, run_underlying ht, sizeOf, typeInfo, hi, Builtin.lenOf, Builtin.firstCells, hnc, storeCells]
/-- a slice's value lies: its cells, its length -/
def SliceIs (w : World) (B : Nat) (size : Nat) (A : Option Addr) (m : Nat) (news : List Value) : Prop := news.length = m * size ∧ Lie w B A news
theorem wpList_append_lie {P : Program} {w : World} {ops : Array Oper} {rest : List Oper} {o : Oper} {a : Act} {Q : Exit → Act → World → Prop} (hgd : o.guard = none) (s x : Operand) (t : TypeId)
    (ho : o.op = .call { callee := .builtin .append, args := #[s, x], argTypes := #[t, t] })
    (base : Nat) (e : TypeId) (i : TypeInfo) (z : Value) (size bytes : Nat) (ht : P.underlying t = some (.slice e)) (hi : P.info? e = some i) (hz : i.zero = some z)
    (hsize : i.size = size) (hby : i.bytes = bytes) (hzs : z.cells.size = size) (hsz : 0 < size)
    (v : Value) (n : Nat) (xs : List Value) (hs : a.eval s = v) (hown : w.ownsRow base e size v n xs)
    (B : Nat) (A : Option Addr) (m c : Nat) (news : List Value) (hx : a.eval x = .slice A m c) (hl : SliceIs w B size A m news) (h1 : ∀ u ∈ news, u.oneCell' = true)
    (h63 : n + m ≤ maxLen) (hbytes : (n + m) * bytes ≤ 140737488355328) (hbase : base ≤ w.heap.size)
    (h : ∀ v' w', w'.ownsRow base e size v' (n + m) (xs ++ news) → w.grownBy w' v.ownBlock → (v'.ownBlock = v.ownBlock ∨ v'.ownBlock = some w.heap.size) → wpList P ops Q rest (a.put o.dst v') w') : wpList P ops Q (o :: rest) a w := by
  have hrun : ∃ v' w', (Builtin.append_ #[t, t] o.type #[v, .slice A m c]).run P w = .ok v' w' ∧ w'.ownsRow base e size v' (n + m) (xs ++ news) ∧ w.grownBy w' v.ownBlock ∧ (v'.ownBlock = v.ownBlock ∨ v'.ownBlock = some w.heap.size) := by
    obtain ⟨hl, hL⟩ := hl
    cases A with
    | none =>
      have hn : news = [] := by
        cases news with
        | nil => rfl
        | cons u r => obtain ⟨b, o, e, _⟩ := hL (by simp); cases e
      subst hn
      have hm : m = 0 := by
        rcases Nat.eq_zero_or_pos m with h0 | h0
        · exact h0
        · have := Nat.mul_pos h0 hsz
          rw [← hl] at this
          exact absurd this (by simp)
      subst hm
      exact ⟨v, w, run_append_none base t o.type e i size ht hi v n xs hown c, by simpa using hown, World.grownBy.refl w _, .inl rfl⟩
    | some ad =>
      have hcells : ∀ j u, news[j]? = some u → w.cell? (ad.add j) = some u := by
        intro j u hu
        obtain ⟨b, o, e, _, hc⟩ := hL.at_ j u hu
        injection e with e
        subst e
        rw [addr_add]
        exact hc
      obtain ⟨v', w', r1, r2, r3, _, r5⟩ := run_append_own_at (P := P) w base t o.type e i z size bytes ht hi hz hsize hby hzs hsz v n xs hown ad m c news hl hcells h1 h63 hbytes hbase
      exact ⟨v', w', r1, r2, r3, r5⟩
  obtain ⟨v', w', r1, r2, r3, r4⟩ := hrun
  refine wpList_plain hgd fun K hK => ?_
  unfold Oper.wp execOp
  simp only [ho, resolve, invoke, builtin, Sem.run_bind, Sem.run_pure, Result.andThen_ok, List.map_toArray, List.map_cons, List.map_nil, hs, hx, r1]
  exact hK _ _ (h v' w' r2 r3 r4)
/-- an owned row's value: a slice of n cells-groups, what it owns lies -/
theorem own_form {w : World} {base e size : Nat} {v : Value} {n : Nat} {xs : List Value} (h : w.ownsRow base e size v n xs) : ∃ A c, v = .slice A n c ∧ n ≤ c ∧ c ≤ 9223372036854775807 ∧ SliceIs w w.heap.size size A n xs := by
  have h' := h
  rcases h.2 with ⟨rfl, rfl⟩ | ⟨g, cap, cur, rfl, hb, hg, hc, hm, hsz, ht⟩
  · exact ⟨none, 0, rfl, Nat.le_refl _, by omega, h.1, Lie.of_own h'⟩
  · exact ⟨_, cap, rfl, hc, by unfold maxLen at hm; omega, h.1, Lie.of_own h'⟩
theorem below_grownBy {W W' : World} (h : Below W.heap.size W W') : W.grownBy W' none := ⟨h.os, h.tape, h.output, h.size, fun k hk _ => h.block k hk⟩
theorem own_below {W W' : World} {base e size : Nat} {v : Value} {n : Nat} {xs : List Value} (h : W.ownsRow base e size v n xs) (hb : Below W.heap.size W W') : W'.ownsRow base e size v n xs := by
  refine h.kept (below_grownBy hb) ?_
  cases hv : v.ownBlock with
  | none => exact .inl rfl
  | some g => exact .inr (by simp)
theorem own_ge {W : World} {base e size : Nat} {v : Value} {n : Nat} {xs : List Value} (h : W.ownsRow base e size v n xs) : ∀ k, v.ownBlock = some k → base ≤ k := by
  rcases h.2 with ⟨rfl, _⟩ | ⟨g, cap, cur, rfl, hb, _⟩
  · intro k e; simp [Value.ownBlock] at e
  · intro k e
    obtain rfl : g = k := by simpa [Value.ownBlock] using e
    exact hb
theorem own_lt {W : World} {base e size : Nat} {v : Value} {n : Nat} {xs : List Value} (h : W.ownsRow base e size v n xs) : ∀ k, v.ownBlock = some k → k < W.heap.size := by
  rcases h.2 with ⟨rfl, _⟩ | ⟨g, cap, cur, rfl, hb, hg, _⟩
  · intro k e; simp [Value.ownBlock] at e
  · intro k e
    obtain rfl : g = k := by simpa [Value.ownBlock] using e
    exact (Array.getElem?_eq_some_iff.1 hg).1
theorem Lie.set {w : World} {B : Nat} {A : Option Addr} {xs : List Value} (h : Lie w B A xs) (p : Addr) (u : Value) (hne : ∀ b o, A = some ⟨b, o, none⟩ → b ≠ p.block) : Lie (w.setCell p u) B A xs := fun hx => by
  obtain ⟨b, o, e, hb, hc⟩ := h hx
  refine ⟨b, o, e, hb, fun j v hv => (World.cell?_setCell_other w p _ u (fun e' => hne b o e ?_)).trans (hc j v hv)⟩
  first | rw [← e'] | rw [e']
/-- what lies stays where one block alone has changed, and it isn't that one -/
theorem Lie.keepNe {w w' : World} {B B' g : Nat} {A : Option Addr} {xs : List Value} (h : Lie w B A xs) (hB : B ≤ B') (hc : ∀ b, b < B → b ≠ g → w'.heap[b]? = w.heap[b]?) (hne : ∀ b o, A = some ⟨b, o, none⟩ → b ≠ g) : Lie w' B' A xs := fun hx => by
  obtain ⟨b, o, e, hb, h⟩ := h hx
  exact ⟨b, o, e, by omega, fun j u hu => (World.cell?_of_block (a := ⟨b, o + j, none⟩) (hc b hb (hne b o e))).trans (h j u hu)⟩
theorem RowIs.keepNe {w w' : World} {B B' g : Nat} {r : Row} {x : ChoP.Cho} (h : RowIs w B r x) (hB : B ≤ B') (hc : ∀ b, b < B → b ≠ g → w'.heap[b]? = w.heap[b]?) (hne : ∀ b o, r.p = some ⟨b, o, none⟩ → b ≠ g) : RowIs w' B' r x :=
  ⟨h.key, h.t, h.d, h.n, h.c, h.m, h.lie.keepNe hB hc hne⟩
theorem frozen_at {w : World} {b : Nat} {cs : Array Value} {t : TypeId} (h : w.heap[b]? = some (.cells cs t (0, 0))) (j : Nat) : w.frozen? ⟨b, j, none⟩ = false := by
  simp [World.frozen?, h]
/-- a block of seven cells: its cells and marks -/
theorem blk7 {w : World} {b : Nat} {v0 v1 v2 v3 v4 v5 v6 : Value} {t : TypeId} (h : w.heap[b]? = some (.cells #[v0, v1, v2, v3, v4, v5, v6] t (0, 0))) :
    (w.cell? ⟨b, 0, none⟩ = some v0 ∧ w.cell? ⟨b, 1, none⟩ = some v1 ∧ w.cell? ⟨b, 2, none⟩ = some v2 ∧ w.cell? ⟨b, 3, none⟩ = some v3 ∧ w.cell? ⟨b, 4, none⟩ = some v4 ∧ w.cell? ⟨b, 5, none⟩ = some v5 ∧ w.cell? ⟨b, 6, none⟩ = some v6) ∧
    (w.frozen? ⟨b, 0, none⟩ = false ∧ w.frozen? ⟨b, 1, none⟩ = false ∧ w.frozen? ⟨b, 2, none⟩ = false ∧ w.frozen? ⟨b, 3, none⟩ = false ∧ w.frozen? ⟨b, 4, none⟩ = false ∧ w.frozen? ⟨b, 5, none⟩ = false ∧ w.frozen? ⟨b, 6, none⟩ = false) :=
  ⟨⟨cell_at h 0 _ rfl, cell_at h 1 _ rfl, cell_at h 2 _ rfl, cell_at h 3 _ rfl, cell_at h 4 _ rfl, cell_at h 5 _ rfl, cell_at h 6 _ rfl⟩, ⟨frozen_at h 0, frozen_at h 1, frozen_at h 2, frozen_at h 3, frozen_at h 4, frozen_at h 5, frozen_at h 6⟩⟩
end Go.Proofs.YtpniilgkceadeaaGreatDoor
/- clone: a choice with arguments of its own. -/
namespace Go.Proofs.YtpniilgkceadeaaGreatDoor
open Go.RowKit
def ClonePost (x : ChoP.Cho) (w : World) (e : Ending) (w' : World) : Prop := ∃ r, e = .returned (choV r) ∧ RowIs w' w'.heap.size r x ∧ (∀ b o, r.p = some ⟨b, o, none⟩ → w.heap.size ≤ b) ∧ Below w.heap.size w w'
theorem info_i64 : (Tryz.prog.info? 2).map (fun i => (i.zero, i.size, i.bytes)) = some (some (.int .i64 0), 1, 8) := by kernel_rfl
theorem intV_one (l : List Int) : ∀ u ∈ intV l, u.oneCell' = true := by
  intro u hu
  simp only [intV, List.mem_map] at hu
  obtain ⟨z, _, rfl⟩ := hu
  rfl
set_option maxHeartbeats 1000000 in
theorem clone_any (r : Row) (x : ChoP.Cho) (w : World) (h : RowIs w w.heap.size r x) (hn : x.args.length ≤ 65536) : Calls Tryz.prog 29 #[choV r] w (ClonePost x w) := by
  obtain ⟨i0, hi0, hz0, hz1, hz2⟩ := info_parts info_i64
  have e1 : choV r = .agg #[.int .u8 r.key.kind, .int .i64 r.key.a, .int .i64 r.key.b, .int .i64 r.key.n, .int .i64 r.t, .int .i64 r.d, .slice r.p r.n r.c] := rfl
  rw [e1]
  clear e1
  have hsl : SliceIs w w.heap.size 1 r.p r.n (intV x.args) := ⟨by simp [intV, h.n], h.lie⟩
  have hrn : r.n ≤ 65536 := by rw [h.n]; exact hn
  have H := Lib.hid h
  have HS := Lib.hid hsl
  clear h hsl
  go_enter Tryz.func29, Tryz.ntmps29
  go_wp2_with (at_builtin; refine wpList_append_lie rfl _ _ 57 rfl (w.heap.size + 2) 2 i0 _ 1 8 Tryz.underlying57 hi0 hz0 hz1 hz2 rfl (by decide) (.slice none 0 0) 0 [] rfl (World.ownsRow_nil _ _ _ _) w.heap.size r.p r.n r.c (intV x.args) rfl ?c1 (intV_one _) ?c3 ?c4 ?c5 ?_)
  case c1 => exact ⟨HS.out.1, HS.out.2.below (((Below.refl _ _).alloc (Nat.le_refl _) _).alloc (by simp) _) (Nat.le_refl _)⟩
  case c3 => unfold maxLen; omega
  case c4 => omega
  case c5 => simp
  intro v1 w1 hown hgrow _
  obtain ⟨A, c, rfl, hc1, hc2, hsl⟩ := own_form hown
  have hb0 : w1.heap[w.heap.size]? = some (.cells #[.int .u8 r.key.kind, .int .i64 r.key.a, .int .i64 r.key.b, .int .i64 r.key.n, .int .i64 r.t, .int .i64 r.d, .slice r.p r.n r.c] 59 (0, 0)) :=
    (hgrow.block w.heap.size (by simp; omega) (by simp [Value.ownBlock])).trans ((Below.heap_alloc _ _ _ (by simp)).trans (heap_alloc_new w _))
  have hb1 : w1.heap[w.heap.size + 1]? = some (.cells #[.int .u8 0, .int .i64 0, .int .i64 0, .int .i64 0, .int .i64 0, .int .i64 0, .slice none 0 0] 59 (0, 0)) := by
    have h := heap_alloc_new (w.alloc (.cells #[.int .u8 r.key.kind, .int .i64 r.key.a, .int .i64 r.key.b, .int .i64 r.key.n, .int .i64 r.t, .int .i64 r.d, .slice r.p r.n r.c] 59)) (.cells #[.int .u8 0, .int .i64 0, .int .i64 0, .int .i64 0, .int .i64 0, .int .i64 0, .slice none 0 0] 59)
    rw [World.size_alloc] at h
    exact (hgrow.block (w.heap.size + 1) (by simp) (by simp [Value.ownBlock])).trans h
  obtain ⟨⟨a0, a1, a2, a3, a4, a5, a6⟩, ⟨_, _, _, _, _, _, f6⟩⟩ := blk7 hb0
  obtain ⟨⟨d0, d1, d2, d3, d4, d5, d6⟩, ⟨g0, g1, g2, g3, g4, g5, g6⟩⟩ := blk7 hb1
  have hB : Below w.heap.size w w1 := (((Below.refl _ _).alloc (Nat.le_refl _) _).alloc (by simp) _).grown hgrow (by simp; omega) (fun k e => by simp [Value.ownBlock] at e)
  have HB := Lib.hid hB
  have HSL := Lib.hid hsl
  have hne : ∀ b o, A = some ⟨b, o, none⟩ → w.heap.size + 2 ≤ b := fun b o e => own_ge hown b (by rw [e]; rfl)
  have HNE := Lib.hid hne
  have hsz : w.heap.size + 2 ≤ w1.heap.size := by have := hgrow.size; simp at this; omega
  clear hb0 hb1 hown hgrow hB hsl hne
  go_wp2_with fail
  refine bodyPost_ret (v := choV ⟨r.key, r.t, r.d, A, r.n, c⟩) (by simp [results, Tryz.results29, go_sem, choV, d0, d1, d2, d3, d4, d5, d6]) rfl ⟨_, rfl, ⟨H.out.key, H.out.t, H.out.d, H.out.n, hc1, hc2, ?_⟩, fun b o e => Nat.le_trans (by omega) (HNE.out b o e), ?_⟩
  · simp only [World.size_setCell]
    iterate 8 refine Lie.set ?_ _ _ (fun b o e => by have := HNE.out b o e; simp; omega)
    exact HSL.out.2
  · iterate 8 refine Below.setCell ?_ (by simp) _
    exact HB.out
end Go.Proofs.YtpniilgkceadeaaGreatDoor
