/- The append law at a step of a region that draws its order; the reference's find. -/
import Derived.Test.YtpniilgkceadeaaGreatDoorChoFindP
import Derived.Deep.RegionHeld3
namespace ChoP
/-- the place of the first choice with a key; -1: there is none -/
def findI : List Cho → Key → Int
  | [], _ => -1
  | x :: r, k => if eqB x.key k = true then 0 else if findI r k < 0 then -1 else findI r k + 1
theorem findI_at (l : List Cho) (k : Key) (i : Nat) (x : Cho) (h1 : ∀ (m : Nat) (y : Cho), m < i → l[m]? = some y → eqB y.key k = false) (hx : l[i]? = some x) (he : eqB x.key k = true) : findI l k = (i : Int) := by
  induction l generalizing i with
  | nil => simp at hx
  | cons y r ih =>
    rw [findI]
    cases i with
    | zero =>
      simp at hx
      subst hx
      rw [if_pos he]
      rfl
    | succ i =>
      have h0 := h1 0 y (by omega) rfl
      have := ih i (fun m z hm hz => h1 (m + 1) z (by omega) (by simpa using hz)) (by simpa using hx)
      rw [if_neg (by rw [h0]; simp), this, if_neg (by omega)]
      omega
theorem findI_none (l : List Cho) (k : Key) (h1 : ∀ (m : Nat) (y : Cho), l[m]? = some y → eqB y.key k = false) : findI l k = -1 := by
  induction l with
  | nil => rfl
  | cons y r ih =>
    have h0 := h1 0 y rfl
    have := ih (fun m z hz => h1 (m + 1) z (by simpa using hz))
    rw [findI, if_neg (by rw [h0]; simp), this]
    rfl
theorem findI_neg (l : List Cho) (k : Key) : findI l k = -1 ∨ 0 ≤ findI l k := by
  induction l with
  | nil => exact .inl rfl
  | cons y r ih =>
    rw [findI]
    split
    · exact .inr (by omega)
    · split
      · exact .inl rfl
      · exact .inr (by omega)
theorem findI_has (l : List Cho) (k : Key) : 0 ≤ findI l k ↔ hasK l k = true := by
  induction l with
  | nil => simp [findI, hasK]
  | cons y r ih =>
    rw [findI]
    unfold hasK at *
    rw [List.any_cons, Bool.or_eq_true]
    split
    · rename_i h; simp [h]
    · rename_i h
      have h' : (eqB y.key k = true ∨ (r.any fun x => eqB x.key k) = true) ↔ 0 ≤ findI r k := by
        rw [ih]
        exact ⟨fun e => e.elim (fun e => absurd e h) id, .inr⟩
      rw [h']
      split <;> omega
end ChoP
namespace Go.Proofs.YtpniilgkceadeaaGreatDoor
open Go.RowKit
theorem wp_append_lie {P : Program} {w : World} {o : Oper} {a : Act} {K : Act → World → Prop} {Q : Exit → Act → World → Prop} (s x : Operand) (t : TypeId)
    (ho : o.op = .call { callee := .builtin .append, args := #[s, x], argTypes := #[t, t] })
    (base : Nat) (e : TypeId) (i : TypeInfo) (z : Value) (size bytes : Nat) (ht : P.underlying t = some (.slice e)) (hi : P.info? e = some i) (hz : i.zero = some z)
    (hsize : i.size = size) (hby : i.bytes = bytes) (hzs : z.cells.size = size) (hsz : 0 < size)
    (v : Value) (n : Nat) (xs : List Value) (hs : a.eval s = v) (hown : w.ownsRow base e size v n xs)
    (B : Nat) (A : Option Addr) (m c : Nat) (news : List Value) (hx : a.eval x = .slice A m c) (hl : SliceIs w B size A m news) (h1 : ∀ u ∈ news, u.oneCell' = true)
    (h63 : n + m ≤ maxLen) (hbytes : (n + m) * bytes ≤ 140737488355328) (hbase : base ≤ w.heap.size)
    (h : ∀ v' w', w'.ownsRow base e size v' (n + m) (xs ++ news) → w.grownBy w' v.ownBlock → (v'.ownBlock = v.ownBlock ∨ v'.ownBlock = some w.heap.size) → K (a.put o.dst v') w') : o.wp P a w K Q := by
  have hrun : ∃ v' w', (Builtin.append_ #[t, t] o.type #[v, .slice A m c]).run P w = .ok v' w' ∧ w'.ownsRow base e size v' (n + m) (xs ++ news) ∧ w.grownBy w' v.ownBlock ∧ (v'.ownBlock = v.ownBlock ∨ v'.ownBlock = some w.heap.size) := by
    obtain ⟨hl, hL⟩ := hl
    cases A with
    | none =>
      have hn : news = [] := by
        cases news with
        | nil => rfl
        | cons u r => obtain ⟨b, o, e, _⟩ := hL (by simp); cases e
      subst hn
      have hm : m = 0 := by
        rcases Nat.eq_zero_or_pos m with h0 | h0
        · exact h0
        · have := Nat.mul_pos h0 hsz
          rw [← hl] at this
          exact absurd this (by simp)
      subst hm
      exact ⟨v, w, run_append_none base t o.type e i size ht hi v n xs hown c, by simpa using hown, World.grownBy.refl w _, .inl rfl⟩
    | some ad =>
      have hcells : ∀ j u, news[j]? = some u → w.cell? (ad.add j) = some u := by
        intro j u hu
        obtain ⟨b, o, e, _, hc⟩ := hL.at_ j u hu
        injection e with e
        subst e
        rw [addr_add]
        exact hc
      obtain ⟨v', w', r1, r2, r3, _, r5⟩ := run_append_own_at (P := P) w base t o.type e i z size bytes ht hi hz hsize hby hzs hsz v n xs hown ad m c news hl hcells h1 h63 hbytes hbase
      exact ⟨v', w', r1, r2, r3, r5⟩
  obtain ⟨v', w', r1, r2, r3, r4⟩ := hrun
  unfold Oper.wp execOp
  simp only [ho, resolve, invoke, builtin, Sem.run_bind, Sem.run_pure, Result.andThen_ok, List.map_toArray, List.map_cons, List.map_nil, hs, hx, r1]
  exact h v' w' r2 r3 r4
theorem step_append_lie {P : Program} {w : World} {ops : Array Oper} {o : Oper} {a : Act} {K : Act → World → Prop} {Q : Exit → Act → World → Prop} {E : Prop} (hgd : o.guard = none) (s x : Operand) (t : TypeId)
    (ho : o.op = .call { callee := .builtin .append, args := #[s, x], argTypes := #[t, t] })
    (base : Nat) (e : TypeId) (i : TypeInfo) (z : Value) (size bytes : Nat) (ht : P.underlying t = some (.slice e)) (hi : P.info? e = some i) (hz : i.zero = some z)
    (hsize : i.size = size) (hby : i.bytes = bytes) (hzs : z.cells.size = size) (hsz : 0 < size)
    (v : Value) (n : Nat) (xs : List Value) (hs : a.eval s = v) (hown : w.ownsRow base e size v n xs)
    (B : Nat) (A : Option Addr) (m c : Nat) (news : List Value) (hx : a.eval x = .slice A m c) (hl : SliceIs w B size A m news) (h1 : ∀ u ∈ news, u.oneCell' = true)
    (h63 : n + m ≤ maxLen) (hbytes : (n + m) * bytes ≤ 140737488355328) (hbase : base ≤ w.heap.size)
    (h : ∀ v' w', w'.ownsRow base e size v' (n + m) (xs ++ news) → w.grownBy w' v.ownBlock → (v'.ownBlock = v.ownBlock ∨ v'.ownBlock = some w.heap.size) → K (a.put o.dst v') w') :
    if Region.wanted o (yielded ops a.tmps) = true then Oper.wp P o a w K Q else E := by
  have hw : Region.wanted o (yielded ops a.tmps) = true := by simp [Region.wanted, hgd]
  rw [if_pos hw]
  exact wp_append_lie s x t ho base e i z size bytes ht hi hz hsize hby hzs hsz v n xs hs hown B A m c news hx hl h1 h63 hbytes hbase h
def IntPost (n : Int) (w : World) (e : Ending) (w' : World) : Prop := e = .returned (.int .i64 n) ∧ Below w.heap.size w w'
set_option maxRecDepth 100000 in
set_option maxHeartbeats 2000000 in
theorem refFind_any (A : Option Addr) (ps : List Pair) (c : Nat) (k : ChoP.Key) (w : World) (h : Chos w w.heap.size A ps) (hn : ps.length ≤ 65536) :
    Calls Tryz.prog 50 #[.slice A ps.length c, keyV k] w (IntPost (ChoP.findI (cho ps) k) w) := by
  have k2 : keyV k = .agg #[.int .u8 k.kind, .int .i64 k.a, .int .i64 k.b, .int .i64 k.n] := rfl
  rw [k2]
  have H := Lib.hid h
  clear h k2
  go_enter Tryz.func50, Tryz.ntmps50
  go_wp2_with fail
  go_loopw [9] (fun i wr => ∃ m : Nat, i = .int .i64 m ∧ m ≤ ps.length ∧ (∀ (q : Nat) (y : ChoP.Cho), q < m → (cho ps)[q]? = some y → ChoP.eqB y.key k = false) ∧ wr.heap[w.heap.size]? = some (.cells #[.int .u8 k.kind, .int .i64 k.a, .int .i64 k.b, .int .i64 k.n] 44 (0, 0)) ∧ Below w.heap.size w wr) (fun i _ => ps.length - (intOf i).toNat)
  case atStart => exact ⟨0, rfl, Nat.zero_le _, fun q y hq => absurd hq (by omega), heap_alloc_new w _, (Below.refl _ _).alloc (Nat.le_refl _) _⟩
  case round =>
    obtain ⟨m, rfl, hm, h1, hblk, hb⟩ := hrel
    have H1 := Lib.hid h1
    have HB := Lib.hid hb
    have HBLK := Lib.hid hblk
    obtain ⟨k0, k1, k2, k3⟩ := blk4 hblk
    have hwz := hb.size
    have hlt0 : w.heap.size < wr.heap.size := (Array.getElem?_eq_some_iff.1 hblk).1
    clear h1 hb hblk
    by_cases hlt : m < ps.length
    · obtain ⟨p, hpk⟩ : ∃ p, ps[m]? = some p := ⟨_, List.getElem?_eq_getElem (by omega)⟩
      obtain ⟨b, o, rfl, hb0, hc⟩ := H.out.at_ m p hpk
      have hcell : ∀ q u, p.1.vs[q]? = some u → wr.cell? ⟨b, o + m * 7 + q, none⟩ = some u := fun q u hu => (HB.out.cell (p := ⟨b, o + m * 7 + q, none⟩) hb0).trans (hc q u hu)
      have c0 : wr.cell? ⟨b, o + m * 7, none⟩ = some (.int .u8 p.1.key.kind) := hcell 0 _ rfl
      have c1 := hcell 1 _ rfl
      have c2 := hcell 2 _ rfl
      have c3 := hcell 3 _ rfl
      have c4 := hcell 4 _ rfl
      have c5 := hcell 5 _ rfl
      have c6 := hcell 6 _ rfl
      have hkey := (H.out.row p (List.mem_of_getElem? hpk)).key
      have hxk : (cho ps)[m]? = some p.2 := by simp [cho, hpk]
      have hke := fun W => key_equalIn p.1.key.kind p.1.key.a p.1.key.b p.1.key.n k.kind k.a k.b k.n W
      obtain ⟨bq, hbq⟩ : ∃ bq : Bool, ChoP.eqB p.1.key k = bq := ⟨_, rfl⟩
      have hke2 : ∀ W : World, (Op.equalIn 10000 44 (.agg #[.int .u8 p.1.key.kind, .int .i64 p.1.key.a, .int .i64 p.1.key.b, .int .i64 p.1.key.n]) (.agg #[.int .u8 k.kind, .int .i64 k.a, .int .i64 k.b, .int .i64 k.n])).run Tryz.prog W = .ok bq W := fun W => by rw [← hbq]; exact hke W
      have hkg := key_guard
      rw [hkey] at hbq
      have HBQ := Lib.hid hbq
      have HXK := Lib.hid hxk
      clear hcell hc hke hbq hxk hkey hpk
      cases bq
      · go_wp2_with fail
        go_roundw
        case rel =>
          refine ⟨m + 1, by go_num, by omega, fun q y hq hy => ?_, (Below.heap_alloc _ _ _ hlt0).trans HBLK.out, HB.out.alloc hwz _⟩
          by_cases hqm : q = m
          · subst hqm
            rw [HXK.out] at hy
            cases hy
            exact HBQ.out
          · exact H1.out q y (by omega) hy
        case measure => simp [intOf]; omega
      · have hf := ChoP.findI_at (cho ps) k m p.2 H1.out HXK.out HBQ.out
        have HF := Lib.hid hf
        clear hf
        go_wp2_with fail
        go_ret
        exact ⟨by rw [HF.out]; rfl, HB.out.alloc hwz _⟩
    · have hf := ChoP.findI_none (cho ps) k (fun q y hy => H1.out q y (by have := (List.getElem?_eq_some_iff.1 hy).1; simp [cho] at this; omega) hy)
      have HF := Lib.hid hf
      clear hf
      go_wp2_with fail
      go_ret
      exact ⟨by rw [HF.out]; rfl, HB.out⟩
end Go.Proofs.YtpniilgkceadeaaGreatDoor
