/- slices.Index, slices.Contains and slices.Equal at keys. -/
import Derived.Test.YtolfbnjmkgikdaaDoorChoKeys
import Derived.Test.YtolfbnjmkgikdaaDoorChoEq
import Derived.Deep.QuietTactic
import Derived.BigQuiet
namespace ChoP
def hasKey (l : List Key) (k : Key) : Bool := l.any fun x => eqB x k
end ChoP
namespace Go.Proofs.YtolfbnjmkgikdaaDoor
open Go.RowKit Go.Sort
theorem cellsK_len (l : List ChoP.Key) : (cellsK l).length = l.length * 4 := by
  induction l with
  | nil => rfl
  | cons p r ih => rw [cellsK, List.flatMap_cons, List.length_append, ← cellsK, ih, List.length_cons]; simp [keyVs]; omega
theorem cellsK_at (l : List ChoP.Key) (k j : Nat) (p : ChoP.Key) (hk : l[k]? = some p) (hj : j < 4) : (cellsK l)[k * 4 + j]? = (keyVs p)[j]? := by
  induction l generalizing k with
  | nil => simp at hk
  | cons q r ih =>
    rw [cellsK, List.flatMap_cons, ← cellsK]
    have hq : (keyVs q).length = 4 := rfl
    cases k with
    | zero =>
      simp at hk
      subst hk
      rw [List.getElem?_append_left (by omega)]
      simp
    | succ k =>
      rw [List.getElem?_append_right (by omega), hq, show (k + 1) * 4 + j - 4 = k * 4 + j by omega]
      exact ih k (by simpa using hk)
theorem keys_at {w : World} {B : Nat} {A : Option Addr} {l : List ChoP.Key} (h : Lie w B A (cellsK l)) (k : Nat) (p : ChoP.Key) (hk : l[k]? = some p) :
    ∃ b o, A = some ⟨b, o, none⟩ ∧ b < B ∧ ∀ (j : Nat) (u : Value), (keyVs p)[j]? = some u → w.cell? ⟨b, o + k * 4 + j, none⟩ = some u := by
  have hne : cellsK l ≠ [] := by
    intro e
    have := cellsK_len l
    rw [e] at this
    have : k < l.length := (List.getElem?_eq_some_iff.1 hk).1
    simp at *
    omega
  obtain ⟨b, o, e, hb, hc⟩ := h hne
  refine ⟨b, o, e, hb, fun j u hu => ?_⟩
  rw [Nat.add_assoc]
  refine hc _ u ?_
  have hj : j < 4 := by have := (List.getElem?_eq_some_iff.1 hu).1; simpa [keyVs] using this
  rw [cellsK_at l k j p hk hj]
  exact hu
def IdxPost (b : Bool) (w : World) (e : Ending) (w' : World) : Prop := ∃ n : Int, e = .returned (.int .i64 n) ∧ decide (0 ≤ n) = b ∧ RowKit.Below w.heap.size w w'
set_option maxRecDepth 100000 in
set_option maxHeartbeats 2000000 in
theorem index_any (A : Option Addr) (l : List ChoP.Key) (c : Nat) (k : ChoP.Key) (w : World) (h : Lie w w.heap.size A (cellsK l)) (hn : l.length ≤ 65536) :
    Calls Tryd.prog 40 #[.slice A l.length c, keyV k] w (IdxPost (ChoP.hasKey l k) w) := by
  have k2 : keyV k = .agg #[.int .u8 k.kind, .int .i64 k.a, .int .i64 k.b, .int .i64 k.n] := rfl
  rw [k2]
  have H := Lib.hid h
  clear h k2
  go_enter Tryd.func40, Tryd.ntmps40
  go_wp2_with fail
  go_loopw [8] (fun i wr => ∃ m : Nat, i = .int .i64 m ∧ m ≤ l.length ∧ (∀ (q : Nat) (y : ChoP.Key), q < m → l[q]? = some y → ChoP.eqB y k = false) ∧ wr.heap[w.heap.size]? = some (.cells #[.int .u8 k.kind, .int .i64 k.a, .int .i64 k.b, .int .i64 k.n] 25 (0, 0)) ∧ RowKit.Below w.heap.size w wr) (fun i _ => l.length - (intOf i).toNat)
  case atStart => exact ⟨0, rfl, Nat.zero_le _, fun q y hq => absurd hq (by omega), heap_alloc_new w _, (RowKit.Below.refl _ _).alloc (Nat.le_refl _) _⟩
  case round =>
    obtain ⟨m, rfl, hm, h1, hblk, hb⟩ := hrel
    have H1 := Lib.hid h1
    have HB := Lib.hid hb
    have HBLK := Lib.hid hblk
    obtain ⟨k0, k1, k2, k3⟩ := blk4 hblk
    clear h1 hb hblk
    by_cases hlt : m < l.length
    · obtain ⟨p, hpk⟩ : ∃ p, l[m]? = some p := ⟨_, List.getElem?_eq_getElem (by omega)⟩
      obtain ⟨b, o, rfl, hb0, hc⟩ := keys_at H.out m p hpk
      have hcell : ∀ q u, (keyVs p)[q]? = some u → wr.cell? ⟨b, o + m * 4 + q, none⟩ = some u := fun q u hu => (HB.out.cell (p := ⟨b, o + m * 4 + q, none⟩) hb0).trans (hc q u hu)
      have c0 : wr.cell? ⟨b, o + m * 4, none⟩ = some (.int .u8 p.kind) := hcell 0 _ rfl
      have c1 := hcell 1 _ rfl
      have c2 := hcell 2 _ rfl
      have c3 := hcell 3 _ rfl
      have hke := fun W => key_equalIn k.kind k.a k.b k.n p.kind p.a p.b p.n W
      obtain ⟨bq, hbq⟩ : ∃ bq : Bool, ChoP.eqB k p = bq := ⟨_, rfl⟩
      have hke2 : ∀ W : World, (Op.equalIn 10000 25 (.agg #[.int .u8 k.kind, .int .i64 k.a, .int .i64 k.b, .int .i64 k.n]) (.agg #[.int .u8 p.kind, .int .i64 p.a, .int .i64 p.b, .int .i64 p.n])).run Tryd.prog W = .ok bq W := fun W => by rw [← hbq]; exact hke W
      have hkg := key_guard
      have hbq2 : ChoP.eqB p k = bq := by
        rw [← hbq, Bool.eq_iff_iff, ChoP.eqB_iff, ChoP.eqB_iff]
        exact ⟨Eq.symm, Eq.symm⟩
      have HBQ := Lib.hid hbq2
      have HPK := Lib.hid hpk
      have hi1 : (0 : Int) ≤ (m : Int) := by omega
      have hi2 : (m : Int) < (l.length : Int) := by omega
      clear hcell hc hke hbq hbq2 hpk
      cases bq
      · go_wp2_with fail
        go_quiet (fail)
        clear c0 c1 c2 c3 k0 k1 k2 k3
        go_wp2_with fail
        go_roundw
        case rel =>
          refine ⟨m + 1, by go_num, by omega, fun q y hq hy => ?_, HBLK.out, ⟨HB.out.os, HB.out.tape, HB.out.output, HB.out.size, HB.out.block⟩⟩
          by_cases hqm : q = m
          · subst hqm
            rw [HPK.out] at hy
            cases hy
            exact HBQ.out
          · exact H1.out q y (by omega) hy
        case measure => simp [intOf]; omega
      · have hf : ChoP.hasKey l k = true := List.any_eq_true.2 ⟨p, List.mem_of_getElem? HPK.out, HBQ.out⟩
        have HF := Lib.hid hf
        clear hf
        go_wp2_with fail
        go_quiet (fail)
        clear c0 c1 c2 c3 k0 k1 k2 k3
        go_wp2_with fail
        go_ret
        exact ⟨m, rfl, by rw [HF.out]; simp, ⟨HB.out.os, HB.out.tape, HB.out.output, HB.out.size, HB.out.block⟩⟩
    · have hf : ChoP.hasKey l k = false := by
        rw [ChoP.hasKey, List.any_eq_false]
        intro y hy e
        obtain ⟨q, hq⟩ := List.getElem?_of_mem hy
        rw [H1.out q y (by have := (List.getElem?_eq_some_iff.1 hq).1; omega) hq] at e
        cases e
      have HF := Lib.hid hf
      clear hf k0 k1 k2 k3
      go_wp2_with fail
      go_ret
      exact ⟨-1, rfl, by rw [HF.out]; rfl, HB.out⟩
set_option maxHeartbeats 1000000 in
theorem contains_any (A : Option Addr) (l : List ChoP.Key) (c : Nat) (k : ChoP.Key) (w : World) (h : Lie w w.heap.size A (cellsK l)) (hn : l.length ≤ 65536) :
    Calls Tryd.prog 16 #[.slice A l.length c, keyV k] w (BoolPost (ChoP.hasKey l k) w) := by
  have k2 : keyV k = .agg #[.int .u8 k.kind, .int .i64 k.a, .int .i64 k.b, .int .i64 k.n] := rfl
  have hs := fun (o1 : Obj) => index_any A l c k (w.alloc o1) (by rw [World.size_alloc]; exact h.below ((RowKit.Below.refl _ _).alloc (Nat.le_refl _) _) (by omega)) hn
  rw [k2] at hs
  rw [k2]
  have HS := Lib.hid hs
  clear h k2 hs
  go_enter Tryd.func16, Tryd.ntmps16
  go_wp2_with fail
  refine (HS.out _).mono ?_
  rintro e w1 ⟨n, rfl, hd, hb⟩
  rw [World.size_alloc] at hb
  have HB := Lib.hid hb
  have HD := Lib.hid hd
  clear hb hd
  go_wp2_with fail
  go_ret
  exact ⟨by rw [← HD.out]; rfl, ((RowKit.Below.refl w.heap.size w).alloc (Nat.le_refl _) _).trans (HB.out.mono (by omega))⟩
end Go.Proofs.YtolfbnjmkgikdaaDoor
/- slices.Equal on keys. -/
namespace ChoP
def eqKs : List Key → List Key → Bool
  | [], [] => true
  | x :: l, y :: m => eqB x y && eqKs l m
  | _, _ => false
theorem eqKs_iff : ∀ (l m : List Key), eqKs l m = true ↔ l = m
  | [], [] => by simp [eqKs]
  | [], y :: m => by simp [eqKs]
  | x :: l, [] => by simp [eqKs]
  | x :: l, y :: m => by simp [eqKs, eqB_iff, eqKs_iff l m]
theorem eqKs_false {l m : List Key} (h : l ≠ m) : eqKs l m = false := by
  cases e : eqKs l m
  · rfl
  · exact absurd ((eqKs_iff _ _).1 e) h
end ChoP
namespace Go.Proofs.YtolfbnjmkgikdaaDoor
open Go.RowKit Go.Sort
set_option maxRecDepth 100000 in
set_option maxHeartbeats 2000000 in
theorem eqKeys_any (A B : Option Addr) (l m : List ChoP.Key) (c d : Nat) (w : World) (h1 : Lie w w.heap.size A (cellsK l)) (h2 : Lie w w.heap.size B (cellsK m)) (hn : l.length ≤ 65536) :
    Calls Tryd.prog 23 #[.slice A l.length c, .slice B m.length d] w (BoolPost (ChoP.eqKs l m) w) := by
  have hfalse : ∀ (W : World), RowKit.Below w.heap.size w W → l ≠ m → BoolPost (ChoP.eqKs l m) w (.returned (.bool false)) W := fun W hW hne => ⟨by rw [ChoP.eqKs_false hne], hW⟩
  have HFA := Lib.hid hfalse
  have H1 := Lib.hid h1
  have H2 := Lib.hid h2
  clear hfalse h1 h2
  by_cases hlen : l.length = m.length
  · have HLEN := Lib.hid hlen
    rw [← hlen]
    clear hlen
    go_enter Tryd.func23, Tryd.ntmps23
    go_wp2_with fail
    go_loopw [13] (fun i wr => ∃ k : Nat, k ≤ l.length ∧ i = .int .i64 k ∧ l.take k = m.take k ∧ RowKit.Below w.heap.size w wr) (fun i _ => l.length - (intOf i).toNat)
    case atStart => exact ⟨0, Nat.zero_le _, rfl, rfl, RowKit.Below.refl _ _⟩
    case round =>
      obtain ⟨k, hk, rfl, ht, hb⟩ := hrel
      have HT := Lib.hid ht
      have HB := Lib.hid hb
      clear ht hb
      by_cases hlt : k < l.length
      · obtain ⟨p, hpk⟩ : ∃ p, l[k]? = some p := ⟨_, List.getElem?_eq_getElem hlt⟩
        obtain ⟨q, hqk⟩ : ∃ q, m[k]? = some q := ⟨_, List.getElem?_eq_getElem (by rw [← HLEN.out]; exact hlt)⟩
        obtain ⟨b, o, rfl, hb0, hc⟩ := keys_at H1.out k p hpk
        obtain ⟨b', o', rfl, hb0', hc'⟩ := keys_at H2.out k q hqk
        have hcell : ∀ j u, (keyVs p)[j]? = some u → wr.cell? ⟨b, o + k * 4 + j, none⟩ = some u := fun j u hu => (HB.out.cell (p := ⟨b, o + k * 4 + j, none⟩) hb0).trans (hc j u hu)
        have hcell' : ∀ j u, (keyVs q)[j]? = some u → wr.cell? ⟨b', o' + k * 4 + j, none⟩ = some u := fun j u hu => (HB.out.cell (p := ⟨b', o' + k * 4 + j, none⟩) hb0').trans (hc' j u hu)
        have d0 : wr.cell? ⟨b, o + k * 4, none⟩ = some (.int .u8 p.kind) := hcell 0 _ rfl
        have g0 : wr.cell? ⟨b', o' + k * 4, none⟩ = some (.int .u8 q.kind) := hcell' 0 _ rfl
        have d1 := hcell 1 _ rfl
        have d2 := hcell 2 _ rfl
        have d3 := hcell 3 _ rfl
        have g1 := hcell' 1 _ rfl
        have g2 := hcell' 2 _ rfl
        have g3 := hcell' 3 _ rfl
        obtain ⟨bq, hbq⟩ : ∃ bq : Bool, ChoP.eqB p q = bq := ⟨_, rfl⟩
        have hke2 : ∀ W : World, (Op.equalIn 10000 25 (.agg #[.int .u8 p.kind, .int .i64 p.a, .int .i64 p.b, .int .i64 p.n]) (.agg #[.int .u8 q.kind, .int .i64 q.a, .int .i64 q.b, .int .i64 q.n])).run Tryd.prog W = .ok bq W := fun W => by rw [← hbq]; exact key_equalIn _ _ _ _ _ _ _ _ W
        have hkg := key_guard
        have hi1 : (0 : Int) ≤ (k : Int) := by omega
        have hi2 : (k : Int) < (l.length : Int) := by omega
        have HBQ := Lib.hid hbq
        have HPK := Lib.hid hpk
        have HQK := Lib.hid hqk
        clear hcell hcell' hc hc' hbq hpk hqk
        cases bq
        · go_wp2_with fail
          go_quiet (fail)
          clear d0 d1 d2 d3 g0 g1 g2 g3
          have hne : l ≠ m := fun e => by
            have h1 := HPK.out
            rw [e, HQK.out] at h1
            injection h1 with h1
            have h2 := HBQ.out
            rw [h1, (ChoP.eqB_iff _ _).2 rfl] at h2
            cases h2
          have HNE := Lib.hid hne
          clear hne
          go_wp2_with fail
          go_ret
          exact HFA.out _ ⟨HB.out.os, HB.out.tape, HB.out.output, HB.out.size, HB.out.block⟩ HNE.out
        · go_wp2_with fail
          go_quiet (fail)
          clear d0 d1 d2 d3 g0 g1 g2 g3
          go_wp2_with fail
          go_roundw
          case rel =>
            refine ⟨k + 1, by omega, by go_num, ?_, ⟨HB.out.os, HB.out.tape, HB.out.output, HB.out.size, HB.out.block⟩⟩
            rw [List.take_add_one, List.take_add_one, HT.out, HPK.out, HQK.out, (ChoP.eqB_iff _ _).1 HBQ.out]
          case measure => simp [intOf]; omega
      · have hxy : ChoP.eqKs l m = true := by
          rw [ChoP.eqKs_iff]
          have h1 := HT.out
          have := HLEN.out
          rwa [List.take_of_length_le (by omega), List.take_of_length_le (by omega)] at h1
        have HXY := Lib.hid hxy
        clear hxy
        go_wp2_with fail
        go_ret
        exact ⟨by rw [HXY.out]; rfl, HB.out⟩
  · have hne : l ≠ m := fun e => hlen (congrArg List.length e)
    have HNE := Lib.hid hne
    have hb1 : ((l.length : Int) != (m.length : Int)) = true := by simp; omega
    have hb2 : ((l.length : Int) == (m.length : Int)) = false := by simp; omega
    clear hne hlen
    go_enter Tryd.func23, Tryd.ntmps23
    go_wp2_with fail
    go_ret
    exact HFA.out _ (RowKit.Below.refl _ _) HNE.out
end Go.Proofs.YtolfbnjmkgikdaaDoor
