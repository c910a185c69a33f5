/- (choice.Set).Keys: the set's keys, in a new block. -/
import Derived.Test.YtolfbnjmkgikdaaDoorChoAll
import Derived.Test.YtolfbnjmkgikdaaDoorChoFind
namespace Go.Proofs.YtolfbnjmkgikdaaDoor
open Go.RowKit Go.Sort
def keyVs (k : ChoP.Key) : List Value := [.int .u8 k.kind, .int .i64 k.a, .int .i64 k.b, .int .i64 k.n]
def cellsK (l : List ChoP.Key) : List Value := l.flatMap keyVs
theorem cellsK_append (a b : List ChoP.Key) : cellsK (a ++ b) = cellsK a ++ cellsK b := by simp [cellsK]
theorem info_key : (Tryd.prog.info? 25).map (fun i => (i.zero, i.size, i.bytes)) = some (some (.agg #[.int .u8 0, .int .i64 0, .int .i64 0, .int .i64 0]), 4, 32) := by kernel_rfl
def keys (ps : List Pair) : List ChoP.Key := ps.map (·.2.key)
def KeysPost (l : List ChoP.Key) (w : World) (e : Ending) (w' : World) : Prop :=
  ∃ (A : Option Addr) (c : Nat), e = .returned (.slice A l.length c) ∧ Lie w' w'.heap.size A (cellsK l) ∧ l.length ≤ c ∧ c ≤ 9223372036854775807 ∧ (∀ b o, A = some ⟨b, o, none⟩ → w.heap.size ≤ b) ∧ RowKit.Below w.heap.size w w'
set_option maxRecDepth 100000 in
set_option maxHeartbeats 2000000 in
theorem keys_any (A : Option Addr) (ps : List Pair) (c : Nat) (w : World) (h : Chos w w.heap.size A ps) (hn : ps.length ≤ 96) : Calls Tryd.prog 13 #[.agg #[.slice A ps.length c]] w (KeysPost (keys ps) w) := by
  obtain ⟨i0, hi0, hz0, hz1, hz2⟩ := info_parts info_key
  have H := Lib.hid h
  clear h
  go_enter Tryd.func13, Tryd.ntmps13
  go_wp2_with (at_make; refine wpList_make_own _ rfl _ _ 38 rfl (w.heap.size + 1) 25 i0 _ 4 Tryd.underlying38 hi0 hz0 hz1 .i64 .i64 _ ps.length rfl rfl rfl (by rw [hz2]; omega) (by unfold maxLen; omega) (by simp) ?_; intro w0 hown0 hgrow0; have r0 : w0.cell? ⟨w.heap.size, 0, none⟩ = some (.slice A ps.length c) := cell_at ((hgrow0.block w.heap.size (by simp) (by simp)).trans (heap_alloc_new w _)) 0 _ rfl)
  have HB0 : Hid (RowKit.Below w.heap.size w w0) := Lib.hid (((RowKit.Below.refl w.heap.size w).alloc (Nat.le_refl _) _).grown hgrow0 (by simp) (fun k e => by cases e))
  rw [World.size_alloc] at hown0
  obtain ⟨G, hG⟩ : ∃ G, G = w.heap.size + 1 := ⟨_, rfl⟩
  rw [← hG] at hown0
  rw [← hG]
  have HO := Lib.hid hown0
  have hG1 : w.heap.size < G := by omega
  clear hown0 hgrow0 r0 hG
  go_loopw [3, 13] (fun v i wr => ∃ k : Nat, k ≤ ps.length ∧ i = .int .i64 k ∧ v = .slice (some ⟨G, 0, none⟩) k ps.length ∧ wr.ownsRow G 25 4 v k (cellsK (keys (ps.take k))) ∧ RowKit.Below w.heap.size w wr) (fun _ i _ => ps.length - (intOf i).toNat)
  case atStart => exact ⟨0, Nat.zero_le _, rfl, rfl, HO.out, HB0.out⟩
  case round =>
    clear HO HB0
    obtain ⟨k, hk, rfl, rfl, hown, hb⟩ := hrel
    have HO := Lib.hid hown
    have HB := Lib.hid hb
    have hwz := hb.size
    clear hown hb
    by_cases hlt : k < ps.length
    · obtain ⟨p, hpk⟩ : ∃ p, ps[k]? = some p := ⟨_, List.getElem?_eq_getElem hlt⟩
      have hrow := H.out.row p (List.mem_of_getElem? hpk)
      obtain ⟨b, o, rfl, hb0, hcl⟩ := H.out.at_ k p hpk
      have hcell : ∀ j u, p.1.vs[j]? = some u → wr.cell? ⟨b, o + k * 7 + j, none⟩ = some u := fun j u hu => (HB.out.cell (p := ⟨b, o + k * 7 + j, none⟩) hb0).trans (hcl j u hu)
      have c0 : wr.cell? ⟨b, o + k * 7, none⟩ = some (.int .u8 p.1.key.kind) := hcell 0 _ rfl
      have c1 := hcell 1 _ rfl
      have c2 := hcell 2 _ rfl
      have c3 := hcell 3 _ rfl
      have c4 := hcell 4 _ rfl
      have c5 := hcell 5 _ rfl
      have c6 := hcell 6 _ rfl
      have hst : cellsK (keys (ps.take (k + 1))) = cellsK (keys (ps.take k)) ++ keyVs p.1.key := by
        rw [List.take_add_one, hpk, keys, List.map_append, cellsK_append, ← keys, hrow.key]
        simp [cellsK]
      have HST := Lib.hid hst
      clear hst hrow hcell hcl hpk
      go_wp2_with (at_builtin; refine wpList_append_fits _ rfl _ _ 38 rfl G 25 i0 4 Tryd.underlying38 hi0 hz1 G k ps.length (cellsK (keys (ps.take k))) rfl ?c0 ⟨wr.heap.size + 1, 0, none⟩ 1 1 (keyVs p.1.key) rfl rfl ?c1 ?c2 ?c3 ?_)
      case c0 => exact (HO.out.alloc _).alloc _
      case c1 =>
        have := cells_new (wr.alloc (.cells #[.int .u8 p.1.key.kind, .int .i64 p.1.key.a, .int .i64 p.1.key.b, .int .i64 p.1.key.n, .int .i64 p.1.t, .int .i64 p.1.d, .slice p.1.p p.1.n p.1.c] 42)) (keyVs p.1.key) 25
        rw [World.size_alloc] at this
        exact this
      case c2 => simp [keyVs, Value.oneCell']
      case c3 => omega
      intro w2 hown2 hgrow2
      have HO2 : Hid (w2.ownsRow G 25 4 (.slice (some ⟨G, 0, none⟩) (k + 1) ps.length) (k + 1) (cellsK (keys (ps.take (k + 1))))) := Lib.hid (by rw [HST.out]; exact hown2)
      have HB2 : Hid (RowKit.Below w.heap.size w w2) := Lib.hid (((HB.out.alloc hwz _).alloc (by simp; omega) _).grown hgrow2 (by simp; omega) (fun k e => by cases e; omega))
      clear hown2 hgrow2 c0 c1 c2 c3 c4 c5 c6
      go_wp2_with fail
      go_roundw
      case rel => exact ⟨k + 1, by omega, by go_num, rfl, HO2.out, HB2.out⟩
      case measure => simp [intOf]; omega
    · obtain rfl : k = ps.length := by omega
      have hl : (keys ps).length = ps.length := by simp [keys]
      have ho := HO.out
      rw [List.take_of_length_le (Nat.le_refl _)] at ho
      have hf : KeysPost (keys ps) w (.returned (.slice (some ⟨G, 0, none⟩) ps.length ps.length)) wr :=
        ⟨_, ps.length, by rw [hl], Lie.of_own ho, by omega, by omega, fun b o e => by injection e with e; injection e with e1 _; omega, HB.out⟩
      have HF := Lib.hid hf
      clear hf ho hl
      go_wp2_with fail
      go_ret
      exact HF.out
end Go.Proofs.YtolfbnjmkgikdaaDoor
/- (choice.Set).Get. -/
namespace ChoP
theorem posK_at {l : List Cho} {i : Nat} {x : Cho} (ho : Ord l) (hx : l[i]? = some x) : posK l x.key = i := by
  have hi : i < l.length := (List.getElem?_eq_some_iff.1 hx).1
  have hp : ∀ (m n : Nat) (y z : Cho), m < n → l[m]? = some y → l[n]? = some z → ltK y.key z.key := fun m n y z hmn hy hz => by
    obtain ⟨h1, rfl⟩ := List.getElem?_eq_some_iff.1 hy
    obtain ⟨h2, rfl⟩ := List.getElem?_eq_some_iff.1 hz
    exact List.pairwise_iff_getElem.1 ho m n h1 h2 hmn
  refine posK_eq l x.key i (by omega) (fun m y hm hy => hp m i y x hm hy hx) (fun m y hm hy hlt => ?_)
  by_cases e : m = i
  · subst e
    rw [hx] at hy
    cases hy
    exact ltK_irrefl _ hlt
  · exact ltK_irrefl _ (ltK_trans hlt (hp i m x y (by omega) hx hy))
theorem posK_has {l : List Cho} {k : Key} (ho : Ord l) (h : hasK l k = true) : ∃ x, l[posK l k]? = some x ∧ x.key = k := by
  obtain ⟨x, hx, he⟩ := List.any_eq_true.1 h
  have he' := (eqB_iff _ _).1 he
  obtain ⟨i, hi⟩ := List.mem_iff_getElem?.1 hx
  refine ⟨x, ?_, he'⟩
  rw [← he', posK_at ho hi]
  exact hi
end ChoP
namespace Go.Proofs.YtolfbnjmkgikdaaDoor
open Go.RowKit Go.Sort
/-- what Get returns: the choice with that key, or an empty one -/
def GetPost (l : List ChoP.Cho) (k : ChoP.Key) (w : World) (e : Ending) (w' : World) : Prop :=
  ∃ (r : Row) (x : ChoP.Cho), e = .returned (.tuple #[choV r, .bool (ChoP.hasK l k)]) ∧ RowIs w' w'.heap.size r x ∧ (ChoP.hasK l k = true → l[ChoP.posK l k]? = some x) ∧ RowKit.Below w.heap.size w w'
set_option maxRecDepth 100000 in
set_option maxHeartbeats 2000000 in
theorem get_any (A : Option Addr) (ps : List Pair) (c : Nat) (k : ChoP.Key) (w : World) (h : Chos w w.heap.size A ps) (ho : ChoP.Ord (cho ps)) (hn : ps.length ≤ 96) (hok : ∀ p ∈ ps, ChoP.okC p.2 = true) :
    Calls Tryd.prog 14 #[.agg #[.slice A ps.length c], keyV k] w (GetPost (cho ps) k w) := by
  have k2 : keyV k = .agg #[.int .u8 k.kind, .int .i64 k.a, .int .i64 k.b, .int .i64 k.n] := rfl
  have hf := fun (o1 o2 o3 : Obj) => find_any A ps c k (((w.alloc o1).alloc o2).alloc o3) (by simp only [World.size_alloc]; exact h.below ((((RowKit.Below.refl _ _).alloc (Nat.le_refl _) _).alloc (by simp) _).alloc (by simp; omega) _) (by omega)) ho (by omega)
  rw [k2] at hf
  rw [k2]
  have HF := Lib.hid hf
  have H := Lib.hid h
  clear hf k2 h
  go_enter Tryd.func14, Tryd.ntmps14
  go_wp2_with fail
  refine (HF.out _ _ _).mono ?_
  rintro e w1 ⟨rfl, hb⟩
  simp only [World.size_alloc] at hb
  have hblk : w1.heap[w.heap.size + 1 + 1]? = some (.cells #[.int .u8 0, .int .i64 0, .int .i64 0, .int .i64 0, .int .i64 0, .int .i64 0, .slice none 0 0] 42 (0, 0)) := by
    refine (hb.block _ (by omega)).trans ?_
    have h3 := heap_alloc_new ((w.alloc (.cells #[.slice A ps.length c] 29)).alloc (.cells #[.int .u8 k.kind, .int .i64 k.a, .int .i64 k.b, .int .i64 k.n] 25)) (.cells #[.int .u8 0, .int .i64 0, .int .i64 0, .int .i64 0, .int .i64 0, .int .i64 0, .slice none 0 0] 42)
    simp only [World.size_alloc] at h3
    exact h3
  obtain ⟨⟨a0, a1, a2, a3, a4, a5, a6⟩, ⟨f0, f1, f2, f3, f4, f5, f6⟩⟩ := blk7 hblk
  have hbw : RowKit.Below w.heap.size w w1 := ((((RowKit.Below.refl w.heap.size w).alloc (Nat.le_refl _) _).alloc (by simp) _).alloc (by simp; omega) _).trans (hb.mono (by omega))
  have r0 : w1.cell? ⟨w.heap.size, 0, none⟩ = some (.slice A ps.length c) := by
    refine (hb.cell (p := ⟨w.heap.size, 0, none⟩) (by simp; omega)).trans ?_
    refine (World.cell?_alloc_lt _ _ _ (by simp; omega)).trans ((World.cell?_alloc_lt _ _ _ (by simp)).trans ?_)
    exact cell_at (heap_alloc_new w _) 0 _ rfl
  cases hk : ChoP.hasK (cho ps) k
  · go_wp2_with fail
    refine bodyPost_ret (v := .tuple #[choV ⟨⟨0, 0, 0, 0⟩, 0, 0, none, 0, 0⟩, .bool false]) (by simp [results, Tryd.results14, go_sem, a0, a1, a2, a3, a4, a5, a6, choV]) rfl ⟨⟨⟨0, 0, 0, 0⟩, 0, 0, none, 0, 0⟩, ⟨⟨0, 0, 0, 0⟩, 0, 0, []⟩, by rw [hk], ⟨rfl, rfl, rfl, rfl, Nat.le_refl _, by simp, Lie.nil _ _ _⟩, fun h => (by rw [hk] at h; cases h), ?_⟩
    exact (((((((hbw.setCell (by simp; omega) _).setCell (by simp; omega) _).setCell (by simp; omega) _).setCell (by simp; omega) _).setCell (by simp; omega) _).setCell (by simp; omega) _).setCell (by simp; omega) _)
  · obtain ⟨x, hx, _⟩ := ChoP.posK_has ho hk
    have hx' : (cho ps)[ChoP.posK (cho ps) k]? = some x := hx
    generalize hpos : ChoP.posK (cho ps) k = pos at *
    have HPOS := Lib.hid hpos
    have HX := Lib.hid hx
    clear hpos hx
    obtain ⟨p, hp, rfl⟩ : ∃ p, ps[pos]? = some p ∧ p.2 = x := by
      simp only [cho, List.getElem?_map, Option.map_eq_some_iff] at hx'
      exact hx'
    have hlt : pos < ps.length := (List.getElem?_eq_some_iff.1 hp).1
    have hrow := H.out.row p (List.mem_of_getElem? hp)
    have hargs := okC_args (hok p (List.mem_of_getElem? hp))
    obtain ⟨b, o, rfl, hb0, hcl⟩ := H.out.at_ pos p hp
    have hcell : ∀ j u, p.1.vs[j]? = some u → w1.cell? ⟨b, o + pos * 7 + j, none⟩ = some u := fun j u hu => (hbw.cell (p := ⟨b, o + pos * 7 + j, none⟩) hb0).trans (hcl j u hu)
    have c0 : w1.cell? ⟨b, o + pos * 7, none⟩ = some (.int .u8 p.1.key.kind) := hcell 0 _ rfl
    have c1 := hcell 1 _ rfl
    have c2 := hcell 2 _ rfl
    have c3 := hcell 3 _ rfl
    have c4 := hcell 4 _ rfl
    have c5 := hcell 5 _ rfl
    have c6 := hcell 6 _ rfl
    go_wp2_with fail
    refine (clone_any p.1 p.2 w1 (hrow.below hbw hbw.size) (by omega)).mono ?_
    rintro e w2 ⟨r, rfl, hr, hge, hb2⟩
    have e2 : choV r = .agg #[.int .u8 r.key.kind, .int .i64 r.key.a, .int .i64 r.key.b, .int .i64 r.key.n, .int .i64 r.t, .int .i64 r.d, .slice r.p r.n r.c] := rfl
    rw [e2]
    have hz1' : w.heap.size + 1 + 1 < w1.heap.size := by have := hb.size; simp at this; omega
    obtain ⟨⟨b0', b1, b2, b3, b4, b5, b6⟩, ⟨g0, g1, g2, g3, g4, g5, g6⟩⟩ := blk7 ((hb2.block (w.heap.size + 1 + 1) hz1').trans hblk)
    have hb3 : RowKit.Below w.heap.size w w2 := hbw.trans (hb2.mono hbw.size)
    have HR := Lib.hid hr
    clear hr e2 c0 c1 c2 c3 c4 c5 c6 a0 a1 a2 a3 a4 a5 a6 f0 f1 f2 f3 f4 f5 f6 hcell hcl hblk
    go_wp2_with fail
    refine bodyPost_ret (v := .tuple #[choV r, .bool true]) (by simp [results, Tryd.results14, go_sem, b0', b1, b2, b3, b4, b5, b6, choV]) rfl ⟨r, p.2, by rw [hk], ?_, fun _ => by rw [HPOS.out]; exact HX.out, ?_⟩
    · refine ⟨HR.out.key, HR.out.t, HR.out.d, HR.out.n, HR.out.c, HR.out.m, ?_⟩
      simp only [World.size_setCell]
      have hne : ∀ b o, r.p = some ⟨b, o, none⟩ → b ≠ w.heap.size + 1 + 1 := fun b o e => by have := hge b o e; omega
      exact ((((((HR.out.lie.set _ _ hne).set _ _ hne).set _ _ hne).set _ _ hne).set _ _ hne).set _ _ hne).set _ _ hne
    · exact (((((((hb3.setCell (by simp; omega) _).setCell (by simp; omega) _).setCell (by simp; omega) _).setCell (by simp; omega) _).setCell (by simp; omega) _).setCell (by simp; omega) _).setCell (by simp; omega) _)
end Go.Proofs.YtolfbnjmkgikdaaDoor
