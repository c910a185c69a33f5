/- (choice.Set).Get. -/
import Derived.Test.YtolfbnjmkgikdaaDoorChoKeys
import Derived.Test.YtolfbnjmkgikdaaDoorChoFind
namespace ChoP
theorem posK_at {l : List Cho} {i : Nat} {x : Cho} (ho : Ord l) (hx : l[i]? = some x) : posK l x.key = i := by
  have hi : i < l.length := (List.getElem?_eq_some_iff.1 hx).1
  have hp : ∀ (m n : Nat) (y z : Cho), m < n → l[m]? = some y → l[n]? = some z → ltK y.key z.key := fun m n y z hmn hy hz => by
    obtain ⟨h1, rfl⟩ := List.getElem?_eq_some_iff.1 hy
    obtain ⟨h2, rfl⟩ := List.getElem?_eq_some_iff.1 hz
    exact List.pairwise_iff_getElem.1 ho m n h1 h2 hmn
  refine posK_eq l x.key i (by omega) (fun m y hm hy => hp m i y x hm hy hx) (fun m y hm hy hlt => ?_)
  by_cases e : m = i
  · subst e
    rw [hx] at hy
    cases hy
    exact ltK_irrefl _ hlt
  · exact ltK_irrefl _ (ltK_trans hlt (hp i m x y (by omega) hx hy))
theorem posK_has {l : List Cho} {k : Key} (ho : Ord l) (h : hasK l k = true) : ∃ x, l[posK l k]? = some x ∧ x.key = k := by
  obtain ⟨x, hx, he⟩ := List.any_eq_true.1 h
  have he' := (eqB_iff _ _).1 he
  obtain ⟨i, hi⟩ := List.mem_iff_getElem?.1 hx
  refine ⟨x, ?_, he'⟩
  rw [← he', posK_at ho hi]
  exact hi
end ChoP
namespace Go.Proofs.YtolfbnjmkgikdaaDoor
open Go.RowKit Go.Sort
/-- what Get returns: the choice with that key, or an empty one -/
def GetPost (l : List ChoP.Cho) (k : ChoP.Key) (w : World) (e : Ending) (w' : World) : Prop :=
  ∃ (r : Row) (x : ChoP.Cho), e = .returned (.tuple #[choV r, .bool (ChoP.hasK l k)]) ∧ RowIs w' w'.heap.size r x ∧ (ChoP.hasK l k = true → l[ChoP.posK l k]? = some x) ∧ RowKit.Below w.heap.size w w'
set_option maxRecDepth 100000 in
set_option maxHeartbeats 2000000 in
theorem get_any (A : Option Addr) (ps : List Pair) (c : Nat) (k : ChoP.Key) (w : World) (h : Chos w w.heap.size A ps) (ho : ChoP.Ord (cho ps)) (hn : ps.length ≤ 96) (hok : ∀ p ∈ ps, ChoP.okC p.2 = true) :
    Calls Tryd.prog 14 #[.agg #[.slice A ps.length c], keyV k] w (GetPost (cho ps) k w) := by
  have k2 : keyV k = .agg #[.int .u8 k.kind, .int .i64 k.a, .int .i64 k.b, .int .i64 k.n] := rfl
  have hf := fun (o1 o2 o3 : Obj) => find_any A ps c k (((w.alloc o1).alloc o2).alloc o3) (by simp only [World.size_alloc]; exact h.below ((((RowKit.Below.refl _ _).alloc (Nat.le_refl _) _).alloc (by simp) _).alloc (by simp; omega) _) (by omega)) ho (by omega)
  rw [k2] at hf
  rw [k2]
  have HF := Lib.hid hf
  have H := Lib.hid h
  clear hf k2 h
  go_enter Tryd.func14, Tryd.ntmps14
  go_wp2_with fail
  refine (HF.out _ _ _).mono ?_
  rintro e w1 ⟨rfl, hb⟩
  simp only [World.size_alloc] at hb
  have hblk : w1.heap[w.heap.size + 1 + 1]? = some (.cells #[.int .u8 0, .int .i64 0, .int .i64 0, .int .i64 0, .int .i64 0, .int .i64 0, .slice none 0 0] 42 (0, 0)) := by
    refine (hb.block _ (by omega)).trans ?_
    have h3 := heap_alloc_new ((w.alloc (.cells #[.slice A ps.length c] 29)).alloc (.cells #[.int .u8 k.kind, .int .i64 k.a, .int .i64 k.b, .int .i64 k.n] 25)) (.cells #[.int .u8 0, .int .i64 0, .int .i64 0, .int .i64 0, .int .i64 0, .int .i64 0, .slice none 0 0] 42)
    simp only [World.size_alloc] at h3
    exact h3
  obtain ⟨⟨a0, a1, a2, a3, a4, a5, a6⟩, ⟨f0, f1, f2, f3, f4, f5, f6⟩⟩ := blk7 hblk
  have hbw : RowKit.Below w.heap.size w w1 := ((((RowKit.Below.refl w.heap.size w).alloc (Nat.le_refl _) _).alloc (by simp) _).alloc (by simp; omega) _).trans (hb.mono (by omega))
  have r0 : w1.cell? ⟨w.heap.size, 0, none⟩ = some (.slice A ps.length c) := by
    refine (hb.cell (p := ⟨w.heap.size, 0, none⟩) (by simp; omega)).trans ?_
    refine (World.cell?_alloc_lt _ _ _ (by simp; omega)).trans ((World.cell?_alloc_lt _ _ _ (by simp)).trans ?_)
    exact cell_at (heap_alloc_new w _) 0 _ rfl
  cases hk : ChoP.hasK (cho ps) k
  · go_wp2_with fail
    refine bodyPost_ret (v := .tuple #[choV ⟨⟨0, 0, 0, 0⟩, 0, 0, none, 0, 0⟩, .bool false]) (by simp [results, Tryd.results14, go_sem, a0, a1, a2, a3, a4, a5, a6, choV]) rfl ⟨⟨⟨0, 0, 0, 0⟩, 0, 0, none, 0, 0⟩, ⟨⟨0, 0, 0, 0⟩, 0, 0, []⟩, by rw [hk], ⟨rfl, rfl, rfl, rfl, Nat.le_refl _, by simp, Lie.nil _ _ _⟩, fun h => (by rw [hk] at h; cases h), ?_⟩
    exact (((((((hbw.setCell (by simp; omega) _).setCell (by simp; omega) _).setCell (by simp; omega) _).setCell (by simp; omega) _).setCell (by simp; omega) _).setCell (by simp; omega) _).setCell (by simp; omega) _)
  · obtain ⟨x, hx, _⟩ := ChoP.posK_has ho hk
    have hx' : (cho ps)[ChoP.posK (cho ps) k]? = some x := hx
    generalize hpos : ChoP.posK (cho ps) k = pos at *
    have HPOS := Lib.hid hpos
    have HX := Lib.hid hx
    clear hpos hx
    obtain ⟨p, hp, rfl⟩ : ∃ p, ps[pos]? = some p ∧ p.2 = x := by
      simp only [cho, List.getElem?_map, Option.map_eq_some_iff] at hx'
      exact hx'
    have hlt : pos < ps.length := (List.getElem?_eq_some_iff.1 hp).1
    have hrow := H.out.row p (List.mem_of_getElem? hp)
    have hargs := okC_args (hok p (List.mem_of_getElem? hp))
    obtain ⟨b, o, rfl, hb0, hcl⟩ := H.out.at_ pos p hp
    have hcell : ∀ j u, p.1.vs[j]? = some u → w1.cell? ⟨b, o + pos * 7 + j, none⟩ = some u := fun j u hu => (hbw.cell (p := ⟨b, o + pos * 7 + j, none⟩) hb0).trans (hcl j u hu)
    have c0 : w1.cell? ⟨b, o + pos * 7, none⟩ = some (.int .u8 p.1.key.kind) := hcell 0 _ rfl
    have c1 := hcell 1 _ rfl
    have c2 := hcell 2 _ rfl
    have c3 := hcell 3 _ rfl
    have c4 := hcell 4 _ rfl
    have c5 := hcell 5 _ rfl
    have c6 := hcell 6 _ rfl
    go_wp2_with fail
    refine (clone_any p.1 p.2 w1 (hrow.below hbw hbw.size) (by omega)).mono ?_
    rintro e w2 ⟨r, rfl, hr, hge, hb2⟩
    have e2 : choV r = .agg #[.int .u8 r.key.kind, .int .i64 r.key.a, .int .i64 r.key.b, .int .i64 r.key.n, .int .i64 r.t, .int .i64 r.d, .slice r.p r.n r.c] := rfl
    rw [e2]
    have hz1' : w.heap.size + 1 + 1 < w1.heap.size := by have := hb.size; simp at this; omega
    obtain ⟨⟨b0', b1, b2, b3, b4, b5, b6⟩, ⟨g0, g1, g2, g3, g4, g5, g6⟩⟩ := blk7 ((hb2.block (w.heap.size + 1 + 1) hz1').trans hblk)
    have hb3 : RowKit.Below w.heap.size w w2 := hbw.trans (hb2.mono hbw.size)
    have HR := Lib.hid hr
    clear hr e2 c0 c1 c2 c3 c4 c5 c6 a0 a1 a2 a3 a4 a5 a6 f0 f1 f2 f3 f4 f5 f6 hcell hcl hblk
    go_wp2_with fail
    refine bodyPost_ret (v := .tuple #[choV r, .bool true]) (by simp [results, Tryd.results14, go_sem, b0', b1, b2, b3, b4, b5, b6, choV]) rfl ⟨r, p.2, by rw [hk], ?_, fun _ => by rw [HPOS.out]; exact HX.out, ?_⟩
    · refine ⟨HR.out.key, HR.out.t, HR.out.d, HR.out.n, HR.out.c, HR.out.m, ?_⟩
      simp only [World.size_setCell]
      have hne : ∀ b o, r.p = some ⟨b, o, none⟩ → b ≠ w.heap.size + 1 + 1 := fun b o e => by have := hge b o e; omega
      exact ((((((HR.out.lie.set _ _ hne).set _ _ hne).set _ _ hne).set _ _ hne).set _ _ hne).set _ _ hne).set _ _ hne
    · exact (((((((hb3.setCell (by simp; omega) _).setCell (by simp; omega) _).setCell (by simp; omega) _).setCell (by simp; omega) _).setCell (by simp; omega) _).setCell (by simp; omega) _).setCell (by simp; omega) _)
end Go.Proofs.YtolfbnjmkgikdaaDoor
