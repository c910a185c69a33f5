/- The laws' arguments: keys and choices that can be read, as the walks want them. -/
import Derived.Test.YtpniilgkceadeaaGreatDoorChoFrame
namespace Go.Proofs.YtpniilgkceadeaaGreatDoor
open Go.ChangeShapes Go.WideShapes Go.ChangeAt Go.RowKit
section
variable {H : Type} {enc : TypeId × Value → H} {W : World} {base : Nat} {sp : Nat → Bool} {held : Bool}
def IntIn (n : Int) : Prop := -9223372036854775808 ≤ n ∧ n ≤ 9223372036854775807
structure KeyIn (k : ChoP.Key) : Prop where
  kind : 0 ≤ k.kind ∧ k.kind ≤ 255
  a : IntIn k.a
  b : IntIn k.b
  n : IntIn k.n
theorem list4 {cs : List Value} (h : cs.length = 4) : ∃ c0 c1 c2 c3, cs = [c0, c1, c2, c3] := by
  match cs, h with
  | [c0, c1, c2, c3], _ => exact ⟨c0, c1, c2, c3, rfl⟩
theorem list7 {cs : List Value} (h : cs.length = 7) : ∃ c0 c1 c2 c3 c4 c5 c6, cs = [c0, c1, c2, c3, c4, c5, c6] := by
  match cs, h with
  | [c0, c1, c2, c3, c4, c5, c6], _ => exact ⟨c0, c1, c2, c3, c4, c5, c6, rfl⟩
theorem cellsI : Tryz.prog.cellsOf 3 = 1 := by kernel_rfl
theorem cellsI64 : Tryz.prog.cellsOf 2 = 1 := by kernel_rfl
theorem cellsKind : Tryz.prog.cellsOf 42 = 1 := by kernel_rfl
theorem cellsKey : Tryz.prog.cellsOf 44 = 4 := by kernel_rfl
theorem cellsCho : Tryz.prog.cellsOf 59 = 7 := by kernel_rfl
theorem cellsArgs : Tryz.prog.cellsOf 57 = 1 := by kernel_rfl
theorem open_key_cells {fuel : Nat} {cs : List Value} {x : DataW H × List MemPlace} (h : DataW.trod enc Tryz.prog W base sp held fuel 44 cs = some x) :
    ∃ k : ChoP.Key, cs = [.int .u8 k.kind, .int .i64 k.a, .int .i64 k.b, .int .i64 k.n] ∧ KeyIn k := by
  obtain ⟨xs, n, _, _, hl, hx, hf⟩ := DataW.trod_struct Tryz.underlying44 h
  obtain ⟨c0, c1, c2, c3, rfl⟩ := list4 (hl.trans cellsKey)
  have hx4 : xs.length = 4 := hx
  have g0 : DataW.trod enc Tryz.prog W base sp held n 42 (([c0, c1, c2, c3].drop 0).take (Tryz.prog.cellsOf 42)) = xs[0]? := hf 0 _ rfl
  rw [cellsKind, List.getElem?_eq_getElem (by omega)] at g0
  have g1 : DataW.trod enc Tryz.prog W base sp held n 3 (([c0, c1, c2, c3].drop 1).take (Tryz.prog.cellsOf 3)) = xs[1]? := hf 1 _ rfl
  rw [cellsI, List.getElem?_eq_getElem (by omega)] at g1
  have g2 : DataW.trod enc Tryz.prog W base sp held n 3 (([c0, c1, c2, c3].drop 2).take (Tryz.prog.cellsOf 3)) = xs[2]? := hf 2 _ rfl
  rw [cellsI, List.getElem?_eq_getElem (by omega)] at g2
  have g3 : DataW.trod enc Tryz.prog W base sp held n 3 (([c0, c1, c2, c3].drop 3).take (Tryz.prog.cellsOf 3)) = xs[3]? := hf 3 _ rfl
  rw [cellsI, List.getElem?_eq_getElem (by omega)] at g3
  simp only [List.drop_zero, List.drop_succ_cons, List.take_succ_cons, List.take_zero] at g0 g1 g2 g3
  obtain ⟨k, e0, _, w0⟩ := DataW.trod_int Tryz.underlying42 g0
  obtain ⟨a, e1, _, w1⟩ := DataW.trod_int Tryz.underlying3 g1
  obtain ⟨b, e2, _, w2⟩ := DataW.trod_int Tryz.underlying3 g2
  obtain ⟨m, e3, _, w3⟩ := DataW.trod_int Tryz.underlying3 g3
  simp only [List.cons.injEq, and_true] at e0 e1 e2 e3
  subst e0 e1 e2 e3
  exact ⟨⟨k, a, b, m⟩, rfl, bounds_u8 w0, bounds_i64 w1, bounds_i64 w2, bounds_i64 w3⟩
theorem open_args_cells {fuel : Nat} {cs : List Value} {x : DataW H × List MemPlace} (h : DataW.trod enc Tryz.prog W base sp held fuel 57 cs = some x) :
    ∃ (p : Option Addr) (c : Nat) (ar : List Int), cs = [.slice p ar.length c] ∧ ar.length ≤ c ∧ c ≤ 9223372036854775807 ∧ Lie W W.heap.size p (intV ar) ∧ ∀ v ∈ ar, IntIn v := by
  rcases open_ints Tryz.underlying57 Tryz.underlying2 cellsI64 h with ⟨rfl, _⟩ | ⟨a, len, cap, zs, rfl, _, hl, hm, hz, _, hc, hw⟩
  · exact ⟨none, 0, [], rfl, Nat.le_refl _, by omega, Lie.nil _ _ _, by simp⟩
  · have hlz : len ≤ zs.length := by rw [hz]; split <;> omega
    have hlen : (zs.take len).length = len := by rw [List.length_take]; omega
    refine ⟨some a, cap, zs.take len, by rw [hlen], by omega, by unfold maxLen at hm; omega, fun hne => ?_, fun v hv => bounds_i64 (hw v (List.mem_of_mem_take hv))⟩
    have hp : 0 < len := by
      rcases Nat.eq_zero_or_pos len with e | e
      · subst e; simp [intV] at hne
      · exact e
    obtain ⟨b, off, rfl, hcell⟩ := ints_at hc (by omega)
    have hcb : ∀ i, i < len → W.cell? ⟨b, off + i, none⟩ = some (.int .i64 (zs.getD i 0)) := fun i hi => hcell i (by omega)
    refine ⟨b, off, rfl, ?_, fun j u hu => ?_⟩
    · exact block_lt_of_cell (hcb 0 hp)
    · simp only [intV, List.getElem?_map, Option.map_eq_some_iff] at hu
      obtain ⟨z, hz', rfl⟩ := hu
      rw [List.getElem?_take] at hz'
      split at hz'
      · rename_i hj
        rw [hcb j hj]
        simp [List.getD, hz']
      · cases hz'
theorem open_cho_cells {fuel : Nat} {cs : List Value} {x : DataW H × List MemPlace} (h : DataW.trod enc Tryz.prog W base sp held fuel 59 cs = some x) :
    ∃ (r : Row) (y : ChoP.Cho), cs = r.vs ∧ RowIs W W.heap.size r y ∧ ChoP.InR y ∧ KeyIn y.key ∧ IntIn y.t ∧ IntIn y.d := by
  obtain ⟨xs, n, _, _, hl, hx, hf⟩ := DataW.trod_struct Tryz.underlying59 h
  obtain ⟨c0, c1, c2, c3, c4, c5, c6, rfl⟩ := list7 (hl.trans cellsCho)
  have hx4 : xs.length = 4 := hx
  have g0 : DataW.trod enc Tryz.prog W base sp held n 44 (([c0, c1, c2, c3, c4, c5, c6].drop 0).take (Tryz.prog.cellsOf 44)) = xs[0]? := hf 0 _ rfl
  rw [cellsKey, List.getElem?_eq_getElem (by omega)] at g0
  have g1 : DataW.trod enc Tryz.prog W base sp held n 3 (([c0, c1, c2, c3, c4, c5, c6].drop 4).take (Tryz.prog.cellsOf 3)) = xs[1]? := hf 1 _ rfl
  rw [cellsI, List.getElem?_eq_getElem (by omega)] at g1
  have g2 : DataW.trod enc Tryz.prog W base sp held n 3 (([c0, c1, c2, c3, c4, c5, c6].drop 5).take (Tryz.prog.cellsOf 3)) = xs[2]? := hf 2 _ rfl
  rw [cellsI, List.getElem?_eq_getElem (by omega)] at g2
  have g3 : DataW.trod enc Tryz.prog W base sp held n 57 (([c0, c1, c2, c3, c4, c5, c6].drop 6).take (Tryz.prog.cellsOf 57)) = xs[3]? := hf 3 _ rfl
  rw [cellsArgs, List.getElem?_eq_getElem (by omega)] at g3
  simp only [List.drop_zero, List.drop_succ_cons, List.take_succ_cons, List.take_zero] at g0 g1 g2 g3
  obtain ⟨k, e0, hk⟩ := open_key_cells g0
  obtain ⟨t, e1, _, w1⟩ := DataW.trod_int Tryz.underlying3 g1
  obtain ⟨d, e2, _, w2⟩ := DataW.trod_int Tryz.underlying3 g2
  obtain ⟨p, c, ar, e3, h1, h2, h3, h4⟩ := open_args_cells g3
  simp only [List.cons.injEq, and_true] at e0 e1 e2 e3
  obtain ⟨rfl, rfl, rfl, rfl⟩ := e0
  subst e1 e2 e3
  exact ⟨⟨k, t, d, p, ar.length, c⟩, ⟨k, t, d, ar⟩, rfl, ⟨rfl, rfl, rfl, rfl, h1, h2, h3⟩, h4, hk, bounds_i64 w1, bounds_i64 w2⟩
set_option maxRecDepth 100000 in
theorem open_key {r : Reach} {b0 : Nat} {v : Value} {d : DataW H} {p : List MemPlace} (hv : Value.okWide Tryz.prog W r b0 44 v) (h : DataW.Trod enc Tryz.prog W base sp held 44 v d p) : ∃ k : ChoP.Key, v = keyV k ∧ KeyIn k := by
  obtain ⟨cs, rfl, _⟩ := okWide_struct Tryz.underlying44 hv
  obtain ⟨fuel, hf⟩ := h
  obtain ⟨k, e, hk⟩ := open_key_cells hf
  refine ⟨k, ?_, hk⟩
  have e2 : cs.toList = [.int .u8 k.kind, .int .i64 k.a, .int .i64 k.b, .int .i64 k.n] := e
  rw [keyV, ← Array.toArray_toList (xs := cs), e2]
set_option maxRecDepth 100000 in
theorem open_cho {r : Reach} {b0 : Nat} {v : Value} {d : DataW H} {p : List MemPlace} (hv : Value.okWide Tryz.prog W r b0 59 v) (h : DataW.Trod enc Tryz.prog W base sp held 59 v d p) :
    ∃ (r : Row) (y : ChoP.Cho), v = choV r ∧ RowIs W W.heap.size r y ∧ ChoP.InR y ∧ KeyIn y.key ∧ IntIn y.t ∧ IntIn y.d := by
  obtain ⟨cs, rfl, _⟩ := okWide_struct Tryz.underlying59 hv
  obtain ⟨fuel, hf⟩ := h
  obtain ⟨r, y, e, hk⟩ := open_cho_cells hf
  refine ⟨r, y, ?_, hk⟩
  have e2 : cs.toList = r.vs := e
  rw [← Array.toArray_toList (xs := cs), e2]
  rfl
end
end Go.Proofs.YtpniilgkceadeaaGreatDoor
