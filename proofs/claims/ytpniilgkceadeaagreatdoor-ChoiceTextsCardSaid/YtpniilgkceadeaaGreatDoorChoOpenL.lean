/- The laws' arguments: slices of choices that can be read, as the walks want them. -/
import Derived.Test.YtpniilgkceadeaaGreatDoorChoOpen
import Derived.Test.YtpniilgkceadeaaGreatDoorChoNew
import Derived.Deep.Slices
namespace Go.Proofs.YtpniilgkceadeaaGreatDoor
open Go.ChangeShapes Go.WideShapes Go.ChangeAt Go.RowKit
section
variable {H : Type} {enc : TypeId × Value → H} {W : World} {base : Nat} {sp : Nat → Bool} {held : Bool}
structure ChoIn (y : ChoP.Cho) : Prop where
  r : ChoP.InR y
  key : KeyIn y.key
  t : IntIn y.t
  d : IntIn y.d
theorem open_chos_cells {fuel : Nat} {cs : List Value} {x : DataW H × List MemPlace} (h : DataW.trod enc Tryz.prog W base sp held fuel 22 cs = some x) :
    ∃ (A : Option Addr) (ps : List Pair) (c : Nat), cs = [.slice A ps.length c] ∧ Chos W W.heap.size A ps ∧ ps.length ≤ c ∧ c ≤ 9223372036854775807 ∧ ∀ p ∈ ps, ChoIn p.2 := by
  rcases Go.Deep.open_slice Tryz.underlying22 h with ⟨rfl, _⟩ | ⟨a, len, cap, m, n, D, Pl, rfl, hb, hl, hm, hmm, _, hx⟩
  · exact ⟨none, [], 0, rfl, chos_nil _ _ _, Nat.le_refl _, by omega, by simp⟩
  · have hml : len ≤ m := by rw [hmm]; split <;> omega
    rw [cellsCho] at hx
    obtain ⟨F, hF⟩ := Go.Deep.choose_lt (α := Pair) (n := len) (p := fun i p => W.cells? base (a.add (i * 7)) 7 = some p.1.vs ∧ RowIs W W.heap.size p.1 p.2 ∧ ChoIn p.2) (fun i hi => by
      obtain ⟨cs', h1, h2⟩ := hx i (by omega)
      obtain ⟨r, y, rfl, h3, h4, h5, h6, h7⟩ := open_cho_cells h2
      exact ⟨(r, y), h1, h3, h4, h5, h6, h7⟩)
    have hlen : ((List.range len).map F).length = len := by simp
    refine ⟨some a, (List.range len).map F, cap, by rw [hlen], ⟨fun hne => ?_, fun p hp => ?_⟩, by rw [hlen]; exact hl, by unfold maxLen at hm; omega, fun p hp => ?_⟩
    · have hp : 0 < len := by
        rcases Nat.eq_zero_or_pos len with e | e
        · subst e; simp [cellsP] at hne
        · exact e
      have hc : ∀ i, i < len → ∀ j u, (F i).1.vs[j]? = some u → W.cell? ((a.add (i * 7)).add j) = some u := fun i hi j u hu => by
        obtain ⟨_, hl7, h2⟩ := World.cells?_some (hF i hi).1
        have hj : j < 7 := by have := (List.getElem?_eq_some_iff.1 hu).1; omega
        rw [h2 j hj]
        exact hu
      have h0 := hc 0 hp 0 _ rfl
      obtain ⟨b, off, spot⟩ := a
      have hspot : spot = none := by simpa [Addr.add] using World.cell?_spot h0
      subst hspot
      rw [addr_add, addr_add] at h0
      refine ⟨b, off, rfl, block_lt_of_cell h0, fun q u hu => ?_⟩
      have hq : q < len * 7 := by
        have h1 := (List.getElem?_eq_some_iff.1 hu).1
        rw [cellsP_len, hlen] at h1
        exact h1
      have hk : q / 7 < len := by omega
      have h1 := cellsP_at ((List.range len).map F) (q / 7) (q % 7) (F (q / 7)) (by simp [hk]) (Nat.mod_lt _ (by decide))
      rw [show q / 7 * 7 + q % 7 = q by omega, hu] at h1
      have h2 := hc (q / 7) hk (q % 7) u h1.symm
      rw [addr_add, addr_add, show off + q / 7 * 7 + q % 7 = off + q by omega] at h2
      exact h2
    · obtain ⟨i, hi, rfl⟩ := List.mem_map.1 hp
      exact (hF i (List.mem_range.1 hi)).2.1
    · obtain ⟨i, hi, rfl⟩ := List.mem_map.1 hp
      exact (hF i (List.mem_range.1 hi)).2.2
set_option maxRecDepth 100000 in
theorem open_chos {r : Reach} {b0 : Nat} {v : Value} {d : DataW H} {p : List MemPlace} (hv : Value.okWide Tryz.prog W r b0 22 v) (h : DataW.Trod enc Tryz.prog W base sp held 22 v d p) :
    ∃ (A : Option Addr) (ps : List Pair) (c : Nat), v = .slice A ps.length c ∧ Chos W W.heap.size A ps ∧ ps.length ≤ c ∧ c ≤ 9223372036854775807 ∧ ∀ p ∈ ps, ChoIn p.2 := by
  obtain ⟨a, l, c, rfl⟩ := okWide_slice Tryz.underlying22 hv
  obtain ⟨fuel, hf⟩ := h
  obtain ⟨A, ps, c', e, hk⟩ := open_chos_cells hf
  refine ⟨A, ps, c', ?_, hk⟩
  have e2 : [Value.slice a l c] = [Value.slice A ps.length c'] := e
  injection e2
end
end Go.Proofs.YtpniilgkceadeaaGreatDoor
