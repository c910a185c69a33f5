/- (choice.Set).Keys: the set's keys, in a new block. -/
import Derived.Test.YtpniilgkceadeaaGreatDoorChoAll
namespace Go.Proofs.YtpniilgkceadeaaGreatDoor
open Go.RowKit Go.Sort
def keyVs (k : ChoP.Key) : List Value := [.int .u8 k.kind, .int .i64 k.a, .int .i64 k.b, .int .i64 k.n]
def cellsK (l : List ChoP.Key) : List Value := l.flatMap keyVs
theorem cellsK_append (a b : List ChoP.Key) : cellsK (a ++ b) = cellsK a ++ cellsK b := by simp [cellsK]
theorem info_key : (Tryz.prog.info? 44).map (fun i => (i.zero, i.size, i.bytes)) = some (some (.agg #[.int .u8 0, .int .i64 0, .int .i64 0, .int .i64 0]), 4, 32) := by kernel_rfl
def keys (ps : List Pair) : List ChoP.Key := ps.map (·.2.key)
def KeysPost (l : List ChoP.Key) (w : World) (e : Ending) (w' : World) : Prop :=
  ∃ (A : Option Addr) (c : Nat), e = .returned (.slice A l.length c) ∧ Lie w' w'.heap.size A (cellsK l) ∧ l.length ≤ c ∧ c ≤ 9223372036854775807 ∧ (∀ b o, A = some ⟨b, o, none⟩ → w.heap.size ≤ b) ∧ RowKit.Below w.heap.size w w'
set_option maxRecDepth 100000 in
set_option maxHeartbeats 2000000 in
theorem keys_any (A : Option Addr) (ps : List Pair) (c : Nat) (w : World) (h : Chos w w.heap.size A ps) (hn : ps.length ≤ 96) : Calls Tryz.prog 23 #[.agg #[.slice A ps.length c]] w (KeysPost (keys ps) w) := by
  obtain ⟨i0, hi0, hz0, hz1, hz2⟩ := info_parts info_key
  have H := Lib.hid h
  clear h
  go_enter Tryz.func23, Tryz.ntmps23
  go_wp2_with (at_make; refine wpList_make_own _ rfl _ _ 54 rfl (w.heap.size + 1) 44 i0 _ 4 Tryz.underlying54 hi0 hz0 hz1 .i64 .i64 _ ps.length rfl rfl rfl (by rw [hz2]; omega) (by unfold maxLen; omega) (by simp) ?_; intro w0 hown0 hgrow0; have r0 : w0.cell? ⟨w.heap.size, 0, none⟩ = some (.slice A ps.length c) := cell_at ((hgrow0.block w.heap.size (by simp) (by simp)).trans (heap_alloc_new w _)) 0 _ rfl)
  have HB0 : Hid (RowKit.Below w.heap.size w w0) := Lib.hid (((RowKit.Below.refl w.heap.size w).alloc (Nat.le_refl _) _).grown hgrow0 (by simp) (fun k e => by cases e))
  rw [World.size_alloc] at hown0
  obtain ⟨G, hG⟩ : ∃ G, G = w.heap.size + 1 := ⟨_, rfl⟩
  rw [← hG] at hown0
  rw [← hG]
  have HO := Lib.hid hown0
  have hG1 : w.heap.size < G := by omega
  clear hown0 hgrow0 r0 hG
  go_loopw [3, 13] (fun v i wr => ∃ k : Nat, k ≤ ps.length ∧ i = .int .i64 k ∧ v = .slice (some ⟨G, 0, none⟩) k ps.length ∧ wr.ownsRow G 44 4 v k (cellsK (keys (ps.take k))) ∧ RowKit.Below w.heap.size w wr) (fun _ i _ => ps.length - (intOf i).toNat)
  case atStart => exact ⟨0, Nat.zero_le _, rfl, rfl, HO.out, HB0.out⟩
  case round =>
    clear HO HB0
    obtain ⟨k, hk, rfl, rfl, hown, hb⟩ := hrel
    have HO := Lib.hid hown
    have HB := Lib.hid hb
    have hwz := hb.size
    clear hown hb
    by_cases hlt : k < ps.length
    · obtain ⟨p, hpk⟩ : ∃ p, ps[k]? = some p := ⟨_, List.getElem?_eq_getElem hlt⟩
      have hrow := H.out.row p (List.mem_of_getElem? hpk)
      obtain ⟨b, o, rfl, hb0, hcl⟩ := H.out.at_ k p hpk
      have hcell : ∀ j u, p.1.vs[j]? = some u → wr.cell? ⟨b, o + k * 7 + j, none⟩ = some u := fun j u hu => (HB.out.cell (p := ⟨b, o + k * 7 + j, none⟩) hb0).trans (hcl j u hu)
      have c0 : wr.cell? ⟨b, o + k * 7, none⟩ = some (.int .u8 p.1.key.kind) := hcell 0 _ rfl
      have c1 := hcell 1 _ rfl
      have c2 := hcell 2 _ rfl
      have c3 := hcell 3 _ rfl
      have c4 := hcell 4 _ rfl
      have c5 := hcell 5 _ rfl
      have c6 := hcell 6 _ rfl
      have hst : cellsK (keys (ps.take (k + 1))) = cellsK (keys (ps.take k)) ++ keyVs p.1.key := by
        rw [List.take_add_one, hpk, keys, List.map_append, cellsK_append, ← keys, hrow.key]
        simp [cellsK]
      have HST := Lib.hid hst
      clear hst hrow hcell hcl hpk
      go_wp2_with (at_builtin; refine wpList_append_fits _ rfl _ _ 54 rfl G 44 i0 4 Tryz.underlying54 hi0 hz1 G k ps.length (cellsK (keys (ps.take k))) rfl ?c0 ⟨wr.heap.size + 1, 0, none⟩ 1 1 (keyVs p.1.key) rfl rfl ?c1 ?c2 ?c3 ?_)
      case c0 => exact (HO.out.alloc _).alloc _
      case c1 =>
        have := cells_new (wr.alloc (.cells #[.int .u8 p.1.key.kind, .int .i64 p.1.key.a, .int .i64 p.1.key.b, .int .i64 p.1.key.n, .int .i64 p.1.t, .int .i64 p.1.d, .slice p.1.p p.1.n p.1.c] 59)) (keyVs p.1.key) 44
        rw [World.size_alloc] at this
        exact this
      case c2 => simp [keyVs, Value.oneCell']
      case c3 => omega
      intro w2 hown2 hgrow2
      have HO2 : Hid (w2.ownsRow G 44 4 (.slice (some ⟨G, 0, none⟩) (k + 1) ps.length) (k + 1) (cellsK (keys (ps.take (k + 1))))) := Lib.hid (by rw [HST.out]; exact hown2)
      have HB2 : Hid (RowKit.Below w.heap.size w w2) := Lib.hid (((HB.out.alloc hwz _).alloc (by simp; omega) _).grown hgrow2 (by simp; omega) (fun k e => by cases e; omega))
      clear hown2 hgrow2 c0 c1 c2 c3 c4 c5 c6
      go_wp2_with fail
      go_roundw
      case rel => exact ⟨k + 1, by omega, by go_num, rfl, HO2.out, HB2.out⟩
      case measure => simp [intOf]; omega
    · obtain rfl : k = ps.length := by omega
      have hl : (keys ps).length = ps.length := by simp [keys]
      have ho := HO.out
      rw [List.take_of_length_le (Nat.le_refl _)] at ho
      have hf : KeysPost (keys ps) w (.returned (.slice (some ⟨G, 0, none⟩) ps.length ps.length)) wr :=
        ⟨_, ps.length, by rw [hl], Lie.of_own ho, by omega, by omega, fun b o e => by injection e with e; injection e with e1 _; omega, HB.out⟩
      have HF := Lib.hid hf
      clear hf ho hl
      go_wp2_with fail
      go_ret
      exact HF.out
theorem cellsK_len (l : List ChoP.Key) : (cellsK l).length = l.length * 4 := by
  induction l with
  | nil => rfl
  | cons p r ih => rw [cellsK, List.flatMap_cons, List.length_append, ← cellsK, ih, List.length_cons]; simp [keyVs]; omega
theorem cellsK_at (l : List ChoP.Key) (k j : Nat) (p : ChoP.Key) (hk : l[k]? = some p) (hj : j < 4) : (cellsK l)[k * 4 + j]? = (keyVs p)[j]? := by
  induction l generalizing k with
  | nil => simp at hk
  | cons q r ih =>
    rw [cellsK, List.flatMap_cons, ← cellsK]
    have hq : (keyVs q).length = 4 := rfl
    cases k with
    | zero =>
      simp at hk
      subst hk
      rw [List.getElem?_append_left (by omega)]
      simp
    | succ k =>
      rw [List.getElem?_append_right (by omega), hq, show (k + 1) * 4 + j - 4 = k * 4 + j by omega]
      exact ih k (by simpa using hk)
theorem keys_at {w : World} {B : Nat} {A : Option Addr} {l : List ChoP.Key} (h : Lie w B A (cellsK l)) (k : Nat) (p : ChoP.Key) (hk : l[k]? = some p) :
    ∃ b o, A = some ⟨b, o, none⟩ ∧ b < B ∧ ∀ (j : Nat) (u : Value), (keyVs p)[j]? = some u → w.cell? ⟨b, o + k * 4 + j, none⟩ = some u := by
  have hne : cellsK l ≠ [] := by
    intro e
    have := cellsK_len l
    rw [e] at this
    have : k < l.length := (List.getElem?_eq_some_iff.1 hk).1
    simp at *
    omega
  obtain ⟨b, o, e, hb, hc⟩ := h hne
  refine ⟨b, o, e, hb, fun j u hu => ?_⟩
  rw [Nat.add_assoc]
  refine hc _ u ?_
  have hj : j < 4 := by have := (List.getElem?_eq_some_iff.1 hu).1; simpa [keyVs] using this
  rw [cellsK_at l k j p hk hj]
  exact hu
end Go.Proofs.YtpniilgkceadeaaGreatDoor
