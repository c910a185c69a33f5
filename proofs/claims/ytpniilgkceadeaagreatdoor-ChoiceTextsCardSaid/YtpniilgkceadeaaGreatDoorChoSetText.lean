/- Len and Text of a set. -/
import Derived.Test.YtpniilgkceadeaaGreatDoorChoLine
namespace Go.Proofs.YtpniilgkceadeaaGreatDoor
open Go.RowKit
def setV (A : Option Addr) (n c : Nat) : Value := .agg #[.slice A n c]
theorem len_any (A : Option Addr) (n c : Nat) (w : World) : Calls Tryz.prog 26 #[.agg #[.slice A n c]] w fun e w' => e = .returned (.int .i64 n) ∧ Below w.heap.size w w' := by
  go_enter Tryz.func26, Tryz.ntmps26
  go_wp2
  go_ret
  exact ⟨rfl, (Below.refl _ _).alloc (Nat.le_refl _) _⟩
theorem isB_below {T e : TypeId} {B b : Nat} {bs : List Value} {w w' : World} (h : Lib.IsBuilder T e B b bs w) (hb : Below w.heap.size w w') : Lib.IsBuilder T e B b bs w' := by
  rcases h with h | h
  · have hlt := h.lt
    obtain ⟨h1, v, h2, h3, h4⟩ := h
    exact .inl ⟨h1, v, (hb.block _ hlt).trans h2, own_below h3 hb, h4⟩
  · have hlt := h.lt
    obtain ⟨h1, v, h2, h3, h4⟩ := h
    exact .inr ⟨h1, v, (hb.block _ hlt).trans h2, own_below h3 hb, h4⟩
theorem setText_le (l : List ChoP.Cho) (h : ∀ x ∈ l, ChoP.okC x = true ∧ ChoP.InR x) : (ChoP.setText l).length ≤ l.length * 713 := by
  induction l with
  | nil => simp [ChoP.setText]
  | cons x r ih =>
    have h1 := lineText_le (h x (by simp)).1 (h x (by simp)).2
    have h2 := ih (fun y hy => h y (by simp [hy]))
    simp only [ChoP.setText, List.flatMap_cons, List.length_append, List.length_cons, List.length_nil] at *
    omega
theorem setText_snoc (l : List ChoP.Cho) (k : Nat) (x : ChoP.Cho) (h : l[k]? = some x) : ChoP.setText (l.take (k + 1)) = ChoP.setText (l.take k) ++ ChoP.lineText x ++ [10] := by
  rw [List.take_add_one, h]
  simp [ChoP.setText]
theorem byteCells_app (a b : List UInt8) : Lib.byteCells (a ++ b) = Lib.byteCells a ++ Lib.byteCells b := by simp [Lib.byteCells]
theorem str_size (T : List UInt8) : (⟨T.toArray⟩ : ByteArray).size = T.length := by simp [ByteArray.size]
set_option maxRecDepth 100000 in
set_option maxHeartbeats 2000000 in
theorem text_any (A : Option Addr) (ps : List Pair) (c : Nat) (w : World) (hL : Laid w) (h : Chos w w.heap.size A ps) (hok : ∀ p ∈ ps, ChoP.okC p.2 = true ∧ ChoP.InR p.2) (hn : ps.length ≤ 65536) : Calls Tryz.prog 21 #[.agg #[.slice A ps.length c]] w (StrPost (ChoP.setText (cho ps)) w) := by
  have H := Lib.hid h
  have HL := Lib.hid hL
  have HOK := Lib.hid hok
  clear h hL hok
  go_enter Tryz.func21, Tryz.ntmps21
  go_wp2_with fail
  go_loopw [9] (fun i wr => ∃ k : Nat, k ≤ ps.length ∧ i = .int .i64 k ∧ Lib.IsBuilder 99 5 (w.heap.size + 1) (w.heap.size + 1) (Lib.byteCells (ChoP.setText ((cho ps).take k))) wr ∧ Below w.heap.size w wr ∧ w.heap.size + 2 ≤ wr.heap.size) (fun i _ => ps.length - (intOf i).toNat)
  case atStart =>
    refine ⟨0, Nat.zero_le _, rfl, .inl ⟨Nat.le_refl _, .slice none 0 0, ?_, World.ownsRow_nil _ _ _ _, by simp [Value.ownBlock]⟩, ((Below.refl _ _).alloc (Nat.le_refl _) _).alloc (by simp) _, by simp⟩
    have h1 := heap_alloc_new (w.alloc (.cells #[.slice A ps.length c] 27)) (.cells #[.pointer none, .slice none 0 0] 99)
    rw [World.size_alloc] at h1
    exact h1
  case round =>
    obtain ⟨k, hk, rfl, hbl, hb, hsz⟩ := hrel
    have HBL := Lib.hid hbl
    have HB := Lib.hid hb
    clear hbl hb
    have htl : (ChoP.setText ((cho ps).take k)).length ≤ k * 713 := by
      have := setText_le ((cho ps).take k) (fun x hx => by
        obtain ⟨p, hp, rfl⟩ := List.mem_map.1 (List.mem_of_mem_take hx)
        exact HOK.out p hp)
      rw [List.length_take] at this
      have h2 : min k (cho ps).length ≤ k := Nat.min_le_left _ _
      exact Nat.le_trans this (Nat.mul_le_mul_right _ h2)
    by_cases hlt : k < ps.length
    · obtain ⟨p, hpk⟩ : ∃ p, ps[k]? = some p := ⟨_, List.getElem?_eq_getElem hlt⟩
      have hrow := H.out.row p (List.mem_of_getElem? hpk)
      have hokp := HOK.out p (List.mem_of_getElem? hpk)
      have hxk : (cho ps)[k]? = some p.2 := by simp [cho, hpk]
      have hsn := setText_snoc (cho ps) k p.2 hxk
      have hll := lineText_le hokp.1 hokp.2
      obtain ⟨b, o, rfl, hb0, hc⟩ := H.out.at_ k p hpk
      have hcell : ∀ j u, p.1.vs[j]? = some u → wr.cell? ⟨b, o + k * 7 + j, none⟩ = some u := fun j u hu => (HB.out.cell (p := ⟨b, o + k * 7 + j, none⟩) hb0).trans (hc j u hu)
      have c0 : wr.cell? ⟨b, o + k * 7, none⟩ = some (.int .u8 p.1.key.kind) := hcell 0 _ rfl
      have c1 := hcell 1 _ rfl
      have c2 := hcell 2 _ rfl
      have c3 := hcell 3 _ rfl
      have c4 := hcell 4 _ rfl
      have c5 := hcell 5 _ rfl
      have c6 := hcell 6 _ rfl
      have hbw := HB.out.size
      have hck := fun (o : Obj) => line_any p.1 p.2 (wr.alloc o) (HL.out.below (HB.out.alloc (by omega) _)) (by rw [World.size_alloc]; exact hrow.below (HB.out.alloc (by omega) _) (by omega)) hokp.1 hokp.2
      have e1 : choV p.1 = .agg #[.int .u8 p.1.key.kind, .int .i64 p.1.key.a, .int .i64 p.1.key.b, .int .i64 p.1.key.n, .int .i64 p.1.t, .int .i64 p.1.d, .slice p.1.p p.1.n p.1.c] := rfl
      rw [e1] at hck
      generalize ChoP.lineText p.2 = T at *
      generalize ChoP.setText ((cho ps).take k) = S0 at *
      have HSN := Lib.hid hsn
      have HCK := Lib.hid hck
      clear hck e1 hrow hcell hc hpk hokp hxk hsn
      go_wp2_with fail
      refine (HCK.out _).mono ?_
      rintro e w1 ⟨rfl, hb1⟩
      have hb2 : Below wr.heap.size wr w1 := by
        rw [World.size_alloc] at hb1
        exact ((Below.refl wr.heap.size wr).alloc (Nat.le_refl _) _).trans (hb1.mono (by omega))
      have HBL1 := Lib.hid (isB_below HBL.out hb2)
      have HB1 := Lib.hid (HB.out.trans (hb2.mono hbw))
      have hs1 := hb2.size
      clear hb1 hb2 c0 c1 c2 c3 c4 c5 c6 HCK
      go_wp2_with fail
      refine (bWriteString (w.heap.size + 1) (w.heap.size + 1) (Lib.byteCells S0) ⟨T.toArray⟩ _ HBL1.out (by rw [Lib.byteCells_length, str_size]; omega) (by omega)).mono ?_
      rintro e w2 ⟨rfl, hbl2, hb2⟩
      have HBL2 := Lib.hid hbl2
      have HB2 := Lib.hid (HB1.out.trans (hb2.mono (by omega)))
      have hs2 := hb2.size
      clear hbl2 hb2
      go_wp2_with fail
      refine (bWriteByte (w.heap.size + 1) (w.heap.size + 1) _ 10 _ (.inr HBL2.out) (by rw [List.length_append, Lib.byteCells_length, Lib.strCells_length, str_size]; omega) (by omega)).mono ?_
      rintro e w3 ⟨rfl, hbl3, hb3⟩
      have HBL3 := Lib.hid hbl3
      have HB3 := Lib.hid (HB2.out.trans (hb3.mono (by omega)))
      have hs3 := hb3.size
      clear hbl3 hb3
      go_wp2_with fail
      go_roundw
      case rel =>
        refine ⟨k + 1, by omega, by go_num, ?_, HB3.out, by omega⟩
        rw [HSN.out, byteCells_app, byteCells_app]
        exact .inr HBL3.out
      case measure => simp [intOf]; omega
    · obtain rfl : k = ps.length := by omega
      go_wp2_with fail
      refine (Tryz.Builder_String_any (w.heap.size + 1) (w.heap.size + 1) _ _ HBL.out (by omega)).mono ?_
      rintro e w1 ⟨rfl, hb1⟩
      have HB1 := Lib.hid (HB.out.trans (hb1.mono (by omega)))
      clear hb1
      have hT : (cho ps).take ps.length = cho ps := List.take_of_length_le (by simp [cho])
      rw [hT]
      clear hT
      go_wp2_with fail
      go_ret
      exact ⟨rfl, HB1.out⟩
end Go.Proofs.YtpniilgkceadeaaGreatDoor
