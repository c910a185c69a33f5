/- choice's scanner: the words that are left; word; number. -/
import Derived.Test.YtpniilgkceadeaaGreatDoorChoWords
import Derived.Test.YtpniilgkceadeaaGreatDoorChoFindP
import Derived.Test.YtpniilgkceadeaaGreatDoorChoParseP
import Derived.Test.YtpniilgkceadeaaGreatDoorShelfP
import Derived.Deep.OwnRows
import Derived.Test.YtpniilgkceadeaaGreatDoorChoMem2
namespace Go.Proofs.YtpniilgkceadeaaGreatDoor
open Go.RowKit Go.Sort
/-- the tables and the library's variables that the parsing reads -/
structure LaidP (w : World) : Prop where
  laid : Laid w
  max : ∃ m, w.cell? ⟨1, 0, none⟩ = some (.int .i64 m)
  syn : ∃ ev, w.cell? ⟨5, 0, none⟩ = some ev ∧ (ev = .nilIface ∨ ∃ te pe, ev = .iface te pe)
  ran : ∃ ev, w.cell? ⟨6, 0, none⟩ = some ev ∧ (ev = .nilIface ∨ ∃ te pe, ev = .iface te pe)
def LowP (B : Nat) : Prop := Low B ∧ 1 < B ∧ 5 < B ∧ 6 < B
theorem LaidP.low {w : World} (h : LaidP w) : LowP w.heap.size := by
  obtain ⟨_, h1⟩ := h.max
  obtain ⟨_, h2, _⟩ := h.syn
  obtain ⟨_, h3, _⟩ := h.ran
  exact ⟨h.laid.low, Lib.lt_of_cell h1, Lib.lt_of_cell h2, Lib.lt_of_cell h3⟩
theorem LowP.mono {B B' : Nat} (h : LowP B) (hB : B ≤ B') : LowP B' := ⟨h.1.mono hB, Nat.lt_of_lt_of_le h.2.1 hB, Nat.lt_of_lt_of_le h.2.2.1 hB, Nat.lt_of_lt_of_le h.2.2.2 hB⟩
theorem LaidP.keep {w w' : World} {B : Nat} (h : LaidP w) (hl : LowP B) (hb : Below B w w') : LaidP w' := by
  obtain ⟨m, h1⟩ := h.max
  obtain ⟨e2, h2, k2⟩ := h.syn
  obtain ⟨e3, h3, k3⟩ := h.ran
  exact ⟨h.laid.keep hl.1 hb, ⟨m, (hb.cell (p := ⟨_, 0, none⟩) hl.2.1).trans h1⟩, ⟨e2, (hb.cell (p := ⟨_, 0, none⟩) hl.2.2.1).trans h2, k2⟩, ⟨e3, (hb.cell (p := ⟨_, 0, none⟩) hl.2.2.2).trans h3, k3⟩⟩
theorem LaidP.below {w w' : World} (h : LaidP w) (hb : Below w.heap.size w w') : LaidP w' := h.keep h.low hb
/-- choice.number -/
def NumPost (l : List UInt8) (w : World) (e : Ending) (w' : World) : Prop := e = .returned (.tuple #[.int .i64 (ChoP.numV l), .bool (ChoP.numOk l)]) ∧ Below w.heap.size w w'
set_option maxHeartbeats 1000000 in
theorem number_any (l : List UInt8) (w : World) (hL : LaidP w) (hl : l.length ≤ 140737488351232) : Calls Tryz.prog 112 #[strV l] w (NumPost l w) := by
  have hsz : (⟨l.toArray⟩ : ByteArray).size ≤ 140737488351232 := by show l.toArray.size ≤ _; simpa using hl
  have HL := Lib.hid hL
  rcases hp : Lib.parseIntB 64 l with v | _ | _
  · have hb := Lib.parseIntB_bounds hp
    have h0 : -9223372036854775808 ≤ v := by have := hb.1; simp at this; omega
    have h1 : v ≤ 9223372036854775807 := by have := hb.2; simp at this; omega
    have e1 : ChoP.numV l = v := by unfold ChoP.numV; rw [hp]
    have e2 : ChoP.numOk l = decide (Lib.itoa v = l) := by unfold ChoP.numOk; rw [hp]
    have hP := Tryz.strconv_ParseInt_10_at64_ok ⟨l.toArray⟩ (by omega) v hp w
    have HP := Lib.hid hP
    have HE1 := Lib.hid e1
    have HE2 := Lib.hid e2
    clear hP hp hb e1 e2 hL hsz
    cases hq : (Lib.itoa v == l)
    all_goals
      go_enter Tryz.func112, Tryz.ntmps112
      go_wp2_with fail
      refine HP.out.mono ?_
      rintro e w1 ⟨rfl, hw⟩
      have hb1 : Below w.heap.size w w1 := by
        rcases hw with rfl | ⟨t, rfl⟩
        · exact Below.refl _ _
        · exact Lib.bytesWorld_below _ _ _
      have HB1 := Lib.hid hb1
      clear hw hb1
      go_wp2_with fail
      refine (formatInt_any v w1 (HL.out.below HB1.out).laid h0 h1).mono ?_
      rintro e w2 ⟨rfl, hb2⟩
      have HB2 := Lib.hid (HB1.out.trans (hb2.mono HB1.out.size))
      clear hb2
      go_wp2_with fail
      go_ret2
      refine ⟨?_, HB2.out⟩
      rw [HE1.out, HE2.out]
      first
        | (rw [show decide (Lib.itoa v = l) = false by simpa using hq]; rfl)
        | (rw [show decide (Lib.itoa v = l) = true by simpa using hq]; rfl)
  · have e1 : ChoP.numV l = 0 := by unfold ChoP.numV; rw [hp]
    have e2 : ChoP.numOk l = false := by unfold ChoP.numOk; rw [hp]
    obtain ⟨ev, hv, hev⟩ := hL.syn
    have hns : (∀ v, Lib.parseIntB 64 (⟨l.toArray⟩ : ByteArray).data.toList ≠ .ok v) ∧ Lib.parseIntB 64 (⟨l.toArray⟩ : ByteArray).data.toList ≠ .range := by
      show (∀ v, Lib.parseIntB 64 l ≠ .ok v) ∧ Lib.parseIntB 64 l ≠ .range
      rw [hp]
      exact ⟨fun v e => (by cases e), fun e => (by cases e)⟩
    have hP := Tryz.strconv_ParseInt_10_at64_syntax ⟨l.toArray⟩ (by omega) hns ev w hv hev
    have HP := Lib.hid hP
    have HE1 := Lib.hid e1
    have HE2 := Lib.hid e2
    clear hP hp e1 e2 hL hsz hv hev HL hns
    go_enter Tryz.func112, Tryz.ntmps112
    go_wp2_with fail
    refine HP.out.mono ?_
    rintro e w1 ⟨N, rfl, _, _, hb1⟩
    go_wp2_with fail
    go_ret2
    refine ⟨?_, hb1⟩
    rw [HE1.out, HE2.out]
    rfl
  · have e1 : ChoP.numV l = Lib.intSat 64 l := by unfold ChoP.numV; rw [hp]
    have e2 : ChoP.numOk l = false := by unfold ChoP.numOk; rw [hp]
    obtain ⟨ev, hv, hev⟩ := hL.ran
    have hP := Tryz.strconv_ParseInt_10_at64_range ⟨l.toArray⟩ (by omega) hp ev w hv hev
    rw [show (⟨l.toArray⟩ : ByteArray).data.toList = l from rfl] at hP
    generalize Lib.intSat 64 l = sat at *
    have HP := Lib.hid hP
    have HE1 := Lib.hid e1
    have HE2 := Lib.hid e2
    clear hP hp e1 e2 hL hsz hv hev HL
    go_enter Tryz.func112, Tryz.ntmps112
    go_wp2_with fail
    refine HP.out.mono ?_
    rintro e w1 ⟨N, rfl, _, _, hb1⟩
    go_wp2_with fail
    go_ret2
    refine ⟨?_, hb1⟩
    rw [HE1.out, HE2.out]
    rfl
end Go.Proofs.YtpniilgkceadeaaGreatDoor
/- choice's scanner: its methods word and number. -/
namespace Go.Proofs.YtpniilgkceadeaaGreatDoor
open Go.RowKit
/-- the scanner in block q: the words that are left, and whether one was of another form -/
structure SC (w : World) (q : Nat) (s : ChoP.PS) : Prop where
  at_ : ∃ (X : Option Addr) (c : Nat), w.heap[q]? = some (.cells #[.slice X s.ws.length c, .bool s.bad] 86 (0, 0)) ∧ Lie w q X (strs s.ws) ∧ s.ws.length ≤ c ∧ c ≤ 9223372036854775807
  len : ∀ x ∈ s.ws, x.length ≤ 140737488351232
theorem SC.lt {w : World} {q : Nat} {s : ChoP.PS} (h : SC w q s) : q < w.heap.size := by
  obtain ⟨X, c, h1, _⟩ := h.at_
  exact (Array.getElem?_eq_some_iff.1 h1).1
theorem SC.blocks {w w' : World} {q : Nat} {s : ChoP.PS} (h : SC w q s) (hb : ∀ b, b < q + 1 → w'.heap[b]? = w.heap[b]?) : SC w' q s := by
  obtain ⟨X, c, h1, h2, h3, h4⟩ := h.at_
  exact ⟨⟨X, c, (hb q (by omega)).trans h1, h2.blocks (fun b hb' => hb b (by omega)), h3, h4⟩, h.len⟩
theorem SC.below {w w' : World} {q : Nat} {s : ChoP.PS} (h : SC w q s) (hb : Below w.heap.size w w') : SC w' q s := h.blocks (fun b h1 => hb.block b (by have := h.lt; omega))
/-- another rest, or another mark -/
theorem SC.put {w : World} {q : Nat} {s : ChoP.PS} {X : Option Addr} {c i : Nat} {v0 v1 v : Value} (hb : w.heap[q]? = some (.cells #[v0, v1] 86 (0, 0)))
    (hv : (#[v0, v1] : Array Value).setIfInBounds i v = #[.slice X s.ws.length c, .bool s.bad]) (hl : Lie w q X (strs s.ws)) (h3 : s.ws.length ≤ c) (h4 : c ≤ 9223372036854775807) (h5 : ∀ x ∈ s.ws, x.length ≤ 140737488351232) : SC (w.setCell ⟨q, i, none⟩ v) q s := by
  refine ⟨⟨X, c, ?_, ?_, h3, h4⟩, h5⟩
  · rw [← hv]
    exact blk_set hb
  · intro hx
    obtain ⟨b, o, e, hlt, hc⟩ := hl hx
    exact ⟨b, o, e, hlt, fun j u hu => (World.cell?_setCell_other _ _ _ _ (by intro e'; injection e' with e1; omega)).trans (hc j u hu)⟩
/-- what a method of the scanner leaves -/
def SPost (q : Nat) (v : Value) (s : ChoP.PS) (w : World) (e : Ending) (w' : World) : Prop := e = .returned v ∧ SC w' q s ∧ w.grownBy w' (some q)
theorem strs_drop1 (x : List UInt8) (r : List (List UInt8)) : (strs (x :: r)).drop 1 = strs r := rfl
theorem grown_below {w w1 w2 : World} {q : Nat} (h : w.grownBy w1 (some q)) (hb : Below w1.heap.size w1 w2) : w.grownBy w2 (some q) :=
  grown_trans h ⟨hb.os, hb.tape, hb.output, hb.size, fun k hk _ => hb.block k hk⟩
set_option maxHeartbeats 1000000 in
theorem word_any (q : Nat) (s : ChoP.PS) (w : World) (h : SC w q s) : Calls Tryz.prog 84 #[.pointer (some ⟨q, 0, none⟩)] w (SPost q (strV (ChoP.wordS s).1) (ChoP.wordS s).2 w) := by
  obtain ⟨X, c, hb, hl, hc1, hc2⟩ := h.at_
  have h5 := h.len
  obtain ⟨⟨c0, c1⟩, ⟨f0, f1⟩⟩ := blk2 hb
  obtain ⟨ws, bad⟩ := s
  cases ws with
  | nil =>
    have hf : SC (w.setCell ⟨q, 1, none⟩ (.bool true)) q ⟨[], true⟩ := SC.put (X := X) (c := c) hb rfl (Lie.nil _ _ _) (by simp) hc2 (by simp)
    have HF := Lib.hid hf
    clear hb hl hf h h5
    go_enter Tryz.func84, Tryz.ntmps84
    go_wp2_with fail
    go_ret
    exact ⟨rfl, HF.out, grown_set _ _ _ _⟩
  | cons x r =>
    have hl1 : 1 ≤ c := by simp at hc1; omega
    have hcut := hl.cut1 1 c (by simpa [strs] using hc1)
    rw [strs_drop1] at hcut
    have hf := SC.put (s := ⟨r, bad⟩) (X := if c = 1 then X else Option.map (fun x => x.add 1) X) (c := c - 1) (i := 0) (v := .slice (if c = 1 then X else Option.map (fun x => x.add 1) X) r.length (c - 1)) hb rfl hcut (by simp at hc1; show r.length ≤ c - 1; omega) (by omega) (fun y hy => h5 y (List.mem_cons_of_mem _ hy))
    obtain ⟨b, o, rfl, hbq, hcell⟩ := hl (by simp [strs])
    have hx0 : w.cell? ⟨b, o, none⟩ = some (strV x) := by simpa using hcell 0 (strV x) rfl
    have HF := Lib.hid hf
    have hlen : ((r.length + 1 : Nat) : Int) = (r.length : Int) + 1 := by omega
    clear hb hl hf h h5 hcut hcell
    rw [List.length_cons] at c0 hc1
    by_cases hcn : c = 1
    · subst hcn
      have hr : r = [] := List.eq_nil_of_length_eq_zero (by omega)
      subst hr
      have hf := HF.out
      rw [if_pos rfl] at hf
      have HF2 := Lib.hid hf
      clear hf HF hlen
      go_enter Tryz.func84, Tryz.ntmps84
      go_wp2_with fail
      go_ret
      exact ⟨rfl, HF2.out, grown_set _ _ _ _⟩
    · have hf := HF.out
      rw [if_neg hcn] at hf
      have HF2 := Lib.hid hf
      clear hf HF
      go_enter Tryz.func84, Tryz.ntmps84
      go_wp2_with fail
      go_ret
      exact ⟨rfl, HF2.out, grown_set _ _ _ _⟩
theorem wordS_len {w : World} {q : Nat} {s : ChoP.PS} (h : SC w q s) : (ChoP.wordS s).1.length ≤ 140737488351232 := by
  have := h.len
  unfold ChoP.wordS
  split
  · simp
  · rename_i e
    exact this _ (by rw [e]; simp)
set_option maxHeartbeats 1000000 in
theorem sNumber_any (q : Nat) (s : ChoP.PS) (w : World) (h : SC w q s) (hL : LaidP w) (hq : LowP q) : Calls Tryz.prog 85 #[.pointer (some ⟨q, 0, none⟩)] w (SPost q (.int .i64 (ChoP.numS s).1) (ChoP.numS s).2 w) := by
  have hw := word_any q s w h
  have hlen := wordS_len h
  have hqw := h.lt
  have e1 : (ChoP.numS s).1 = ChoP.numV (ChoP.wordS s).1 := rfl
  have e2 : (ChoP.numS s).2 = ⟨(ChoP.wordS s).2.ws, (ChoP.wordS s).2.bad || !ChoP.numOk (ChoP.wordS s).1⟩ := rfl
  rw [e1, e2]
  generalize (ChoP.wordS s).1 = x at *
  generalize (ChoP.wordS s).2 = s1 at *
  obtain ⟨ws, bad⟩ := s1
  have HW := Lib.hid hw
  have HL := Lib.hid hL
  have HQ := Lib.hid hq
  clear hw e1 e2 hL hq h
  cases bad <;> cases hok : ChoP.numOk x
  all_goals
    go_enter Tryz.func85, Tryz.ntmps85
    go_wp2_with fail
    refine HW.out.mono ?_
    rintro e w1 ⟨rfl, hs1, hg1⟩
    have hL1 : LaidP w1 := HL.out.keep (B := q) HQ.out ⟨hg1.os, hg1.tape, hg1.output, hg1.size, fun k hk => hg1.block k (by omega) (by simp; omega)⟩
    have HS1 := Lib.hid hs1
    have HG1 := Lib.hid hg1
    have HL1 := Lib.hid hL1
    clear hs1 hg1 hL1
    go_wp2_with fail
    refine (number_any x w1 HL1.out hlen).mono ?_
    rintro e w2 ⟨rfl, hb2⟩
    have hs2 := HS1.out.below hb2
    have HG2 := Lib.hid (grown_below HG1.out hb2)
    obtain ⟨X, c, hblk, hl, hc1, hc2⟩ := hs2.at_
    obtain ⟨⟨c0, c1⟩, ⟨f0, f1⟩⟩ := blk2 hblk
    have HS2 := Lib.hid hs2
    have HBLK := Lib.hid hblk
    have HLI := Lib.hid hl
    clear hb2 hs2 hblk hl c0
    rw [hok]
    go_wp2_with fail
    go_ret
    exact ⟨rfl, SC.put HBLK.out rfl HLI.out hc1 hc2 HS2.out.len, grown_trans HG2.out (grown_set _ _ _ _)⟩
end Go.Proofs.YtpniilgkceadeaaGreatDoor
