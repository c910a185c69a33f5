/- choice.readOne: a choice out of bytes. -/
import Derived.Test.YtpniilgkceadeaaGreatDoorChoReader2
import Derived.Test.YtpniilgkceadeaaGreatDoorChoBytes
import Derived.Test.YtpniilgkceadeaaGreatDoorChoApp2
import Derived.Deep.RegionLaw
namespace ChoP
theorem fieldsS_len (s : RS) : ∀ k, (fieldsS k s).1.length = k
  | 0 => rfl
  | k + 1 => by rw [fieldsS, List.length_append, fieldsS_len s k]; rfl
theorem argsS_len (s : RS) : ∀ k, (argsS k s).1.length = k
  | 0 => rfl
  | k + 1 => by rw [argsS, List.length_append, argsS_len s k]; rfl
theorem uintS_le (most : Nat) (s : RS) : (uintS most s).1 ≤ most := by
  unfold uintS
  split
  · dsimp only
    split
    · rename_i h
      unfold limE at h
      split at h
      · cases h
      · rename_i h2
        rw [h] at h2
        omega
    · omega
  · simp
end ChoP
namespace Go.Proofs.YtpniilgkceadeaaGreatDoor
open Go.RowKit
/-- the cells of a choice while it is read -/
def rowC (b : Nat) (f : List Nat) (v : Value) : Array Value := #[.int .u8 (b : Int), .int .i64 (f.getD 0 0 : Int), .int .i64 (f.getD 1 0 : Int), .int .i64 (f.getD 2 0 : Int), .int .i64 (f.getD 3 0 : Int), .int .i64 (f.getD 4 0 : Int), v]
def ptrs (G : Nat) : Array Value := #[.pointer (some ⟨G, 1, none⟩), .pointer (some ⟨G, 2, none⟩), .pointer (some ⟨G, 3, none⟩), .pointer (some ⟨G, 4, none⟩), .pointer (some ⟨G, 5, none⟩)]
theorem ptrs_at (G k : Nat) (h : k < 5) : (ptrs G)[k]? = some (.pointer (some ⟨G, k + 1, none⟩)) := by
  have : k = 0 ∨ k = 1 ∨ k = 2 ∨ k = 3 ∨ k = 4 := by omega
  rcases this with rfl | rfl | rfl | rfl | rfl <;> rfl
theorem rowC_set (b : Nat) (f : List Nat) (v : Value) (x k : Nat) (hk : f.length = k) (h : k < 5) : (rowC b f v).setIfInBounds (k + 1) (.int .i64 (x : Int)) = rowC b (f ++ [x]) v := by
  have : k = 0 ∨ k = 1 ∨ k = 2 ∨ k = 3 ∨ k = 4 := by omega
  subst hk
  match f, h with
  | [], _ => rfl
  | [_], _ => rfl
  | [_, _], _ => rfl
  | [_, _, _], _ => rfl
  | [_, _, _, _], _ => rfl
  | _ :: _ :: _ :: _ :: _ :: l, h => exact absurd h (by simp)
theorem rowC_at (b : Nat) (f : List Nat) (v : Value) (k : Nat) (h : k < 5) : ∃ u, (rowC b f v)[k + 1]? = some u := by
  have : k = 0 ∨ k = 1 ∨ k = 2 ∨ k = 3 ∨ k = 4 := by omega
  rcases this with rfl | rfl | rfl | rfl | rfl <;> exact ⟨_, rfl⟩
theorem blk_set {w : World} {b i : Nat} {cs : Array Value} {t : TypeId} {u : Value} (h : w.heap[b]? = some (.cells cs t (0, 0))) : (w.setCell ⟨b, i, none⟩ u).heap[b]? = some (.cells (cs.setIfInBounds i u) t (0, 0)) := by
  simp [World.setCell, Array.getElem?_modify, h]
theorem grown_trans {a b c : World} {R : Nat} (h : a.grownBy b (some R)) (k : b.grownBy c (some R)) : a.grownBy c (some R) :=
  ⟨k.os.trans h.os, k.tape.trans h.tape, k.output.trans h.output, Nat.le_trans h.size k.size, fun q hq hne => (k.block q (Nat.lt_of_lt_of_le hq h.size) hne).trans (h.block q hq hne)⟩
theorem grown_set_ge {a b : World} {R : Nat} (h : a.grownBy b (some R)) (p : Addr) (hp : a.heap.size ≤ p.block) (u : Value) : a.grownBy (b.setCell p u) (some R) :=
  ⟨h.os, h.tape, h.output, by rw [World.size_setCell]; exact h.size, fun q hq hne => (Go.Deep.blk_setCell_other _ _ _ _ (by omega)).trans (h.block q hq hne)⟩
theorem grown_alloc {a b : World} {R : Nat} (h : a.grownBy b (some R)) (o : Obj) : a.grownBy (b.alloc o) (some R) := grown_trans h (World.grownBy_alloc b o (some R))
theorem newI (W : World) (x : Int) : SliceIs (W.alloc (.cells #[.int .i64 x] 2)) (W.heap.size + 1) 1 (some ⟨W.heap.size, 0, none⟩) 1 [.int .i64 x] :=
  ⟨rfl, fun _ => ⟨W.heap.size, 0, rfl, by omega, fun j u hu => by
    rw [Nat.zero_add]
    exact cell_at (heap_alloc_new W _) j u (by simpa using hu)⟩⟩
theorem grown_far {a b c : World} {R : Nat} {row : Option Nat} (h : a.grownBy b (some R)) (k : b.grownBy c row) (hr : ∀ q, row = some q → a.heap.size ≤ q) : a.grownBy c (some R) :=
  ⟨k.os.trans h.os, k.tape.trans h.tape, k.output.trans h.output, Nat.le_trans h.size k.size, fun q hq hne => (k.block q (Nat.lt_of_lt_of_le hq h.size) (fun e => by have := hr q e.symm; omega)).trans (h.block q hq hne)⟩
/-- what readOne returns -/
def OnePost (R B : Nat) (s : ChoP.RS) (w : World) (e : Ending) (w' : World) : Prop :=
  ∃ r : Row, e = .returned (choV r) ∧ RowIs w' w'.heap.size r (ChoP.readOneS s).1 ∧ (∀ b o, r.p = some ⟨b, o, none⟩ → w.heap.size ≤ b ∧ b < w'.heap.size) ∧ RD w' R B (ChoP.readOneS s).2 ∧ w.grownBy w' (some R)
theorem idx_ptr (w : World) (G k : Nat) (h : k < 5) : (Instr.index 127 (.agg (ptrs G)) (.int .i64 k)).run Tryz.prog w = .ok (.pointer (some ⟨G, k + 1, none⟩)) w :=
  run_index_row w _ 126 5 _ k _ (by kernel_rfl) h (by kernel_rfl) (ptrs_at G k h) (by kernel_rfl)
set_option maxRecDepth 100000 in
set_option maxHeartbeats 4000000 in
theorem readOne_any (R B : Nat) (s : ChoP.RS) (w : World) (h : RD w R B s) : Calls Tryz.prog 38 #[.pointer (some ⟨R, 0, none⟩)] w (OnePost R B s w) := by
  obtain ⟨i0, hi0, hz0, hz1, hz2⟩ := info_parts info_i64
  have hRB := h.lt
  have hBw := h.le
  have H := Lib.hid h
  clear h
  go_enter Tryz.func38, Tryz.ntmps38
  go_wp2_with fail
  have hal : ∀ o1 o2 : Obj, RowKit.Below w.heap.size w ((w.alloc o1).alloc o2) := fun o1 o2 => ((RowKit.Below.refl _ _).alloc (Nat.le_refl _) _).alloc (by simp) _
  refine (rByte_any R B s ((w.alloc _).alloc _) (H.out.below ((hal _ _).mono hBw))).mono ?_
  rintro e w1 ⟨rfl, hr1, hg1⟩
  have hblk1 : w1.heap[w.heap.size + 1]? = some (.cells #[.int .u8 0, .int .i64 0, .int .i64 0, .int .i64 0, .int .i64 0, .int .i64 0, .slice none 0 0] 59 (0, 0)) := by
    refine (hg1.block (w.heap.size + 1) (by simp) (by simp; omega)).trans ?_
    have h := heap_alloc_new (w.alloc (.cells #[.int .u8 0, .int .i64 0, .int .i64 0, .int .i64 0, .int .i64 0, .int .i64 0, .slice none 0 0] 59)) (.cells #[.int .u8 0, .int .i64 0, .int .i64 0, .int .i64 0, .int .i64 0, .int .i64 0, .slice none 0 0] 59)
    rw [World.size_alloc] at h
    exact h
  have hblk0 : w1.heap[w.heap.size]? = some (.cells #[.int .u8 0, .int .i64 0, .int .i64 0, .int .i64 0, .int .i64 0, .int .i64 0, .slice none 0 0] 59 (0, 0)) := (hg1.block w.heap.size (by simp; omega) (by simp; omega)).trans ((heap_alloc_old _ _ (by simp)).trans (heap_alloc_new w _))
  have hgw : w.grownBy w1 (some R) := grown_trans (grown_alloc (World.grownBy_alloc w _ _) _) hg1
  have hb256 : (ChoP.byteS s).1 < 256 := by
    unfold ChoP.byteS
    split
    · split
      · show 0 < 256; decide
      · rename_i e; exact H.out.byt _ (by rw [e]; simp)
    · show 0 < 256; decide
  have hread : ChoP.readOneS s = (ChoP.choOf (ChoP.byteS s).1 (ChoP.fieldsS 5 (ChoP.byteS s).2).1 (ChoP.argsS (ChoP.uintS 4 (ChoP.fieldsS 5 (ChoP.byteS s).2).2).1 (ChoP.uintS 4 (ChoP.fieldsS 5 (ChoP.byteS s).2).2).2).1, (ChoP.argsS (ChoP.uintS 4 (ChoP.fieldsS 5 (ChoP.byteS s).2).2).1 (ChoP.uintS 4 (ChoP.fieldsS 5 (ChoP.byteS s).2).2).2).2) := rfl
  have HREAD := Lib.hid hread
  clear hread hal
  generalize (ChoP.byteS s).1 = b at *
  generalize (ChoP.byteS s).2 = s1 at *
  obtain ⟨⟨a0, _, _, _, _, _, _⟩, ⟨f0, _, _, _, _, _, _⟩⟩ := blk7 hblk1
  have hz1' : w.heap.size + 1 < w1.heap.size := (Array.getElem?_eq_some_iff.1 hblk1).1
  have hblk2 : (w1.setCell ⟨w.heap.size + 1, 0, none⟩ (.int .u8 (b : Int))).heap[w.heap.size + 1]? = some (.cells (rowC b [] (.slice none 0 0)) 59 (0, 0)) := blk_set hblk1
  have hblk3 : (w1.setCell ⟨w.heap.size + 1, 0, none⟩ (.int .u8 (b : Int))).heap[w.heap.size]? = some (.cells #[.int .u8 0, .int .i64 0, .int .i64 0, .int .i64 0, .int .i64 0, .int .i64 0, .slice none 0 0] 59 (0, 0)) := (Go.Deep.blk_setCell_other _ _ _ _ (by simp)).trans hblk0
  have hr2 : RD (w1.setCell ⟨w.heap.size + 1, 0, none⟩ (.int .u8 (b : Int))) R B s1 := hr1.set _ (by show B ≤ w.heap.size + 1; omega) _
  have hg2 : w.grownBy (w1.setCell ⟨w.heap.size + 1, 0, none⟩ (.int .u8 (b : Int))) (some R) := grown_set_ge hgw _ (by show w.heap.size ≤ w.heap.size + 1; omega) _
  have HB2 := Lib.hid hblk2
  have HB3 := Lib.hid hblk3
  have HR2 := Lib.hid hr2
  have HG2 := Lib.hid hg2
  clear hblk0 hblk1 hblk2 hblk3 hr1 hr2 hg1 hg2 hgw
  go_wp2_with fail
  obtain ⟨G, hG⟩ : ∃ G, G = w.heap.size + 1 := ⟨_, rfl⟩
  rw [← hG] at HB2 HB3 HR2 HG2
  rw [← hG]
  have hG1 : w.heap.size < G := by omega
  have hGR : G ≠ R := by omega
  clear hG a0 f0 hz1'
  go_loopw [20] (fun i wr => ∃ k : Nat, k ≤ 5 ∧ i = .int .i64 k ∧ RD wr R B (ChoP.fieldsS k s1).2 ∧ wr.heap[G]? = some (.cells (rowC b (ChoP.fieldsS k s1).1 (.slice none 0 0)) 59 (0, 0)) ∧ wr.heap[w.heap.size]? = some (.cells #[.int .u8 0, .int .i64 0, .int .i64 0, .int .i64 0, .int .i64 0, .int .i64 0, .slice none 0 0] 59 (0, 0)) ∧ w.grownBy wr (some R)) (fun i _ => 5 - (intOf i).toNat)
  case atStart => exact ⟨0, by omega, rfl, HR2.out, HB2.out, HB3.out, HG2.out⟩
  case round =>
    clear HR2 HB2 HB3 HG2
    obtain ⟨k, hk, rfl, hr, hblk, hblz, hg⟩ := hrel
    have hzG : G < wr.heap.size := (Array.getElem?_eq_some_iff.1 hblk).1
    have HR := Lib.hid hr
    have HBK := Lib.hid hblk
    have HBZ := Lib.hid hblz
    have HG := Lib.hid hg
    clear hr hblk hblz hg
    by_cases hlt : k < 5
    · have hlen := ChoP.fieldsS_len s1 k
      have hle := ChoP.uintS_le 65535 (ChoP.fieldsS k s1).2
      have hu := rUint_any R B 65535 (ChoP.fieldsS k s1).2 wr HR.out (by omega)
      have hst1 : (ChoP.fieldsS (k + 1) s1).1 = (ChoP.fieldsS k s1).1 ++ [(ChoP.uintS 65535 (ChoP.fieldsS k s1).2).1] := rfl
      have hst2 : (ChoP.fieldsS (k + 1) s1).2 = (ChoP.uintS 65535 (ChoP.fieldsS k s1).2).2 := rfl
      have HS1 := Lib.hid hst1
      have HS2 := Lib.hid hst2
      have HLEN := Lib.hid hlen
      clear hst1 hst2 hlen
      generalize (ChoP.uintS 65535 (ChoP.fieldsS k s1).2).1 = x at *
      generalize (ChoP.uintS 65535 (ChoP.fieldsS k s1).2).2 = s2 at *
      have HU := Lib.hid hu
      have hix : ∀ W : World, (Instr.index 127 (.agg #[.pointer (some ⟨G, 1, none⟩), .pointer (some ⟨G, 2, none⟩), .pointer (some ⟨G, 3, none⟩), .pointer (some ⟨G, 4, none⟩), .pointer (some ⟨G, 5, none⟩)]) (.int .i64 k)).run Tryz.prog W = .ok (.pointer (some ⟨G, k + 1, none⟩)) W := fun W => idx_ptr W G k hlt
      have hxi : (x : Int) ≤ 65535 := by omega
      clear hu
      go_wp2_with fail
      refine HU.out.mono ?_
      rintro e w2 ⟨rfl, hr2, hg2⟩
      have hb2 := (hg2.block G hzG (by simp; omega)).trans HBK.out
      have hbz2 := (hg2.block w.heap.size (by omega) (by simp; omega)).trans HBZ.out
      obtain ⟨u, hu⟩ := rowC_at b (ChoP.fieldsS k s1).1 (.slice none 0 0) k hlt
      have q0 := cell_at hb2 (k + 1) u hu
      have q1 := frozen_at hb2 (k + 1)
      have hb3 := blk_set (i := k + 1) (u := .int .i64 (x : Int)) hb2
      rw [rowC_set b _ _ x k HLEN.out hlt, ← HS1.out] at hb3
      have HB3 := Lib.hid hb3
      have HZ3 := Lib.hid ((Go.Deep.blk_setCell_other w2 ⟨G, k + 1, none⟩ (.int .i64 (x : Int)) w.heap.size (by show w.heap.size ≠ G; omega)).trans hbz2)
      have HR3 := Lib.hid (hr2.set ⟨G, k + 1, none⟩ (by show B ≤ G; omega) (.int .i64 (x : Int)))
      have HG3 := Lib.hid (grown_set_ge (grown_trans HG.out hg2) ⟨G, k + 1, none⟩ (by show w.heap.size ≤ G; omega) (.int .i64 (x : Int)))
      clear hb2 hbz2 hb3 hr2 hg2 hu HU hix
      go_wp2_with fail
      go_roundw
      case rel => exact ⟨k + 1, by omega, by go_num, by rw [HS2.out]; exact HR3.out, HB3.out, HZ3.out, HG3.out⟩
      case measure => simp [intOf]; omega
    · obtain rfl : k = 5 := by omega
      have hle := ChoP.uintS_le 4 (ChoP.fieldsS 5 s1).2
      have hu := rUint_any R B 4 (ChoP.fieldsS 5 s1).2 wr HR.out (by omega)
      have hlen := ChoP.fieldsS_len s1 5
      generalize (ChoP.fieldsS 5 s1).1 = f at *
      generalize (ChoP.fieldsS 5 s1).2 = s2 at *
      generalize (ChoP.uintS 4 s2).1 = n at *
      generalize (ChoP.uintS 4 s2).2 = s3 at *
      have HU := Lib.hid hu
      have hni : (n : Int) ≤ 4 := by omega
      have HLEN := Lib.hid hlen
      clear hu hlen hlt
      go_wp2_with fail
      refine HU.out.mono ?_
      rintro e w2 ⟨rfl, hr2, hg2⟩
      have hb2 := (hg2.block G hzG (by simp; omega)).trans HBK.out
      have hbz2 := (hg2.block w.heap.size (by omega) (by simp; omega)).trans HBZ.out
      have HB2 := Lib.hid hb2
      have HZ2 := Lib.hid hbz2
      have HR2 := Lib.hid hr2
      have HG2 := Lib.hid (grown_trans HG.out hg2)
      have hz2' := hg2.size
      clear hb2 hbz2 hr2 hg2 HU HBK HBZ HG HR
      go_wp2_with fail
      obtain ⟨wa, rfl⟩ : ∃ wa : World, wa = wr := ⟨_, rfl⟩
      go_loopw [33] (fun i wr => ∃ (k : Nat) (v : Value), k ≤ n ∧ i = .int .i64 k ∧ RD wr R B (ChoP.argsS k s3).2 ∧ wr.heap[G]? = some (.cells (rowC b f v) 59 (0, 0)) ∧ wr.heap[w.heap.size]? = some (.cells #[.int .u8 0, .int .i64 0, .int .i64 0, .int .i64 0, .int .i64 0, .int .i64 0, .slice none 0 0] 59 (0, 0)) ∧ wr.ownsRow (G + 1) 2 1 v k (intV (ChoP.argsS k s3).1) ∧ w.grownBy wr (some R)) (fun i _ => n - (intOf i).toNat)
      case atStart => exact ⟨0, .slice none 0 0, by omega, rfl, HR2.out, HB2.out, HZ2.out, ⟨rfl, .inl ⟨rfl, rfl⟩⟩, HG2.out⟩
      case round =>
        clear HR2 HB2 HZ2 HG2 hzG
        obtain ⟨k, v, hk, rfl, hr, hblk, hblz, hown, hg⟩ := hrel
        have hzG : G < wr.heap.size := (Array.getElem?_eq_some_iff.1 hblk).1
        have HR := Lib.hid hr
        have HBK := Lib.hid hblk
        have HBZ := Lib.hid hblz
        have HO := Lib.hid hown
        have HG := Lib.hid hg
        have q6 := cell_at hblk 6 v rfl
        have p6 := frozen_at hblk 6
        clear hr hblk hblz hown hg
        by_cases hlt : k < n
        · have hu := fun W (hW : RD W R B (ChoP.argsS k s3).2) => rInt_any R B (ChoP.argsS k s3).2 W hW
          have hst1 : (ChoP.argsS (k + 1) s3).1 = (ChoP.argsS k s3).1 ++ [(ChoP.intS (ChoP.argsS k s3).2).1] := rfl
          have hst2 : (ChoP.argsS (k + 1) s3).2 = (ChoP.intS (ChoP.argsS k s3).2).2 := rfl
          have HS1 := Lib.hid hst1
          have HS2 := Lib.hid hst2
          clear hst1 hst2
          generalize (ChoP.intS (ChoP.argsS k s3).2).1 = x at *
          generalize (ChoP.intS (ChoP.argsS k s3).2).2 = s4 at *
          have HU := Lib.hid hu
          clear hu
          have hn1 : k + 1 ≤ maxLen := by unfold maxLen; omega
          have hn2 : (k + 1) * 8 ≤ 140737488355328 := by omega
          have hvR : v.ownBlock = none ∨ v.ownBlock ≠ some R := by
            cases hv : v.ownBlock with
            | none => exact .inl rfl
            | some q => exact .inr (fun e => by injection e with e; subst e; have := own_ge HO.out _ hv; omega)
          have hvG : some G ≠ v.ownBlock := fun e => by have := own_ge HO.out G e.symm; omega
          have hvZ : some w.heap.size ≠ v.ownBlock := fun e => by have := own_ge HO.out w.heap.size e.symm; omega
          go_wp2_with fail
          go_region_law (first | (go_simp; go_at_call 80; refine Calls.mono (HU.out _ (HR.out.blocks (fun _ _ => rfl) HR.out.le)) ?_; rintro e w2 ⟨rfl, hr2, hg2⟩; have hzz2 : G < w2.heap.size := Nat.lt_of_lt_of_le hzG hg2.size; have hb2 := (hg2.block G hzG (by simp; omega)).trans HBK.out; have hbz2 := (hg2.block w.heap.size (Nat.lt_trans hG1 hzG) (by simp; omega)).trans HBZ.out; have m6 := cell_at hb2 6 v rfl; have ho2 := World.ownsRow.kept (w := wr.drew) HO.out.drew hg2 hvR) | (refine step_append_lie (by rfl) (.tmp 36) (.tmp 39) _ (by rfl) (G + 1) 2 i0 _ 1 8 Tryz.underlying57 hi0 hz0 hz1 hz2 rfl (by decide) v k (intV (ChoP.argsS k s3).1) (by rfl) (ho2.alloc _) (w2.heap.size + 1) (some ⟨w2.heap.size, 0, none⟩) 1 1 [.int .i64 x] (by rfl) (newI w2 x) (by simp [Value.oneCell']) hn1 hn2 (by rw [World.size_alloc]; omega) ?_; intro v' w3 hown3 hgrow3 hat3; obtain ⟨A3, c3, rfl, hc3, hc3', hsl3⟩ := own_form hown3; have hb3 := (hgrow3.block G (by rw [World.size_alloc]; omega) hvG).trans ((heap_alloc_old w2 _ hzz2).trans hb2); have n6 := cell_at hb3 6 v rfl; have l6 := frozen_at hb3 6))
          all_goals
            have hr3 : RD (w3.setCell ⟨G, 6, none⟩ (.slice A3 (k + 1) c3)) R B s4 := by
              refine RD.set ?_ _ (by show B ≤ G; omega) _
              refine (hr2.blocks (w' := w3) (fun q hq => ?_) ?_)
              · exact (hgrow3.block q (by rw [World.size_alloc]; omega) (fun e => by have := own_ge HO.out q e.symm; omega)).trans (heap_alloc_old w2 _ (by omega))
              · have := hgrow3.size; rw [World.size_alloc] at this; omega
            have hb4 : (w3.setCell ⟨G, 6, none⟩ (.slice A3 (k + 1) c3)).heap[G]? = some (.cells (rowC b f (.slice A3 (k + 1) c3)) 59 (0, 0)) := blk_set hb3
            have hbz4 := (Go.Deep.blk_setCell_other w3 ⟨G, 6, none⟩ (.slice A3 (k + 1) c3) w.heap.size (by show w.heap.size ≠ G; omega)).trans ((hgrow3.block w.heap.size (by rw [World.size_alloc]; omega) hvZ).trans ((heap_alloc_old w2 _ (by omega)).trans hbz2))
            have ho4 := hown3.kept (grown_set w3 G 6 (.slice A3 (k + 1) c3)) (.inr (fun e => by have := own_ge hown3 G e; omega))
            have hg4 := grown_set_ge (grown_far (grown_alloc (grown_trans HG.out (⟨hg2.os, hg2.tape, hg2.output, hg2.size, hg2.block⟩ : wr.grownBy w2 (some R))) _) hgrow3 (fun q e => by have := own_ge HO.out q e; omega)) ⟨G, 6, none⟩ (by show w.heap.size ≤ G; omega) (.slice A3 (k + 1) c3)
            have HR4 := Lib.hid hr3
            have HB4 := Lib.hid hb4
            have HZ4 := Lib.hid hbz4
            have HO4 : Hid ((w3.setCell ⟨G, 6, none⟩ (.slice A3 (k + 1) c3)).ownsRow (G + 1) 2 1 (.slice A3 (k + 1) c3) (k + 1) (intV (ChoP.argsS (k + 1) s3).1)) := Lib.hid (by rw [HS1.out, intV, List.map_append]; exact ho4)
            have HG4 := Lib.hid hg4
            clear hr3 hb4 hbz4 ho4 hg4 hr2 hg2 hb2 hbz2 m6 ho2 hown3 hgrow3 hat3 hsl3 hb3 n6 l6 q6 p6 HU
            go_wp2_with fail
            go_roundw
            case rel => exact ⟨k + 1, _, by omega, by go_num, by rw [HS2.out]; exact HR4.out, HB4.out, HZ4.out, HO4.out, HG4.out⟩
            case measure => simp [intOf]; omega
        · obtain rfl : k = n := by omega
          obtain ⟨A2, c2, rfl, hcc, hcm, hsl⟩ := own_form HO.out
          have hna : ∀ b' o', A2 = some ⟨b', o', none⟩ → G + 1 ≤ b' ∧ b' < wr.heap.size := fun b' o' e => ⟨own_ge HO.out b' (by rw [e]; rfl), own_lt HO.out b' (by rw [e]; rfl)⟩
          obtain ⟨⟨a0, a1, a2, a3, a4, a5, a6⟩, _⟩ := blk7 (v0 := .int .u8 (b : Int)) (v1 := .int .i64 (f.getD 0 0 : Int)) (v2 := .int .i64 (f.getD 1 0 : Int)) (v3 := .int .i64 (f.getD 2 0 : Int)) (v4 := .int .i64 (f.getD 3 0 : Int)) (v5 := .int .i64 (f.getD 4 0 : Int)) (v6 := .slice A2 k c2) HBK.out
          obtain ⟨⟨z0, z1, z2, z3, z4, z5, z6⟩, ⟨y0, y1, y2, y3, y4, y5, y6⟩⟩ := blk7 HBZ.out
          have hrow : RowIs wr wr.heap.size ⟨⟨b, (f.getD 0 0 : Int), (f.getD 1 0 : Int), (f.getD 2 0 : Int)⟩, (f.getD 3 0 : Int), (f.getD 4 0 : Int), A2, k, c2⟩ (ChoP.choOf b f (ChoP.argsS k s3).1) := ⟨rfl, rfl, rfl, (ChoP.argsS_len s3 k).symm, hcc, hcm, hsl.2⟩
          have HROW := Lib.hid hrow
          have HNA := Lib.hid hna
          have hzz : w.heap.size < wr.heap.size := by omega
          have hneZ : w.heap.size ≠ G := by omega
          generalize (f.getD 0 0 : Int) = f0 at *
          generalize (f.getD 1 0 : Int) = f1 at *
          generalize (f.getD 2 0 : Int) = f2 at *
          generalize (f.getD 3 0 : Int) = f3 at *
          generalize (f.getD 4 0 : Int) = f4 at *
          clear hrow hna hsl HO q6 p6
          go_wp2_with fail
          refine bodyPost_ret (v := choV ⟨⟨b, f0, f1, f2⟩, f3, f4, A2, k, c2⟩) (by simp [results, Tryz.results38, go_sem, z0, z1, z2, z3, z4, z5, z6, choV]) rfl ⟨_, rfl, ?_, fun b' o' e => ?_, ?_, ?_⟩
          · rw [HREAD.out]
            refine ⟨HROW.out.key, HROW.out.t, HROW.out.d, HROW.out.n, HROW.out.c, HROW.out.m, ?_⟩
            simp only [World.size_setCell]
            have hne : ∀ b' o', A2 = some ⟨b', o', none⟩ → b' ≠ w.heap.size := fun b' o' e => by have := HNA.out b' o' e; omega
            exact ((((((HROW.out.lie.set _ _ hne).set _ _ hne).set _ _ hne).set _ _ hne).set _ _ hne).set _ _ hne).set _ _ hne
          · have := HNA.out b' o' e
            simp only [World.size_setCell]
            omega
          · rw [HREAD.out]
            exact ((((((HR.out.set _ hBw _).set _ hBw _).set _ hBw _).set _ hBw _).set _ hBw _).set _ hBw _).set _ hBw _
          · have hle : w.heap.size ≤ w.heap.size := Nat.le_refl _
            exact grown_set_ge (grown_set_ge (grown_set_ge (grown_set_ge (grown_set_ge (grown_set_ge (grown_set_ge HG.out _ hle _) _ hle _) _ hle _) _ hle _) _ hle _) _ hle _) _ hle _
end Go.Proofs.YtpniilgkceadeaaGreatDoor
