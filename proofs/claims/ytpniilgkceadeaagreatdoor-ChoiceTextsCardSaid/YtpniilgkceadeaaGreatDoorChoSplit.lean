/- strings.Split at a blank; the scanner of a line. -/
import Derived.Test.YtpniilgkceadeaaGreatDoorChoScanCho
import Derived.Test.YtpniilgkceadeaaGreatDoorShelfT
namespace ChoP
open Go
theorem split_len (c : UInt8) : ∀ (k : Nat) (s : List UInt8), Lib.count s [c] = k → (splitC c s).length = k + 1
  | 0, s, h => by
    rcases split_index c s with ⟨_, h2⟩ | ⟨i, h1, _⟩
    · rw [h2]; rfl
    · have := Lib.count_hit (sub := [c]) (by simp) h1
      omega
  | k + 1, s, h => by
    rcases split_index c s with ⟨h1, _⟩ | ⟨i, h1, h2⟩
    · have := Lib.count_miss h1
      omega
    · have hc := Lib.count_hit (sub := [c]) (by simp) h1
      simp only [List.length_cons, List.length_nil, Nat.zero_add] at hc
      rw [h2, List.length_cons, split_len c k _ (by omega)]
theorem split_part (c : UInt8) (s : List UInt8) : ∀ x ∈ splitC c s, x.length ≤ s.length := by
  induction s with
  | nil => intro x hx; simp [splitC] at hx; simp [hx]
  | cons b l ih =>
    intro x hx
    rw [splitC_eq] at hx
    split at hx
    · rcases List.mem_cons.1 hx with rfl | hx
      · simp
      · have := ih x hx
        simp
        omega
    · split at hx
      · simp at hx
        subst hx
        simp
      · rename_i w t e
        rcases List.mem_cons.1 hx with rfl | hx
        · have := ih w (by rw [e]; simp)
          simp
          omega
        · have := ih x (by rw [e]; simp [hx])
          simp
          omega
theorem split_cnt (c : UInt8) (s : List UInt8) : (splitC c s).length ≤ s.length + 1 := by
  induction s with
  | nil => simp [splitC]
  | cons b l ih =>
    rw [splitC_eq]
    split
    · simp; omega
    · split
      · simp
      · rename_i w t e
        rw [e] at ih
        simp at ih ⊢
        omega
/-- the key of a text, and the error -/
def parseK (l : List UInt8) : Key × Int := match keyC l with
  | none => (⟨0, 0, 0, 0⟩, 6)
  | some k => if keyOK k = true then (k, 0) else (⟨0, 0, 0, 0⟩, 1)
end ChoP
namespace Go.Proofs.YtpniilgkceadeaaGreatDoor
open Go.RowKit
theorem split_any (s : ByteArray) (w : World) (hL : LaidP w) (hs : s.size ≤ 1000000) : Calls Tryz.prog 45 #[.string s, .string ⟨#[32]⟩] w fun e w' =>
    e = .returned (.slice (some ⟨w.heap.size, 0, none⟩) (ChoP.splitC 32 s.data.toList).length (ChoP.splitC 32 s.data.toList).length) ∧ w.alloc (.cells (strs (ChoP.splitC 32 s.data.toList)).toArray 9) = w' := by
  obtain ⟨m, hm⟩ := hL.max
  have h := Tryz.strings_Split s ⟨#[32]⟩ m w (by omega) hm (by decide)
  have e0 : (⟨#[32]⟩ : ByteArray).data.toList = [32] := rfl
  have e1 : Lib.countB s ⟨#[32]⟩ + 1 = (ChoP.splitC 32 s.data.toList).length := (ChoP.split_len 32 _ s.data.toList rfl).symm
  have e2 : (Lib.splitB ⟨#[32]⟩ 0 (Lib.countB s ⟨#[32]⟩) s).map Value.string = strs (ChoP.splitC 32 s.data.toList) := by
    have hd := Lib.splitB_data ⟨#[32]⟩ 0 (Lib.countB s ⟨#[32]⟩) s
    have hk : Lib.splitK [32] 0 (Lib.countB s ⟨#[32]⟩) s.data.toList = ChoP.splitC 32 s.data.toList := ChoP.splitK_eq 32 _ _ rfl
    rw [e0, hk] at hd
    rw [← hd, strs, List.map_map]
    rfl
  rw [e1, e2] at h
  exact h.mono fun _ _ ⟨h1, h2⟩ => ⟨h1, h2.symm⟩
/-- the scanner of a line in a new block -/
theorem SC.made (W : World) (B : Nat) (ws : List (List UInt8)) (hb : W.heap[B]? = some (.cells (strs ws).toArray 9 (0, 0))) (hlen : ∀ x ∈ ws, x.length ≤ 1000000) (hn : ws.length ≤ 1000001) :
    SC (W.alloc (.cells #[.slice (some ⟨B, 0, none⟩) ws.length ws.length, .bool false] 86)) W.heap.size ⟨ws, false⟩ := by
  have hB : B < W.heap.size := (Array.getElem?_eq_some_iff.1 hb).1
  refine ⟨⟨some ⟨B, 0, none⟩, ws.length, heap_alloc_new W _, fun _ => ⟨B, 0, rfl, hB, fun j u hu => ?_⟩, Nat.le_refl _, by show ws.length ≤ _; omega⟩, fun x hx => by have := hlen x hx; omega⟩
  rw [Nat.zero_add]
  exact cell_at ((heap_alloc_old W _ hB).trans hb) j u (by simpa using hu)
def PKPost (k : ChoP.Key) (er : Int) (w : World) (e : Ending) (w' : World) : Prop := e = .returned (.tuple #[keyV k, .int .i64 er]) ∧ Below w.heap.size w w'
theorem below_set4 {w wr : World} (h : Below w.heap.size w wr) (a b c d : Value) : Below w.heap.size w ((((wr.setCell ⟨w.heap.size, 0, none⟩ a).setCell ⟨w.heap.size, 1, none⟩ b).setCell ⟨w.heap.size, 2, none⟩ c).setCell ⟨w.heap.size, 3, none⟩ d) :=
  (((h.setCell (Nat.le_refl _) _).setCell (Nat.le_refl _) _).setCell (Nat.le_refl _) _).setCell (Nat.le_refl _) _
set_option maxRecDepth 100000 in
set_option maxHeartbeats 4000000 in
theorem parseKey_any (s : ByteArray) (w : World) (hL : LaidP w) (hs : s.size ≤ 1000000) : Calls Tryz.prog 17 #[.string s] w (PKPost (ChoP.parseK s.data.toList).1 (ChoP.parseK s.data.toList).2 w) := by
  have hsp := fun o : Obj => split_any s (w.alloc o) (hL.below ((Below.refl _ _).alloc (Nat.le_refl _) _)) hs
  have hcnt := ChoP.split_cnt 32 s.data.toList
  have hprt := ChoP.split_part 32 s.data.toList
  have hsl : s.data.toList.length = s.size := by simp
  have hkc : ChoP.keyC s.data.toList = if ((ChoP.keyS ⟨ChoP.splitC 32 s.data.toList, false⟩).2.bad = true ∨ (ChoP.keyS ⟨ChoP.splitC 32 s.data.toList, false⟩).2.ws ≠ []) then none else some (ChoP.keyS ⟨ChoP.splitC 32 s.data.toList, false⟩).1 := rfl
  have hin := ChoP.keyS_in ⟨ChoP.splitC 32 s.data.toList, false⟩
  have hpk : ChoP.parseK s.data.toList = match ChoP.keyC s.data.toList with | none => (⟨0, 0, 0, 0⟩, 6) | some k => if ChoP.keyOK k = true then (k, 0) else (⟨0, 0, 0, 0⟩, 1) := rfl
  rw [hkc] at hpk
  rw [hsl] at hcnt
  have hp2 : ∀ x ∈ ChoP.splitC 32 s.data.toList, x.length ≤ 1000000 := fun x hx => by have := hprt x hx; omega
  generalize ChoP.splitC 32 s.data.toList = ws at *
  have HL := Lib.hid hL
  have HSP := Lib.hid hsp
  have HP2 := Lib.hid hp2
  have HPK := Lib.hid hpk
  clear hsp hprt hsl hp2 hpk hL hkc
  go_enter Tryz.func17, Tryz.ntmps17
  go_wp2_with fail
  refine (HSP.out _).mono ?_
  rintro e w' ⟨rfl, rfl⟩
  go_wp2_with fail
  have hsz : ((w.alloc (.cells #[.int .u8 0, .int .i64 0, .int .i64 0, .int .i64 0] 44)).alloc (.cells (strs ws).toArray 9)).heap.size = w.heap.size + 1 + 1 := by simp
  have hblk : ((w.alloc (.cells #[.int .u8 0, .int .i64 0, .int .i64 0, .int .i64 0] 44)).alloc (.cells (strs ws).toArray 9)).heap[w.heap.size + 1]? = some (.cells (strs ws).toArray 9 (0, 0)) := by
    have := heap_alloc_new (w.alloc (.cells #[.int .u8 0, .int .i64 0, .int .i64 0, .int .i64 0] 44)) (.cells (strs ws).toArray 9)
    rwa [World.size_alloc] at this
  have hz3 : (((w.alloc (.cells #[.int .u8 0, .int .i64 0, .int .i64 0, .int .i64 0] 44)).alloc (.cells (strs ws).toArray 9)).alloc (.cells #[.slice (some ⟨w.heap.size + 1, 0, none⟩) ws.length ws.length, .bool false] 86)).heap[w.heap.size]? = some (.cells #[.int .u8 0, .int .i64 0, .int .i64 0, .int .i64 0] 44 (0, 0)) :=
    (heap_alloc_old _ _ (by simp; omega)).trans ((heap_alloc_old _ _ (by simp)).trans (heap_alloc_new w _))
  have hb3 : Below w.heap.size w (((w.alloc (.cells #[.int .u8 0, .int .i64 0, .int .i64 0, .int .i64 0] 44)).alloc (.cells (strs ws).toArray 9)).alloc (.cells #[.slice (some ⟨w.heap.size + 1, 0, none⟩) ws.length ws.length, .bool false] 86)) :=
    (((Below.refl _ _).alloc (Nat.le_refl _) _).alloc (by simp) _).alloc (by simp; omega) _
  have hsc := SC.made _ _ ws hblk HP2.out (by omega)
  rw [hsz] at hsc
  have hk := key_any _ _ _ hsc (HL.out.below hb3) (HL.out.low.mono (by omega))
  have hs3 : (((w.alloc (.cells #[.int .u8 0, .int .i64 0, .int .i64 0, .int .i64 0] 44)).alloc (.cells (strs ws).toArray 9)).alloc (.cells #[.slice (some ⟨w.heap.size + 1, 0, none⟩) ws.length ws.length, .bool false] 86)).heap.size = w.heap.size + 1 + 1 + 1 := by simp
  generalize (((w.alloc (.cells #[.int .u8 0, .int .i64 0, .int .i64 0, .int .i64 0] 44)).alloc (.cells (strs ws).toArray 9)).alloc (.cells #[.slice (some ⟨w.heap.size + 1, 0, none⟩) ws.length ws.length, .bool false] 86)) = w3 at *
  generalize ChoP.keyS ⟨ws, false⟩ = kS at *
  obtain ⟨⟨kd, ka, kb, kn⟩, ⟨ws1, bad1⟩⟩ := kS
  have HK := Lib.hid hk
  have HB3 := Lib.hid hb3
  have HZ3 := Lib.hid hz3
  have HS3 := Lib.hid hs3
  clear hk hb3 hz3 hs3 hsc hblk hsz hin
  refine HK.out.mono ?_
  rintro e w4 ⟨rfl, hs4, hg4⟩
  have e1 : keyV ⟨kd, ka, kb, kn⟩ = .agg #[.int .u8 kd, .int .i64 ka, .int .i64 kb, .int .i64 kn] := rfl
  rw [e1]
  have hz4 := (hg4.block w.heap.size (by rw [HS3.out]; omega) (by simp; omega)).trans HZ3.out
  have hb4 : Below w.heap.size w w4 := HB3.out.trans ⟨hg4.os, hg4.tape, hg4.output, hg4.size, fun k hk => hg4.block k (by rw [HS3.out]; omega) (by simp; omega)⟩
  obtain ⟨X, c, hblk, hX1, hX2, hX3⟩ := hs4.at_
  have hq4 := hs4.lt
  obtain ⟨⟨q0, q1⟩, _⟩ := blk2 hblk
  obtain ⟨z0, z1, z2, z3⟩ := blk4 hz4
  have y0 := frozen_at hz4 0
  have y1 := frozen_at hz4 1
  have y2 := frozen_at hz4 2
  have y3 := frozen_at hz4 3
  have hck := fun W => checkKey_any ⟨kd, ka, kb, kn⟩ W
  rw [e1] at hck
  have HCK := Lib.hid hck
  have HB4 := Lib.hid hb4
  have HZ4 := Lib.hid hz4
  have hz : w.heap.size < w4.heap.size := by omega
  clear hs4 hg4 hz4 hb4 hblk hX1 hX2 hX3 hck e1 HK HZ3 HS3 HSP HB3 hcnt
  have hpk := HPK.out
  dsimp only at hpk
  cases bad1
  · cases ws1 with
    | nil =>
      rw [if_neg (by simp)] at hpk
      dsimp only at hpk
      have hek : errK ⟨kd, ka, kb, kn⟩ = if ChoP.keyOK ⟨kd, ka, kb, kn⟩ = true then 0 else 1 := rfl
      have HPK2 := Lib.hid hpk
      have HEK := Lib.hid hek
      clear hpk HPK hek
      go_wp2_with fail
      refine (HCK.out _).mono ?_
      rintro e w5 ⟨rfl, hb5⟩
      rw [World.size_alloc] at hb5
      have hba := heap_alloc_new w4 (.cells #[.int .u8 kd, .int .i64 ka, .int .i64 kb, .int .i64 kn] 44)
      have hbk := (hb5.block w4.heap.size (by omega)).trans hba
      have hbz := (hb5.block w.heap.size (by omega)).trans ((heap_alloc_old w4 _ hz).trans HZ4.out)
      obtain ⟨k0, k1, k2, k3⟩ := blk4 hbk
      clear z0 z1 z2 z3 y0 y1 y2 y3
      obtain ⟨z0, z1, z2, z3⟩ := blk4 hbz
      have y0 := frozen_at hbz 0
      have y1 := frozen_at hbz 1
      have y2 := frozen_at hbz 2
      have y3 := frozen_at hbz 3
      have HB5 := Lib.hid ((HB4.out.alloc HB4.out.size _).trans (hb5.mono (by omega)))
      clear hb5 hba hbk hbz HCK q0 q1
      rw [HEK.out]
      have hneq : w4.heap.size ≠ w.heap.size := by omega
      cases hok : ChoP.keyOK ⟨kd, ka, kb, kn⟩
      · have hpk := HPK2.out
        rw [hok, if_neg (by simp)] at hpk
        have HPK3 := Lib.hid hpk
        clear hpk HPK2 HEK
        rw [if_neg (by simp)]
        go_wp2_with fail
        rw [HPK3.out]
        exact bodyPost_ret (v := .tuple #[keyV ⟨0, 0, 0, 0⟩, .int .i64 1]) (by simp [results, Tryz.results17, go_sem, z0, z1, z2, z3, keyV]) rfl ⟨rfl, below_set4 HB5.out _ _ _ _⟩
      · have hpk := HPK2.out
        rw [hok, if_pos rfl] at hpk
        have HPK3 := Lib.hid hpk
        clear hpk HPK2 HEK
        rw [if_pos rfl]
        go_wp2_with fail
        rw [HPK3.out]
        exact bodyPost_ret (v := .tuple #[keyV ⟨kd, ka, kb, kn⟩, .int .i64 0]) (by simp [results, Tryz.results17, go_sem, z0, z1, z2, z3, keyV]) rfl ⟨rfl, below_set4 HB5.out _ _ _ _⟩
    | cons x r =>
      rw [if_pos (by simp)] at hpk
      have HPK2 := Lib.hid hpk
      clear hpk HPK HCK
      go_wp2_with fail
      rw [HPK2.out]
      exact bodyPost_ret (v := .tuple #[keyV ⟨0, 0, 0, 0⟩, .int .i64 6]) (by simp [results, Tryz.results17, go_sem, World.cell?_alloc_lt, World.size_setCell, hz, z0, z1, z2, z3, keyV]) rfl ⟨rfl, (below_set4 HB4.out _ _ _ _).alloc (by simp only [World.size_setCell]; omega) _⟩
  · rw [if_pos (by simp)] at hpk
    have HPK2 := Lib.hid hpk
    clear hpk HPK HCK
    go_wp2_with fail
    rw [HPK2.out]
    exact bodyPost_ret (v := .tuple #[keyV ⟨0, 0, 0, 0⟩, .int .i64 6]) (by simp [results, Tryz.results17, go_sem, World.cell?_alloc_lt, World.size_setCell, hz, z0, z1, z2, z3, keyV]) rfl ⟨rfl, (below_set4 HB4.out _ _ _ _).alloc (by simp only [World.size_setCell]; omega) _⟩
end Go.Proofs.YtpniilgkceadeaaGreatDoor
