/- choice's scanner: its method key. -/
import Derived.Test.YtpniilgkceadeaaGreatDoorChoScan
import Derived.Test.YtpniilgkceadeaaGreatDoorChoBytes
import Derived.Test.YtpniilgkceadeaaGreatDoorChoParseP
namespace ChoP
theorem kindTo_yes {k : Nat} {w : List UInt8} (h0 : 0 < k) (h : (words[k]?.getD [] == w) = true) : kindTo (k + 1) w = k := by
  rw [kindTo, if_pos ⟨h0, by simpa [List.getD] using h⟩]
theorem kindTo_no {k : Nat} {w : List UInt8} (h : (words[k]?.getD [] == w) = false) : kindTo (k + 1) w = kindTo k w := by
  rw [kindTo, if_neg]
  rintro ⟨_, e⟩
  have : (words[k]?.getD [] == w) = true := by simpa [List.getD] using e
  rw [h] at this
  cases this
theorem kindTo_zero (w : List UInt8) : kindTo (0 + 1) w = 0 := by
  rw [kindTo, if_neg (by omega)]
  rfl
end ChoP
namespace Go.Proofs.YtpniilgkceadeaaGreatDoor
open Go.RowKit
theorem under_words10 : Tryz.prog.underlying 106 = some (.array 10 9) := by kernel_rfl
theorem size_words10 : (Tryz.prog.info? 106).map (·.size) = some wordsV.size := by kernel_rfl
theorem idx_words10 (w : World) (k : Nat) (hk : k < 10) : (Instr.index 106 (.agg wordsV) (.int .i64 k)).run Tryz.prog w = .ok (strV (ChoP.words.getD k [])) w :=
  run_index_row w _ 9 10 _ k _ (by kernel_rfl) hk (by kernel_rfl)
    (by have h2 : k < ChoP.words.length := hk
        simp [wordsV, strV, h2]) (by kernel_rfl)
def zeroKey : Array Value := #[.int .u8 0, .int .i64 0, .int .i64 0, .int .i64 0]
/-- while a key is taken: the scanner, the result's block, the key's block -/
structure KS (w wr : World) (q : Nat) (s : ChoP.PS) (cs : Array Value) : Prop where
  sc : SC wr q s
  z : wr.heap[w.heap.size]? = some (.cells zeroKey 44 (0, 0))
  g : wr.heap[w.heap.size + 1]? = some (.cells cs 44 (0, 0))
  gr : w.grownBy wr (some q)
  laid : LaidP wr
  lt : q < w.heap.size
  low : LowP q
theorem KS.num {w wr w2 : World} {q : Nat} {s s' : ChoP.PS} {cs : Array Value} (h : KS w wr q s cs) (hs : SC w2 q s') (hg : wr.grownBy w2 (some q)) : KS w w2 q s' cs := by
  have hlt := h.lt
  have hz : w.heap.size < wr.heap.size := (Array.getElem?_eq_some_iff.1 h.z).1
  have hG : w.heap.size + 1 < wr.heap.size := (Array.getElem?_eq_some_iff.1 h.g).1
  exact ⟨hs, (hg.block _ hz (by simp; omega)).trans h.z, (hg.block _ hG (by simp; omega)).trans h.g, grown_trans h.gr hg,
    h.laid.keep (B := q) h.low ⟨hg.os, hg.tape, hg.output, hg.size, fun k hk => hg.block k (by omega) (by simp; omega)⟩, h.lt, h.low⟩
theorem KS.setG {w wr : World} {q : Nat} {s : ChoP.PS} {cs : Array Value} (h : KS w wr q s cs) (i : Nat) (u : Value) : KS w (wr.setCell ⟨w.heap.size + 1, i, none⟩ u) q s (cs.setIfInBounds i u) := by
  have hlt := h.lt
  exact ⟨h.sc.blocks (fun b hb => Go.Deep.blk_setCell_other _ _ _ _ (by show b ≠ w.heap.size + 1; omega)), (Go.Deep.blk_setCell_other _ _ _ _ (by show w.heap.size ≠ w.heap.size + 1; omega)).trans h.z, blk_set h.g,
    grown_set_ge h.gr _ (by show w.heap.size ≤ w.heap.size + 1; omega) _,
    h.laid.keep (B := q) h.low ((Below.refl _ _).setCell (by show q ≤ w.heap.size + 1; omega) _), h.lt, h.low⟩
theorem KS.bad {w wr : World} {q : Nat} {s : ChoP.PS} {cs : Array Value} (h : KS w wr q s cs) : KS w (wr.setCell ⟨q, 1, none⟩ (.bool true)) q ⟨s.ws, true⟩ cs := by
  have hlt := h.lt
  obtain ⟨X, c, hb, hl, h3, h4⟩ := h.sc.at_
  refine KS.num h (SC.put hb rfl hl h3 h4 h.sc.len) (grown_set _ _ _ _)
/-- the result is laid into its block -/
theorem KS.fin {w wr : World} {q : Nat} {s : ChoP.PS} {cs : Array Value} (h : KS w wr q s cs) (a b c d v : Value) :
    SPost q v s w (.returned v) ((((wr.setCell ⟨w.heap.size, 0, none⟩ a).setCell ⟨w.heap.size, 1, none⟩ b).setCell ⟨w.heap.size, 2, none⟩ c).setCell ⟨w.heap.size, 3, none⟩ d) := by
  have hlt := h.lt
  have hs : ∀ (W : World) (i : Nat) (u : Value), SC W q s → SC (W.setCell ⟨w.heap.size, i, none⟩ u) q s := fun W i u hW => hW.blocks (fun b hb => Go.Deep.blk_setCell_other _ _ _ _ (by show b ≠ w.heap.size; omega))
  have hle : w.heap.size ≤ w.heap.size := Nat.le_refl _
  exact ⟨rfl, hs _ _ _ (hs _ _ _ (hs _ _ _ (hs _ _ _ h.sc))), grown_set_ge (grown_set_ge (grown_set_ge (grown_set_ge h.gr _ hle _) _ hle _) _ hle _) _ hle _⟩
set_option maxRecDepth 100000 in
set_option maxHeartbeats 4000000 in
theorem key_any (q : Nat) (s : ChoP.PS) (w : World) (h : SC w q s) (hL : LaidP w) (hq : LowP q) : Calls Tryz.prog 52 #[.pointer (some ⟨q, 0, none⟩)] w (SPost q (keyV (ChoP.keyS s).1) (ChoP.keyS s).2 w) := by
  have hqw := h.lt
  have hba : ∀ o1 o2 : Obj, Below w.heap.size w ((w.alloc o1).alloc o2) := fun o1 o2 => ((Below.refl _ _).alloc (Nat.le_refl _) o1).alloc (by rw [World.size_alloc]; omega) o2
  have hw := fun o1 o2 : Obj => word_any q s ((w.alloc o1).alloc o2) (h.below (hba o1 o2))
  have HW := Lib.hid hw
  have HBA := Lib.hid hba
  have HL := Lib.hid hL
  have HQ := Lib.hid hq
  clear hw hba hL hq
  go_enter Tryz.func52, Tryz.ntmps52
  go_wp2_with fail
  refine (HW.out _ _).mono ?_
  rintro e w1 ⟨rfl, hs1, hg1⟩
  have hk1 : KS w w1 q (ChoP.wordS s).2 zeroKey := by
    refine ⟨hs1, (hg1.block w.heap.size (by simp; omega) (by simp; omega)).trans ((heap_alloc_old _ _ (by simp)).trans (heap_alloc_new w _)), ?_, ?_, ?_, hqw, HQ.out⟩
    · refine (hg1.block (w.heap.size + 1) (by simp) (by simp; omega)).trans ?_
      have := heap_alloc_new (w.alloc (.cells #[.int .u8 0, .int .i64 0, .int .i64 0, .int .i64 0] 44)) (.cells #[.int .u8 0, .int .i64 0, .int .i64 0, .int .i64 0] 44)
      rwa [World.size_alloc] at this
    · exact grown_trans (grown_trans (World.grownBy_alloc _ _ _) (World.grownBy_alloc _ _ _)) hg1
    · exact HL.out.keep (B := q) HQ.out (((HBA.out _ _).mono (by omega)).trans ⟨hg1.os, hg1.tape, hg1.output, hg1.size, fun k hk => hg1.block k (by simp; omega) (by simp; omega)⟩)
  have hks : ChoP.keyS s = if ChoP.kindOf (ChoP.wordS s).1 = 0 then (⟨0, 0, 0, 0⟩, ⟨(ChoP.wordS s).2.ws, true⟩) else (⟨(ChoP.kindOf (ChoP.wordS s).1 : Int), (ChoP.keyA s).1, (ChoP.keyB s).1, (ChoP.keyN s).1⟩, (ChoP.keyN s).2) := rfl
  have eA : ChoP.keyA s = ChoP.numS (ChoP.wordS s).2 := rfl
  have eB : ChoP.keyB s = if ChoP.pairB (ChoP.kindOf (ChoP.wordS s).1 : Int) = true then ChoP.numS (ChoP.keyA s).2 else (0, (ChoP.keyA s).2) := rfl
  have eN : ChoP.keyN s = ChoP.numS (ChoP.keyB s).2 := rfl
  obtain ⟨tt, fr, hgw⟩ := hk1.laid.laid.1
  have hkl := ChoP.kindTo_lt 10 (ChoP.wordS s).1
  generalize (ChoP.wordS s).1 = wd at *
  generalize (ChoP.wordS s).2 = s1 at *
  have HGW := Lib.hid hgw
  have HK1 := Lib.hid hk1
  have HKS := Lib.hid hks
  have HEA := Lib.hid eA
  have HEB := Lib.hid eB
  have HEN := Lib.hid eN
  clear hs1 hg1 hk1 hgw hks eA eB eN HW HBA h
  go_wp2_with (refine wpList_load_row rfl 106 _ rfl 0 rfl tt _ fr _ HGW.out under_words10 rfl size_words10 ?_)
  go_loopw [10] (fun i wr => ∃ k : Nat, k ≤ 10 ∧ i = .int .i64 k ∧ KS w wr q s1 #[.int .u8 (ChoP.kindTo k wd : Int), .int .i64 0, .int .i64 0, .int .i64 0]) (fun i _ => 10 - (intOf i).toNat)
  case atStart => exact ⟨0, by omega, rfl, HK1.out⟩
  case round =>
    obtain ⟨k, hk, rfl, hks⟩ := hrel
    have HK := Lib.hid hks
    have g0 := cell_at hks.g 0 _ rfl
    have y0 := frozen_at hks.g 0
    clear hks HK1
    by_cases hlt : k < 10
    · have hix := fun w => idx_words10 w k hlt
      rcases Nat.eq_zero_or_pos k with h0 | h0
      · have hgt : ¬ (0 : Int) < (k : Int) := by omega
        have HK' : Hid (KS w wr q s1 #[.int .u8 (ChoP.kindTo (k + 1) wd : Int), .int .i64 0, .int .i64 0, .int .i64 0]) := Lib.hid (by subst h0; rw [ChoP.kindTo_zero]; exact HK.out)
        clear h0
        go_wp2_with fail
        go_roundw
        case rel => exact ⟨k + 1, by omega, by go_num, HK'.out⟩
        case measure => simp [intOf]; omega
      · have hgt : (0 : Int) < (k : Int) := by omega
        have hwr : IntKind.u8.wrap (k : Int) = (k : Int) := by simp [IntKind.wrap, IntKind.bits, IntKind.signed]; omega
        cases hqe : (ChoP.words[k]?.getD [] == wd)
        · go_wp2_with fail
          go_roundw
          case rel => exact ⟨k + 1, by omega, by go_num, by rw [ChoP.kindTo_no hqe]; exact HK.out⟩
          case measure => simp [intOf]; omega
        · have hset := HK.out.setG 0 (.int .u8 (k : Int))
          have HSET := Lib.hid hset
          clear hset
          go_wp2_with fail
          go_roundw
          case rel => exact ⟨k + 1, by omega, by go_num, by rw [ChoP.kindTo_yes h0 hqe]; exact HSET.out⟩
          case measure => simp [intOf]; omega
    · obtain rfl : k = 10 := by omega
      have hkk : ChoP.kindTo 10 wd = ChoP.kindOf wd := rfl
      rw [hkk] at HK g0 hkl
      clear hkk y0
      have hneqG : q ≠ w.heap.size + 1 := by omega
      have hneqZ : q ≠ w.heap.size := by omega
      have hneGZ : w.heap.size + 1 ≠ w.heap.size := by omega
      by_cases h0 : ChoP.kindOf wd = 0
      · have hbad := HK.out.bad
        have hks := HKS.out
        rw [h0] at hbad g0
        rw [if_pos h0] at hks
        obtain ⟨X, c, hblk, _, _, _⟩ := HK.out.sc.at_
        obtain ⟨⟨_, q1⟩, ⟨_, p1⟩⟩ := blk2 hblk
        obtain ⟨a0, a1, a2, a3⟩ := blk4 (v0 := .int .u8 0) (v1 := .int .i64 0) (v2 := .int .i64 0) (v3 := .int .i64 0) hbad.g
        obtain ⟨z0, z1, z2, z3⟩ := blk4 (v0 := .int .u8 0) (v1 := .int .i64 0) (v2 := .int .i64 0) (v3 := .int .i64 0) hbad.z
        have x0 := frozen_at hbad.z 0
        have x1 := frozen_at hbad.z 1
        have x2 := frozen_at hbad.z 2
        have x3 := frozen_at hbad.z 3
        have HBAD := Lib.hid hbad
        have HKS2 := Lib.hid hks
        clear hbad hks hblk h0 HK HKS HEA HEB HEN
        go_wp2_with fail
        rw [HKS2.out]
        exact bodyPost_ret (v := keyV ⟨0, 0, 0, 0⟩) (by simp [results, Tryz.results52, go_sem, z0, z1, z2, z3, keyV]) rfl (HBAD.out.fin _ _ _ _ _)
      · have hks := HKS.out
        rw [if_neg h0] at hks
        have h00 : ((ChoP.kindOf wd : Int) == 0) = false := by rw [beq_eq_false_iff_ne]; omega
        have eA := HEA.out
        have eB := HEB.out
        have eN := HEN.out
        generalize ChoP.kindOf wd = K at *
        have hnum := fun (ss : ChoP.PS) (W : World) (cs : Array Value) (hW : KS w W q ss cs) => sNumber_any q ss W hW.sc hW.laid hW.low
        have HNUM := Lib.hid hnum
        clear h0 HKS HEA HEB HEN hnum
        generalize ChoP.keyA s = kA at *
        generalize ChoP.keyN s = kN at *
        obtain ⟨av, as_⟩ := kA
        have HKS2 := Lib.hid hks
        have HEN := Lib.hid eN
        have HEB := Lib.hid eB
        have hn1 := HNUM.out s1 wr _ HK.out
        rw [← eA] at hn1
        have HN1 := Lib.hid hn1
        clear hks eN eB eA hn1
        go_wp2_with fail
        refine HN1.out.mono ?_
        rintro e w2 ⟨rfl, hs2, hg2⟩
        have hk2 := HK.out.num hs2 hg2
        obtain ⟨a0, a1, a2, a3⟩ := blk4 (v0 := .int .u8 (K : Int)) (v1 := .int .i64 0) (v2 := .int .i64 0) (v3 := .int .i64 0) hk2.g
        have y1 := frozen_at hk2.g 1
        have hk3 : KS w (w2.setCell ⟨w.heap.size + 1, 1, none⟩ (.int .i64 av)) q as_ #[.int .u8 (K : Int), .int .i64 av, .int .i64 0, .int .i64 0] := hk2.setG 1 _
        have HK3 := Lib.hid hk3
        clear hs2 hg2 hk2 hk3 HN1 HK g0
        go_wp2_with fail
        refine (pair_any _ _).mono ?_
        rintro e w' ⟨rfl, rfl⟩
        clear a0 a1 a2 a3 y1
        generalize w2.setCell ⟨w.heap.size + 1, 1, none⟩ (.int .i64 av) = w3 at *
        have heb := HEB.out
        cases hp : ChoP.pairB (K : Int)
        · rw [hp, if_neg (by simp)] at heb
          have hn3 := HNUM.out as_ w3 _ HK3.out
          have hen := HEN.out
          have eb1 : (ChoP.keyB s).1 = 0 := by rw [heb]
          rw [heb] at hen
          rw [← hen] at hn3
          have hks2 := HKS2.out
          rw [eb1] at hks2
          have HKS3 := Lib.hid hks2
          have HN3 := Lib.hid hn3
          clear hn3 hen heb HEB eb1 hks2
          go_wp2_with fail
          refine HN3.out.mono ?_
          rintro e w6 ⟨rfl, hs6, hg6⟩
          have hk6 := HK3.out.num hs6 hg6
          have hk7 : KS w (w6.setCell ⟨w.heap.size + 1, 3, none⟩ (.int .i64 kN.1)) q kN.2 #[.int .u8 (K : Int), .int .i64 av, .int .i64 0, .int .i64 kN.1] := hk6.setG 3 _
          obtain ⟨a0, a1, a2, a3⟩ := blk4 (v0 := .int .u8 (K : Int)) (v1 := .int .i64 av) (v2 := .int .i64 0) (v3 := .int .i64 0) hk6.g
          have y3 := frozen_at hk6.g 3
          obtain ⟨z0, z1, z2, z3⟩ := blk4 (v0 := .int .u8 0) (v1 := .int .i64 0) (v2 := .int .i64 0) (v3 := .int .i64 0) hk7.z
          have x0 := frozen_at hk7.z 0
          have x1 := frozen_at hk7.z 1
          have x2 := frozen_at hk7.z 2
          have x3 := frozen_at hk7.z 3
          have HK7 := Lib.hid hk7
          clear hs6 hg6 hk6 hk7 HN3 HK3
          go_wp2_with fail
          rw [HKS3.out]
          exact bodyPost_ret (v := keyV ⟨K, av, 0, kN.1⟩) (by simp [results, Tryz.results52, go_sem, z0, z1, z2, z3, keyV]) rfl (HK7.out.fin _ _ _ _ _)
        · rw [hp, if_pos rfl] at heb
          have hn2 := HNUM.out as_ w3 _ HK3.out
          rw [← heb] at hn2
          generalize ChoP.keyB s = kB at *
          obtain ⟨bv, bs⟩ := kB
          have HN2 := Lib.hid hn2
          clear hn2 heb HEB
          go_wp2_with fail
          refine HN2.out.mono ?_
          rintro e w4 ⟨rfl, hs4, hg4⟩
          have hk4 := HK3.out.num hs4 hg4
          obtain ⟨a0, a1, a2, a3⟩ := blk4 (v0 := .int .u8 (K : Int)) (v1 := .int .i64 av) (v2 := .int .i64 0) (v3 := .int .i64 0) hk4.g
          have y2 := frozen_at hk4.g 2
          have hk5 : KS w (w4.setCell ⟨w.heap.size + 1, 2, none⟩ (.int .i64 bv)) q bs #[.int .u8 (K : Int), .int .i64 av, .int .i64 bv, .int .i64 0] := hk4.setG 2 _
          have hn3 := HNUM.out bs _ _ hk5
          have hen := HEN.out
          rw [← hen] at hn3
          have HN3 := Lib.hid hn3
          have HK5 := Lib.hid hk5
          clear hs4 hg4 hk4 hk5 hn3 hen HN2 HK3
          go_wp2_with fail
          refine HN3.out.mono ?_
          clear a0 a1 a2 a3 y2
          rintro e w6 ⟨rfl, hs6, hg6⟩
          have hk6 := HK5.out.num hs6 hg6
          have hk7 : KS w (w6.setCell ⟨w.heap.size + 1, 3, none⟩ (.int .i64 kN.1)) q kN.2 #[.int .u8 (K : Int), .int .i64 av, .int .i64 bv, .int .i64 kN.1] := hk6.setG 3 _
          obtain ⟨a0, a1, a2, a3⟩ := blk4 (v0 := .int .u8 (K : Int)) (v1 := .int .i64 av) (v2 := .int .i64 bv) (v3 := .int .i64 0) hk6.g
          have y3 := frozen_at hk6.g 3
          obtain ⟨z0, z1, z2, z3⟩ := blk4 (v0 := .int .u8 0) (v1 := .int .i64 0) (v2 := .int .i64 0) (v3 := .int .i64 0) hk7.z
          have x0 := frozen_at hk7.z 0
          have x1 := frozen_at hk7.z 1
          have x2 := frozen_at hk7.z 2
          have x3 := frozen_at hk7.z 3
          have HK7 := Lib.hid hk7
          clear hs6 hg6 hk6 hk7 HN3 HK5
          go_wp2_with fail
          rw [HKS2.out]
          exact bodyPost_ret (v := keyV ⟨K, av, bv, kN.1⟩) (by simp [results, Tryz.results52, go_sem, z0, z1, z2, z3, keyV]) rfl (HK7.out.fin _ _ _ _ _)
end Go.Proofs.YtpniilgkceadeaaGreatDoor
