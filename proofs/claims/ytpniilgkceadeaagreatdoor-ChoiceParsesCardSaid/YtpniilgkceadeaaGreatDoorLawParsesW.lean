/- The walk of the law on the parsing of sets and keys. -/
import Derived.Test.YtpniilgkceadeaaGreatDoorChoAwake
import Derived.Test.YtpniilgkceadeaaGreatDoorChoParse
import Derived.Test.YtpniilgkceadeaaGreatDoorChoRefParseT
import Derived.Test.YtpniilgkceadeaaGreatDoorChoAll
import Derived.Test.YtpniilgkceadeaaGreatDoorChoSame
namespace Go.Proofs.YtpniilgkceadeaaGreatDoor
open Go.RowKit Go.Sort
set_option maxRecDepth 100000 in
set_option maxHeartbeats 4000000 in
theorem choiceParses_walk (s0 s1 : ByteArray) (w : World) (hL : LaidP w) (h0 : s0.size ≤ 140737488351232) (h1 : s1.size ≤ 140737488351232) : Calls Tryz.prog 4 #[.string s0, .string s1] w (TruePost w) := by
  obtain ⟨M, hM⟩ : ∃ M : Nat, min (s0.size : Int) 3000 = M := ⟨(min (s0.size : Int) 3000).toNat, by omega⟩
  obtain ⟨K, hK⟩ : ∃ K : Nat, min (s1.size : Int) 100 = K := ⟨(min (s1.size : Int) 100).toNat, by omega⟩
  have hM1 : (M : Int) ≤ (s0.size : Int) := by omega
  have hM2 : M ≤ 3000 := by omega
  have hK1 : (K : Int) ≤ (s1.size : Int) := by omega
  have hK2 : K ≤ 100 := by omega
  have hM0 : (0 : Int) ≤ (M : Int) := by omega
  have hK0 : (0 : Int) ≤ (K : Int) := by omega
  have hx0 : (s0.extract 0 M).size ≤ 1000000 := by rw [ByteArray.size_extract]; omega
  have hx1 : (s1.extract 0 K).size ≤ 1000000 := by rw [ByteArray.size_extract]; omega
  have HL := Lib.hid hL
  have HX0 := Lib.hid hx0
  have HX1 := Lib.hid hx1
  clear hL hx0 hx1
  go_enter Tryz.func4, Tryz.ntmps4
  go_wp2_with fail
  refine (awake_any w HL.out.laid).mono ?_
  rintro e w1 ⟨rfl, hb⟩
  have HB := Lib.hid hb
  have hz1 := hb.size
  clear hb
  go_wp2_with fail
  go_region
  generalize s0.extract 0 M = t0 at *
  generalize s1.extract 0 K = t1 at *
  have HB1 : Hid (RowKit.Below w.heap.size w w1.drew) := Lib.hid HB.out.drew
  have hz1d : w.heap.size ≤ w1.drew.heap.size := hz1
  clear HB hM hK hM1 hM0 hK1 hK0 hz1
  generalize w1.drew = w1 at *
  have HL1 := Lib.hid (HL.out.below HB1.out)
  go_wp2_with fail
  refine (parse_any t0 w1 HL1.out HX0.out).mono ?_
  rintro e w2 ⟨A, ps, c, rfl, hps, hset, hch, hc, hc2, hb2⟩
  have hz2 := hb2.size
  have hpl : ps.length ≤ 96 := by
    have h1 := hset.le
    simpa [cho] using h1
  have hok : ∀ p ∈ ps, ChoP.okC p.2 = true := fun p hp => hset.ok _ (List.mem_map.2 ⟨p, hp, rfl⟩)
  have hba : ∀ o : Obj, RowKit.Below w2.heap.size w2 (w2.alloc o) := fun o => (RowKit.Below.refl _ _).alloc (Nat.le_refl _) _
  have HPS := Lib.hid hps
  have HCH := Lib.hid hch
  have HOK := Lib.hid hok
  have HB2 := Lib.hid hb2
  clear hps hset hch hok hb2
  generalize hR : ChoP.parseT t0.data.toList = R at *
  have HR := Lib.hid hR
  clear hR
  go_wp2_with fail
  refine (refParseT_any t0 _ HX0.out).mono ?_
  rintro e w3 ⟨B, qs, d, rfl, hqs, hcq, hd, hd2, hb3⟩
  rw [HR.out] at hqs ⊢
  rw [World.size_alloc] at hb3
  have hs3 : w3.cell? ⟨w2.heap.size, 0, none⟩ = some (.slice A ps.length c) := (hb3.cell (p := ⟨w2.heap.size, 0, none⟩) (by simp)).trans (cell_at (heap_alloc_new w2 _) 0 _ rfl)
  have hb23 : RowKit.Below w2.heap.size w2 w3 := (hba _).trans (hb3.mono (by omega))
  have hz3 : w2.heap.size + 1 ≤ w3.heap.size := by have := hb3.size; rw [World.size_alloc] at this; exact this
  have HQS := Lib.hid hqs
  have HCQ := Lib.hid hcq
  have HB23 := Lib.hid hb23
  have HL3 := Lib.hid (HL1.out.below (HB2.out.trans (hb23.mono hz2)))
  clear hqs hcq hb3 hb23 hba HR
  go_wp2_with fail
  refine (parseKey_any t1 w3 HL3.out HX1.out).mono ?_
  rintro e w4 ⟨rfl, hb4⟩
  generalize hP : ChoP.parseK t1.data.toList = pk at *
  have HP := Lib.hid hP
  clear hP
  obtain ⟨⟨kd, ka, kb, kn⟩, er⟩ := pk
  have e1 : keyV ⟨kd, ka, kb, kn⟩ = .agg #[.int .u8 kd, .int .i64 ka, .int .i64 kb, .int .i64 kn] := rfl
  rw [e1]
  have hs4 := (hb4.cell (p := ⟨w2.heap.size, 0, none⟩) (by show w2.heap.size < _; omega)).trans hs3
  have hz4 := hb4.size
  have HB4 := Lib.hid hb4
  clear hb4 hs3
  go_wp2_with fail
  refine (refParseKey_any t1 _ HX1.out).mono ?_
  rintro e w5 ⟨rfl, hb5⟩
  rw [HP.out, e1]
  rw [World.size_alloc] at hb5
  have hk5 := (hb5.block w4.heap.size (by omega)).trans (heap_alloc_new w4 _)
  have hs5 := (hb5.cell (p := ⟨w2.heap.size, 0, none⟩) (by show w2.heap.size < _; omega)).trans ((World.cell?_alloc_lt _ _ _ (by show w2.heap.size < _; omega)).trans hs4)
  dsimp only
  have hb45 : RowKit.Below w4.heap.size w4 w5 := ((RowKit.Below.refl _ _).alloc (Nat.le_refl _) _).trans (hb5.mono (by omega))
  have hz5 : w4.heap.size + 1 ≤ w5.heap.size := by have := hb5.size; rw [World.size_alloc] at this; exact this
  have hb25 : RowKit.Below w2.heap.size w2 w5 := HB23.out.trans ((HB4.out.mono (by omega)).trans (hb45.mono (by omega)))
  have hcq5 : Chos w5 w5.heap.size B qs := (HCQ.out.below HB4.out hz4).below hb45 (by omega)
  have hch5 : Chos w5 w5.heap.size A ps := HCH.out.below hb25 (by omega)
  have HCQ5 := Lib.hid hcq5
  have HCH5 := Lib.hid hch5
  have HB5 : Hid (RowKit.Below w.heap.size w w5) := Lib.hid (HB1.out.trans ((HB2.out.mono hz1d).trans (hb25.mono (by omega))))
  have HK5 := Lib.hid hk5
  clear hs4 hb5 hb45 hb25 hcq5 hch5 hk5 HL HL1 HL3 HB1 HB2 HB23 HB4 HCQ HCH HP e1
  have hal := fun o : Obj => all_any A ps c (w5.alloc o) (HCH5.out.below ((RowKit.Below.refl _ _).alloc (Nat.le_refl _) _) (by rw [World.size_alloc]; omega)) hpl HOK.out
  have HAL := Lib.hid hal
  clear hal
  have hlt25 : w2.heap.size < w5.heap.size := by omega
  have hr1 : (R.err == R.err) = true := by simp
  have hr2 : ((R.at_ : Int) == (R.at_ : Int)) = true := by simp
  go_wp2_with fail
  refine (HAL.out _).mono ?_
  rintro e w6 ⟨A6, ps6, c6, rfl, hps6, hch6, hc6, hc62, _, hb6⟩
  rw [World.size_alloc] at hb6
  have hk6 := (hb6.block w5.heap.size (by omega)).trans (heap_alloc_new w5 _)
  have hj6 := (hb6.block w4.heap.size (by omega)).trans ((heap_alloc_old w5 _ (by omega)).trans HK5.out)
  obtain ⟨k0, k1, k2, k3⟩ := blk4 hk6
  obtain ⟨j0, j1, j2, j3⟩ := blk4 hj6
  have hb56 : RowKit.Below w5.heap.size w5 w6 := ((RowKit.Below.refl _ _).alloc (Nat.le_refl _) _).trans (hb6.mono (by omega))
  have hz6 : w5.heap.size + 1 ≤ w6.heap.size := by have := hb6.size; rw [World.size_alloc] at this; exact this
  have hpl6 : ps6.length ≤ 65536 := by
    have h1 := congrArg List.length hps6
    simp only [cho, List.length_map] at h1
    omega
  have hss := sameSet_any A6 B ps6 qs c6 d w6 hch6 (HCQ5.out.below hb56 (by omega)) hpl6
  rw [hps6, HPS.out, ← HQS.out, (ChoP.eqL_iff _ _).2 rfl] at hss
  have HSS := Lib.hid hss
  have HK6 := Lib.hid hk6
  have HJ6 := Lib.hid hj6
  have HB6 := Lib.hid (HB5.out.trans (hb56.mono (by omega)))
  have hle6 := HB6.out.size
  clear hk6 hj6 hb56 hb6 hps6 hch6 hss k0 k1 k2 k3 j0 j1 j2 j3 hs5
  go_wp2_with fail
  refine HSS.out.mono ?_
  rintro e w7 ⟨rfl, hb7⟩
  have hk7 := (hb7.block w5.heap.size (by omega)).trans HK6.out
  have hj7 := (hb7.block w4.heap.size (by omega)).trans HJ6.out
  obtain ⟨k0, k1, k2, k3⟩ := blk4 hk7
  obtain ⟨j0, j1, j2, j3⟩ := blk4 hj7
  have HB7 := Lib.hid (HB6.out.trans (hb7.mono hle6))
  have hkeq : ChoP.eqB ⟨kd, ka, kb, kn⟩ ⟨kd, ka, kb, kn⟩ = true := (ChoP.eqB_iff _ _).2 rfl
  have hke := fun W => key_equalIn kd ka kb kn kd ka kb kn W
  rw [hkeq] at hke
  have hkg := key_guard
  have hr3 : (er == er) = true := by simp
  clear hb7 hk7 hj7 HSS HK6 HJ6 hkeq
  go_wp2_with fail
  go_ret
  exact ⟨rfl, HB7.out⟩
end Go.Proofs.YtpniilgkceadeaaGreatDoor
