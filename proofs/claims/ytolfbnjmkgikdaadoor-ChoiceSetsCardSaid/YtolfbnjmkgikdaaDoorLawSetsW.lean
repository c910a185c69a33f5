/- The walk of the law on sets. -/
import Derived.Test.YtolfbnjmkgikdaaDoorChoAwake
import Derived.Test.YtolfbnjmkgikdaaDoorChoRefNew
import Derived.Test.YtolfbnjmkgikdaaDoorChoNewF
import Derived.Test.YtolfbnjmkgikdaaDoorChoFew
import Derived.Test.YtolfbnjmkgikdaaDoorChoGet
import Derived.Test.YtolfbnjmkgikdaaDoorChoSameSet
import Derived.Test.YtolfbnjmkgikdaaDoorChoKeyEq
namespace ChoP
theorem setL_ord (l : List Cho) : Ord (setL l) := by
  unfold setL
  split
  · rename_i h
    refine isort_ord _ ?_
    unfold errNew at h
    split at h
    · cases h
    · split at h
      · cases h
      · rename_i hx
        simpa using hx
  · exact List.Pairwise.nil
theorem setL_ok (l : List Cho) : ∀ x ∈ setL l, okC x = true := by
  intro x hx
  unfold setL at hx
  split at hx
  · rename_i h
    unfold errNew at h
    split at h
    · cases h
    · rename_i hk
      have h1 := (isort_perm l).mem_iff.1 hx
      have h2 : l.all okC = true := by simpa using hk
      exact List.all_eq_true.1 h2 x h1
  · cases hx
theorem setL_le (l : List Cho) : (setL l).length ≤ 96 := by
  unfold setL
  split
  · rename_i h
    rw [(isort_perm l).length_eq]
    unfold errNew at h
    split at h
    · cases h
    · split at h
      · cases h
      · split at h
        · cases h
        · omega
  · simp
end ChoP
namespace Go.Proofs.YtolfbnjmkgikdaaDoor
open Go.RowKit Go.Sort
theorem RowIs.drew {w : World} {B : Nat} {r : Row} {x : ChoP.Cho} (h : RowIs w B r x) : RowIs w.drew B r x := ⟨h.key, h.t, h.d, h.n, h.c, h.m, h.lie⟩
set_option maxRecDepth 100000 in
set_option maxHeartbeats 4000000 in
theorem choiceSets_walk (A : Option Addr) (ps : List Pair) (c : Nat) (k : ChoP.Key) (w : World) (hL : Laid w) (h : Chos w w.heap.size A ps) (hc : ps.length ≤ c) (hc2 : c ≤ 9223372036854775807) : Calls Tryd.prog 3 #[.slice A ps.length c, keyV k] w (TruePost w) := by
  have k2 : keyV k = .agg #[.int .u8 k.kind, .int .i64 k.a, .int .i64 k.b, .int .i64 k.n] := rfl
  rw [k2]
  clear k2
  have HL := Lib.hid hL
  have H := Lib.hid h
  clear hL h
  go_enter Tryd.func3, Tryd.ntmps3
  go_wp2_with fail
  refine (awake_any _ (HL.out.below ((Below.refl _ _).alloc (Nat.le_refl _) _))).mono ?_
  rintro e w1 ⟨rfl, hb⟩
  rw [World.size_alloc] at hb
  have hblk : w1.heap[w.heap.size]? = some (.cells #[.int .u8 k.kind, .int .i64 k.a, .int .i64 k.b, .int .i64 k.n] 25 (0, 0)) := (hb.block _ (by omega)).trans (heap_alloc_new w _)
  have hB : Below w.heap.size w w1 := ((Below.refl w.heap.size w).alloc (Nat.le_refl _) _).trans (hb.mono (by omega))
  have hz1 : w.heap.size + 1 ≤ w1.heap.size := by have := hb.size; rwa [World.size_alloc] at this
  have HB := Lib.hid hB
  have HBLK := Lib.hid hblk
  clear hb hB hblk
  go_wp2_with fail
  refine (few_any A ps c w1 (H.out.below HB.out (by omega)) hc hc2).mono ?_
  rintro e w2 ⟨A1, qs, c1, rfl, hq, hcq, hqc, hqc2, _, hb2⟩
  have hql : qs.length ≤ 100 := by
    have h1 := congrArg List.length hq
    simp [cho] at h1
    omega
  generalize ((cho ps).take 100 |>.map cut6) = L at hq
  have HQ := Lib.hid hq
  have HCQ := Lib.hid hcq
  have HB2 := Lib.hid hb2
  have hz2 := hb2.size
  clear hq hcq hb2 H HL hc hc2
  go_wp2_with fail
  have hnew := new_fresh A1 qs c1 w2 HCQ.out (by omega)
  rw [HQ.out] at hnew
  refine hnew.mono ?_
  clear hnew
  rintro e w3 ⟨A3, ss, c3, rfl, hss, hcs, hsc, hsc2, hfr, hb3⟩
  obtain ⟨E, hE⟩ : ∃ E, ChoP.errNew L = E := ⟨_, rfl⟩
  rw [hE]
  have hEb := errNew_bounds L
  rw [hE] at hEb
  obtain ⟨hE1, hE2⟩ := hEb
  have HE := Lib.hid hE
  have HSS := Lib.hid hss
  have HCS := Lib.hid hcs
  have HFR := Lib.hid hfr
  have HB3 := Lib.hid hb3
  have hz3 := hb3.size
  clear hE hss hcs hfr hb3
  go_wp2_with fail
  have href := fun o : Obj => refNew_any A1 qs c1 (w3.alloc o) (by rw [World.size_alloc]; exact HCQ.out.below (HB3.out.alloc (by omega) _) (by omega)) (by omega) hqc hqc2
  rw [HQ.out] at href
  refine (href _).mono ?_
  clear href
  rintro e w4 ⟨A4, vs, c4, rfl, hvs, hcv, hvc, hvc2, _, hb4⟩
  rw [HE.out]
  rw [World.size_alloc] at hb4
  have r0 : w4.cell? ⟨w3.heap.size, 0, none⟩ = some (.slice A3 ss.length c3) := (hb4.cell (p := ⟨w3.heap.size, 0, none⟩) (by simp)).trans (cell_at (heap_alloc_new w3 _) 0 _ rfl)
  have hb34 : RowKit.Below w3.heap.size w3 w4 := ((RowKit.Below.refl w3.heap.size w3).alloc (Nat.le_refl _) _).trans (hb4.mono (by omega))
  have hz4 : w3.heap.size + 1 ≤ w4.heap.size := by have := hb4.size; rwa [World.size_alloc] at this
  have hlv : vs.length = ss.length := by
    have h1 := congrArg List.length (hvs.trans HSS.out.symm)
    simpa [cho] using h1
  have hs96 : ss.length ≤ 96 := by
    have h1 := congrArg List.length HSS.out
    have h2 := ChoP.setL_le L
    simp only [cho, List.length_map] at h1
    omega
  have HVS := Lib.hid hvs
  have HCV := Lib.hid hcv
  have HLV := Lib.hid hlv
  have HB34 := Lib.hid hb34
  rw [hlv]
  clear hvs hcv hlv hb34 hb4
  go_wp2_with fail
  refine (len_any A3 ss.length c3 w4).mono ?_
  rintro e w5 ⟨rfl, hb5⟩
  have r1 : w5.cell? ⟨w3.heap.size, 0, none⟩ = some (.slice A3 ss.length c3) := (hb5.cell (p := ⟨w3.heap.size, 0, none⟩) (by simp; omega)).trans r0
  have HB5 := Lib.hid hb5
  have hz5 := hb5.size
  clear r0 hb5
  go_wp2_with fail
  have hb35 : RowKit.Below w3.heap.size w3 w5 := HB34.out.trans (HB5.out.mono (by omega))
  have hoks : ∀ p ∈ ss, ChoP.okC p.2 = true := fun p hp => by
    have h1 : p.2 ∈ cho ss := List.mem_map.2 ⟨p, hp, rfl⟩
    rw [HSS.out] at h1
    exact ChoP.setL_ok L _ h1
  have HOKS := Lib.hid hoks
  refine (all_any A3 ss c3 w5 (HCS.out.below hb35 hb35.size) hs96 hoks).mono ?_
  rintro e w6 ⟨A6, us, c6, rfl, has, hca, hac, hac2, _, hb6⟩
  have r2 : w6.cell? ⟨w3.heap.size, 0, none⟩ = some (.slice A3 ss.length c3) := (hb6.cell (p := ⟨w3.heap.size, 0, none⟩) (by simp; omega)).trans r1
  have hb36 : RowKit.Below w3.heap.size w3 w6 := hb35.trans (hb6.mono (by omega))
  have hb46 : RowKit.Below w4.heap.size w4 w6 := HB5.out.trans (hb6.mono (by omega))
  have hz6 := hb6.size
  have hla : us.length = ss.length := by
    have h1 := congrArg List.length has
    simpa [cho] using h1
  have heq : ChoP.eqL (cho us) (cho vs) = true := by rw [ChoP.eqL_iff, has, HVS.out, HSS.out]
  have hsame := sameSet_any A6 A4 us vs c6 c4 w6 hca (HCV.out.below hb46 (by omega)) (by omega)
  rw [heq, HLV.out, hla] at hsame
  rw [hla]
  have HSAME := Lib.hid hsame
  have HB36 := Lib.hid hb36
  have HB46 := Lib.hid hb46
  clear r1 hb35 hoks hla has hca hb6 hb36 hb46 heq hsame
  go_wp2_with fail
  refine HSAME.out.mono ?_
  rintro e w7 ⟨rfl, hb7⟩
  have r3 : w7.cell? ⟨w3.heap.size, 0, none⟩ = some (.slice A3 ss.length c3) := (hb7.cell (p := ⟨w3.heap.size, 0, none⟩) (by simp; omega)).trans r2
  have hb37 : RowKit.Below w3.heap.size w3 w7 := HB36.out.trans (hb7.mono (by omega))
  have hb47 : RowKit.Below w4.heap.size w4 w7 := HB46.out.trans (hb7.mono (by omega))
  have hz7 := hb7.size
  have hkeys := keys_any A3 ss c3 w7 (HCS.out.below hb37 hb37.size) hs96
  have HKEYS := Lib.hid hkeys
  have HB37 := Lib.hid hb37
  have HB47 := Lib.hid hb47
  clear r2 hb7 hb37 hb47 hkeys HSAME HB36 HB46 HB5 HB34
  go_wp2_with fail
  refine HKEYS.out.mono ?_
  rintro e w8 ⟨A8, c8, rfl, hk8, hkc8, hkc8', hfr8, hb8⟩
  have hkl : (keys ss).length = ss.length := by simp [keys]
  rw [hkl]
  have r4 : w8.cell? ⟨w3.heap.size, 0, none⟩ = some (.slice A3 ss.length c3) := (hb8.cell (p := ⟨w3.heap.size, 0, none⟩) (by simp; omega)).trans r3
  have HB38 := Lib.hid (HB37.out.trans (hb8.mono (by omega)))
  have HB48 := Lib.hid (HB47.out.trans (hb8.mono (by omega)))
  have hz8 := hb8.size
  clear r3 hb8 hk8 hkc8 hkc8' hfr8 hkl HKEYS HB37 HB47
  have hbk : RowKit.Below (w.heap.size + 1) w1 w8 := ((HB2.out.mono hz1).trans ((HB3.out.mono (by omega)).trans (HB38.out.mono (by omega))))
  have hkb : w8.heap[w.heap.size]? = some (.cells #[.int .u8 k.kind, .int .i64 k.a, .int .i64 k.b, .int .i64 k.n] 25 (0, 0)) := (hbk.block _ (by omega)).trans HBLK.out
  have hbw8 : RowKit.Below w.heap.size w w8 := HB.out.trans (hbk.mono (by omega))
  have hcs8 : Chos w8 w8.heap.size A3 ss := HCS.out.below HB38.out HB38.out.size
  have hcv8 : Chos w8 w8.heap.size A4 vs := HCV.out.below HB48.out (by omega)
  have hord : ChoP.Ord (cho ss) := by rw [HSS.out]; exact ChoP.setL_ord L
  have hvv : cho vs = cho ss := HVS.out.trans HSS.out.symm
  have hr8 : w8.cell? ⟨w3.heap.size, 0, none⟩ = some (.slice A3 ss.length c3) := r4
  have hlt38 : w3.heap.size < w8.heap.size := by omega
  have hlt08 : w.heap.size < w8.heap.size := by omega
  have HKB := Lib.hid hkb
  have HBW8 := Lib.hid hbw8
  have HCS8 := Lib.hid hcs8
  have HCV8 := Lib.hid hcv8
  have HORD := Lib.hid hord
  have HVV := Lib.hid hvv
  have HR8 := Lib.hid hr8
  clear hbk hkb hbw8 hcs8 hcv8 hord hvv hr8 r4 HB38 HB48 HB HBLK HCQ HQ HB2 HE HSS HCS HFR HB3 HVS HCV hz1 hz2 hz3 hz4 hz5 hz6 hz7 hz8 hql hqc hqc2 hsc hsc2 hE1 hE2 hvc hvc2 hac hac2
  generalize w3.heap.size = B3 at *
  go_wp2_with fail
  go_loopw [56] (fun i wr => ∃ m : Nat, m ≤ ss.length ∧ i = .int .i64 m ∧ RowKit.Below w8.heap.size w8 wr) (fun i _ => ss.length - (intOf i).toNat)
  case atStart => exact ⟨0, Nat.zero_le _, rfl, RowKit.Below.refl _ _⟩
  case round =>
    obtain ⟨m, hm, rfl, hb⟩ := hrel
    have hwz := hb.size
    have HB := Lib.hid hb
    have r0 : wr.cell? ⟨B3, 0, none⟩ = some (.slice A3 ss.length c3) := (hb.cell (p := ⟨B3, 0, none⟩) hlt38).trans HR8.out
    clear hb
    by_cases hlt : m < ss.length
    · obtain ⟨p, hpk⟩ : ∃ p, vs[m]? = some p := ⟨_, List.getElem?_eq_getElem (by rw [HLV.out]; exact hlt)⟩
      have hrow := HCV8.out.row p (List.mem_of_getElem? hpk)
      have hpc : (cho ss)[m]? = some p.2 := by rw [← HVV.out]; simp [cho, hpk]
      have hkk : (keys ss)[m]? = some p.1.key := by
        simp only [cho, List.getElem?_map, Option.map_eq_some_iff] at hpc
        obtain ⟨q, hq1, hq2⟩ := hpc
        simp only [keys, List.getElem?_map, hq1, Option.map_some, hq2, hrow.key]
      have hhas : ChoP.hasK (cho ss) p.1.key = true := List.any_eq_true.2 ⟨p.2, List.mem_of_getElem? hpc, by rw [hrow.key]; exact (ChoP.eqB_iff _ _).2 rfl⟩
      have hpos : ChoP.posK (cho ss) p.1.key = m := by rw [hrow.key]; exact ChoP.posK_at HORD.out hpc
      obtain ⟨b, o, rfl, hb0, hcl⟩ := HCV8.out.at_ m p hpk
      have hcell : ∀ j u, p.1.vs[j]? = some u → wr.cell? ⟨b, o + m * 7 + j, none⟩ = some u := fun j u hu => (HB.out.cell (p := ⟨b, o + m * 7 + j, none⟩) hb0).trans (hcl j u hu)
      have c0 : wr.cell? ⟨b, o + m * 7, none⟩ = some (.int .u8 p.1.key.kind) := hcell 0 _ rfl
      have c1 := hcell 1 _ rfl
      have c2 := hcell 2 _ rfl
      have c3' := hcell 3 _ rfl
      have c4' := hcell 4 _ rfl
      have c5 := hcell 5 _ rfl
      have c6' := hcell 6 _ rfl
      have hget := fun o1 : Obj => get_any A3 ss c3 p.1.key (wr.alloc o1) (by rw [World.size_alloc]; exact HCS8.out.below (HB.out.alloc hwz _) (by omega)) HORD.out hs96 HOKS.out
      have k2 : keyV p.1.key = .agg #[.int .u8 p.1.key.kind, .int .i64 p.1.key.a, .int .i64 p.1.key.b, .int .i64 p.1.key.n] := rfl
      rw [k2] at hget
      have HGET := Lib.hid hget
      have HROW := Lib.hid hrow
      have HPC := Lib.hid hpc
      have HKK := Lib.hid hkk
      have HHAS := Lib.hid hhas
      have HPOS := Lib.hid hpos
      have hltB : B3 < wr.heap.size := by omega
      have hneB : B3 ≠ wr.heap.size := by omega
      clear hget k2 hrow hpc hkk hhas hpos hcell hcl hpk
      go_wp2_with fail
      refine (HGET.out _).mono ?_
      rintro e v1 ⟨r, x, rfl, hrx, hx, hbv⟩
      rw [HHAS.out]
      have hxe : x = p.2 := by
        have h1 := hx HHAS.out
        rw [HPOS.out, HPC.out] at h1
        exact (Option.some.inj h1).symm
      subst hxe
      have e2 : choV r = .agg #[.int .u8 r.key.kind, .int .i64 r.key.a, .int .i64 r.key.b, .int .i64 r.key.n, .int .i64 r.t, .int .i64 r.d, .slice r.p r.n r.c] := rfl
      rw [e2]
      rw [World.size_alloc] at hbv
      have hblk := (hbv.block wr.heap.size (by omega)).trans (heap_alloc_new wr _)
      have hbw1 : RowKit.Below wr.heap.size wr v1 := ((RowKit.Below.refl wr.heap.size wr).alloc (Nat.le_refl _) _).trans (hbv.mono (by omega))
      have r1 : v1.cell? ⟨B3, 0, none⟩ = some (.slice A3 ss.length c3) := (hbw1.cell (p := ⟨B3, 0, none⟩) hltB).trans r0
      obtain ⟨⟨a0, a1, a2, a3, a4, a5, a6⟩, _⟩ := blk7 hblk
      have hzv : wr.heap.size < v1.heap.size := (Array.getElem?_eq_some_iff.1 hblk).1
      have HRX := Lib.hid hrx
      have HBV := Lib.hid (HB.out.trans (hbw1.mono hwz))
      have HBV1 := Lib.hid hbw1
      clear hx e2 hrx hbv hblk hbw1 r0 c0 c1 c2 c3' c4' c5 c6' HGET
      generalize hG : wr.heap.size = G at *
      clear hG
      have hltB1 : B3 < v1.heap.size := by omega
      have hneB1 : B3 ≠ v1.heap.size := by omega
      have hneG : G ≠ v1.heap.size := by omega
      go_wp2_with fail
      have hbx := heap_alloc_new v1 (.cells #[.int .u8 r.key.kind, .int .i64 r.key.a, .int .i64 r.key.b, .int .i64 r.key.n, .int .i64 r.t, .int .i64 r.d, .slice r.p r.n r.c] 42)
      have hbv2 : RowKit.Below v1.heap.size v1 (v1.alloc (.cells #[.int .u8 r.key.kind, .int .i64 r.key.a, .int .i64 r.key.b, .int .i64 r.key.n, .int .i64 r.t, .int .i64 r.d, .slice r.p r.n r.c] 42)) := (RowKit.Below.refl _ _).alloc (Nat.le_refl _) _
      have hzv2 : (v1.alloc (.cells #[.int .u8 r.key.kind, .int .i64 r.key.a, .int .i64 r.key.b, .int .i64 r.key.n, .int .i64 r.t, .int .i64 r.d, .slice r.p r.n r.c] 42)).heap.size = v1.heap.size + 1 := World.size_alloc _ _
      generalize v1.alloc (.cells #[.int .u8 r.key.kind, .int .i64 r.key.a, .int .i64 r.key.b, .int .i64 r.key.n, .int .i64 r.t, .int .i64 r.d, .slice r.p r.n r.c] 42) = v2 at *
      have b0 := (hbv2.cell (p := ⟨B3, 0, none⟩) hltB1).trans r1
      have p0 := (hbv2.cell (p := ⟨G, 0, none⟩) hzv).trans a0
      have p1 := (hbv2.cell (p := ⟨G, 1, none⟩) hzv).trans a1
      have p2 := (hbv2.cell (p := ⟨G, 2, none⟩) hzv).trans a2
      have p3 := (hbv2.cell (p := ⟨G, 3, none⟩) hzv).trans a3
      have p4 := (hbv2.cell (p := ⟨G, 4, none⟩) hzv).trans a4
      have p5 := (hbv2.cell (p := ⟨G, 5, none⟩) hzv).trans a5
      have p6 := (hbv2.cell (p := ⟨G, 6, none⟩) hzv).trans a6
      obtain ⟨⟨q0, q1, q2, q3, q4, q5, q6⟩, _⟩ := blk7 hbx
      have HBV2 := Lib.hid (HBV.out.trans (hbv2.mono HBV.out.size))
      have HRX2 := Lib.hid (HRX.out.below hbv2 hbv2.size)
      have hz2 : v1.heap.size < v2.heap.size := by omega
      have hz3 : G < v2.heap.size := by omega
      have hz4 : B3 < v2.heap.size := by omega
      have hz5 := HBV2.out.size
      generalize v1.heap.size = G2 at *
      have hkl : (m : Int) < ((keys ss).length : Int) := by simp [keys]; omega
      have hi0 : (0 : Int) ≤ (m : Int) := by omega
      have hkeys := fun (W : World) (hW : RowKit.Below w8.heap.size w8 W) => keys_any A3 ss c3 W (HCS8.out.below hW hW.size) hs96
      have HKEYS := Lib.hid hkeys
      have hke2 : ∀ W : World, (Op.equalIn 10000 25 (.agg #[.int .u8 p.1.key.kind, .int .i64 p.1.key.a, .int .i64 p.1.key.b, .int .i64 p.1.key.n]) (.agg #[.int .u8 p.1.key.kind, .int .i64 p.1.key.a, .int .i64 p.1.key.b, .int .i64 p.1.key.n])).run Tryd.prog W = .ok true W := fun W => by
        have h := key_equalIn p.1.key.kind p.1.key.a p.1.key.b p.1.key.n p.1.key.kind p.1.key.a p.1.key.b p.1.key.n W
        rw [(ChoP.eqB_iff _ _).2 rfl] at h
        exact h
      have hkg := key_guard
      have hss : ChoP.sameB p.2 p.2 = true := (ChoP.sameB_iff _ _).2 rfl
      have HSS := Lib.hid hss
      clear hss hkeys a0 a1 a2 a3 a4 a5 a6 r1 hbx hbv2 hzv2 hltB hneB hltB1 hneB1 hneG HRX HBV HBV1
      go_region_with (first | (go_at_call 13; refine Calls.mono (HKEYS.out _ HBV2.out.drew) ?_; rintro e wA ⟨A9, c9, rfl, hk9, hkc9, hkc9', hfr9, hbA⟩; have hzA : v2.heap.size ≤ wA.heap.size := hbA.size; have hy4 := Nat.lt_of_lt_of_le hz4 hzA; have hy3 := Nat.lt_of_lt_of_le hz3 hzA; have hy2 := Nat.lt_of_lt_of_le hz2 hzA; obtain ⟨b9, o9, rfl, hb9, hc9⟩ := keys_at hk9 m p.1.key HKK.out; have x0 : wA.cell? ⟨b9, o9 + m * 4, none⟩ = some (.int .u8 p.1.key.kind) := hc9 0 _ rfl; have x1 := hc9 1 _ rfl; have x2 := hc9 2 _ rfl; have x3 := hc9 3 _ rfl; have HBA := Lib.hid (RowKit.Below.trans HBV2.out.drew (hbA.mono hz5)); have HRA := Lib.hid (RowIs.below (HRX2.out.drew) hbA hbA.size); have pA0 := (hbA.cell (p := ⟨G, 0, none⟩) hz3).trans p0; have pA1 := (hbA.cell (p := ⟨G, 1, none⟩) hz3).trans p1; have pA2 := (hbA.cell (p := ⟨G, 2, none⟩) hz3).trans p2; have pA3 := (hbA.cell (p := ⟨G, 3, none⟩) hz3).trans p3; have pA4 := (hbA.cell (p := ⟨G, 4, none⟩) hz3).trans p4; have pA5 := (hbA.cell (p := ⟨G, 5, none⟩) hz3).trans p5; have pA6 := (hbA.cell (p := ⟨G, 6, none⟩) hz3).trans p6; have qA0 := (hbA.cell (p := ⟨G2, 0, none⟩) hz2).trans q0; have qA1 := (hbA.cell (p := ⟨G2, 1, none⟩) hz2).trans q1; have qA2 := (hbA.cell (p := ⟨G2, 2, none⟩) hz2).trans q2; have qA3 := (hbA.cell (p := ⟨G2, 3, none⟩) hz2).trans q3; have qA4 := (hbA.cell (p := ⟨G2, 4, none⟩) hz2).trans q4; have qA5 := (hbA.cell (p := ⟨G2, 5, none⟩) hz2).trans q5; have qA6 := (hbA.cell (p := ⟨G2, 6, none⟩) hz2).trans q6; clear hk9 hc9 hfr9) | (go_at_call 15; have hsm := same_any r p.1 p.2 p.2 wA HRA.out (HROW.out.below HBA.out HBA.out.size); rw [HSS.out] at hsm; refine Calls.mono hsm ?_; rintro e wC ⟨rfl, hbC⟩))
      all_goals
        have HBC := Lib.hid (HBA.out.trans (hbC.mono HBA.out.size))
        clear hbA hbC pA0 pA1 pA2 pA3 pA4 pA5 pA6 qA0 qA1 qA2 qA3 qA4 qA5 qA6 x0 x1 x2 x3 b0 p0 p1 p2 p3 p4 p5 p6 q0 q1 q2 q3 q4 q5 q6 hke2 hkg HKEYS HRA HBA
        go_wp2_with fail
        go_roundw
        case rel => exact ⟨m + 1, by omega, by go_num, HBC.out⟩
        case measure => simp [intOf]; omega
    · obtain rfl : m = ss.length := by omega
      have hget := fun W (hW : RowKit.Below w8.heap.size w8 W) => get_any A3 ss c3 k W (HCS8.out.below hW hW.size) HORD.out hs96 HOKS.out
      have k2 : keyV k = .agg #[.int .u8 k.kind, .int .i64 k.a, .int .i64 k.b, .int .i64 k.n] := rfl
      rw [k2] at hget
      have hsame : ChoP.hasKey (keys ss) k = ChoP.hasK (cho ss) k := by simp [ChoP.hasKey, ChoP.hasK, keys, cho, List.any_map, Function.comp_def]
      have hcon := fun (W : World) (A : Option Addr) (c : Nat) (hL : Lie W W.heap.size A (cellsK (keys ss))) => contains_any A (keys ss) c k W hL (by simp [keys]; omega)
      rw [k2] at hcon
      obtain ⟨g, hg⟩ : ∃ g, ChoP.hasK (cho ss) k = g := ⟨_, rfl⟩
      rw [hsame, hg] at hcon
      obtain ⟨k0, k1, k2', k3⟩ := blk4 ((HB.out.block w.heap.size hlt08).trans HKB.out)
      have HGET := Lib.hid hget
      have HCON := Lib.hid hcon
      have HG := Lib.hid hg
      have hkeys := fun (W : World) (hW : RowKit.Below w8.heap.size w8 W) => keys_any A3 ss c3 W (HCS8.out.below hW hW.size) hs96
      have HKEYS := Lib.hid hkeys
      clear hget k2 hsame hcon hg hkeys
      go_wp2_with fail
      refine (HGET.out _ HB.out).mono ?_
      rintro e v1 ⟨r, x, rfl, hrx, hx, hbv⟩
      rw [HG.out]
      have e2 : choV r = .agg #[.int .u8 r.key.kind, .int .i64 r.key.a, .int .i64 r.key.b, .int .i64 r.key.n, .int .i64 r.t, .int .i64 r.d, .slice r.p r.n r.c] := rfl
      rw [e2]
      have hbw : RowKit.Below w8.heap.size w8 v1 := HB.out.trans (hbv.mono hwz)
      have r1 : v1.cell? ⟨B3, 0, none⟩ = some (.slice A3 ss.length c3) := (hbv.cell (p := ⟨B3, 0, none⟩) (by show B3 < _; omega)).trans r0
      have m0 := (hbv.cell (p := ⟨w.heap.size, 0, none⟩) (by show w.heap.size < _; omega)).trans k0
      have m1 := (hbv.cell (p := ⟨w.heap.size, 1, none⟩) (by show w.heap.size < _; omega)).trans k1
      have m2 := (hbv.cell (p := ⟨w.heap.size, 2, none⟩) (by show w.heap.size < _; omega)).trans k2'
      have m3 := (hbv.cell (p := ⟨w.heap.size, 3, none⟩) (by show w.heap.size < _; omega)).trans k3
      have hzv := hbw.size
      have HBV := Lib.hid hbw
      clear hrx hx hbv hbw e2 k0 k1 k2' k3 r0 HGET
      go_wp2_with fail
      have hbv2 : RowKit.Below v1.heap.size v1 (v1.alloc (.cells #[.int .u8 r.key.kind, .int .i64 r.key.a, .int .i64 r.key.b, .int .i64 r.key.n, .int .i64 r.t, .int .i64 r.d, .slice r.p r.n r.c] 42)) := (RowKit.Below.refl _ _).alloc (Nat.le_refl _) _
      generalize v1.alloc (.cells #[.int .u8 r.key.kind, .int .i64 r.key.a, .int .i64 r.key.b, .int .i64 r.key.n, .int .i64 r.t, .int .i64 r.d, .slice r.p r.n r.c] 42) = v2 at *
      have b0 := (hbv2.cell (p := ⟨B3, 0, none⟩) (by show B3 < _; omega)).trans r1
      have n0 := (hbv2.cell (p := ⟨w.heap.size, 0, none⟩) (by show w.heap.size < _; omega)).trans m0
      have n1 := (hbv2.cell (p := ⟨w.heap.size, 1, none⟩) (by show w.heap.size < _; omega)).trans m1
      have n2 := (hbv2.cell (p := ⟨w.heap.size, 2, none⟩) (by show w.heap.size < _; omega)).trans m2
      have n3 := (hbv2.cell (p := ⟨w.heap.size, 3, none⟩) (by show w.heap.size < _; omega)).trans m3
      have HBV2 := Lib.hid (HBV.out.trans (hbv2.mono hzv))
      have hz5 := HBV2.out.size
      have hz4 : B3 < v2.heap.size := by omega
      have hz3 : w.heap.size < v2.heap.size := by omega
      clear hbv2 r1 m0 m1 m2 m3 HBV
      cases g
      all_goals
        go_region_held3 (fun w' => w'.cell? ⟨B3, 0, none⟩ = some (.slice A3 ss.length c3) ∧ w'.cell? ⟨w.heap.size, 0, none⟩ = some (.int .u8 k.kind) ∧ w'.cell? ⟨w.heap.size, 1, none⟩ = some (.int .i64 k.a) ∧ w'.cell? ⟨w.heap.size, 2, none⟩ = some (.int .i64 k.b) ∧ w'.cell? ⟨w.heap.size, 3, none⟩ = some (.int .i64 k.n))
          (first | go_keep | (go_split_ands; refine ⟨?_, ?_, ?_, ?_, ?_⟩ <;> exact (hbA.cell (p := ⟨_, _, none⟩) (by first | exact hz4 | exact hz3)).trans (by assumption)) | (go_split_ands; refine ⟨?_, ?_, ?_, ?_, ?_⟩ <;> exact (hbC.cell (p := ⟨_, _, none⟩) (by first | exact hy4 | exact hy3)).trans (by assumption)))
          (first | (go_at_call 13; refine Calls.mono (HKEYS.out _ HBV2.out.drew) ?_; rintro e wA ⟨A9, c9, rfl, hk9, hkc9, hkc9', hfr9, hbA⟩; have hzA : v2.heap.size ≤ wA.heap.size := hbA.size; have hy4 := Nat.lt_of_lt_of_le hz4 hzA; have hy3 := Nat.lt_of_lt_of_le hz3 hzA; have HBA := Lib.hid (RowKit.Below.trans HBV2.out.drew (hbA.mono hz5)); clear hfr9) | (go_at_call 16; refine Calls.mono (HCON.out _ _ _ hk9) ?_; rintro e wC ⟨rfl, hbC⟩))
        have HBC := Lib.hid (HBW8.out.trans ((HBA.out.trans (hbC.mono HBA.out.size)).mono (by omega)))
        clear hbA hbC b0 n0 n1 n2 n3 hk9 HKEYS HBA
        go_wp2_with fail
        go_ret
        exact ⟨rfl, HBC.out⟩
end Go.Proofs.YtolfbnjmkgikdaaDoor
