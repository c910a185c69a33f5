/- The walk of the law on changes of sets. -/
import Derived.Test.YtolfbnjmkgikdaaDoorChoAwake
import Derived.Test.YtolfbnjmkgikdaaDoorChoNewF
import Derived.Test.YtolfbnjmkgikdaaDoorChoCut
import Derived.Test.YtolfbnjmkgikdaaDoorChoWith
import Derived.Test.YtolfbnjmkgikdaaDoorChoWout
import Derived.Test.YtolfbnjmkgikdaaDoorChoSame
import Derived.Test.YtolfbnjmkgikdaaDoorChoKeyEq
import Derived.Test.YtolfbnjmkgikdaaDoorChoRefMinus
namespace Go.Proofs.YtolfbnjmkgikdaaDoor
open Go.RowKit Go.Sort
theorem Lie.setSlice {w : World} {B : Nat} {A : Option Addr} {l : List Int} (h : Lie w B A (intV l)) {p : Addr} {a : Option Addr} {n c : Nat} (hp : w.cell? p = some (.slice a n c)) (u : Value) : Lie (w.setCell p u) B A (intV l) := fun hx => by
  obtain ⟨b, o, e, hb, hc⟩ := h hx
  refine ⟨b, o, e, hb, fun j v hv => (World.cell?_setCell_other w p _ u (fun e' => ?_)).trans (hc j v hv)⟩
  have h1 := hc j v hv
  have h2 : ∃ z, v = .int .i64 z := by
    obtain ⟨z, _, e⟩ := List.mem_map.1 (List.mem_of_getElem? hv)
    exact ⟨z, e.symm⟩
  obtain ⟨z, rfl⟩ := h2
  first | (rw [e', hp] at h1; cases h1) | (rw [← e', hp] at h1; cases h1)
theorem RowIs.setSlice {w : World} {B : Nat} {r : Row} {x : ChoP.Cho} (h : RowIs w B r x) {p : Addr} {a : Option Addr} {n c : Nat} (hp : w.cell? p = some (.slice a n c)) (u : Value) : RowIs (w.setCell p u) B r x :=
  ⟨h.key, h.t, h.d, h.n, h.c, h.m, h.lie.setSlice hp u⟩
theorem Chos.setSlice {w : World} {B : Nat} {A : Option Addr} {ps : List Pair} (h : Chos w B A ps) {p : Addr} {a : Option Addr} {n c : Nat} (hp : w.cell? p = some (.slice a n c)) (hA : ∀ b o, A = some ⟨b, o, none⟩ → b ≠ p.block) (u : Value) : Chos (w.setCell p u) B A ps :=
  ⟨h.lie.set p u hA, fun q hq => (h.row q hq).setSlice hp u⟩
theorem valid_len {l : List ChoP.Cho} {ps : List Pair} (h : cho ps = ChoP.validL l 20) : ps.length ≤ 20 := by
  have h1 := congrArg List.length h
  have h2 := ChoP.validL_le l 20
  simp only [cho, List.length_map] at h1
  omega
theorem isSet_of {l : List ChoP.Cho} {ps : List Pair} (h : cho ps = ChoP.validL l 20) : ChoP.IsSet (cho ps) := by rw [h]; exact ChoP.validL_isSet _ _
set_option maxRecDepth 100000 in
set_option maxHeartbeats 4000000 in
theorem choiceChanges_walk (A : Option Addr) (ps : List Pair) (c : Nat) (M : Option Addr) (ms : List Pair) (d : Nat) (r : Row) (x : ChoP.Cho) (w : World) (hL : Laid w) (h : Chos w w.heap.size A ps) (hc : ps.length ≤ c) (hc2 : c ≤ 9223372036854775807) (h2 : Chos w w.heap.size M ms) (hd : ms.length ≤ d) (hd2 : d ≤ 9223372036854775807) (hr : RowIs w w.heap.size r x) : Calls Tryd.prog 4 #[.slice A ps.length c, .slice M ms.length d, choV r] w (TruePost w) := by
  have e1 : choV r = .agg #[.int .u8 r.key.kind, .int .i64 r.key.a, .int .i64 r.key.b, .int .i64 r.key.n, .int .i64 r.t, .int .i64 r.d, .slice r.p r.n r.c] := rfl
  rw [e1]
  clear e1
  have HL := Lib.hid hL
  have H := Lib.hid h
  have H2 := Lib.hid h2
  have HR := Lib.hid hr
  have hrc := hr.c
  have hrm := hr.m
  clear hL h h2 hr
  go_enter Tryd.func4, Tryd.ntmps4
  go_wp2_with fail
  refine (awake_any _ (HL.out.below ((Below.refl _ _).alloc (Nat.le_refl _) _))).mono ?_
  rintro e w1 ⟨rfl, hb⟩
  rw [World.size_alloc] at hb
  have hblk := (hb.block w.heap.size (by omega)).trans (heap_alloc_new w _)
  have hB : Below w.heap.size w w1 := ((Below.refl w.heap.size w).alloc (Nat.le_refl _) _).trans (hb.mono (by omega))
  have hz1 : w.heap.size + 1 ≤ w1.heap.size := by have := hb.size; rwa [World.size_alloc] at this
  have HB := Lib.hid hB
  have HBLK := Lib.hid hblk
  clear hb hB hblk HL
  go_wp2_with fail
  refine (few_any A ps c w1 (H.out.below HB.out (by omega)) hc hc2).mono ?_
  rintro e w2 ⟨A1, qs, c1, rfl, hq, hcq, hqc, hqc2, _, hb2⟩
  have hql : qs.length ≤ 100 := by
    have h1 := congrArg List.length hq
    simp [cho] at h1
    omega
  have HCQ := Lib.hid hcq
  have HB2 := Lib.hid hb2
  have hz2 := hb2.size
  clear hq hcq hb2 H
  go_wp2_with fail
  refine (valid_any A1 qs c1 20 w2 HCQ.out (by omega) (by omega)).mono ?_
  rintro e w3 ⟨A3, al, c3, rfl, ha, hca, hac, hac2, hna, hb3⟩
  have hal := valid_len ha
  have has := isSet_of ha
  have HCA := Lib.hid hca
  have HAS := Lib.hid has
  have HNA := Lib.hid hna
  have HB3 := Lib.hid hb3
  have hz3 := hb3.size
  clear ha hca has hna hb3 HCQ
  go_wp2_with fail
  refine (few_any M ms d w3 (H2.out.below (HB.out.trans ((HB2.out.mono (by omega)).trans (HB3.out.mono (by omega)))) (by omega)) hd hd2).mono ?_
  rintro e w4 ⟨A4, vs, c4, rfl, hv, hcv, hvc, hvc2, _, hb4⟩
  have hvl : vs.length ≤ 100 := by
    have h1 := congrArg List.length hv
    simp [cho] at h1
    omega
  have HCV := Lib.hid hcv
  have HB4 := Lib.hid hb4
  have hz4 := hb4.size
  clear hv hcv hb4 H2
  go_wp2_with fail
  refine (valid_any A4 vs c4 20 w4 HCV.out (by omega) (by omega)).mono ?_
  rintro e w5 ⟨A5, bs, c5, rfl, hb', hcb, hbc, hbc2, hnb, hb5⟩
  have hbl := valid_len hb'
  have hbs := isSet_of hb'
  have HCB := Lib.hid hcb
  have HBS := Lib.hid hbs
  have HNB := Lib.hid hnb
  have HB5 := Lib.hid hb5
  have hz5 := hb5.size
  have hca5 : Chos w5 w5.heap.size A3 al := HCA.out.below (HB4.out.trans (hb5.mono (by omega))) (by omega)
  have HCA5 := Lib.hid hca5
  clear hca5
  clear hb' hcb hbs hnb hb5 HCV
  go_wp2_with fail
  have hnew := new_fresh A3 al c3 w5 HCA5.out (by omega)
  refine hnew.mono ?_
  clear hnew
  rintro e w6 ⟨A6, ss, c6, rfl, hss, hcs, hsc, hsc2, hfs, hb6⟩
  rw [HAS.out.err]
  rw [HAS.out.set] at hss
  have hsl : ss.length = al.length := by
    have h1 := congrArg List.length hss
    simpa [cho] using h1
  have hsl20 : ss.length ≤ 20 := by omega
  have HSL := Lib.hid hsl
  have HSS := Lib.hid hss
  have HCS := Lib.hid hcs
  have HFS := Lib.hid hfs
  have HB6 := Lib.hid hb6
  have hz6 := hb6.size
  clear hsl hss hcs hfs hb6
  go_wp2_with fail
  have hnew := fun o : Obj => new_fresh A5 bs c5 (w6.alloc o) (by rw [World.size_alloc]; exact HCB.out.below (HB6.out.alloc (by omega) _) (by omega)) (by omega)
  refine (hnew _).mono ?_
  clear hnew
  rintro e w7 ⟨A7, ts, c7, rfl, hts, hct, htc, htc2, hft, hb7⟩
  rw [HBS.out.err]
  rw [HBS.out.set] at hts
  rw [World.size_alloc] at hb7 hft
  have hsx : w7.cell? ⟨w6.heap.size, 0, none⟩ = some (.slice A6 ss.length c6) := (hb7.cell (p := ⟨w6.heap.size, 0, none⟩) (by simp)).trans (cell_at (heap_alloc_new w6 _) 0 _ rfl)
  have hb67 : RowKit.Below w6.heap.size w6 w7 := ((RowKit.Below.refl w6.heap.size w6).alloc (Nat.le_refl _) _).trans (hb7.mono (by omega))
  have hz7 : w6.heap.size + 1 ≤ w7.heap.size := by have := hb7.size; rwa [World.size_alloc] at this
  have htl : ts.length = bs.length := by
    have h1 := congrArg List.length hts
    simpa [cho] using h1
  have htl20 : ts.length ≤ 20 := by omega
  have HTL := Lib.hid htl
  have HTS := Lib.hid hts
  have HCT := Lib.hid hct
  have HFT := Lib.hid hft
  have HB7 := Lib.hid hb67
  have hb17 : RowKit.Below w1.heap.size w1 w7 := HB2.out.trans ((HB3.out.mono hz2).trans ((HB4.out.mono (by omega)).trans ((HB5.out.mono (by omega)).trans ((HB6.out.mono (by omega)).trans (hb67.mono (by omega))))))
  have hblk7 := (hb17.block w.heap.size (by omega)).trans HBLK.out
  obtain ⟨⟨a0, a1, a2, a3, a4, a5, a6⟩, ⟨_, _, _, _, _, _, f6⟩⟩ := blk7 hblk7
  have HBLK7 := Lib.hid hblk7
  have HBW7 := Lib.hid (HB.out.trans (hb17.mono (by omega)))
  have HSX := Lib.hid hsx
  have hlt7 : w.heap.size < w7.heap.size := by omega
  have hne7 : w.heap.size ≠ w7.heap.size := by omega
  have hlt67 : w6.heap.size < w7.heap.size := by omega
  have hne67 : w6.heap.size ≠ w7.heap.size := by omega
  have hne06 : w6.heap.size ≠ w.heap.size := by omega
  clear htl hts hct hft hb7 hb67 hb17 hblk7 HBLK
  go_wp2_with fail
  generalize hmn : (min (r.n : Int) 6).toNat = m at *
  have hm6 : m ≤ r.n := by omega
  have hm66 : m ≤ 6 := by omega
  clear hmn
  have hblk8 : (w7.setCell ⟨w.heap.size, 6, none⟩ (.slice r.p m r.c)).heap[w.heap.size]? = some (.cells #[.int .u8 r.key.kind, .int .i64 r.key.a, .int .i64 r.key.b, .int .i64 r.key.n, .int .i64 r.t, .int .i64 r.d, .slice r.p m r.c] 42 (0, 0)) := by
    simp [World.setCell, Array.getElem?_modify, HBLK7.out]
  have hs8 : Chos (w7.setCell ⟨w.heap.size, 6, none⟩ (.slice r.p m r.c)) w7.heap.size A6 ss := (HCS.out.below HB7.out HB7.out.size).setSlice a6 (fun b o e => by have := HFS.out.1 b o e; show b ≠ w.heap.size; omega) _
  have ht8 : Chos (w7.setCell ⟨w.heap.size, 6, none⟩ (.slice r.p m r.c)) w7.heap.size A7 ts := HCT.out.setSlice a6 (fun b o e => by have := HFT.out.1 b o e; show b ≠ w.heap.size; omega) _
  have ha8 : Chos (w7.setCell ⟨w.heap.size, 6, none⟩ (.slice r.p m r.c)) w7.heap.size A3 al := (HCA5.out.below (HB6.out.trans (HB7.out.mono (by omega))) (by omega)).setSlice a6 (fun b o e => by have := HNA.out b o e; show b ≠ w.heap.size; omega) _
  have hb8 : Chos (w7.setCell ⟨w.heap.size, 6, none⟩ (.slice r.p m r.c)) w7.heap.size A5 bs := (HCB.out.below (HB6.out.trans (HB7.out.mono (by omega))) (by omega)).setSlice a6 (fun b o e => by have := HNB.out b o e; show b ≠ w.heap.size; omega) _
  have hx8 := ((HR.out.below HBW7.out HBW7.out.size).setSlice a6 (.slice r.p m r.c)).cut m hm6
  have hbw8 : RowKit.Below w.heap.size w (w7.setCell ⟨w.heap.size, 6, none⟩ (.slice r.p m r.c)) := HBW7.out.setCell (by simp) _
  have hsx8 : (w7.setCell ⟨w.heap.size, 6, none⟩ (.slice r.p m r.c)).cell? ⟨w6.heap.size, 0, none⟩ = some (.slice A6 ss.length c6) := (World.cell?_setCell_other _ _ _ _ (by intro e; first | (injection e with e1 _; omega) | (have := congrArg Addr.block e; simp at this; omega))).trans hsx
  have hz8 : (w7.setCell ⟨w.heap.size, 6, none⟩ (.slice r.p m r.c)).heap.size = w7.heap.size := World.size_setCell _ _ _
  generalize w7.setCell ⟨w.heap.size, 6, none⟩ (.slice r.p m r.c) = w7' at *
  have hal8 : RowKit.Below w7.heap.size w7' (w7'.alloc (.cells #[.slice A7 ts.length c7] 29)) := (RowKit.Below.refl _ _).alloc (by omega) _
  have htx : (w7'.alloc (.cells #[.slice A7 ts.length c7] 29)).cell? ⟨w7.heap.size, 0, none⟩ = some (.slice A7 ts.length c7) := by rw [← hz8]; exact cell_at (heap_alloc_new w7' _) 0 _ rfl
  have hz9 : (w7'.alloc (.cells #[.slice A7 ts.length c7] 29)).heap.size = w7.heap.size + 1 := by rw [World.size_alloc, hz8]
  have S8 := Lib.hid (hs8.below hal8 (show w7.heap.size ≤ (w7'.alloc (.cells #[.slice A7 ts.length c7] 29)).heap.size by omega))
  have T8 := Lib.hid (ht8.below hal8 (show w7.heap.size ≤ (w7'.alloc (.cells #[.slice A7 ts.length c7] 29)).heap.size by omega))
  have A8 := Lib.hid (ha8.below hal8 (show w7.heap.size ≤ (w7'.alloc (.cells #[.slice A7 ts.length c7] 29)).heap.size by omega))
  have B8 := Lib.hid (hb8.below hal8 (show w7.heap.size ≤ (w7'.alloc (.cells #[.slice A7 ts.length c7] 29)).heap.size by omega))
  have X8 := Lib.hid (hx8.below hal8 (show w7.heap.size ≤ (w7'.alloc (.cells #[.slice A7 ts.length c7] 29)).heap.size by omega))
  have W8 := Lib.hid (hbw8.alloc (by omega) (.cells #[.slice A7 ts.length c7] 29))
  have SX := Lib.hid ((hal8.cell (p := ⟨w6.heap.size, 0, none⟩) hlt67).trans hsx8)
  have TX := Lib.hid htx
  have K8 := Lib.hid ((hal8.block w.heap.size hlt7).trans hblk8)
  have hsc' : ChoP.IsSet (cho ss) := by rw [HSS.out]; exact HAS.out
  have htc' : ChoP.IsSet (cho ts) := by rw [HTS.out]; exact HBS.out
  have ISS := Lib.hid hsc'
  have IST := Lib.hid htc'
  clear hblk8 hs8 ht8 ha8 hb8 hx8 hbw8 hsx8 hal8 htx hsx hsc' htc' a0 a1 a2 a3 a4 a5 a6 f6 HBLK7 HCS HCT HFS HFT HCA HCA5 HCB HB HB2 HB3 HB4 HB5 HB6 HB7 HBW7 HSX HR HNA HNB
  generalize w7'.alloc (.cells #[.slice A7 ts.length c7] 29) = w8 at *
  have hlt68 : w6.heap.size < w8.heap.size := by omega
  have hlt78 : w7.heap.size < w8.heap.size := by omega
  have hlt08 : w.heap.size < w8.heap.size := by omega
  clear hz1 hz2 hz3 hz4 hz5 hz6 hz7 hz8 hz9 hlt7 hne7 hlt67 hne67 hne06 hqc hqc2 hql hvc hvc2 hvl hc hc2 hd hd2
  generalize w6.heap.size = G6 at *
  generalize w7.heap.size = G7 at *
  have hokS : ∀ p ∈ ss, ChoP.okC p.2 = true := fun p hp => ISS.out.ok _ (List.mem_map.2 ⟨p, hp, rfl⟩)
  have hokT : ∀ p ∈ ts, ChoP.okC p.2 = true := fun p hp => IST.out.ok _ (List.mem_map.2 ⟨p, hp, rfl⟩)
  have OKS := Lib.hid hokS
  have OKT := Lib.hid hokT
  clear hokS hokT
  have hwith := with_any A6 ss c6 ⟨r.key, r.t, r.d, r.p, m, r.c⟩ ⟨x.key, x.t, x.d, x.args.take m⟩ w8 S8.out ISS.out.ord (by omega) hsc hsc2 OKS.out X8.out
  refine hwith.mono ?_
  clear hwith
  rintro e w9 ⟨A9, us, c9, rfl, hus, hcu, huc, huc2, hb9⟩
  rw [HSS.out] at hus ⊢
  obtain ⟨E, hE⟩ : ∃ E, ChoP.errNew (cho al ++ [⟨x.key, x.t, x.d, x.args.take m⟩]) = E := ⟨_, rfl⟩
  rw [hE]
  have hEb := errNew_bounds (cho al ++ [⟨x.key, x.t, x.d, x.args.take m⟩])
  rw [hE] at hEb
  obtain ⟨hE1, hE2⟩ := hEb
  have hus' : ChoP.IsSet (cho us) := by rw [hus]; exact ChoP.setL_isSet _
  have hul : us.length ≤ 96 := by have := hus'.le; simpa [cho] using this
  have HUS := Lib.hid hus
  have IUS := Lib.hid hus'
  have HCU := Lib.hid hcu
  have B9 := Lib.hid hb9
  have HE := Lib.hid hE
  have hz9 := hb9.size
  obtain ⟨⟨a0, a1, a2, a3, a4, a5, a6⟩, _⟩ := blk7 ((hb9.block w.heap.size hlt08).trans K8.out)
  have hn9 : w.heap.size ≠ w9.heap.size := by omega
  have hl9 : w.heap.size < w9.heap.size := by omega
  clear hus hus' hcu hb9 hE
  go_wp2_with fail
  have href := fun o : Obj => refWith_any A3 al c3 ⟨r.key, r.t, r.d, r.p, m, r.c⟩ ⟨x.key, x.t, x.d, x.args.take m⟩ (w9.alloc o) (A8.out.below (B9.out.alloc hz9 _) (by rw [World.size_alloc]; omega)) (by omega) (X8.out.below (B9.out.alloc hz9 _) (by rw [World.size_alloc]; omega))
  refine (href _).mono ?_
  clear href
  rintro e w10 ⟨A10, os, c10, rfl, hos, hco, hoc, hoc2, _, hb10⟩
  rw [HE.out]
  rw [World.size_alloc] at hb10
  have hu0 : w10.cell? ⟨w9.heap.size, 0, none⟩ = some (.slice A9 us.length c9) := (hb10.cell (p := ⟨w9.heap.size, 0, none⟩) (by simp)).trans (cell_at (heap_alloc_new w9 _) 0 _ rfl)
  have hb910 : RowKit.Below w9.heap.size w9 w10 := ((RowKit.Below.refl w9.heap.size w9).alloc (Nat.le_refl _) _).trans (hb10.mono (by omega))
  have hou : cho us = cho os := HUS.out.trans hos.symm
  have hz10 := hb910.size
  have HOU := Lib.hid hou
  have HCO := Lib.hid hco
  have B10 := Lib.hid (B9.out.trans (hb910.mono hz9))
  have B910 := Lib.hid hb910
  clear hou hco hos hb10 hb910 a0 a1 a2 a3 a4 a5 a6
  go_wp2_with fail
  have hall := all_any A9 us c9 w10 (HCU.out.below B910.out hz10) hul (fun p hp => IUS.out.ok _ (List.mem_map.2 ⟨p, hp, rfl⟩))
  refine hall.mono ?_
  clear hall
  rintro e w11 ⟨A11, u2, c11, rfl, hu2, hcu2, hu2c, hu2c2, _, hb11⟩
  have hz11 := hb11.size
  have hsame := sameSet_any A11 A10 u2 os c11 c10 w11 hcu2 (HCO.out.below hb11 hz11) (by have h1 := congrArg List.length hu2; simp only [cho, List.length_map] at h1; omega)
  rw [(ChoP.eqL_iff _ _).2 (hu2.trans HOU.out)] at hsame
  have HSAME := Lib.hid hsame
  have B11 := Lib.hid (B10.out.trans (hb11.mono (by omega)))
  clear hsame hu2 hcu2 hb11 hu0
  go_wp2_with fail
  refine HSAME.out.mono ?_
  rintro e w12 ⟨rfl, hb12⟩
  have B12 := Lib.hid (B11.out.trans (hb12.mono (by omega)))
  have hz12 := B12.out.size
  have t0 := (B12.out.cell (p := ⟨G7, 0, none⟩) hlt78).trans TX.out
  clear hb12 HSAME B9 B10 B910 B11 HUS IUS HCU HOU HCO HE hz9 hz10 hz11 hn9 hl9 hul huc huc2 hoc hoc2 hu2c hu2c2
  go_wp2_with fail
  refine (keys_any A7 ts c7 w12 (T8.out.below B12.out hz12) (by omega)).mono ?_
  rintro e w13 ⟨A13, c13, rfl, hk13, hkc, hkc2, _, hb13⟩
  have hkl : (keys ts).length ≤ 20 := by simp [keys]; omega
  have K13 := Lib.hid hk13
  have B13 := Lib.hid (B12.out.trans (hb13.mono (by omega)))
  have hz13 := B13.out.size
  have s0 := (B13.out.cell (p := ⟨G6, 0, none⟩) hlt68).trans SX.out
  clear t0 hk13 hb13 B12 hz12
  generalize hKS : keys ts = KS at *
  clear hKS
  go_wp2_with fail
  refine (without_any A6 A13 ss KS c6 c13 w13 (S8.out.below B13.out hz13) K13.out ISS.out.ord (by omega) (by omega)).mono ?_
  rintro e w14 ⟨A14, ns, c14, rfl, hns, hcn, hnc, hnc2, hb14⟩
  have B14 := Lib.hid (B13.out.trans (hb14.mono hz13))
  have B1314 := Lib.hid hb14
  have hz14 := B14.out.size
  have hz14' := hb14.size
  have hnl : ns.length ≤ 20 := by
    have h1 := congrArg List.length hns
    have h2 := List.length_filter_le (fun x => !ChoP.hasKey KS x.key) (cho ss)
    simp only [ChoP.withoutL, cho, List.length_map] at h1 h2
    omega
  have hokN : ∀ p ∈ ns, ChoP.okC p.2 = true := fun p hp => by
    have h1 : p.2 ∈ cho ns := List.mem_map.2 ⟨p, hp, rfl⟩
    rw [hns] at h1
    exact ISS.out.ok _ (List.mem_filter.1 h1).1
  have HNS := Lib.hid hns
  have HCN := Lib.hid hcn
  have OKN := Lib.hid hokN
  clear s0 hns hcn hokN hb14
  go_wp2_with fail
  have hbo : ∀ o : Obj, RowKit.Below w14.heap.size w14 (w14.alloc o) := fun o => (RowKit.Below.refl _ _).alloc (Nat.le_refl _) _
  refine (all_any A14 ns c14 (w14.alloc _) (HCN.out.below (hbo _) (hbo _).size) (by omega) OKN.out).mono ?_
  rintro e w15 ⟨A15, n2, c15, rfl, hn2, hcn2, hn2c, hn2c2, _, hb15⟩
  have hb1415 := (hbo _).trans (hb15.mono (hbo _).size)
  have B15 := Lib.hid (B14.out.trans (hb1415.mono hz14))
  have B1415 := Lib.hid hb1415
  have hz15 := B15.out.size
  have hz1415 := hb1415.size
  have HN2 := Lib.hid hn2
  have HCN2 := Lib.hid hcn2
  have hn2l : n2.length ≤ 20 := by
    have h1 := congrArg List.length hn2
    simp only [cho, List.length_map] at h1
    omega
  clear hbo hb15 hb1415 hn2 hcn2
  go_wp2_with fail
  refine (refWithout_any A3 A13 al KS c3 c13 w15 (A8.out.below B15.out hz15) (K13.out.below (B1314.out.trans (B1415.out.mono hz14')) (by omega)) (by omega) (by omega)).mono ?_
  rintro e w16 ⟨A16, n3, c16, rfl, hn3, hcn3, hn3c, hn3c2, _, hb16⟩
  have hsame := sameSet_any A15 A16 n2 n3 c15 c16 w16 (HCN2.out.below hb16 hb16.size) hcn3 (by omega)
  rw [(ChoP.eqL_iff _ _).2 (by rw [HN2.out, HNS.out, HSS.out, hn3])] at hsame
  have HSAME := Lib.hid hsame
  have B16 := Lib.hid (B15.out.trans (hb16.mono hz15))
  have hz16 := B16.out.size
  clear hsame hn3 hcn3 hb16
  go_wp2_with fail
  refine HSAME.out.mono ?_
  rintro e w17 ⟨rfl, hb17⟩
  have B17 := Lib.hid (B16.out.trans (hb17.mono hz16))
  have hz17 := B17.out.size
  have s0 := (B17.out.cell (p := ⟨G6, 0, none⟩) hlt68).trans SX.out
  have t0 := (B17.out.cell (p := ⟨G7, 0, none⟩) hlt78).trans TX.out
  clear hb17 HSAME HNS HCN OKN HN2 HCN2 K13 B13 B14 B15 B16 B1314 B1415 hz13 hz14 hz14' hz15 hz1415 hz16 hn2l hn2c hn2c2 hnc hnc2 hnl hkl hkc hkc2 hn3c hn3c2
  have hargs : ∀ (l : List Pair), (∀ p ∈ l, ChoP.okC p.2 = true) → ∀ p ∈ l, p.2.args.length ≤ 65536 := fun l h p hp => by have := okC_args (h p hp); omega
  have ARGS := Lib.hid (hargs ss OKS.out)
  have ARGT := Lib.hid (hargs ts OKT.out)
  have ARGA := Lib.hid (hargs al (fun p hp => HAS.out.ok _ (List.mem_map.2 ⟨p, hp, rfl⟩)))
  have ARGB := Lib.hid (hargs bs (fun p hp => HBS.out.ok _ (List.mem_map.2 ⟨p, hp, rfl⟩)))
  clear hargs
  have heq := equal_any A6 A7 ss ts c6 c7 w17 (S8.out.below B17.out hz17) (T8.out.below B17.out hz17) (by omega) ARGS.out ARGT.out
  rw [HSS.out, HTS.out] at heq
  obtain ⟨g, hg⟩ : ∃ g, ChoP.eqL (cho al) (cho bs) = g := ⟨_, rfl⟩
  rw [hg] at heq
  have HEQ := Lib.hid heq
  have HG := Lib.hid hg
  clear heq hg
  go_wp2_with fail
  refine HEQ.out.mono ?_
  rintro e w18 ⟨rfl, hb18⟩
  have B18 := Lib.hid (B17.out.trans (hb18.mono hz17))
  have hz18 := B18.out.size
  have hsame := sameSet_any A3 A5 al bs c3 c5 w18 (A8.out.below B18.out hz18) (B8.out.below B18.out hz18) (by omega)
  rw [HG.out] at hsame
  have HSAME := Lib.hid hsame
  clear hb18 HEQ hsame s0 t0 B17 hz17
  go_wp2_with fail
  refine HSAME.out.mono ?_
  rintro e w19 ⟨rfl, hb19⟩
  have B19 := Lib.hid (B18.out.trans (hb19.mono hz18))
  have hz19 := B19.out.size
  have s0 := (B19.out.cell (p := ⟨G6, 0, none⟩) hlt68).trans SX.out
  have t0 := (B19.out.cell (p := ⟨G7, 0, none⟩) hlt78).trans TX.out
  clear hb19 HSAME B18 hz18 HG
  have hgg : (g == g) = true := by cases g <;> rfl
  go_wp2_with fail
  refine (minus_any A6 A7 ss ts c6 c7 w19 (S8.out.below B19.out hz19) (T8.out.below B19.out hz19) IST.out.ord (by omega) (by omega) ARGS.out ARGT.out).mono ?_
  rintro e w20 ⟨P20, q20, rfl, hl20, hq20, hq20', _, hb20⟩
  rw [HSS.out, HTS.out] at hl20
  rw [HSS.out, HTS.out]
  have B20 := Lib.hid (B19.out.trans (hb20.mono hz19))
  have hz20 := B20.out.size
  have HL20 := Lib.hid hl20
  clear hl20 hb20 B19 hz19 s0 t0
  go_wp2_with fail
  refine (refMinus_any A3 A5 al bs c3 c5 w20 (A8.out.below B20.out hz20) (B8.out.below B20.out hz20) HBS.out.ord.nodup (by omega) (by omega) ARGA.out ARGB.out).mono ?_
  rintro e w21 ⟨P21, q21, rfl, hl21, hq21, hq21', _, hb21⟩
  have hmm : (ChoP.minusL (cho al) (cho bs)).length ≤ 65536 := by
    have h1 := List.length_filter_le (ChoP.missB (cho bs)) (cho al)
    simp only [ChoP.minusL, List.length_map] at h1 ⊢
    simp only [cho, List.length_map] at h1
    simp only [cho]
    omega
  have hek := eqKeys_any P20 P21 (ChoP.minusL (cho al) (cho bs)) (ChoP.minusL (cho al) (cho bs)) q20 q21 w21 (HL20.out.below hb21 hb21.size) hl21 hmm
  rw [(ChoP.eqKs_iff _ _).2 rfl] at hek
  have HEK := Lib.hid hek
  have B21 := Lib.hid (B20.out.trans (hb21.mono hz20))
  have hz21 := B21.out.size
  clear hek hmm hl21 hb21 B20 hz20 HL20
  generalize (ChoP.minusL (cho al) (cho bs)) = KM at *
  go_wp2_with fail
  refine HEK.out.mono ?_
  rintro e w22 ⟨rfl, hb22⟩
  have B22 := Lib.hid (B21.out.trans (hb22.mono hz21))
  have hz22 := B22.out.size
  have s0 := (B22.out.cell (p := ⟨G6, 0, none⟩) hlt68).trans SX.out
  have t0 := (B22.out.cell (p := ⟨G7, 0, none⟩) hlt78).trans TX.out
  clear hb22 B21 hz21 HEK hq20 hq20' hq21 hq21'
  go_wp2_with fail
  refine (minus_any A7 A6 ts ss c7 c6 w22 (T8.out.below B22.out hz22) (S8.out.below B22.out hz22) ISS.out.ord (by omega) (by omega) ARGT.out ARGS.out).mono ?_
  rintro e w23 ⟨P23, q23, rfl, hl23, hq23, hq23', _, hb23⟩
  rw [HSS.out, HTS.out] at hl23
  rw [HSS.out, HTS.out]
  have B23 := Lib.hid (B22.out.trans (hb23.mono hz22))
  have hz23 := B23.out.size
  have HL23 := Lib.hid hl23
  clear hl23 hb23 B22 hz22 s0 t0
  go_wp2_with fail
  refine (refMinus_any A5 A3 bs al c5 c3 w23 (B8.out.below B23.out hz23) (A8.out.below B23.out hz23) HAS.out.ord.nodup (by omega) (by omega) ARGB.out ARGA.out).mono ?_
  rintro e w24 ⟨P24, q24, rfl, hl24, hq24, hq24', _, hb24⟩
  have hmm : (ChoP.minusL (cho bs) (cho al)).length ≤ 65536 := by
    have h1 := List.length_filter_le (ChoP.missB (cho al)) (cho bs)
    simp only [ChoP.minusL, List.length_map] at h1 ⊢
    simp only [cho, List.length_map] at h1
    simp only [cho]
    omega
  have hek := eqKeys_any P23 P24 (ChoP.minusL (cho bs) (cho al)) (ChoP.minusL (cho bs) (cho al)) q23 q24 w24 (HL23.out.below hb24 hb24.size) hl24 hmm
  rw [(ChoP.eqKs_iff _ _).2 rfl] at hek
  have HEK := Lib.hid hek
  have B24 := Lib.hid (B23.out.trans (hb24.mono hz23))
  have hz24 := B24.out.size
  clear hek hmm hl24 hb24 B23 hz23 HL23
  generalize (ChoP.minusL (cho bs) (cho al)) = KM at *
  go_wp2_with fail
  refine HEK.out.mono ?_
  rintro e w25 ⟨rfl, hb25⟩
  have B25 := Lib.hid (B24.out.trans (hb25.mono hz24))
  have hz25 := B25.out.size
  have s0 := (B25.out.cell (p := ⟨G6, 0, none⟩) hlt68).trans SX.out
  have t0 := (B25.out.cell (p := ⟨G7, 0, none⟩) hlt78).trans TX.out
  clear hb25 B24 hz24 HEK hq23 hq23' hq24 hq24'
  go_wp2_with fail
  refine (all_any A6 ss c6 w25 (S8.out.below B25.out hz25) (by omega) OKS.out).mono ?_
  rintro e w26 ⟨P26, y26, q26, rfl, hy26, hcy26, _, _, _, hb26⟩
  have B26 := Lib.hid (B25.out.trans (hb26.mono hz25))
  have hz26 := B26.out.size
  have hsame := sameSet_any P26 A3 y26 al q26 c3 w26 hcy26 (A8.out.below B26.out hz26) (by have h1 := congrArg List.length hy26; simp only [cho, List.length_map] at h1; omega)
  rw [(ChoP.eqL_iff _ _).2 (hy26.trans HSS.out)] at hsame
  have HSAME := Lib.hid hsame
  clear hsame hy26 hcy26 hb26 s0 t0 B25 hz25
  go_wp2_with fail
  refine HSAME.out.mono ?_
  rintro e w27 ⟨rfl, hb27⟩
  have B27 := Lib.hid (B26.out.trans (hb27.mono hz26))
  have hz27 := B27.out.size
  have s0 := (B27.out.cell (p := ⟨G6, 0, none⟩) hlt68).trans SX.out
  have t0 := (B27.out.cell (p := ⟨G7, 0, none⟩) hlt78).trans TX.out
  clear hb27 B26 hz26 HSAME
  go_wp2_with fail
  refine (all_any A7 ts c7 w27 (T8.out.below B27.out hz27) (by omega) OKT.out).mono ?_
  rintro e w28 ⟨P28, y28, q28, rfl, hy28, hcy28, _, _, _, hb28⟩
  have B28 := Lib.hid (B27.out.trans (hb28.mono hz27))
  have hz28 := B28.out.size
  have hsame := sameSet_any P28 A5 y28 bs q28 c5 w28 hcy28 (B8.out.below B28.out hz28) (by have h1 := congrArg List.length hy28; simp only [cho, List.length_map] at h1; omega)
  rw [(ChoP.eqL_iff _ _).2 (hy28.trans HTS.out)] at hsame
  have HSAME := Lib.hid hsame
  clear hsame hy28 hcy28 hb28 s0 t0 B27 hz27
  go_wp2_with fail
  refine HSAME.out.mono ?_
  rintro e w29 ⟨rfl, hb29⟩
  have B29 := Lib.hid (B28.out.trans (hb29.mono hz28))
  have hz29 := B29.out.size
  have s0 := (B29.out.cell (p := ⟨G6, 0, none⟩) hlt68).trans SX.out
  have t0 := (B29.out.cell (p := ⟨G7, 0, none⟩) hlt78).trans TX.out
  clear hb29 B28 hz28 HSAME
  go_wp2_with fail
  go_ret
  exact ⟨rfl, W8.out.trans (B29.out.mono (by omega))⟩
end Go.Proofs.YtolfbnjmkgikdaaDoor
