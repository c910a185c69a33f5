/- The walk of the law on the bytes of a set. -/
import Derived.Test.YtpniilgkceadeaaGreatDoorChoAwake
import Derived.Test.YtpniilgkceadeaaGreatDoorChoCut
import Derived.Test.YtpniilgkceadeaaGreatDoorChoRead
import Derived.Test.YtpniilgkceadeaaGreatDoorChoReadR
import Derived.Test.YtpniilgkceadeaaGreatDoorChoRefBytes
import Derived.Test.YtpniilgkceadeaaGreatDoorChoSame
import Derived.Test.YtpniilgkceadeaaGreatDoorChoOpenL
namespace Go.Proofs.YtpniilgkceadeaaGreatDoor
open Go.RowKit Go.Sort
theorem valid_len30 {l : List ChoP.Cho} {ps : List Pair} (h : cho ps = ChoP.validL l 30) : ps.length ≤ 30 := by
  have h1 := congrArg List.length h
  have h2 := ChoP.validL_le l 30
  simp only [cho, List.length_map] at h1
  omega
theorem natC_eqI (l : List Nat) : natC l = (l.map fun (n : Nat) => (n : Int)).map (Value.int .u8) := by simp [natC]
set_option maxRecDepth 100000 in
set_option maxHeartbeats 4000000 in
theorem choiceBytes_walk (A : Option Addr) (ps : List Pair) (c : Nat) (w : World) (hL : Laid w) (h : Chos w w.heap.size A ps) (hc : ps.length ≤ c) (hc2 : c ≤ 9223372036854775807) (hin : ∀ p ∈ ps, ChoIn p.2) : Calls Tryz.prog 3 #[.slice A ps.length c] w (TruePost w) := by
  have HL := Lib.hid hL
  have H := Lib.hid h
  have HIN := Lib.hid hin
  clear hL h hin
  go_enter Tryz.func3, Tryz.ntmps3
  go_wp2_with fail
  refine (awake_any w HL.out).mono ?_
  rintro e w1 ⟨rfl, hb⟩
  have hz1 := hb.size
  have HB := Lib.hid hb
  clear hb HL
  go_wp2_with fail
  refine (few_any A ps c w1 (H.out.below HB.out (by omega)) hc hc2).mono ?_
  rintro e w2 ⟨A1, qs, c1, rfl, hq, hcq, hqc, hqc2, _, hb2⟩
  have hql : qs.length ≤ 100 := by
    have h1 := congrArg List.length hq
    simp [cho] at h1
    omega
  have hinr : ∀ x ∈ cho qs, ChoP.InR' x := by
    rw [hq]
    intro x hx
    obtain ⟨y, hy, rfl⟩ := List.mem_map.1 hx
    obtain ⟨p, hp, rfl⟩ := List.mem_map.1 (List.mem_of_mem_take hy)
    intro v hv
    exact (HIN.out p hp).r v (List.mem_of_mem_take hv)
  have HINR := Lib.hid hinr
  have HCQ := Lib.hid hcq
  have HB2 := Lib.hid hb2
  have hz2 := hb2.size
  clear hq hcq hb2 H hinr HIN
  go_wp2_with fail
  refine (valid_any A1 qs c1 30 w2 HCQ.out (by omega) (by omega)).mono ?_
  rintro e w3 ⟨A3, al, c3, rfl, ha, hca, hac, hac2, _, hb3⟩
  have hal := valid_len30 ha
  have has : ChoP.IsSet (cho al) := by rw [ha]; exact ChoP.validL_isSet _ _
  have hin3 : ∀ x ∈ cho al, ChoP.InR' x := fun x hx => HINR.out x (ChoP.valid_mem (by rw [← ha]; exact hx))
  have HCA := Lib.hid hca
  have HAS := Lib.hid has
  have HIN3 := Lib.hid hin3
  have HB3 := Lib.hid hb3
  have hz3 := hb3.size
  clear ha hca has hin3 hb3 HCQ HINR
  go_wp2_with fail
  refine (new_fresh A3 al c3 w3 HCA.out (by omega)).mono ?_
  rintro e w4 ⟨A4, ss, c4, rfl, hss, hcs, hsc, hsc2, _, hb4⟩
  rw [HAS.out.err]
  rw [HAS.out.set] at hss
  have hsl : ss.length ≤ 30 := by
    have h1 := congrArg List.length hss
    simp only [cho, List.length_map] at h1
    omega
  have hset : ChoP.IsSet (cho ss) := by rw [hss]; exact HAS.out
  have hinS : ∀ x ∈ cho ss, ChoP.InR' x := by rw [hss]; exact HIN3.out
  have hokS : ∀ p ∈ ss, ChoP.okC p.2 = true ∧ ChoP.InR p.2 := fun p hp => ⟨hset.ok _ (List.mem_map.2 ⟨p, hp, rfl⟩), hinS _ (List.mem_map.2 ⟨p, hp, rfl⟩)⟩
  have hokA : ∀ p ∈ al, ChoP.okC p.2 = true ∧ ChoP.InR p.2 := fun p hp => ⟨HAS.out.ok _ (List.mem_map.2 ⟨p, hp, rfl⟩), HIN3.out _ (List.mem_map.2 ⟨p, hp, rfl⟩)⟩
  have OKS := Lib.hid hokS
  have OKA := Lib.hid hokA
  have HCS := Lib.hid hcs
  have SET := Lib.hid hset
  have INS := Lib.hid hinS
  have HSS := Lib.hid hss
  have HCA4 := Lib.hid (HCA.out.below hb4 hb4.size)
  have HBW4 := Lib.hid (HB.out.trans ((HB2.out.mono (by omega)).trans ((HB3.out.mono (by omega)).trans (hb4.mono (by omega)))))
  have hz4 := HBW4.out.size
  clear hss hcs hset hinS hokS hokA hb4 HB HB2 HB3 HCA HAS HIN3
  go_wp2_with fail
  have hba : ∀ o : Obj, RowKit.Below w4.heap.size w4 (w4.alloc o) := fun o => (RowKit.Below.refl _ _).alloc (Nat.le_refl _) _
  refine (bytes_any A4 ss c4 (w4.alloc _) (HCS.out.below (hba _) (hba _).size) OKS.out (by omega)).mono ?_
  rintro e w5 ⟨v5, rfl, hst⟩
  have hb5 := hst.below
  rw [World.size_alloc] at hb5
  have hs0 : w5.cell? ⟨w4.heap.size, 0, none⟩ = some (.slice A4 ss.length c4) := (hb5.cell (p := ⟨w4.heap.size, 0, none⟩) (by simp)).trans (cell_at (heap_alloc_new w4 _) 0 _ rfl)
  have hb45 : RowKit.Below w4.heap.size w4 w5 := (hba _).trans (hb5.mono (by omega))
  have hz45 : w4.heap.size < w5.heap.size := by have := hb5.size; rw [World.size_alloc] at this; omega
  have hLb : ChoP.Byt (ChoP.setBytes (cho ss)) := ChoP.setBytes_byt SET.out INS.out
  have hL2 : (ChoP.setBytes (cho ss)).length ≤ 20000 := by
    have h1 := ChoP.putL_len (cho ss).length
    have h2 := ChoP.flat_le ChoP.choBytes 111 (cho ss) (fun x hx => ChoP.choBytes_le x (ChoP.okC_in (SET.out.ok x hx)).2.2.2.2.2.2)
    have h3 : (cho ss).length = ss.length := by simp [cho]
    simp only [ChoP.setBytes, List.length_append]
    omega
  have hrd := ChoP.readF_put SET.out INS.out
  have hrb := fun W (hW : RowKit.Below w4.heap.size w4 W) => refBytes_any A3 al c3 W (HCA4.out.below hW hW.size) OKA.out (by omega)
  rw [← HSS.out] at hrb
  have hby := fun W (hW : RowKit.Below w4.heap.size w4 W) => bytes_any A4 ss c4 W (HCS.out.below hW hW.size) OKS.out (by omega)
  generalize hLL : ChoP.setBytes (cho ss) = L at *
  obtain ⟨A5, c5, rfl, hl5⟩ := hst.slice
  have e5 : (natC L).length = L.length := by simp [natC]
  rw [e5]
  have HLB := Lib.hid hLb
  have HRD := Lib.hid hrd
  have HRB := Lib.hid hrb
  have HBY := Lib.hid hby
  have HL5 := Lib.hid hl5
  have HB45 := Lib.hid hb45
  clear hst hLb hrd hrb hby hLL hl5 hb45 hb5 hba e5
  go_wp2_with fail
  refine (HRB.out w5 HB45.out).mono ?_
  rintro e w6 ⟨v6, rfl, hst6⟩
  obtain ⟨A6, c6, rfl, hl6⟩ := hst6.slice
  have e6 : (natC L).length = L.length := by simp [natC]
  rw [e6]
  have hb6 := hst6.below
  have s6 : w6.cell? ⟨w4.heap.size, 0, none⟩ = some (.slice A4 ss.length c4) := (hb6.cell (p := ⟨w4.heap.size, 0, none⟩) hz45).trans hs0
  have heq := eqU8_any A5 A6 c5 c6 (L.map fun (n : Nat) => (n : Int)) (L.map fun (n : Nat) => (n : Int)) w6 (by rw [← natC_eqI]; exact HL5.out.below hb6 hb6.size) (by rw [← natC_eqI]; exact hl6) (by simp; omega) (by simp; omega)
  rw [decide_eq_true rfl, List.length_map] at heq
  have HEQ := Lib.hid heq
  have hb46 := HB45.out.trans (hb6.mono HB45.out.size)
  have hz46 : w4.heap.size < w6.heap.size := by have := hb6.size; omega
  have HB46 := Lib.hid hb46
  clear hst6 hl6 e6 hb6 heq hb46 hs0 HRB HL5 HB45
  go_wp2_with fail
  refine Calls.mono HEQ.out ?_
  rintro e w7 hp
  obtain ⟨rfl, hb7⟩ := hp.below
  have s7 : w7.cell? ⟨w4.heap.size, 0, none⟩ = some (.slice A4 ss.length c4) := (hb7.cell (p := ⟨w4.heap.size, 0, none⟩) hz46).trans s6
  have HB47 := Lib.hid (HB46.out.trans (hb7.mono HB46.out.size))
  have hz47 : w4.heap.size < w7.heap.size := by have := hb7.size; omega
  clear hp hb7 HEQ s6 HB46
  go_wp2_with fail
  refine (HBY.out w7 HB47.out).mono ?_
  rintro e w8 ⟨v8, rfl, hst8⟩
  obtain ⟨A8, c8, rfl, hl8⟩ := hst8.slice
  have e8 : (natC L).length = L.length := by simp [natC]
  rw [e8]
  have hb8 := hst8.below
  have s8 : w8.cell? ⟨w4.heap.size, 0, none⟩ = some (.slice A4 ss.length c4) := (hb8.cell (p := ⟨w4.heap.size, 0, none⟩) hz47).trans s7
  have HB48 := Lib.hid (HB47.out.trans (hb8.mono HB47.out.size))
  have hz48 : w4.heap.size < w8.heap.size := by have := hb8.size; omega
  have HL8 := Lib.hid hl8
  clear hst8 hl8 e8 hb8 s7 HB47 HBY
  go_wp2_with fail
  refine (read_any A8 L c8 w8 HL8.out HLB.out (by omega)).mono ?_
  rintro e w9 ⟨A9, ts, c9, rfl, hts, hct, htc, htc2, hb9⟩
  obtain ⟨e1, e2⟩ := ChoP.rd_some HRD.out
  rw [e2] at hts
  rw [e1]
  have s9 : w9.cell? ⟨w4.heap.size, 0, none⟩ = some (.slice A4 ss.length c4) := (hb9.cell (p := ⟨w4.heap.size, 0, none⟩) hz48).trans s8
  have HB49 := Lib.hid (HB48.out.trans (hb9.mono HB48.out.size))
  have hz49 : w4.heap.size < w9.heap.size := by have := hb9.size; omega
  have htl : ts.length = ss.length := by
    have h1 := congrArg List.length hts
    simpa [cho] using h1
  have hba : ∀ o : Obj, RowKit.Below w9.heap.size w9 (w9.alloc o) := fun o => (RowKit.Below.refl _ _).alloc (Nat.le_refl _) _
  have hargS : ∀ p ∈ ss, p.2.args.length ≤ 65536 := fun p hp => by have := okC_args (OKS.out p hp).1; omega
  have hargT : ∀ p ∈ ts, p.2.args.length ≤ 65536 := fun p hp => by
    have hm : p.2 ∈ cho ss := by rw [← hts]; exact List.mem_map.2 ⟨p, hp, rfl⟩
    have := okC_args (SET.out.ok _ hm)
    omega
  have heq := fun o : Obj => equal_any A9 A4 ts ss c9 c4 (w9.alloc o) (hct.below (hba o) (hba o).size) (HCS.out.below (HB49.out.trans ((hba o).mono (by omega))) (by rw [World.size_alloc]; have := HB49.out.size; omega)) (by omega) hargT hargS
  rw [hts] at heq
  have hg : ChoP.eqL (cho ss) (cho ss) = true := (ChoP.eqL_iff _ _).2 rfl
  rw [hg] at heq
  have HEQ := Lib.hid heq
  clear hts hct hb9 e1 e2 hba hargS hargT heq hg s8 HB48 HL8 htl
  go_wp2_with fail
  refine (HEQ.out _).mono ?_
  rintro e w10 ⟨rfl, hb10⟩
  rw [World.size_alloc] at hb10
  have HF := Lib.hid (HBW4.out.trans ((HB49.out.trans (((RowKit.Below.refl w9.heap.size w9).alloc (Nat.le_refl _) _ |>.trans (hb10.mono (by omega))).mono (by omega))).mono hz4))
  clear hb10 HEQ
  go_wp2_with fail
  go_ret
  exact ⟨rfl, HF.out⟩
end Go.Proofs.YtpniilgkceadeaaGreatDoor
