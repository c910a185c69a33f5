/- The walk of the law on the texts of sets and keys. -/
import Derived.Test.YtpniilgkceadeaaGreatDoorChoAwake
import Derived.Test.YtpniilgkceadeaaGreatDoorChoCut
import Derived.Test.YtpniilgkceadeaaGreatDoorChoParse
import Derived.Test.YtpniilgkceadeaaGreatDoorChoRefText
import Derived.Test.YtpniilgkceadeaaGreatDoorChoKeysA
import Derived.Test.YtpniilgkceadeaaGreatDoorChoSame
import Derived.Test.YtpniilgkceadeaaGreatDoorChoOpenL
namespace ChoP
open Go
theorem parseK_text {k : Key} (h : keyOK k = true) : parseK (keyText k) = (k, 0) := by
  unfold parseK
  rw [keyC_text h]
  simp only [h, if_pos]
end ChoP
namespace Go.Proofs.YtpniilgkceadeaaGreatDoor
open Go.RowKit Go.Sort
theorem valid_len30t {l : List ChoP.Cho} {ps : List Pair} (h : cho ps = ChoP.validL l 30) : ps.length ≤ 30 := by
  have h1 := congrArg List.length h
  have h2 := ChoP.validL_le l 30
  simp only [cho, List.length_map] at h1
  omega
set_option maxRecDepth 100000 in
theorem keyText_bad (k : ChoP.Key) (w : World) (h : ChoP.keyOK k = false) : Calls Tryz.prog 24 #[keyV k] w (StrPost [] w) := by
  have hck := fun W => checkKey_any k W
  rw [show errK k = 1 by unfold errK; rw [h]; rfl] at hck
  have e1 : keyV k = .agg #[.int .u8 k.kind, .int .i64 k.a, .int .i64 k.b, .int .i64 k.n] := rfl
  rw [e1] at hck
  rw [e1]
  have HC := Lib.hid hck
  clear hck h e1
  go_enter Tryz.func24, Tryz.ntmps24
  go_wp2_with fail
  refine (HC.out _).mono ?_
  rintro e w1 ⟨rfl, hb⟩
  obtain ⟨hB, _, _⟩ := box4 hb
  have HB := Lib.hid hB
  clear hb hB
  go_wp2_with fail
  go_ret
  exact ⟨rfl, HB.out⟩
set_option maxRecDepth 100000 in
set_option maxHeartbeats 8000000 in
theorem choiceTexts_walk (A : Option Addr) (ps : List Pair) (c : Nat) (w : World) (hL : LaidP w) (h : Chos w w.heap.size A ps) (hc : ps.length ≤ c) (hc2 : c ≤ 9223372036854775807) (hin : ∀ p ∈ ps, ChoIn p.2) : Calls Tryz.prog 5 #[.slice A ps.length c] w (TruePost w) := by
  have HL := Lib.hid hL
  have H := Lib.hid h
  have HIN := Lib.hid hin
  clear hL h hin
  go_enter Tryz.func5, Tryz.ntmps5
  go_wp2_with fail
  refine (awake_any w HL.out.laid).mono ?_
  rintro e w1 ⟨rfl, hb⟩
  have hz1 := hb.size
  have HB := Lib.hid hb
  clear hb
  go_wp2_with fail
  refine (few_any A ps c w1 (H.out.below HB.out (by omega)) hc hc2).mono ?_
  rintro e w2 ⟨A1, qs, c1, rfl, hq, hcq, hqc, hqc2, _, hb2⟩
  have hql : qs.length ≤ 100 := by
    have h1 := congrArg List.length hq
    simp [cho] at h1
    omega
  have hinr : ∀ x ∈ cho qs, ChoP.InR x := by
    rw [hq]
    intro x hx
    obtain ⟨y, hy, rfl⟩ := List.mem_map.1 hx
    obtain ⟨p, hp, rfl⟩ := List.mem_map.1 (List.mem_of_mem_take hy)
    intro v hv
    exact (HIN.out p hp).r v (List.mem_of_mem_take hv)
  have HINR := Lib.hid hinr
  have HCQ := Lib.hid hcq
  have HB2 := Lib.hid hb2
  have hz2 := hb2.size
  clear hq hcq hb2 H hinr HIN
  go_wp2_with fail
  refine (valid_any A1 qs c1 30 w2 HCQ.out (by omega) (by omega)).mono ?_
  rintro e w3 ⟨A3, al, c3, rfl, ha, hca, hac, hac2, _, hb3⟩
  have hal := valid_len30t ha
  have has : ChoP.IsSet (cho al) := by rw [ha]; exact ChoP.validL_isSet _ _
  have hin3 : ∀ x ∈ cho al, ChoP.InR x := fun x hx => HINR.out x (ChoP.valid_mem (by rw [← ha]; exact hx))
  have HCA := Lib.hid hca
  have HAS := Lib.hid has
  have HIN3 := Lib.hid hin3
  have HB3 := Lib.hid hb3
  have hz3 := hb3.size
  clear ha hca has hin3 hb3 HCQ HINR
  go_wp2_with fail
  refine (new_fresh A3 al c3 w3 HCA.out (by omega)).mono ?_
  rintro e w4 ⟨A4, ss, c4, rfl, hss, hcs, hsc, hsc2, _, hb4⟩
  rw [HAS.out.err]
  rw [HAS.out.set] at hss
  have hsl : ss.length ≤ 30 := by
    have h1 := congrArg List.length hss
    simp only [cho, List.length_map] at h1
    omega
  have hset : ChoP.IsSet (cho ss) := by rw [hss]; exact HAS.out
  have hinS : ∀ x ∈ cho ss, ChoP.InR x := by rw [hss]; exact HIN3.out
  have hokS : ∀ p ∈ ss, ChoP.okC p.2 = true ∧ ChoP.InR p.2 := fun p hp => ⟨hset.ok _ (List.mem_map.2 ⟨p, hp, rfl⟩), hinS _ (List.mem_map.2 ⟨p, hp, rfl⟩)⟩
  have hokA : ∀ p ∈ al, ChoP.okC p.2 = true ∧ ChoP.InR p.2 := fun p hp => ⟨HAS.out.ok _ (List.mem_map.2 ⟨p, hp, rfl⟩), HIN3.out _ (List.mem_map.2 ⟨p, hp, rfl⟩)⟩
  have hbw4 : RowKit.Below w.heap.size w w4 := HB.out.trans ((HB2.out.mono (by omega)).trans ((HB3.out.mono (by omega)).trans (hb4.mono (by omega))))
  have hca4 := HCA.out.below hb4 hb4.size
  have hz4 := hbw4.size
  have hba : ∀ o : Obj, RowKit.Below w4.heap.size w4 (w4.alloc o) := fun o => (RowKit.Below.refl _ _).alloc (Nat.le_refl _) _
  have hL4 := HL.out.below hbw4
  have htl := setText_le (cho ss) (fun x hx => by obtain ⟨p, hp, rfl⟩ := List.mem_map.1 hx; exact hokS p hp)
  have htl2 : (cho ss).length = ss.length := by simp [cho]
  have htx := fun W (hW : RowKit.Below w4.heap.size w4 W) => text_any A4 ss c4 W (hL4.below hW).laid (hcs.below hW hW.size) hokS (by omega)
  have hrt := fun W (hW : RowKit.Below w4.heap.size w4 W) => refText_any A3 al c3 W (hca4.below hW hW.size) hokA (by omega)
  rw [← hss] at hrt
  have hpt := ChoP.parseT_text hset hinS
  have hTl : (ChoP.setText (cho ss)).length ≤ 30000 := by omega
  generalize ChoP.setText (cho ss) = T at *
  have HCS := Lib.hid hcs
  have SET := Lib.hid hset
  have OKS := Lib.hid hokS
  have HBW4 := Lib.hid hbw4
  have HL4 := Lib.hid hL4
  have HTX := Lib.hid htx
  have HRT := Lib.hid hrt
  have HPT := Lib.hid hpt
  clear hss hcs hset hinS hokS hokA hb4 hbw4 hca4 hL4 htl htx hrt hpt HB HB2 HB3 HCA HAS HIN3 HL
  go_wp2_with fail
  refine (HTX.out _ (hba _)).mono ?_
  rintro e w5 ⟨rfl, hb5⟩
  rw [World.size_alloc] at hb5
  have s5 : w5.cell? ⟨w4.heap.size, 0, none⟩ = some (.slice A4 ss.length c4) := (hb5.cell (p := ⟨w4.heap.size, 0, none⟩) (by simp)).trans (cell_at (heap_alloc_new w4 _) 0 _ rfl)
  have hb45 := (hba _).trans (hb5.mono (by omega))
  have hz5 : w4.heap.size < w5.heap.size := by have := hb5.size; rw [World.size_alloc] at this; omega
  have HB45 := Lib.hid hb45
  clear hb5 hb45 hba
  go_wp2_with fail
  refine (HRT.out w5 HB45.out).mono ?_
  rintro e w6 ⟨rfl, hb6⟩
  have s6 := (hb6.cell (p := ⟨w4.heap.size, 0, none⟩) hz5).trans s5
  have hz6 := Nat.lt_of_lt_of_le hz5 hb6.size
  have HB46 := Lib.hid (HB45.out.trans (hb6.mono (Nat.le_of_lt hz5)))
  clear hb6 s5 HB45 HRT
  have hTT : (T == T) = true := by simp
  go_wp2_with fail
  refine (HTX.out w6 HB46.out).mono ?_
  rintro e w7 ⟨rfl, hb7⟩
  have s7 := (hb7.cell (p := ⟨w4.heap.size, 0, none⟩) hz6).trans s6
  have hz7 := Nat.lt_of_lt_of_le hz6 hb7.size
  have HB47 := Lib.hid (HB46.out.trans (hb7.mono (Nat.le_of_lt hz6)))
  clear hb7 s6 HB46 HTX
  go_wp2_with fail
  refine (parse_any ⟨T.toArray⟩ w7 (HL4.out.below HB47.out) (by show T.toArray.size ≤ _; simp; omega)).mono ?_
  rintro e w8 ⟨A8, ts, c8, rfl, hts, htset, hct, htc, htc2, hb8⟩
  rw [show (⟨T.toArray⟩ : ByteArray).data.toList = T from rfl, HPT.out] at hts ⊢
  dsimp only at hts ⊢
  have ez : ((0 : Nat) : Int) = 0 := rfl
  rw [ez]
  have s8 := (hb8.cell (p := ⟨w4.heap.size, 0, none⟩) hz7).trans s7
  have hz8 := Nat.lt_of_lt_of_le hz7 hb8.size
  have hb48 := HB47.out.trans (hb8.mono (Nat.le_of_lt hz7))
  have htl : ts.length = ss.length := by
    have h1 := congrArg List.length hts
    simpa [cho] using h1
  have hba : ∀ o : Obj, RowKit.Below w8.heap.size w8 (w8.alloc o) := fun o => (RowKit.Below.refl _ _).alloc (Nat.le_refl _) _
  have hargS : ∀ p ∈ ss, p.2.args.length ≤ 65536 := fun p hp => by have := okC_args (OKS.out p hp).1; omega
  have hargT : ∀ p ∈ ts, p.2.args.length ≤ 65536 := fun p hp => by
    have hm : p.2 ∈ cho ss := by rw [← hts]; exact List.mem_map.2 ⟨p, hp, rfl⟩
    have := okC_args (SET.out.ok _ hm)
    omega
  have heq := fun o : Obj => equal_any A8 A4 ts ss c8 c4 (w8.alloc o) (hct.below (hba o) (hba o).size) (HCS.out.below (hb48.trans ((hba o).mono (by omega))) (by rw [World.size_alloc]; have := hb48.size; omega)) (by omega) hargT hargS
  rw [hts, (ChoP.eqL_iff _ _).2 rfl] at heq
  have HEQ := Lib.hid heq
  have HB48 := Lib.hid hb48
  clear htl hts htset hct hb8 hb48 hargS hargT heq s7 HB47 HPT ez
  have hlt48 : w4.heap.size < w8.heap.size := hz8
  go_wp2_with fail
  refine (HEQ.out _).mono ?_
  rintro e w9 ⟨rfl, hb9⟩
  rw [World.size_alloc] at hb9
  have hb89 : RowKit.Below w8.heap.size w8 w9 := (hba _).trans (hb9.mono (by omega))
  have s9 := (hb89.cell (p := ⟨w4.heap.size, 0, none⟩) hz8).trans s8
  have hz9 := Nat.lt_of_lt_of_le hz8 hb89.size
  have HB49 := Lib.hid (HB48.out.trans (hb89.mono (Nat.le_of_lt hz8)))
  clear hb9 hb89 hba s8 HEQ HB48
  go_wp2_with fail
  refine (keys_any A4 ss c4 w9 (HCS.out.below HB49.out HB49.out.size) (by omega)).mono ?_
  rintro e w10 ⟨A10, c10, rfl, hk10, hkc10, hkc10', hfr10, hb10⟩
  have hkl : (keys ss).length = ss.length := by simp [keys]
  have hkok : ∀ k ∈ keys ss, ChoP.keyOK k = true := fun k hk => by
    obtain ⟨p, hp, rfl⟩ := List.mem_map.1 hk
    exact (ChoP.okC_bounds (OKS.out p hp).1).1
  have HK10 := Lib.hid hk10
  have HKOK := Lib.hid hkok
  have HB410 := Lib.hid (HB49.out.trans (hb10.mono (Nat.le_of_lt hz9)))
  have HBW10 := Lib.hid (HBW4.out.trans (HB410.out.mono hz4))
  have hl10 : LaidP w10 := HL4.out.below HB410.out
  have HL10 := Lib.hid hl10
  generalize keys ss = ks at *
  clear hk10 hkok hb10 s9 HB49 hfr10 hl10
  go_wp2_with fail
  go_loopw [53] (fun i wr => ∃ k : Nat, k ≤ ks.length ∧ i = .int .i64 k ∧ RowKit.Below w10.heap.size w10 wr) (fun i _ => ks.length - (intOf i).toNat)
  case atStart => exact ⟨0, Nat.zero_le _, rfl, RowKit.Below.refl _ _⟩
  case round =>
    obtain ⟨k, hk, rfl, hb⟩ := hrel
    have HB := Lib.hid hb
    have hz := hb.size
    have hLr := HL10.out.below hb
    have HLR := Lib.hid hLr
    clear hb hLr
    by_cases hlt : k < ks.length
    · obtain ⟨y, hy⟩ : ∃ y, ks[k]? = some y := ⟨_, List.getElem?_eq_getElem hlt⟩
      have hyok := HKOK.out y (List.mem_of_getElem? hy)
      obtain ⟨b, o, rfl, hb9, hc9⟩ := keys_at HK10.out k y hy
      have hcell : ∀ j u, (keyVs y)[j]? = some u → wr.cell? ⟨b, o + k * 4 + j, none⟩ = some u := fun j u hu => (HB.out.cell (p := ⟨b, o + k * 4 + j, none⟩) hb9).trans (hc9 j u hu)
      have x0 : wr.cell? ⟨b, o + k * 4, none⟩ = some (.int .u8 y.kind) := hcell 0 _ rfl
      have x1 := hcell 1 _ rfl
      have x2 := hcell 2 _ rfl
      have x3 := hcell 3 _ rfl
      have hkt := fun (W : World) (hW : LaidP W) => keyText_any y W hW.laid hyok
      have hrk := fun W => refKeyText_any y W hyok
      have hpk := ChoP.parseK_text hyok
      have hkl2 := keyText_le hyok
      have e1 : keyV y = .agg #[.int .u8 y.kind, .int .i64 y.a, .int .i64 y.b, .int .i64 y.n] := rfl
      have hpa := fun (W : World) (hW : LaidP W) => parseKey_any ⟨(ChoP.keyText y).toArray⟩ W hW (by show (ChoP.keyText y).toArray.size ≤ _; simp; omega)
      rw [show (⟨(ChoP.keyText y).toArray⟩ : ByteArray).data.toList = ChoP.keyText y from rfl, hpk] at hpa
      unfold PKPost at hpa
      dsimp only at hpa
      rw [e1] at hkt hrk hpa
      generalize ChoP.keyText y = KT at *
      obtain ⟨kd, ka, kb, kn⟩ := y
      have HKT := Lib.hid hkt
      have HRK := Lib.hid hrk
      have HPA := Lib.hid hpa
      clear hkt hrk hpa hpk hcell hc9 hy hyok e1
      have hba : ∀ o : Obj, RowKit.Below wr.heap.size wr (wr.alloc o) := fun o => (RowKit.Below.refl _ _).alloc (Nat.le_refl _) _
      go_wp2_with fail
      refine (HKT.out _ (HLR.out.below (hba _))).mono ?_
      rintro e v1 ⟨rfl, hv1⟩
      rw [World.size_alloc] at hv1
      have hbx1 := (hv1.block wr.heap.size (by omega)).trans (heap_alloc_new wr _)
      have hy1 : wr.heap.size < v1.heap.size := (Array.getElem?_eq_some_iff.1 hbx1).1
      have hr1 : RowKit.Below wr.heap.size wr v1 := (hba _).trans (hv1.mono (by omega))
      have HR1 := Lib.hid hr1
      have HBX1 := Lib.hid hbx1
      clear hv1 hr1 hbx1 hba x0 x1 x2 x3
      go_wp2_with fail
      refine (HPA.out v1 (HLR.out.below HR1.out)).mono ?_
      rintro e v2 ⟨rfl, hv2⟩
      have hbx2 := (hv2.block wr.heap.size hy1).trans HBX1.out
      have hy2 := Nat.lt_of_lt_of_le hy1 hv2.size
      have HR2 := Lib.hid (HR1.out.trans (hv2.mono (Nat.le_of_lt hy1)))
      obtain ⟨a0, a1, a2, a3⟩ := blk4 hbx2
      have HBX2 := Lib.hid hbx2
      clear hv2 hbx2 HBX1 HR1 HPA
      go_wp2_with fail
      have hbx3 := (heap_alloc_old v2 (.cells #[.int .u8 kd, .int .i64 ka, .int .i64 kb, .int .i64 kn] 44) hy2).trans HBX2.out
      have hbn3 := heap_alloc_new v2 (.cells #[.int .u8 kd, .int .i64 ka, .int .i64 kb, .int .i64 kn] 44)
      have hr3 := HR2.out.trans (((RowKit.Below.refl v2.heap.size v2).alloc (Nat.le_refl _) (.cells #[.int .u8 kd, .int .i64 ka, .int .i64 kb, .int .i64 kn] 44)).mono (Nat.le_of_lt hy2))
      clear a0 a1 a2 a3
      generalize v2.alloc (.cells #[.int .u8 kd, .int .i64 ka, .int .i64 kb, .int .i64 kn] 44) = v3 at *
      generalize v2.heap.size = G at *
      obtain ⟨p0, p1, p2, p3⟩ := blk4 hbx3
      obtain ⟨q0, q1, q2, q3⟩ := blk4 hbn3
      have P0 := cell_regrown p0
      have P1 := cell_regrown p1
      have P2 := cell_regrown p2
      have P3 := cell_regrown p3
      have Q0 := cell_regrown q0
      have Q1 := cell_regrown q1
      have Q2 := cell_regrown q2
      have Q3 := cell_regrown q3
      have HR3 := Lib.hid hr3
      have cK : ∀ d os, Calls Tryz.prog 24 #[.agg #[.int .u8 kd, .int .i64 ka, .int .i64 kb, .int .i64 kn]] (grow (redrawn v3 d) os) fun e w'' => e = .returned (strV KT) ∧ ∃ p : Regrown, w'' = grow (redrawn v3 p.d) p.os := fun d os => Calls.regrown_of (HKT.out _ (HLR.out.below (HR3.out.trans ((below_regrown v3 d os).mono HR3.out.size))))
      have cR : ∀ d os, Calls Tryz.prog 25 #[.agg #[.int .u8 kd, .int .i64 ka, .int .i64 kb, .int .i64 kn]] (grow (redrawn v3 d) os) fun e w'' => e = .returned (strV KT) ∧ ∃ p : Regrown, w'' = grow (redrawn v3 p.d) p.os := fun d os => Calls.regrown_of (HRK.out _)
      have CK := Lib.hid cK
      have CR := Lib.hid cR
      have hke := fun W => key_equalIn kd ka kb kn kd ka kb kn W
      rw [(ChoP.eqB_iff ⟨kd, ka, kb, kn⟩ ⟨kd, ka, kb, kn⟩).2 rfl] at hke
      have hkg := key_guard
      have hKK : (KT == KT) = true := by simp
      clear hbx3 hbn3 hr3 p0 p1 p2 p3 q0 q1 q2 q3 cK cR HBX2 HR2
      refine wp_region_quiet_below (by kernel_rfl) (by kernel_rfl) ?_
      repeat (first | go_big_quiet_step (first | exact CK.out _ _ | exact CR.out _ _) | quiet_step (first | exact CK.out _ _ | exact CR.out _ _))
      refine wpQuiet_nil ?_
      rintro w' ⟨pq, rfl⟩
      have HF := Lib.hid (HB.out.trans ((HR3.out.trans ((below_regrown v3 pq.d pq.os).mono HR3.out.size)).mono hz))
      generalize grow (redrawn v3 pq.d) pq.os = v4 at *
      clear P0 P1 P2 P3 Q0 Q1 Q2 Q3 hke hkg CK CR
      go_wp2_with fail
      go_roundw
      case rel => exact ⟨k + 1, by omega, by go_num, HF.out⟩
      case measure => simp [intOf]; omega
    · have hkb := fun W => keyText_bad ⟨10, 0, 0, 0⟩ W (by rfl)
      have e1 : keyV ⟨10, 0, 0, 0⟩ = .agg #[.int .u8 10, .int .i64 0, .int .i64 0, .int .i64 0] := rfl
      rw [e1] at hkb
      have HKB := Lib.hid hkb
      clear hkb e1
      go_wp2_with fail
      refine (HKB.out _).mono ?_
      rintro e v1 ⟨rfl, hv1⟩
      have HF := Lib.hid (HBW10.out.trans ((HB.out.trans (hv1.mono hz)).mono HBW10.out.size))
      clear hv1 HKB
      go_wp2_with fail
      go_ret
      exact ⟨rfl, HF.out⟩
end Go.Proofs.YtpniilgkceadeaaGreatDoor
