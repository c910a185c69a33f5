/- The reference's number of a word. -/
import Derived.Test.YtpniilgkceadeaaGreatDoorChoRefSplit
import Derived.Deep.DeepCutAuto
namespace ChoP
open Go
theorem fold_lt : ∀ (k : Nat) (l : List UInt8), l.length = k → l.all digB = true → foldN l < 10 ^ k
  | 0, l, h, _ => by
    obtain rfl : l = [] := List.eq_nil_of_length_eq_zero h
    simp [foldN]
  | k + 1, l, h, ha => by
    obtain ⟨g, v, rfl⟩ : ∃ g v, l = g ++ [v] := ⟨l.dropLast, l.getLast (by rintro rfl; simp at h), (List.dropLast_concat_getLast _).symm⟩
    rw [List.all_append, Bool.and_eq_true] at ha
    have hv := ha.2
    simp only [List.all_cons, List.all_nil, Bool.and_true, digB, Bool.and_eq_true, decide_eq_true_eq] at hv
    have := fold_lt k g (by simpa using h) ha.1
    rw [fold_snoc, Nat.pow_succ]
    omega
theorem refOk_no {l : List UInt8} (h : noB l = true) : refOk l = false := by unfold refOk; rw [h]; rfl
theorem refOk_dig {l : List UInt8} (h : (digs l).all digB = false) : refOk l = false := by unfold refOk; rw [h]; simp
theorem refOk_yes {l : List UInt8} (h : noB l = false) (h2 : (digs l).all digB = true) : refOk l = decide (Lib.itoa (refV l) = l) := by unfold refOk; rw [h, h2]; rfl
end ChoP
namespace Go.Proofs.YtpniilgkceadeaaGreatDoor
open Go.RowKit
theorem wrap_eq (x : Int) : IntKind.i64.wrap x = ChoP.wrapI x := by
  simp [IntKind.wrap, IntKind.bits, IntKind.signed, ChoP.wrapI]
  try omega
def RNumPost (l : List UInt8) (w : World) (e : Ending) (w' : World) : Prop := ∃ v : Int, e = .returned (.tuple #[.int .i64 v, .bool (ChoP.refOk l)]) ∧ (ChoP.refOk l = true → v = ChoP.refV l) ∧ Below w.heap.size w w'
set_option maxRecDepth 100000 in
set_option maxHeartbeats 4000000 in
theorem refNum_any (s : ByteArray) (w : World) (hs : s.size ≤ 1000000) : Calls Tryz.prog 87 #[.string s] w (RNumPost s.data.toList w) := by
  have hsl : s.data.toList.length = s.size := by simp
  obtain ⟨l, hl⟩ : ∃ l, s.data.toList = l := ⟨_, rfl⟩
  rw [hl] at hsl ⊢
  have htl : s.toList = l := by rw [Go.ByteArray.toList_eq, hl]
  have HSL := Lib.hid hsl
  have HL := Lib.hid hl
  have HTL := Lib.hid htl
  clear hsl hl htl
  go_enter Tryz.func87, Tryz.ntmps87
  go_upto_region 2 with fail
  go_cut [16] (fun b wx => b = .bool (decide (l.head? = some 45)) ∧ wx = w)
  case first =>
    by_cases h0 : 0 < s.size
    · have h1 : l.head? = some s[0] := by
        have h2 : 0 < s.data.toList.length := by rw [HL.out, HSL.out]; exact h0
        rw [← HL.out, List.head?_eq_getElem?, List.getElem?_eq_getElem h2]
        rfl
      have h3 : ((s[0].toNat : Int) == 45) = decide (l.head? = some 45) := by
        rw [h1, Bool.eq_iff_iff]
        simp only [beq_iff_eq, decide_eq_true_eq, Option.some.injEq]
        constructor
        · intro e
          have e2 : s[0].toNat = 45 := by omega
          exact UInt8.toNat_inj.1 e2
        · intro e; rw [e]; rfl
      have H3 := Lib.hid h3
      clear h1 h3
      go_wp2_with fail
      go_meet
      exact ⟨by rw [← H3.out], rfl⟩
    · have h1 : l.head? = none := by
        have : l = [] := List.eq_nil_of_length_eq_zero (by rw [HSL.out]; omega)
        rw [this]; rfl
      have H1 := Lib.hid h1
      clear h1
      go_wp2_with fail
      go_meet
      exact ⟨by rw [H1.out]; rfl, rfl⟩
  case rest =>
    obtain ⟨rfl, rfl⟩ := hcut
    go_upto_if 16 with fail
    go_cut [4] (fun d wx => ∃ D : ByteArray, d = .string D ∧ Hid (D.data.toList = ChoP.digs l) ∧ wx = wc)
    case first =>
      cases hq : decide (l.head? = some 45)
      · have hd : s.data.toList = ChoP.digs l := by
          unfold ChoP.digs
          rw [if_neg (by simpa using hq)]
          exact HL.out
        have HD := Lib.hid hd
        clear hd
        go_wp2_with fail
        go_meet
        exact ⟨s, rfl, HD, rfl⟩
      · have hd : (s.extract 1 s.size).data.toList = ChoP.digs l := by
          unfold ChoP.digs
          rw [if_pos (by simpa using hq), Lib.extract_to_end, HL.out, List.drop_one]
        have h1 : 1 ≤ s.size := by
          have h2 : l.head? = some 45 := by simpa using hq
          cases l with
          | nil => cases h2
          | cons x r => have := HSL.out; simp at this; omega
        have HD := Lib.hid hd
        clear hd
        go_wp2_with fail
        go_meet
        exact ⟨_, rfl, HD, rfl⟩
    case rest =>
      obtain ⟨D, rfl, HD, rfl⟩ := hcut
      have hds : (ChoP.digs l).length = D.size := by rw [← HD.out]; simp
      have hdt : D.toList = ChoP.digs l := by rw [Go.ByteArray.toList_eq, HD.out]
      have hnb : ChoP.noB l = (decide (ChoP.digs l = []) || decide (19 < (ChoP.digs l).length) || (decide ((ChoP.digs l).head? = some 48) && decide (l ≠ [48]))) := rfl
      have HDS := Lib.hid hds
      have HDT := Lib.hid hdt
      have HNB := Lib.hid hnb
      clear hds hdt hnb
      go_upto_region 4 with fail
      go_cut [34] (fun b wx => b = .bool (ChoP.noB l) ∧ wx = wc)
      case first =>
        cases hdg : ChoP.digs l with
        | nil =>
          have hdl : D.toList = [] := by rw [HDT.out, hdg]
          have hno : ChoP.noB l = true := by rw [HNB.out, hdg]; rfl
          have HNO := Lib.hid hno
          clear hdg hno
          go_wp2_with fail
          go_meet
          exact ⟨by first | (rw [HNO.out]; rfl) | rw [HNO.out], rfl⟩
        | cons c r =>
          have hdl : D.toList = c :: r := by rw [HDT.out, hdg]
          have hsz : 0 < D.size := by rw [← HDS.out, hdg]; simp
          by_cases h19 : 19 < D.size
          · have hno : ChoP.noB l = true := by
              rw [HNB.out, HDS.out, decide_eq_true h19]
              simp
            have HNO := Lib.hid hno
            clear hdg hno
            go_wp2_with fail
            go_meet
            exact ⟨by first | (rw [HNO.out]; rfl) | rw [HNO.out], rfl⟩
          · have hd19 : decide ((19 : Int) < (D.size : Int)) = false := decide_eq_false (by omega)
            have hc0 : D[0] = c := by
              have h2 : 0 < D.data.toList.length := by rw [HD.out, HDS.out]; exact hsz
              have h3 : D.data.toList[0]? = some c := by rw [HD.out, hdg]; rfl
              rw [List.getElem?_eq_getElem h2] at h3
              injection h3
            by_cases hc : c = 48
            · have hc2 : ((D[0].toNat : Int) == 48) = true := by rw [hc0, hc]; rfl
              cases hl48 : (l == [48])
              all_goals
                have hl2 := congrArg (fun b => !b) hl48
                have hlt : s.toList = l := HTL.out
                have hno : ChoP.noB l = !(l == [48]) := by
                  rw [HNB.out, hdg, decide_eq_false (show ¬ (c :: r) = [] by simp), decide_eq_false (show ¬ 19 < (c :: r).length by rw [← hdg, HDS.out]; exact h19), hc]
                  simp [hl48]
                  simpa using hl48
                rw [hl48] at hno
                have HNO := Lib.hid hno
                clear hdg hno hc0 hc
                go_wp2_with fail
                go_meet
                exact ⟨by first | (rw [HNO.out]; rfl) | rw [HNO.out], rfl⟩
            · have hc2 : ((D[0].toNat : Int) == 48) = false := by
                rw [hc0, beq_eq_false_iff_ne]
                intro e
                have e2 : c.toNat = 48 := by omega
                exact hc (UInt8.toNat_inj.1 e2)
              have hno : ChoP.noB l = false := by
                rw [HNB.out, hdg, decide_eq_false (show ¬ (c :: r) = [] by simp), decide_eq_false (show ¬ 19 < (c :: r).length by rw [← hdg, HDS.out]; exact h19)]
                simp [hc]
              have HNO := Lib.hid hno
              clear hdg hno hc0 hc
              go_wp2_with fail
              go_meet
              exact ⟨by first | (rw [HNO.out]; rfl) | rw [HNO.out], rfl⟩
      case rest =>
        obtain ⟨rfl, rfl⟩ := hcut
        cases hno : ChoP.noB l
        · have h19 : D.size ≤ 19 := by
            have := HNB.out
            rw [hno] at this
            simp only [Bool.false_eq, Bool.or_eq_false_iff, decide_eq_false_iff_not] at this
            have h2 := this.1.2
            rw [HDS.out] at h2
            omega
          have HNO := Lib.hid hno
          clear hno HNB
          go_wp2_with fail
          go_loopw [5, 6] (fun n i wr => ∃ k : Nat, k ≤ D.size ∧ i = .int .i64 k ∧ n = .int .u64 (ChoP.foldN ((ChoP.digs l).take k) : Int) ∧ ((ChoP.digs l).take k).all ChoP.digB = true ∧ wr = wc) (fun _ i _ => D.size - (intOf i).toNat)
          case atStart => exact ⟨0, Nat.zero_le _, rfl, rfl, rfl, rfl⟩
          case round =>
            obtain ⟨k, hk, rfl, rfl, hall, rfl⟩ := hrel
            have hlk : ((ChoP.digs l).take k).length = k := by rw [List.length_take, HDS.out]; omega
            have hfl := ChoP.fold_lt k _ hlk hall
            have HALL := Lib.hid hall
            have HFL := Lib.hid hfl
            clear hall hfl hlk
            by_cases hlt : k < D.size
            · have hck : (ChoP.digs l).take (k + 1) = (ChoP.digs l).take k ++ [D[k]] := by
                rw [← HD.out]
                exact ChoP.take_snoc D k hlt
              have hfs : ChoP.foldN ((ChoP.digs l).take (k + 1)) = 10 * ChoP.foldN ((ChoP.digs l).take k) + (D[k].toNat - 48) := by rw [hck, ChoP.fold_snoc]
              have hN : ChoP.foldN ((ChoP.digs l).take k) ≤ 999999999999999999 := by
                have h1 := HFL.out
                have h2 : 10 ^ k ≤ 10 ^ 18 := Nat.pow_le_pow_right (by omega) (by omega)
                have h3 : (10 : Nat) ^ 18 = 1000000000000000000 := by decide
                omega
              have hal2 : ((ChoP.digs l).take (k + 1)).all ChoP.digB = (ChoP.digB D[k]) := by rw [hck, List.all_append, HALL.out]; simp
              generalize ChoP.foldN ((ChoP.digs l).take k) = N at *
              have HFS := Lib.hid hfs
              have HAL2 := Lib.hid hal2
              clear hck hfs hal2 HFL
              by_cases h48 : D[k].toNat < 48
              · have h48' : (D[k].toNat : Int) < 48 := by omega
                have hbd : ChoP.digB D[k] = false := by unfold ChoP.digB; simp; omega
                have hro : ChoP.refOk l = false := by
                  refine ChoP.refOk_dig ?_
                  have h1 := HAL2.out
                  rw [hbd] at h1
                  rw [List.all_eq_false] at h1 ⊢
                  obtain ⟨y, hy, hy2⟩ := h1
                  exact ⟨y, List.mem_of_mem_take hy, hy2⟩
                have HRO := Lib.hid hro
                clear hro hbd
                go_wp2_with fail
                go_ret2
                exact ⟨0, by rw [HRO.out]; rfl, fun h => (by rw [HRO.out] at h; cases h), Below.refl _ _⟩
              · by_cases h57 : 57 < D[k].toNat
                · have h48' : ¬ (D[k].toNat : Int) < 48 := by omega
                  have h57' : (57 : Int) < (D[k].toNat : Int) := by omega
                  have hbd : ChoP.digB D[k] = false := by unfold ChoP.digB; simp; omega
                  have hro : ChoP.refOk l = false := by
                    refine ChoP.refOk_dig ?_
                    have h1 := HAL2.out
                    rw [hbd] at h1
                    rw [List.all_eq_false] at h1 ⊢
                    obtain ⟨y, hy, hy2⟩ := h1
                    exact ⟨y, List.mem_of_mem_take hy, hy2⟩
                  have HRO := Lib.hid hro
                  clear hro hbd
                  go_wp2_with fail
                  go_ret2
                  exact ⟨0, by rw [HRO.out]; rfl, fun h => (by rw [HRO.out] at h; cases h), Below.refl _ _⟩
                · have h48' : ¬ (D[k].toNat : Int) < 48 := by omega
                  have h57' : ¬ (57 : Int) < (D[k].toNat : Int) := by omega
                  have hbd : ChoP.digB D[k] = true := by unfold ChoP.digB; simp; omega
                  have hal3 : ((ChoP.digs l).take (k + 1)).all ChoP.digB = true := by rw [HAL2.out, hbd]
                  have hfs2 : (ChoP.foldN ((ChoP.digs l).take (k + 1)) : Int) = 10 * (N : Int) + ((D[k].toNat : Int) - 48) := by rw [HFS.out]; omega
                  have HAL3 := Lib.hid hal3
                  have HFS2 := Lib.hid hfs2
                  have hb1 : 48 ≤ (D[k].toNat : Int) := by omega
                  have hb2 : (D[k].toNat : Int) ≤ 57 := by omega
                  have hN2 : (N : Int) ≤ 999999999999999999 := by omega
                  clear hbd hal3 hfs2 HALL
                  go_wp2_with fail
                  go_roundw
                  case rel => exact ⟨k + 1, by omega, by go_num, by rw [HFS2.out], HAL3.out, trivial⟩
                  case measure => simp [intOf]; omega
            · obtain rfl : k = D.size := by omega
              have hT : (ChoP.digs l).take D.size = ChoP.digs l := List.take_of_length_le (by rw [HDS.out]; omega)
              have hall := HALL.out
              have hfl := HFL.out
              rw [hT] at hall hfl ⊢
              have hN : ChoP.foldN (ChoP.digs l) < 10000000000000000000 := by
                have h2 : 10 ^ D.size ≤ 10 ^ 19 := Nat.pow_le_pow_right (by omega) (by omega)
                have h3 : (10 : Nat) ^ 19 = 10000000000000000000 := by decide
                omega
              have hyes := ChoP.refOk_yes HNO.out hall
              have hrv : ChoP.refV l = if D.size < s.size then ChoP.wrapI (-ChoP.wrapI (ChoP.foldN (ChoP.digs l))) else ChoP.wrapI (ChoP.foldN (ChoP.digs l)) := by
                unfold ChoP.refV
                rw [HDS.out, HSL.out]
              have hin := ChoP.refV_in l
              have e1 : IntKind.i64.wrap (ChoP.foldN (ChoP.digs l) : Int) = ChoP.wrapI (ChoP.foldN (ChoP.digs l)) := wrap_eq _
              have e2 : IntKind.i64.wrap (-ChoP.wrapI (ChoP.foldN (ChoP.digs l))) = ChoP.wrapI (-ChoP.wrapI (ChoP.foldN (ChoP.digs l))) := wrap_eq _
              have htl : s.toList = l := HTL.out
              generalize ChoP.wrapI (-ChoP.wrapI (ChoP.foldN (ChoP.digs l))) = V2 at *
              generalize ChoP.wrapI (ChoP.foldN (ChoP.digs l)) = V1 at *
              generalize ChoP.foldN (ChoP.digs l) = N at *
              have HYES := Lib.hid hyes
              have HRV := Lib.hid hrv
              have HIN := Lib.hid hin
              clear hT hall hfl hyes hrv hin HALL HFL HNO
              by_cases hlt2 : D.size < s.size
              · have hrv2 : ChoP.refV l = V2 := by rw [HRV.out, if_pos hlt2]
                have hnm := refNumber_any V2 wr (by rw [← hrv2]; exact HIN.out)
                cases hq : (Lib.itoa V2 == l)
                all_goals
                  have HRV2 := Lib.hid hrv2
                  have HNM := Lib.hid hnm
                  clear hrv2 hnm
                  go_wp2_with fail
                  refine HNM.out.mono ?_
                  rintro e w2 ⟨rfl, hb2⟩
                  have HB2 := Lib.hid hb2
                  clear hb2
                  go_wp2_with fail
                  go_ret2
                  refine ⟨V2, ?_, fun _ => HRV2.out.symm, HB2.out⟩
                  rw [HYES.out, HRV2.out]
                  first
                    | (rw [show decide (Lib.itoa V2 = l) = false by simpa using hq]; rfl)
                    | (rw [show decide (Lib.itoa V2 = l) = true by simpa using hq]; rfl)
              · have hrv2 : ChoP.refV l = V1 := by rw [HRV.out, if_neg hlt2]
                have hnm := refNumber_any V1 wr (by rw [← hrv2]; exact HIN.out)
                cases hq : (Lib.itoa V1 == l)
                all_goals
                  have HRV2 := Lib.hid hrv2
                  have HNM := Lib.hid hnm
                  clear hrv2 hnm
                  go_wp2_with fail
                  refine HNM.out.mono ?_
                  rintro e w2 ⟨rfl, hb2⟩
                  have HB2 := Lib.hid hb2
                  clear hb2
                  go_wp2_with fail
                  go_ret2
                  refine ⟨V1, ?_, fun _ => HRV2.out.symm, HB2.out⟩
                  rw [HYES.out, HRV2.out]
                  first
                    | (rw [show decide (Lib.itoa V1 = l) = false by simpa using hq]; rfl)
                    | (rw [show decide (Lib.itoa V1 = l) = true by simpa using hq]; rfl)
        · have hro := ChoP.refOk_no hno
          have HRO := Lib.hid hro
          clear hro
          go_wp2_with fail
          go_ret2
          exact ⟨0, by rw [HRO.out]; rfl, fun h => (by rw [HRO.out] at h; cases h), Below.refl _ _⟩
end Go.Proofs.YtpniilgkceadeaaGreatDoor
