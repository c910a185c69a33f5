/- The reference's parse: a choice or a key out of the words of a line. -/
import Derived.Test.YtpniilgkceadeaaGreatDoorChoRefParseB
namespace Go.Proofs.YtpniilgkceadeaaGreatDoor
open Go.RowKit
set_option maxRecDepth 100000 in
set_option maxHeartbeats 8000000 in
theorem refParse_any (key : Bool) (X : Option Addr) (c : Nat) (x : List UInt8) (rs : List (List UInt8)) (w : World) (hl : Lie w w.heap.size X (strs (x :: rs))) (hc : rs.length + 1 ≤ c) (hm : c ≤ 9223372036854775807) (hlen : ∀ y ∈ x :: rs, y.length ≤ 1000000) (hn : rs.length ≤ 1000000) :
    Calls Tryz.prog 47 #[.slice X (rs.length + 1) c, .bool key] w (RPPost (ChoP.refP key (x :: rs)) w) := by
  obtain ⟨i0, hi0, hz0, hz1, hz2⟩ := info_parts info_i64
  obtain ⟨b, o, rfl, hb, hcell⟩ := hl (by simp [strs])
  have hc0 : w.cell? ⟨b, o, none⟩ = some (strV x) := by simpa using hcell 0 _ rfl
  have HL := Lib.hid hl
  have HLEN := Lib.hid hlen
  have HC0 := Lib.hid hc0
  clear hcell hl hlen hc0
  go_enter Tryz.func47, Tryz.ntmps47
  go_wp2_with fail
  refine (refNames_any _).mono ?_
  rintro e w' ⟨rfl, rfl⟩
  have hrs : RPS w (((w.alloc (.cells #[.int .u8 0, .int .i64 0, .int .i64 0, .int .i64 0, .int .i64 0, .int .i64 0, .slice none 0 0] 59)).alloc (.cells #[.int .u8 0, .int .i64 0, .int .i64 0, .int .i64 0, .int .i64 0, .int .i64 0, .slice none 0 0] 59)).alloc (.cells wordsV 9)) #[.int .u8 0, .int .i64 0, .int .i64 0, .int .i64 0, .int .i64 0, .int .i64 0, .slice none 0 0] := by
    refine ⟨(heap_alloc_old _ _ (by simp; omega)).trans ((heap_alloc_old _ _ (by simp)).trans (heap_alloc_new w _)), ?_, (((Below.refl _ _).alloc (Nat.le_refl _) _).alloc (by simp) _).alloc (by simp; omega) _⟩
    refine (heap_alloc_old _ _ (by simp)).trans ?_
    have := heap_alloc_new (w.alloc (.cells #[.int .u8 0, .int .i64 0, .int .i64 0, .int .i64 0, .int .i64 0, .int .i64 0, .slice none 0 0] 59)) (.cells #[.int .u8 0, .int .i64 0, .int .i64 0, .int .i64 0, .int .i64 0, .int .i64 0, .slice none 0 0] 59)
    rwa [World.size_alloc] at this
  have hnb : (((w.alloc (.cells #[.int .u8 0, .int .i64 0, .int .i64 0, .int .i64 0, .int .i64 0, .int .i64 0, .slice none 0 0] 59)).alloc (.cells #[.int .u8 0, .int .i64 0, .int .i64 0, .int .i64 0, .int .i64 0, .int .i64 0, .slice none 0 0] 59)).alloc (.cells wordsV 9)).heap[w.heap.size + 2]? = some (.cells wordsV 9 (0, 0)) := by
    have := heap_alloc_new ((w.alloc (.cells #[.int .u8 0, .int .i64 0, .int .i64 0, .int .i64 0, .int .i64 0, .int .i64 0, .slice none 0 0] 59)).alloc (.cells #[.int .u8 0, .int .i64 0, .int .i64 0, .int .i64 0, .int .i64 0, .int .i64 0, .slice none 0 0] 59)) (.cells wordsV 9)
    rwa [World.size_alloc, World.size_alloc] at this
  have HRS := Lib.hid hrs
  have HNB := Lib.hid hnb
  clear hrs hnb
  go_wp2_with fail
  go_loopw [25] (fun i wr => ∃ k : Nat, k ≤ 10 ∧ i = .int .i64 k ∧ RPS w wr #[.int .u8 (ChoP.kindTo k x : Int), .int .i64 0, .int .i64 0, .int .i64 0, .int .i64 0, .int .i64 0, .slice none 0 0] ∧ wr.heap[w.heap.size + 2]? = some (.cells wordsV 9 (0, 0))) (fun i _ => 10 - (intOf i).toNat)
  case atStart => exact ⟨0, by omega, rfl, HRS.out, HNB.out⟩
  case round =>
    clear HRS HNB
    obtain ⟨k, hk, rfl, hrs, hnb⟩ := hrel
    have g0 := cell_at hrs.g 0 _ rfl
    have y0 := frozen_at hrs.g 0
    have hx0 : wr.cell? ⟨b, o, none⟩ = some (strV x) := (hrs.below.cell (p := ⟨b, o, none⟩) hb).trans HC0.out
    have HRS := Lib.hid hrs
    have HNB := Lib.hid hnb
    have hszr := hrs.sz
    clear hrs hnb
    by_cases hlt : k < 10
    ·
      have hwk : wr.cell? ⟨w.heap.size + 2, k, none⟩ = some (strV (ChoP.words[k]?.getD [])) := by
        refine cell_at HNB.out k _ ?_
        have h2 : k < ChoP.words.length := hlt
        simp [wordsV, h2]
      rcases Nat.eq_zero_or_pos k with h0 | h0
      · have hgt : ¬ (0 : Int) < (k : Int) := by omega
        have HK' : Hid (RPS w wr #[.int .u8 (ChoP.kindTo (k + 1) x : Int), .int .i64 0, .int .i64 0, .int .i64 0, .int .i64 0, .int .i64 0, .slice none 0 0]) := Lib.hid (by subst h0; rw [ChoP.kindTo_zero]; exact HRS.out)
        clear h0
        go_wp2_with fail
        go_roundw
        case rel => exact ⟨k + 1, by omega, by go_num, HK'.out, HNB.out⟩
        case measure => simp [intOf]; omega
      · have hgt : (0 : Int) < (k : Int) := by omega
        have hwr : IntKind.u8.wrap (k : Int) = (k : Int) := by simp [IntKind.wrap, IntKind.bits, IntKind.signed]; omega
        cases hqe : (ChoP.words[k]?.getD [] == x)
        · go_wp2_with fail
          go_roundw
          case rel => exact ⟨k + 1, by omega, by go_num, by rw [ChoP.kindTo_no hqe]; exact HRS.out, HNB.out⟩
          case measure => simp [intOf]; omega
        · have hset := HRS.out.setG 0 (.int .u8 (k : Int))
          have hnb2 := (Go.Deep.blk_setCell_other wr ⟨w.heap.size + 1, 0, none⟩ (.int .u8 (k : Int)) (w.heap.size + 2) (by show w.heap.size + 2 ≠ w.heap.size + 1; omega)).trans HNB.out
          have HSET := Lib.hid hset
          have HNB2 := Lib.hid hnb2
          clear hset hnb2
          go_wp2_with fail
          go_roundw
          case rel => exact ⟨k + 1, by omega, by go_num, by rw [ChoP.kindTo_yes h0 hqe]; exact HSET.out, HNB2.out⟩
          case measure => simp [intOf]; omega
    · obtain rfl : k = 10 := by omega
      have hkk : ChoP.kindTo 10 x = ChoP.kindOf x := rfl
      have hkl := ChoP.kindTo_lt 10 x
      have hrk : ChoP.refKey (x :: rs) = if ChoP.kindOf x = 0 then none else (ChoP.fixS (ChoP.needK (ChoP.kindOf x : Int)) rs).map fun p => (ChoP.keyOfFix (ChoP.kindOf x) p.1, p.2) := rfl
      rw [hkk] at HRS g0 hkl
      clear hkk y0 HNB
      generalize ChoP.kindOf x = K at *
      have HRK := Lib.hid hrk
      clear hrk
      by_cases h0 : K = 0
      · have hrp : ChoP.refP key (x :: rs) = none := ChoP.refP_none (by rw [HRK.out, if_pos h0])
        have hrs := HRS.out
        rw [h0] at hrs g0
        have HRS0 := Lib.hid hrs
        have HRP := Lib.hid hrp
        clear hrs hrp h0 HRS
        obtain ⟨⟨f0, f1, f2, f3, f4, f5, f6⟩, _⟩ := blk7 (v0 := .int .u8 0) (v1 := .int .i64 0) (v2 := .int .i64 0) (v3 := .int .i64 0) (v4 := .int .i64 0) (v5 := .int .i64 0) (v6 := .slice none 0 0) HRS0.out.g
        obtain ⟨⟨z0, z1, z2, z3, z4, z5, z6⟩, ⟨x0, x1, x2, x3, x4, x5, x6⟩⟩ := blk7 (v0 := .int .u8 0) (v1 := .int .i64 0) (v2 := .int .i64 0) (v3 := .int .i64 0) (v4 := .int .i64 0) (v5 := .int .i64 0) (v6 := .slice none 0 0) HRS0.out.z
        have hneGZ : w.heap.size + 1 ≠ w.heap.size := by omega
        go_wp2_with fail
        rw [HRP.out]
        exact bodyPost_ret (v := .tuple #[choV ⟨⟨0, 0, 0, 0⟩, 0, 0, none, 0, 0⟩, .bool false]) (by simp [results, Tryz.results47, go_sem, z0, z1, z2, z3, z4, z5, z6, choV]) rfl (HRS0.out.no _ _ _ _ _ _ _ _)
      · have h00 : ((K : Int) == 0) = false := by rw [beq_eq_false_iff_ne]; omega
        have hrk := HRK.out
        rw [if_neg h0] at hrk
        have HRK2 := Lib.hid hrk
        clear h0 HRK hrk
        go_wp2_with fail
        refine (two_any _ _).mono ?_
        rintro e w' ⟨rfl, rfl⟩
        go_upto_if 52 with fail
        go_cut [10] (fun nd wx => nd = .int .i64 (ChoP.needK (K : Int) : Int) ∧ wx = wr)
        case first =>
          cases hp : ChoP.pairB (K : Int)
          all_goals
            have hnd : ChoP.needK (K : Int) = if ChoP.pairB (K : Int) = true then 3 else 2 := rfl
            rw [hp] at hnd
            have HND := Lib.hid hnd
            clear hnd
            go_wp2_with fail
            go_meet
            exact ⟨by rw [HND.out]; rfl, rfl⟩
        case rest =>
          obtain ⟨rfl, rfl⟩ := hcut
          obtain ⟨N, hN⟩ : ∃ N, ChoP.needK (K : Int) = N := ⟨_, rfl⟩
          have hN23 : N = 2 ∨ N = 3 := by
            rw [← hN]
            unfold ChoP.needK
            split
            · exact .inr rfl
            · exact .inl rfl
          have hNp : (N = 3 ↔ ChoP.pairB (K : Int) = true) := by
            rw [← hN]
            unfold ChoP.needK
            split
            · rename_i h; simp [h]
            · rename_i h; simp [h]
          have HN := Lib.hid hN
          have HNP := Lib.hid hNp
          rw [hN]
          clear hN hNp
          go_upto_region 14 with fail
          go_cut [11] (fun v wx => Hid (WSl wx w.heap.size v rs) ∧ wx = wc)
          case first =>
            have htl := WSl.tail (HL.out.below HRS.out.below (Nat.le_refl _)) hc hm
            have hi1 : 1 ≤ c := by omega
            have hi2 : (1 : Int) ≤ (rs.length : Int) + 1 := by omega
            have hi3 : (rs.length : Int) + 1 ≤ (c : Int) := by omega
            by_cases hc1 : c = 1
            · subst hc1
              have hr0 : rs = [] := List.eq_nil_of_length_eq_zero (by omega)
              subst hr0
              rw [if_pos rfl] at htl
              have HTL := Lib.hid htl
              clear htl
              go_wp2_with fail
              go_meet
              exact ⟨HTL, rfl⟩
            · rw [if_neg hc1] at htl
              have HTL := Lib.hid htl
              clear htl
              go_wp2_with fail
              go_meet
              exact ⟨HTL, rfl⟩
          case rest =>
            obtain ⟨HWS, rfl⟩ := hcut
            clear g0
            go_wp2_with fail
            go_loopw [9, 11, 12] (fun fv rv i wr => ∃ (k : Nat) (f : List Int) (r : List (List UInt8)), k ≤ N ∧ i = .int .i64 k ∧ ChoP.fixS k rs = some (f, r) ∧ WSl wr w.heap.size rv r ∧ wr.ownsRow (w.heap.size + 2) 2 1 fv k (intV f) ∧ (∀ y ∈ r, y.length ≤ 1000000) ∧ RPS w wr #[.int .u8 (K : Int), .int .i64 0, .int .i64 0, .int .i64 0, .int .i64 0, .int .i64 0, .slice none 0 0]) (fun _ _ i _ => N - (intOf i).toNat)
            case atStart => exact ⟨0, [], rs, Nat.zero_le _, rfl, rfl, HWS.out, ⟨rfl, .inl ⟨rfl, rfl⟩⟩, fun y hy => HLEN.out y (List.mem_cons_of_mem _ hy), HRS.out⟩
            case round =>
              clear HWS HRS hszr
              obtain ⟨k, f, r, hk, rfl, hfx, ⟨X1, c1, rfl, hl1, hc1, hm1⟩, hown, hln, hrs⟩ := hrel
              have HFX := Lib.hid hfx
              have HL1 := Lib.hid hl1
              have HO := Lib.hid hown
              have HLN := Lib.hid hln
              have HRS := Lib.hid hrs
              have hszr := hrs.sz
              clear hfx hl1 hown hln hrs
              by_cases hlt : k < N
              ·
                cases r with
                | nil =>
                  have hrp : ChoP.refP key (x :: rs) = none := ChoP.refP_none (by rw [HRK2.out, HN.out, ChoP.fixS_none HFX.out rfl hlt]; rfl)
                  have HRP := Lib.hid hrp
                  clear hrp
                  obtain ⟨⟨f0, f1, f2, f3, f4, f5, f6⟩, _⟩ := blk7 (v0 := .int .u8 (K : Int)) (v1 := .int .i64 0) (v2 := .int .i64 0) (v3 := .int .i64 0) (v4 := .int .i64 0) (v5 := .int .i64 0) (v6 := .slice none 0 0) HRS.out.g
                  obtain ⟨⟨z0, z1, z2, z3, z4, z5, z6⟩, ⟨x0, x1, x2, x3, x4, x5, x6⟩⟩ := blk7 (v0 := .int .u8 0) (v1 := .int .i64 0) (v2 := .int .i64 0) (v3 := .int .i64 0) (v4 := .int .i64 0) (v5 := .int .i64 0) (v6 := .slice none 0 0) HRS.out.z
                  have hneGZ : w.heap.size + 1 ≠ w.heap.size := by omega
                  go_wp2_with fail
                  rw [HRP.out]
                  exact bodyPost_ret (v := .tuple #[choV ⟨⟨(K : Int), 0, 0, 0⟩, 0, 0, none, 0, 0⟩, .bool false]) (by simp [results, Tryz.results47, go_sem, z0, z1, z2, z3, z4, z5, z6, choV]) rfl (HRS.out.no _ _ _ _ _ _ _ _)
                | cons y r2 =>
                  have hyl := HLN.out y (by simp)
                  obtain ⟨b1, o1, rfl, hb1, hcell1⟩ := HL1.out (by simp [strs])
                  have hy0 : wr.cell? ⟨b1, o1, none⟩ = some (strV y) := by simpa using hcell1 0 _ rfl
                  rw [List.length_cons] at hc1
                  have hnm := refNum_any ⟨y.toArray⟩ wr (by show y.toArray.size ≤ _; simpa using hyl)
                  rw [show (⟨y.toArray⟩ : ByteArray).data.toList = y from rfl] at hnm
                  have hrn := ChoP.ref_num y
                  have HNM := Lib.hid hnm
                  have HRN := Lib.hid hrn
                  clear hcell1 hnm hrn
                  go_wp2_with fail
                  refine HNM.out.mono ?_
                  rintro e w2 ⟨v2, rfl, hv2, hb2⟩
                  rw [HRN.out.1] at hv2 ⊢
                  have HRS2 := Lib.hid (HRS.out.next hb2)
                  have hb12 := hb2.size
                  have HB2 := Lib.hid hb2
                  have HV2 := Lib.hid hv2
                  clear hb2 hy0 HRS HNM hv2
                  cases hok : ChoP.numOk y
                  · have hrp : ChoP.refP key (x :: rs) = none := ChoP.refP_none (by rw [HRK2.out, HN.out, ChoP.fixS_none HFX.out (ChoP.takeN_no hok r2) hlt]; rfl)
                    have HRP := Lib.hid hrp
                    clear hrp
                    obtain ⟨⟨f0, f1, f2, f3, f4, f5, f6⟩, _⟩ := blk7 (v0 := .int .u8 (K : Int)) (v1 := .int .i64 0) (v2 := .int .i64 0) (v3 := .int .i64 0) (v4 := .int .i64 0) (v5 := .int .i64 0) (v6 := .slice none 0 0) HRS2.out.g
                    obtain ⟨⟨z0, z1, z2, z3, z4, z5, z6⟩, ⟨x0, x1, x2, x3, x4, x5, x6⟩⟩ := blk7 (v0 := .int .u8 0) (v1 := .int .i64 0) (v2 := .int .i64 0) (v3 := .int .i64 0) (v4 := .int .i64 0) (v5 := .int .i64 0) (v6 := .slice none 0 0) HRS2.out.z
                    have hneGZ : w.heap.size + 1 ≠ w.heap.size := by omega
                    go_wp2_with fail
                    rw [HRP.out]
                    exact bodyPost_ret (v := .tuple #[choV ⟨⟨(K : Int), 0, 0, 0⟩, 0, 0, none, 0, 0⟩, .bool false]) (by simp [results, Tryz.results47, go_sem, z0, z1, z2, z3, z4, z5, z6, choV]) rfl (HRS2.out.no _ _ _ _ _ _ _ _)
                  · obtain rfl : v2 = ChoP.numV y := by rw [HV2.out hok, HRN.out.2 hok]
                    have hfx2 : ChoP.fixS (k + 1) rs = some (f ++ [ChoP.numV y], r2) := by rw [ChoP.fixS, HFX.out, Option.bind_some, ChoP.takeN_ok hok]; rfl
                    have htl := WSl.tail (HL1.out.below (HB2.out.mono (by omega)) (Nat.le_refl _)) hc1 hm1
                    have ho2 := own_below HO.out HB2.out
                    generalize ChoP.numV y = v2 at *
                    have HFX2 := Lib.hid hfx2
                    have hi1 : 1 ≤ c1 := by omega
                    have hi2 : (1 : Int) ≤ (r2.length : Int) + 1 := by omega
                    have hi3 : (r2.length : Int) + 1 ≤ (c1 : Int) := by omega
                    have hn1' : k + 1 ≤ maxLen := by unfold maxLen; omega
                    have hn2' : (k + 1) * 8 ≤ 140737488355328 := by omega
                    clear hfx2 HFX HV2 HL1 HO HRN
                    by_cases hcc : c1 = 1
                    · rw [if_pos hcc] at htl
                      have HTL := Lib.hid htl
                      have HO2 := Lib.hid ho2
                      clear htl ho2
                      subst hcc
                      have hr0 : r2 = [] := List.eq_nil_of_length_eq_zero (by omega)
                      subst hr0
                      go_wp2_with fail
                      go_region_law (refine step_append_lie (by rfl) (.tmp 74) (.tmp 76) _ (by rfl) (w.heap.size + 2) 2 i0 _ 1 8 Tryz.underlying57 hi0 hz0 hz1 hz2 rfl (by decide) _ k (intV f) (by rfl) (HO2.out.alloc _) (w2.heap.size + 1) (some ⟨w2.heap.size, 0, none⟩) 1 1 [.int .i64 v2] (by rfl) (newI64 w2 v2) (by simp [Value.oneCell']) hn1' hn2' (by show w.heap.size + 2 ≤ (w2.alloc _).heap.size; rw [World.size_alloc]; omega) ?_; intro v3 w3 hown3 hgrow3 hat3)
                      all_goals
                        have happ := RPS.app HRS2.out (o := .cells #[.int .i64 v2] 2) ⟨hgrow3.os, hgrow3.tape, hgrow3.output, hgrow3.size, hgrow3.block⟩ (fun z e => own_ge HO2.out z e)
                        have HRS3 := Lib.hid happ.1
                        have HTL3 := Lib.hid (HTL.out.below happ.2)
                        have HO3 : Hid (w3.ownsRow (w.heap.size + 2) 2 1 v3 (k + 1) (intV (f ++ [v2]))) := Lib.hid (by rw [intV, List.map_append]; exact hown3)
                        clear happ hown3 hgrow3 hat3
                        go_wp2_with fail
                        go_roundw
                        case rel => exact ⟨k + 1, f ++ [v2], _, by omega, by go_num, HFX2.out, HTL3.out, HO3.out, fun z hz => HLN.out z (List.mem_cons_of_mem _ hz), HRS3.out⟩
                        case measure => simp [intOf]; omega
                    · rw [if_neg hcc] at htl
                      have HTL := Lib.hid htl
                      have HO2 := Lib.hid ho2
                      clear htl ho2
                      go_wp2_with fail
                      go_region_law (refine step_append_lie (by rfl) (.tmp 74) (.tmp 76) _ (by rfl) (w.heap.size + 2) 2 i0 _ 1 8 Tryz.underlying57 hi0 hz0 hz1 hz2 rfl (by decide) _ k (intV f) (by rfl) (HO2.out.alloc _) (w2.heap.size + 1) (some ⟨w2.heap.size, 0, none⟩) 1 1 [.int .i64 v2] (by rfl) (newI64 w2 v2) (by simp [Value.oneCell']) hn1' hn2' (by show w.heap.size + 2 ≤ (w2.alloc _).heap.size; rw [World.size_alloc]; omega) ?_; intro v3 w3 hown3 hgrow3 hat3)
                      all_goals
                        have happ := RPS.app HRS2.out (o := .cells #[.int .i64 v2] 2) ⟨hgrow3.os, hgrow3.tape, hgrow3.output, hgrow3.size, hgrow3.block⟩ (fun z e => own_ge HO2.out z e)
                        have HRS3 := Lib.hid happ.1
                        have HTL3 := Lib.hid (HTL.out.below happ.2)
                        have HO3 : Hid (w3.ownsRow (w.heap.size + 2) 2 1 v3 (k + 1) (intV (f ++ [v2]))) := Lib.hid (by rw [intV, List.map_append]; exact hown3)
                        clear happ hown3 hgrow3 hat3
                        go_wp2_with fail
                        go_roundw
                        case rel => exact ⟨k + 1, f ++ [v2], _, by omega, by go_num, HFX2.out, HTL3.out, HO3.out, fun z hz => HLN.out z (List.mem_cons_of_mem _ hz), HRS3.out⟩
                        case measure => simp [intOf]; omega
              · obtain rfl : k = N := by omega
                have hfl := ChoP.fixS_len k HFX.out
                have HBWR := Lib.hid HRS.out.below
                obtain ⟨A2, c2, rfl, hcc2, hcm2, hsl2⟩ := own_form HO.out
                obtain ⟨N1, rfl⟩ : ∃ N1, k = N1 + 1 := ⟨k - 1, by omega⟩
                have hcf : ∀ j z, f[j]? = some z → ∃ b2 o2, A2 = some ⟨b2, o2, none⟩ ∧ b2 < wr.heap.size ∧ wr.cell? ⟨b2, o2 + j, none⟩ = some (.int .i64 z) := fun j z hz => hsl2.2.at_ j (.int .i64 z) (by simp [intV, hz])
                obtain ⟨fa, hfa⟩ : ∃ fa, f[0]? = some fa := ⟨_, List.getElem?_eq_getElem (by omega)⟩
                obtain ⟨fn, hfn⟩ : ∃ fn, f[N1]? = some fn := ⟨_, List.getElem?_eq_getElem (by omega)⟩
                obtain ⟨b2, o2, rfl, hb2, ca⟩ := hcf 0 fa hfa
                obtain ⟨b3, o3, e3, _, cn⟩ := hcf N1 fn hfn
                injection e3 with e3
                injection e3 with e3 e4
                subst e3 e4
                have hge2 : w.heap.size + 2 ≤ b2 := own_ge HO.out b2 rfl
                have hrk2 : ChoP.refKey (x :: rs) = some (ChoP.keyOfFix K f, r) := by rw [HRK2.out, HN.out, HFX.out]; rfl
                have hkf : ChoP.keyOfFix K f = ⟨(K : Int), fa, if ChoP.pairB (K : Int) = true then f.getD 1 0 else 0, fn⟩ := by
                  unfold ChoP.keyOfFix
                  rw [HN.out]
                  simp [List.getD, hfa, hfn]
                have hkb : N1 + 1 = 3 → ∃ fb, f[1]? = some fb ∧ wr.cell? ⟨b2, o2 + 1, none⟩ = some (.int .i64 fb) := fun e => by
                  obtain ⟨fb, hfb⟩ : ∃ fb, f[1]? = some fb := ⟨_, List.getElem?_eq_getElem (by omega)⟩
                  obtain ⟨b4, o4, e4, _, c4⟩ := hcf 1 fb hfb
                  injection e4 with e4
                  injection e4 with e4 e5
                  subst e4 e5
                  exact ⟨fb, hfb, c4⟩
                rw [Nat.add_zero] at ca
                have HKB := Lib.hid hkb
                have HKF := Lib.hid hkf
                have HRK3 := Lib.hid hrk2
                have hw1 : IntKind.i64.wrap ((N1 : Int) + 1 - 1) = (N1 : Int) := by rw [show (N1 : Int) + 1 - 1 = N1 by omega]; exact IntWalk.i64_in _ ⟨by omega, by omega⟩
                have g1 := cell_at HRS.out.g 1 _ rfl
                have g3 := cell_at HRS.out.g 3 _ rfl
                have y1 := frozen_at HRS.out.g 1
                have y3 := frozen_at HRS.out.g 3
                have hneb : b2 ≠ w.heap.size + 1 := by omega
                have hN1a : (0 : Int) ≤ (N1 : Int) := by omega
                have hN1b : (N1 : Int) < (N1 : Int) + 1 := by omega
                have hN1c : (0 : Int) < (N1 : Int) + 1 := by omega
                have hset := (HRS.out.setG 1 (.int .i64 fa)).setG 3 (.int .i64 fn)
                have HSET := Lib.hid hset
                have HWL : Hid (WSl wr w.heap.size (.slice X1 r.length c1) r) := Lib.hid ⟨X1, c1, rfl, HL1.out, hc1, hm1⟩
                clear hfa hfn hcf hsl2 hrk2 hkf hkb hset HFX HL1 HRK2
                go_upto_region 24 with fail
                go_cut [] (fun wx => Hid (RPS w wx #[.int .u8 (K : Int), .int .i64 fa, .int .i64 0, .int .i64 fn, .int .i64 0, .int .i64 0, .slice none 0 0]) ∧ Hid (∀ fb, wr.cell? ⟨b2, o2 + 1, none⟩ = some (.int .i64 fb) → wx.cell? ⟨b2, o2 + 1, none⟩ = some (.int .i64 fb)))
                case first =>
                  go_region
                  all_goals
                    have HR2 : Hid (RPS w (((wr.setCell ⟨w.heap.size + 1, 1, none⟩ (.int .i64 fa)).setCell ⟨w.heap.size + 1, 3, none⟩ (.int .i64 fn)).drew) #[.int .u8 (K : Int), .int .i64 fa, .int .i64 0, .int .i64 fn, .int .i64 0, .int .i64 0, .slice none 0 0]) := Lib.hid ⟨HSET.out.z, HSET.out.g, HSET.out.below.drew⟩
                    have HC2 : Hid (∀ fb, wr.cell? ⟨b2, o2 + 1, none⟩ = some (.int .i64 fb) → (((wr.setCell ⟨w.heap.size + 1, 1, none⟩ (.int .i64 fa)).setCell ⟨w.heap.size + 1, 3, none⟩ (.int .i64 fn)).drew).cell? ⟨b2, o2 + 1, none⟩ = some (.int .i64 fb)) := Lib.hid (fun fb h => ((World.cell?_setCell_other _ _ _ _ (by intro e; injection e with e1; omega)).trans (World.cell?_setCell_other _ _ _ _ (by intro e; injection e with e1; omega))).trans h)
                    go_wp2_with fail
                    go_meet
                    exact ⟨HR2, HC2⟩
                case rest =>
                  obtain ⟨HR2, HC2⟩ := hcut
                  clear ca cn g1 g3 y1 y3 HSET HRS
                  obtain ⟨kb, hkbe⟩ : ∃ kb, (if ChoP.pairB (K : Int) = true then f.getD 1 0 else 0) = kb := ⟨_, rfl⟩
                  have hkf := HKF.out
                  rw [hkbe] at hkf
                  have HKF2 := Lib.hid hkf
                  have HKBE := Lib.hid hkbe
                  clear hkf hkbe HKF
                  go_upto_if 93 with fail
                  all_goals
                    go_cut [] (fun wx => Hid (RPS w wx #[.int .u8 (K : Int), .int .i64 fa, .int .i64 kb, .int .i64 fn, .int .i64 0, .int .i64 0, .slice none 0 0]) ∧ Below w.heap.size w wx)
                  case first =>
                    cases hp : ChoP.pairB (K : Int)
                    · have h3 : ((N1 : Int) + 1 == 3) = false := by
                        rw [beq_eq_false_iff_ne]
                        intro e
                        have := HNP.out.1 (by omega)
                        rw [hp] at this
                        cases this
                      have hk0 : kb = 0 := by rw [← HKBE.out, hp]; rfl
                      have HR3 : Hid (RPS w wc #[.int .u8 (K : Int), .int .i64 fa, .int .i64 kb, .int .i64 fn, .int .i64 0, .int .i64 0, .slice none 0 0]) := Lib.hid (by rw [hk0]; exact HR2.out)
                      clear hk0
                      clear hp
                      go_wp2_with fail
                      go_meet
                      exact ⟨HR3, HR3.out.below⟩
                    · have hn3 : N1 + 1 = 3 := HNP.out.2 hp
                      have h3 : ((N1 : Int) + 1 == 3) = true := by rw [beq_iff_eq]; omega
                      obtain ⟨fb, hfb, hcb⟩ := HKB.out hn3
                      have c1b := HC2.out fb hcb
                      have g2 := cell_at HR2.out.g 2 _ rfl
                      have y2 := frozen_at HR2.out.g 2
                      have hi2 : (1 : Int) < (N1 : Int) + 1 := by omega
                      obtain rfl : kb = fb := by rw [← HKBE.out, hp, if_pos rfl]; simp [List.getD, hfb]
                      have hset := HR2.out.setG 2 (.int .i64 kb)
                      have HR3 : Hid (RPS w (wc.setCell ⟨w.heap.size + 1, 2, none⟩ (.int .i64 kb)) #[.int .u8 (K : Int), .int .i64 fa, .int .i64 kb, .int .i64 fn, .int .i64 0, .int .i64 0, .slice none 0 0]) := Lib.hid hset
                      clear hp hn3 hfb hcb hset
                      go_wp2_with fail
                      go_meet
                      exact ⟨HR3, HR3.out.below⟩
                  case rest =>
                    obtain ⟨HR3, _⟩ := hcut
                    have hwl0 : WSl w w.heap.size (.slice X1 r.length c1) r := by
                      obtain ⟨X', c', e', h1, h2, h3⟩ := HWL.out
                      exact ⟨X', c', e', h1.blocks (fun z hz => (HBWR.out.block z hz).symm), h2, h3⟩
                    have hrk := HRK3.out
                    rw [HKF2.out] at hrk
                    go_step
                    exact refParse_key x rs w _ K fa kb fn key hkl h00 r X1 c1 hn hc1 hm1 HLN.out HR3.out hrk hwl0 _ _ _ _ _ _ _ _ _ _ _ _ _ _ _ _ _ _ _ _ _ _ _ _ _ _ _ _ _ _ _ _ _ _ _ _ _ _ _ _ _ _ _ _ _ _ _ _ _ _ _ _ _ _ _ _ _ _ _ _ _ _ _ _ _ _ _ _ _ _ _ _ _ _ _ _ _ _ _ _ _ _ _ _ _ _ _ _ _ _ _ _ _ _ _ _ _ _ _ _ _ _ _ _ _ _ _ _ _ _ _ _ _ _ _ _ _ _ _ _ _ _ _ _ _ _ _ _ _ _ _ _ _ _ _ _ _ _ _ _ _ _ _ _ _ _ _ _ _ _ _ _ _ _ _ _ _ _ _ _ _ _ _ _ _ _ _ _ _ _ _ _ _ _ _ _ _ _ _ _ _ _ _ _ _
end Go.Proofs.YtpniilgkceadeaaGreatDoor
