/- The walk of the law on full sets. -/
import Derived.Test.YtebfclikfpcibaaDoorChoAwake
import Derived.Test.YtebfclikfpcibaaDoorChoRefWith
import Derived.Test.YtebfclikfpcibaaDoorChoFullP
import Derived.Test.YtebfclikfpcibaaDoorChoNewF
import Derived.Lib.QuietBelow
namespace Go.Proofs.YtebfclikfpcibaaDoor
open Go.RowKit Go.Sort
theorem errNew_bounds (l : List ChoP.Cho) : 0 ≤ ChoP.errNew l ∧ ChoP.errNew l ≤ 5 := by
  unfold ChoP.errNew
  split
  · decide
  · split
    · decide
    · split <;> decide
theorem RowIs.cut {w : World} {B : Nat} {r : Row} {x : ChoP.Cho} (h : RowIs w B r x) (m : Nat) (hm : m ≤ r.n) : RowIs w B ⟨r.key, r.t, r.d, r.p, m, r.c⟩ ⟨x.key, x.t, x.d, x.args.take m⟩ := by
  refine ⟨h.key, h.t, h.d, ?_, ?_, h.m, ?_⟩
  · have := h.n
    rw [List.length_take]
    show m = _
    omega
  · have := h.c
    show m ≤ r.c
    omega
  · have e : intV (x.args.take m) = (intV x.args).take m := by simp [intV, List.map_take]
    show Lie w B r.p (intV (x.args.take m))
    rw [e]
    exact h.lie.take m
set_option maxRecDepth 100000 in
set_option maxHeartbeats 2000000 in
theorem choiceFull_walk (n : Nat) (hn : n ≤ 255) (r : Row) (x : ChoP.Cho) (w : World) (hL : Laid w) (hr : RowIs w w.heap.size r x) : Calls Tryd.prog 5 #[.int .u8 n, choV r] w (TruePost w) := by
  obtain ⟨i0, hi0, hz0, hz1, hz2⟩ := info_parts info_cho
  have e1 : choV r = .agg #[.int .u8 r.key.kind, .int .i64 r.key.a, .int .i64 r.key.b, .int .i64 r.key.n, .int .i64 r.t, .int .i64 r.d, .slice r.p r.n r.c] := rfl
  rw [e1]
  clear e1
  have HL := Lib.hid hL
  have HR := Lib.hid hr
  have hc := hr.c
  have hm := hr.m
  clear hL hr
  go_enter Tryd.func5, Tryd.ntmps5
  go_wp2_with fail
  refine (awake_any _ (HL.out.below ((Below.refl _ _).alloc (Nat.le_refl _) _))).mono ?_
  rintro e w1 ⟨rfl, hb⟩
  rw [World.size_alloc] at hb
  have hblk : w1.heap[w.heap.size]? = some (.cells #[.int .u8 r.key.kind, .int .i64 r.key.a, .int .i64 r.key.b, .int .i64 r.key.n, .int .i64 r.t, .int .i64 r.d, .slice r.p r.n r.c] 27 (0, 0)) := (hb.block _ (by omega)).trans (heap_alloc_new w _)
  have hB : Below w.heap.size w w1 := ((Below.refl w.heap.size w).alloc (Nat.le_refl _) _).trans (hb.mono (by omega))
  have hz1' : w.heap.size + 1 ≤ w1.heap.size := by have := hb.size; rwa [World.size_alloc] at this
  have HB := Lib.hid hB
  have HBLK := Lib.hid hblk
  clear hb hB hblk
  go_wp2_with fail
  go_loopw [5, 17] (fun v i wr => ∃ k : Nat, k ≤ n ∧ i = .int .i64 k ∧ wr.ownsRow w1.heap.size 27 7 v k (cellsP (diskP k)) ∧ RowKit.Below w1.heap.size w1 wr) (fun _ i _ => n - (intOf i).toNat)
  case atStart => exact ⟨0, Nat.zero_le _, rfl, ⟨rfl, .inl ⟨rfl, rfl⟩⟩, Below.refl _ _⟩
  case round =>
    obtain ⟨k, hk, rfl, hown, hb⟩ := hrel
    have HO := Lib.hid hown
    have HB1 := Lib.hid hb
    have hwz := hb.size
    clear hown hb
    by_cases hlt : k < n
    · have q1 : Int.tmod (k : Int) 8 = ((k % 8 : Nat) : Int) := rfl
      have q2 : Int.tdiv (k : Int) 8 = ((k / 8 : Nat) : Int) := rfl
      go_wp2_with (at_builtin; refine wpList_append_own _ rfl _ _ 36 rfl w1.heap.size 27 i0 _ 7 72 Tryd.underlying36 hi0 hz0 hz1 hz2 rfl (by decide) _ _ _ rfl (HO.out.alloc _) ⟨wr.heap.size, 0, none⟩ 1 1 (diskR k).vs rfl rfl ?c1 ?c2 ?c3 ?c4 ?c5 ?_)
      case c1 => exact cells_new wr (diskR k).vs 27
      case c2 => simp [Value.oneCell', Row.vs]
      case c3 => unfold maxLen; omega
      case c4 => omega
      case c5 => simp; omega
      intro v2 w2 hown2 hgrow2 _
      have HO2 : Hid (w2.ownsRow w1.heap.size 27 7 v2 (k + 1) (cellsP (diskP (k + 1)))) := Lib.hid (by rw [diskP_cells]; exact hown2)
      have HB2 : Hid (RowKit.Below w1.heap.size w1 w2) := Lib.hid ((HB1.out.alloc hwz _).grown hgrow2 (by simp; omega) (own_ge HO.out))
      clear hown2 hgrow2
      go_wp2_with fail
      go_roundw
      case rel => exact ⟨k + 1, by omega, by go_num, HO2.out, HB2.out⟩
      case measure => simp [intOf]; omega
    · obtain rfl : k = n := by omega
      obtain ⟨A, c, rfl, hcc, hcm, hsl⟩ := own_form HO.out
      have HCH : Hid (Chos wr wr.heap.size A (diskP k)) := Lib.hid (diskP_chos k hsl.2)
      have hnew := new_fresh A (diskP k) c wr HCH.out (by rw [diskP_len]; omega)
      rw [diskP_len] at hnew
      have HN := Lib.hid hnew
      have HAG : Hid (∀ b o, A = some ⟨b, o, none⟩ → w1.heap.size ≤ b) := Lib.hid (fun b o e => own_ge HO.out b (by rw [e]; rfl))
      clear hsl hlt hnew HO
      go_wp2_with fail
      refine HN.out.mono ?_
      rintro e w2 ⟨A2, ps, c2, rfl, hps, hch2, hc2, hc2', hfr, hb2⟩
      rw [diskP_cho, ChoP.disk_err k (by omega)]
      clear HN
      have HCH2 := Lib.hid hch2
      have HPS := Lib.hid hps
      have HFR := Lib.hid hfr
      have HB2 := Lib.hid hb2
      have hz2' := hb2.size
      clear hch2 hps hb2 hfr
      have hst : ps.length = if k ≤ 96 then k else 0 := by
        have h := congrArg List.length HPS.out
        rw [ChoP.setL_len, diskP_cho, ChoP.disk_err k (by omega)] at h
        simp only [cho, List.length_map, List.length_range] at h
        rw [h]
        by_cases hh : k ≤ 96 <;> simp [hh]
      by_cases h96 : k ≤ 96
      · rw [if_pos h96] at hst
        rw [if_pos h96]
        have hblk2 := (HB2.out.block w.heap.size (by omega)).trans ((HB1.out.block w.heap.size (by omega)).trans HBLK.out)
        obtain ⟨⟨a0, a1, a2, a3, a4, a5, a6⟩, ⟨_, _, _, _, _, _, f6⟩⟩ := blk7 hblk2
        have HBLK2 := Lib.hid hblk2
        have hlt2 : w.heap.size < w2.heap.size := by omega
        have hne2 : w.heap.size ≠ w2.heap.size := by omega
        clear hblk2 HBLK
        go_wp2_with fail
        generalize hmn : (min (r.n : Int) 6).toNat = m at *
        have hm6 : m ≤ r.n := by omega
        clear hmn a0 a1 a2 a3 a4 a5 a6 f6
        have hblk3 : (w2.setCell ⟨w.heap.size, 6, none⟩ (.slice r.p m r.c)).heap[w.heap.size]? = some (.cells #[.int .u8 r.key.kind, .int .i64 r.key.a, .int .i64 r.key.b, .int .i64 r.key.n, .int .i64 r.t, .int .i64 r.d, .slice r.p m r.c] 27 (0, 0)) := by
          simp [World.setCell, Array.getElem?_modify, HBLK2.out]
        have hbw2 : RowKit.Below w.heap.size w w2 := HB.out.trans ((HB1.out.mono (by omega)).trans (HB2.out.mono (by omega)))
        have hbw3 : RowKit.Below w.heap.size w (w2.setCell ⟨w.heap.size, 6, none⟩ (.slice r.p m r.c)) := hbw2.setCell (by simp) _
        have hch3 : Chos (w2.setCell ⟨w.heap.size, 6, none⟩ (.slice r.p m r.c)) w2.heap.size A2 ps := HCH2.out.set _ _ (fun b o e => by have := HFR.out.1 b o e; simp; omega) (fun q hq b o e => by have := HFR.out.2 q hq b o e; simp; omega)
        have hl3 : Chos (w2.setCell ⟨w.heap.size, 6, none⟩ (.slice r.p m r.c)) w2.heap.size A (diskP k) := (HCH.out.below HB2.out HB2.out.size).set _ _ (fun b o e => by have := HAG.out b o e; simp; omega) (fun q hq b o e => by obtain ⟨i, _, rfl⟩ := List.mem_map.1 hq; cases e)
        have hz3 : (w2.setCell ⟨w.heap.size, 6, none⟩ (.slice r.p m r.c)).heap.size = w2.heap.size := World.size_setCell _ _ _
        generalize w2.setCell ⟨w.heap.size, 6, none⟩ (.slice r.p m r.c) = w3 at *
        have hr3 := (HR.out.cut m hm6)
        have he0 : ChoP.errNew ((List.range k).map ChoP.diskC) = 0 := by rw [ChoP.disk_err k (by omega), if_pos h96]
        have hps : cho ps = ChoP.isort ((List.range k).map ChoP.diskC) := by rw [HPS.out, diskP_cho, ChoP.setL, if_pos he0]
        have hord : ChoP.Ord (cho ps) := by
          rw [hps]
          refine ChoP.isort_ord _ ?_
          unfold ChoP.errNew at he0
          split at he0
          · cases he0
          · split at he0
            · cases he0
            · rename_i hx
              simpa using hx
        have hok : ∀ p ∈ ps, ChoP.okC p.2 = true := fun p hp => by
          have h1 : p.2 ∈ cho ps := List.mem_map.2 ⟨p, hp, rfl⟩
          rw [hps] at h1
          obtain ⟨i, hi, e⟩ := List.mem_map.1 ((ChoP.isort_perm _).mem_iff.1 h1)
          rw [← e]
          exact ChoP.diskC_ok i (by have := List.mem_range.1 hi; omega)
        have hw3 : ∀ o : Obj, RowKit.Below w2.heap.size w3 (w3.alloc o) := fun o => (Below.refl _ _).alloc (by omega) _
        have hwith := fun o : Obj => with_any A2 ps c2 ⟨r.key, r.t, r.d, r.p, m, r.c⟩ ⟨x.key, x.t, x.d, x.args.take m⟩ (w3.alloc o) (hch3.below (hw3 o) (by simp; omega)) hord (by omega) hc2 hc2' hok (hr3.below (hbw3.alloc (by omega) _) (by simp; omega))
        obtain ⟨s1, s2⟩ := ChoP.full_same ((List.range k).map ChoP.diskC) ⟨x.key, x.t, x.d, x.args.take m⟩
        rw [hps, hst] at hwith
        obtain ⟨g1, g2⟩ := errNew_bounds ((List.range k).map ChoP.diskC ++ [⟨x.key, x.t, x.d, x.args.take m⟩])
        have href := fun (W : World) (hc : Chos W W.heap.size A (diskP k)) (hr : RowIs W W.heap.size ⟨r.key, r.t, r.d, r.p, m, r.c⟩ ⟨x.key, x.t, x.d, x.args.take m⟩) => refWith_any A (diskP k) c ⟨r.key, r.t, r.d, r.p, m, r.c⟩ ⟨x.key, x.t, x.d, x.args.take m⟩ W hc (by rw [diskP_len]; omega) hr
        rw [diskP_len, diskP_cho] at href
        have HREF := Lib.hid href
        have HL3 := Lib.hid hl3
        have HR3 := Lib.hid hr3
        have HBW3 := Lib.hid hbw3
        have HBLK3 := Lib.hid hblk3
        have HS2 := Lib.hid s2
        refine (hwith _).mono ?_
        rintro e w4 ⟨A4, ps4, c4, rfl, hps4, hch4, hc4, hc4', hb4⟩
        rw [s1]
        have hl4 := congrArg List.length hps4
        rw [s2] at hl4
        rw [World.size_alloc] at hb4
        have hb34 : RowKit.Below w3.heap.size w3 w4 := ((Below.refl w3.heap.size w3).alloc (Nat.le_refl _) _).trans (hb4.mono (by omega))
        have hz4 := hb34.size
        obtain ⟨⟨a0, a1, a2, a3, a4, a5, a6⟩, _⟩ := blk7 ((hb34.block w.heap.size (by omega)).trans hblk3)
        have HB34 := Lib.hid hb34
        have HL4 := Lib.hid hl4
        generalize hE : ChoP.errNew ((List.range k).map ChoP.diskC ++ [⟨x.key, x.t, x.d, x.args.take m⟩]) = E at *
        have HE := Lib.hid hE
        clear hE
        have hlt4 : w.heap.size < w4.heap.size := by omega
        have hne4 : w.heap.size ≠ w4.heap.size := by omega
        clear href hl3 hr3 hbw3 hblk3 hwith hord hok hw3 hch3 he0 hps s1 s2 hps4 hch4 hb4 hl4 hb34 HPS HCH2 HFR HBLK2 HB2 HCH HB HB1
        go_wp2_with fail
        have hb45 : ∀ o : Obj, RowKit.Below w3.heap.size w3 (w4.alloc o) := fun o => HB34.out.alloc (by omega) _
        refine (HREF.out _ (HL3.out.below ((hb45 _).mono (by omega)) (by simp; omega)) (HR3.out.below (HBW3.out.trans ((hb45 _).mono (by omega))) (by simp; omega))).mono ?_
        rintro e w5 ⟨A6, ps6, c6, rfl, hps6, hch6, hc6, hc6', hb6⟩
        rw [HE.out]
        have hl6 : ps6.length = ps4.length := by
          have h := congrArg List.length hps6
          have h2 := HL4.out
          simp only [cho, List.length_map] at h h2
          rw [h, h2]
        rw [World.size_alloc] at hb6
        have t5 : w5.cell? ⟨w4.heap.size, 0, none⟩ = some (.slice A4 ps4.length c4) := (hb6.cell (p := ⟨w4.heap.size, 0, none⟩) (by simp)).trans (cell_at (heap_alloc_new w4 _) 0 _ rfl)
        have hb46 : RowKit.Below w.heap.size w w5 := (HBW3.out.trans ((HB34.out.mono (by omega)).trans (((Below.refl _ _).alloc (by omega) _).trans (hb6.mono (by omega)))))
        have HB46 := Lib.hid hb46
        have hz5 := hb46.size
        rw [hl6]
        clear hps6 hch6 hb6 hb46 hb45 HREF HL3 HR3 HBW3 HBLK3 HS2 HB34 HL4 a0 a1 a2 a3 a4 a5 a6 hl6
        go_wp2_with fail
        refine (len_any A4 ps4.length c4 w5).mono ?_
        rintro e w7 ⟨rfl, hb7⟩
        have HF := Lib.hid (HB46.out.trans (hb7.mono (by omega)))
        clear hb7 HB46 t5
        go_wp2_with fail
        go_ret
        exact ⟨rfl, HF.out⟩
      · rw [if_neg h96] at hst
        rw [if_neg h96]
        rw [hst]
        go_wp2_with fail
        refine (len_any A2 0 c2 _).mono ?_
        rintro e w3 ⟨rfl, hb3⟩
        go_wp2_with fail
        go_ret
        exact ⟨rfl, HB.out.trans ((HB1.out.mono (by omega)).trans ((HB2.out.mono (by omega)).trans (((Below.refl _ _).alloc (by omega) _).trans (hb3.mono (by simp; omega)))))⟩
end Go.Proofs.YtebfclikfpcibaaDoor
