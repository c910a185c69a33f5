/- The reference's Minus. -/
import Derived.Test.YtolfbnjmkgikdaaDoorChoMinus
namespace Go.Proofs.YtolfbnjmkgikdaaDoor
open Go.RowKit Go.Sort
set_option maxRecDepth 100000 in
set_option maxHeartbeats 4000000 in
theorem refMinus_any (A B : Option Addr) (ps qs : List Pair) (c d : Nat) (w : World) (h1 : Chos w w.heap.size A ps) (h2 : Chos w w.heap.size B qs) (ho : ChoP.nodupB (cho qs) = true) (hn : ps.length ≤ 60000) (hq : qs.length ≤ 60000) (ha : ∀ p ∈ ps, p.2.args.length ≤ 65536) (hb : ∀ p ∈ qs, p.2.args.length ≤ 65536) :
    Calls Tryd.prog 25 #[.slice A ps.length c, .slice B qs.length d] w (KeysPost (ChoP.minusL (cho ps) (cho qs)) w) := by
  obtain ⟨i0, hi0, hz0, hz1, hz2⟩ := info_parts info_key
  have H1 := Lib.hid h1
  have H2 := Lib.hid h2
  have HA := Lib.hid ha
  have HBA := Lib.hid hb
  have HORD := Lib.hid ho
  clear h1 h2 ha hb ho
  go_enter Tryd.func25, Tryd.ntmps25
  go_wp2_with fail
  obtain ⟨w0, hw0⟩ : ∃ w0 : World, w0 = w := ⟨_, rfl⟩
  have hb0 : RowKit.Below w.heap.size w w0 := by rw [hw0]; exact RowKit.Below.refl _ _
  have HB0 := Lib.hid hb0
  have hzz := hb0.size
  rw [← hw0]
  have HPOST : Hid (KeysPost (ChoP.minusL (cho ps) (cho qs)) w0 = KeysPost (ChoP.minusL (cho ps) (cho qs)) w) := Lib.hid (by rw [hw0])
  rw [HPOST.out]
  clear hb0 hw0 HPOST
  go_loopw [5, 11] (fun v i wr => ∃ k : Nat, k ≤ ps.length ∧ i = .int .i64 k ∧ wr.ownsRow w0.heap.size 25 4 v (keys ((ps.take k).filter (missP (cho qs)))).length (cellsK (keys ((ps.take k).filter (missP (cho qs))))) ∧ RowKit.Below w0.heap.size w0 wr) (fun _ i _ => ps.length - (intOf i).toNat)
  case atStart => exact ⟨0, Nat.zero_le _, rfl, ⟨rfl, .inl ⟨rfl, rfl⟩⟩, Below.refl _ _⟩
  case round =>
    obtain ⟨k, hk, rfl, hown, hb⟩ := hrel
    have HO := Lib.hid hown
    have HB := Lib.hid hb
    have hwz := hb.size
    clear hown hb
    by_cases hlt : k < ps.length
    · obtain ⟨p, hpk⟩ : ∃ p, ps[k]? = some p := ⟨_, List.getElem?_eq_getElem (by omega)⟩
      have hrow := H1.out.row p (List.mem_of_getElem? hpk)
      have hpa := HA.out p (List.mem_of_getElem? hpk)
      obtain ⟨b, o, rfl, hb0, hcl⟩ := H1.out.at_ k p hpk
      have hbw : RowKit.Below w.heap.size w wr := HB0.out.trans (HB.out.mono (by omega))
      have hcell : ∀ j u, p.1.vs[j]? = some u → wr.cell? ⟨b, o + k * 7 + j, none⟩ = some u := fun j u hu => (hbw.cell (p := ⟨b, o + k * 7 + j, none⟩) hb0).trans (hcl j u hu)
      have c0 : wr.cell? ⟨b, o + k * 7, none⟩ = some (.int .u8 p.1.key.kind) := hcell 0 _ rfl
      have c1 := hcell 1 _ rfl
      have c2 := hcell 2 _ rfl
      have c3 := hcell 3 _ rfl
      have c4 := hcell 4 _ rfl
      have c5 := hcell 5 _ rfl
      have c6 := hcell 6 _ rfl
      have hst := miss_take (m := cho qs) hpk
      rw [← hrow.key] at hst
      have hfl : (keys ((ps.take k).filter (missP (cho qs)))).length ≤ ps.length := by
        have h1 := List.length_filter_le (missP (cho qs)) (ps.take k)
        have h2 := List.length_take_le k ps
        simp only [keys, List.length_map]
        omega
      have HST := Lib.hid hst
      generalize keys ((ps.take k).filter (missP (cho qs))) = fs at *
      have hfind := fun (W : World) (hW : RowKit.Below w.heap.size w W) => refFind_any B qs d p.1.key W (H2.out.below hW hW.size) (by omega)
      have k2 : keyV p.1.key = .agg #[.int .u8 p.1.key.kind, .int .i64 p.1.key.a, .int .i64 p.1.key.b, .int .i64 p.1.key.n] := rfl
      rw [k2] at hfind
      have HFIND := Lib.hid hfind
      have HROW := Lib.hid hrow
      have HBW := Lib.hid hbw
      have hbwz := hbw.size
      clear hfind k2 hst hcell hcl hpk hrow hbw
      go_wp2_with fail
      refine (HFIND.out _ (HBW.out.alloc hbwz _)).mono ?_
      rintro e w1 ⟨rfl, hb1⟩
      rw [World.size_alloc] at hb1
      have hblk := (hb1.block wr.heap.size (by omega)).trans (heap_alloc_new wr _)
      have hbr : RowKit.Below wr.heap.size wr w1 := ((RowKit.Below.refl wr.heap.size wr).alloc (Nat.le_refl _) _).trans (hb1.mono (by omega))
      have HB1 := Lib.hid (HB.out.trans (hbr.mono hwz))
      have HBW1 := Lib.hid (HBW.out.trans (hbr.mono hbwz))
      have HO1 := Lib.hid (own_below HO.out hbr)
      have hzr : wr.heap.size < w1.heap.size := (Array.getElem?_eq_some_iff.1 hblk).1
      obtain ⟨⟨a0, a1, a2, a3, a4, a5, a6⟩, _⟩ := blk7 hblk
      have d0 := cell_regrown a0
      have d1 := cell_regrown a1
      have d2 := cell_regrown a2
      have d3 := cell_regrown a3
      have d4 := cell_regrown a4
      have d5 := cell_regrown a5
      have d6 := cell_regrown a6
      have HBLK := Lib.hid hblk
      clear hblk hbr hb1 a0 a1 a2 a3 a4 a5 a6 c0 c1 c2 c3 c4 c5 c6 HFIND
      generalize hG : wr.heap.size = G at *
      clear hG
      obtain ⟨n, hnf⟩ : ∃ n, ChoP.findI (cho qs) p.1.key = n := ⟨_, rfl⟩
      rw [hnf]
      have hmain : (n < 0 ∧ missP (cho qs) p = true) ∨ ∃ i : Nat, n = (i : Int) ∧ ∃ q, qs[i]? = some q ∧ missP (cho qs) p = !ChoP.sameB p.2 q.2 := by
        by_cases h0 : 0 ≤ n
        · obtain ⟨i, rfl⟩ : ∃ i : Nat, n = (i : Int) := ⟨n.toNat, by omega⟩
          obtain ⟨y, hy, hyk⟩ := ChoP.findI_get _ _ i hnf
          have hy2 := hy
          simp only [cho, List.getElem?_map, Option.map_eq_some_iff] at hy2
          obtain ⟨q, hq1, rfl⟩ := hy2
          exact .inr ⟨i, rfl, q, hq1, ChoP.miss_at HORD.out hy (by rw [hyk, HROW.out.key])⟩
        · refine .inl ⟨by omega, ChoP.miss_none ?_⟩
          cases hh : ChoP.hasK (cho qs) p.2.key
          · rfl
          · rw [← HROW.out.key] at hh
            have := (ChoP.findI_has _ _).2 hh
            omega
      clear hnf
      rcases hmain with ⟨hneg, hmiss⟩ | ⟨i, rfl, q, hqk, hmiss⟩
      · go_wp2_with fail
        refine wp_region_quiet_below (by kernel_rfl) (by kernel_rfl) ?_
        repeat (first | go_big_quiet_step (fail) | quiet_step (fail))
        refine wpQuiet_nil ?_
        rintro w' ⟨pq, rfl⟩
        have HB2 := Lib.hid (HB1.out.trans ((below_regrown w1 pq.d pq.os).mono (by omega)))
        have HO2 := Lib.hid (own_below HO1.out (below_regrown w1 pq.d pq.os))
        have hzg : G < (grow (redrawn w1 pq.d) pq.os).heap.size := Nat.lt_of_lt_of_le hzr (below_regrown w1 pq.d pq.os).size
        have hblk2 := ((below_regrown w1 pq.d pq.os).block G hzr).trans HBLK.out
        generalize grow (redrawn w1 pq.d) pq.os = w2 at *
        obtain ⟨⟨e0, e1, e2, e3, _, _, _⟩, _⟩ := blk7 hblk2
        have HST2 := HST.out
        rw [hmiss, if_pos rfl] at HST2
        have HST3 := Lib.hid HST2
        clear HST2 hblk2 d0 d1 d2 d3 d4 d5 d6 hmiss
        go_wp2_with (at_builtin; refine wpList_append_own _ rfl _ _ 38 rfl w0.heap.size 25 i0 _ 4 32 Tryd.underlying38 hi0 hz0 hz1 hz2 rfl (by decide) _ fs.length (cellsK fs) rfl ?_ ⟨w2.heap.size, 0, none⟩ 1 1 (keyVs p.1.key) rfl rfl ?_ ?_ ?_ ?_ ?_ ?_)
        · exact HO2.out.alloc _
        · exact cells_new w2 (keyVs p.1.key) 25
        · simp [keyVs, Value.oneCell']
        · unfold maxLen; omega
        · omega
        · simp; have := HB2.out.size; omega
        intro v2 w3 hown2 hgrow2 _
        have HO3 : Hid (w3.ownsRow w0.heap.size 25 4 v2 (keys ((ps.take (k + 1)).filter (missP (cho qs)))).length (cellsK (keys ((ps.take (k + 1)).filter (missP (cho qs)))))) := Lib.hid (by rw [HST3.out, List.length_append, cellsK_append]; simpa [cellsK] using hown2)
        have HB3 : Hid (RowKit.Below w0.heap.size w0 w3) := Lib.hid ((HB2.out.alloc (by have := HB2.out.size; omega) _).grown hgrow2 (by simp; have := HB2.out.size; omega) (own_ge HO.out))
        clear hown2 hgrow2 e0 e1 e2 e3
        go_wp2_with fail
        go_roundw
        case rel => exact ⟨k + 1, by omega, by go_num, HO3.out, HB3.out⟩
        case measure => simp [intOf]; omega
      · have hqr := H2.out.row q (List.mem_of_getElem? hqk)
        have hqa := HBA.out q (List.mem_of_getElem? hqk)
        have hiq : i < qs.length := (List.getElem?_eq_some_iff.1 hqk).1
        obtain ⟨b', o', rfl, hb0', hc'⟩ := H2.out.at_ i q hqk
        have hcell' : ∀ j u, q.1.vs[j]? = some u → w1.cell? ⟨b', o' + i * 7 + j, none⟩ = some u := fun j u hu => (HBW1.out.cell (p := ⟨b', o' + i * 7 + j, none⟩) hb0').trans (hc' j u hu)
        have f0 : w1.cell? ⟨b', o' + i * 7, none⟩ = some (.int .u8 q.1.key.kind) := hcell' 0 _ rfl
        have g0 := cell_regrown f0
        have g1 := cell_regrown (hcell' 1 _ rfl)
        have g2 := cell_regrown (hcell' 2 _ rfl)
        have g3 := cell_regrown (hcell' 3 _ rfl)
        have g4 := cell_regrown (hcell' 4 _ rfl)
        have g5 := cell_regrown (hcell' 5 _ rfl)
        have g6 := cell_regrown (hcell' 6 _ rfl)
        obtain ⟨s, hs⟩ : ∃ s, ChoP.sameB p.2 q.2 = s := ⟨_, rfl⟩
        have cF : ∀ d os, Calls Tryd.prog 15 #[.agg #[.int .u8 p.1.key.kind, .int .i64 p.1.key.a, .int .i64 p.1.key.b, .int .i64 p.1.key.n, .int .i64 p.1.t, .int .i64 p.1.d, .slice p.1.p p.1.n p.1.c], .agg #[.int .u8 q.1.key.kind, .int .i64 q.1.key.a, .int .i64 q.1.key.b, .int .i64 q.1.key.n, .int .i64 q.1.t, .int .i64 q.1.d, .slice q.1.p q.1.n q.1.c]] (grow (redrawn w1 d) os) fun e w'' => e = .returned (.bool s) ∧ ∃ p : Regrown, w'' = grow (redrawn w1 p.d) p.os := fun d os => by
          have hW : RowKit.Below w.heap.size w (grow (redrawn w1 d) os) := HBW1.out.trans ((below_regrown w1 d os).mono HBW1.out.size)
          have h := same_any p.1 q.1 p.2 q.2 (grow (redrawn w1 d) os) (HROW.out.below hW hW.size) (hqr.below hW hW.size)
          rw [hs] at h
          exact Calls.regrown_of h
        rw [hs] at hmiss
        have CF := Lib.hid cF
        have hi1 : (0 : Int) ≤ (i : Int) := by omega
        have hi2 : (i : Int) < (qs.length : Int) := by omega
        have hi3 : ¬ ((i : Int) < 0) := by omega
        clear cF f0 hcell' hc' hqr hqk hs
        go_wp2_with fail
        cases s
        · simp only [Bool.not_false] at hmiss
          refine wp_region_quiet_below (by kernel_rfl) (by kernel_rfl) ?_
          repeat (first | go_big_quiet_step (exact CF.out _ _) | quiet_step (exact CF.out _ _))
          refine wpQuiet_nil ?_
          rintro w' ⟨pq, rfl⟩
          have HB2 := Lib.hid (HB1.out.trans ((below_regrown w1 pq.d pq.os).mono (by omega)))
          have HO2 := Lib.hid (own_below HO1.out (below_regrown w1 pq.d pq.os))
          have hzg : G < (grow (redrawn w1 pq.d) pq.os).heap.size := Nat.lt_of_lt_of_le hzr (below_regrown w1 pq.d pq.os).size
          have hblk2 := ((below_regrown w1 pq.d pq.os).block G hzr).trans HBLK.out
          generalize grow (redrawn w1 pq.d) pq.os = w2 at *
          obtain ⟨⟨e0, e1, e2, e3, _, _, _⟩, _⟩ := blk7 hblk2
          have HST2 := HST.out
          rw [hmiss, if_pos rfl] at HST2
          have HST3 := Lib.hid HST2
          clear HST2 hblk2 d0 d1 d2 d3 d4 d5 d6 hmiss g0 g1 g2 g3 g4 g5 g6 CF
          go_wp2_with (at_builtin; refine wpList_append_own _ rfl _ _ 38 rfl w0.heap.size 25 i0 _ 4 32 Tryd.underlying38 hi0 hz0 hz1 hz2 rfl (by decide) _ fs.length (cellsK fs) rfl ?_ ⟨w2.heap.size, 0, none⟩ 1 1 (keyVs p.1.key) rfl rfl ?_ ?_ ?_ ?_ ?_ ?_)
          · exact HO2.out.alloc _
          · exact cells_new w2 (keyVs p.1.key) 25
          · simp [keyVs, Value.oneCell']
          · unfold maxLen; omega
          · omega
          · simp; have := HB2.out.size; omega
          intro v2 w3 hown2 hgrow2 _
          have HO3 : Hid (w3.ownsRow w0.heap.size 25 4 v2 (keys ((ps.take (k + 1)).filter (missP (cho qs)))).length (cellsK (keys ((ps.take (k + 1)).filter (missP (cho qs)))))) := Lib.hid (by rw [HST3.out, List.length_append, cellsK_append]; simpa [cellsK] using hown2)
          have HB3 : Hid (RowKit.Below w0.heap.size w0 w3) := Lib.hid ((HB2.out.alloc (by have := HB2.out.size; omega) _).grown hgrow2 (by simp; have := HB2.out.size; omega) (own_ge HO.out))
          clear hown2 hgrow2 e0 e1 e2 e3
          go_wp2_with fail
          go_roundw
          case rel => exact ⟨k + 1, by omega, by go_num, HO3.out, HB3.out⟩
          case measure => simp [intOf]; omega
        · simp only [Bool.not_true] at hmiss
          refine wp_region_quiet_below (by kernel_rfl) (by kernel_rfl) ?_
          repeat (first | go_big_quiet_step (exact CF.out _ _) | quiet_step (exact CF.out _ _))
          refine wpQuiet_nil ?_
          rintro w' ⟨pq, rfl⟩
          have HB2 := Lib.hid (HB1.out.trans ((below_regrown w1 pq.d pq.os).mono (by omega)))
          have HO2 := Lib.hid (own_below HO1.out (below_regrown w1 pq.d pq.os))
          generalize grow (redrawn w1 pq.d) pq.os = w2 at *
          have HST2 := HST.out
          rw [hmiss, if_neg (by decide), List.append_nil] at HST2
          have HST3 := Lib.hid HST2
          clear HST2 d0 d1 d2 d3 d4 d5 d6 hmiss g0 g1 g2 g3 g4 g5 g6 CF
          go_wp2_with fail
          go_roundw
          case rel => exact ⟨k + 1, by omega, by go_num, by rw [HST3.out]; exact HO2.out, HB2.out⟩
          case measure => simp [intOf]; omega
    · obtain ⟨A2, c2, rfl, hcc, hcm, hsl⟩ := own_form HO.out
      have hna : ∀ b o, A2 = some ⟨b, o, none⟩ → w.heap.size ≤ b := NewA.own HO.out (by omega)
      have hf : KeysPost (ChoP.minusL (cho ps) (cho qs)) w (.returned (.slice A2 (keys ((ps.take k).filter (missP (cho qs)))).length c2)) wr := by
        rw [List.take_of_length_le (by omega), miss_keys] at hsl hcc ⊢
        exact ⟨A2, c2, rfl, hsl.2, hcc, hcm, hna, HB0.out.trans (HB.out.mono (by omega))⟩
      have HF := Lib.hid hf
      clear hf hsl HO hcc hna
      generalize keys ((ps.take k).filter (missP (cho qs))) = fs at *
      go_wp2_with fail
      go_ret
      exact HF.out
end Go.Proofs.YtolfbnjmkgikdaaDoor
