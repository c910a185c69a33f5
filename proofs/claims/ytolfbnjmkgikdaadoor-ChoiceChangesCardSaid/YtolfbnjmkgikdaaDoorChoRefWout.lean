/- The reference's Without. -/
import Derived.Test.YtolfbnjmkgikdaaDoorChoCut
import Derived.Test.YtolfbnjmkgikdaaDoorChoKeyEq
namespace ChoP
def withoutL (l : List Cho) (ks : List Key) : List Cho := l.filter fun x => !hasKey ks x.key
theorem hasKey_take (ks : List Key) (j : Nat) (q k : Key) (h : ks[j]? = some q) : hasKey (ks.take (j + 1)) k = (hasKey (ks.take j) k || eqB q k) := by
  unfold hasKey
  rw [List.take_add_one, h, List.any_append]
  simp
end ChoP
namespace Go.Proofs.YtolfbnjmkgikdaaDoor
open Go.RowKit Go.Sort
def keepP (ks : List ChoP.Key) (p : Pair) : Bool := !ChoP.hasKey ks p.1.key
theorem keep_take {ks : List ChoP.Key} {ps : List Pair} {k : Nat} {p : Pair} (h : ps[k]? = some p) : (ps.take (k + 1)).filter (keepP ks) = (ps.take k).filter (keepP ks) ++ (if keepP ks p = true then [p] else []) := by
  rw [List.take_add_one, h, List.filter_append]
  by_cases e : keepP ks p = true <;> simp [e]
theorem keep_cho {w : World} {B : Nat} {A : Option Addr} {ks : List ChoP.Key} {ps : List Pair} (h : Chos w B A ps) : cho (ps.filter (keepP ks)) = ChoP.withoutL (cho ps) ks := by
  have hk : ∀ p ∈ ps, keepP ks p = !ChoP.hasKey ks p.2.key := fun p hp => by rw [keepP, (h.row p hp).key]
  clear h
  induction ps with
  | nil => rfl
  | cons p r ih =>
    have h1 := hk p (by simp)
    have ih := ih (fun q hq => hk q (List.mem_cons_of_mem _ hq))
    simp only [cho, ChoP.withoutL, List.map_cons, List.filter_cons, h1] at ih ⊢
    split <;> simp [ih]
set_option maxRecDepth 100000 in
set_option maxHeartbeats 4000000 in
theorem refWithout_any (A KA : Option Addr) (ps : List Pair) (ks : List ChoP.Key) (c kc : Nat) (w : World) (h : Chos w w.heap.size A ps) (hk : Lie w w.heap.size KA (cellsK ks)) (hl : ps.length ≤ 60000) (hkl : ks.length ≤ 60000) : Calls Tryd.prog 21 #[.slice A ps.length c, .slice KA ks.length kc] w (ChosPost (ChoP.withoutL (cho ps) ks) w) := by
  obtain ⟨i0, hi0, hz0, hz1, hz2⟩ := info_parts info_cho
  have H := Lib.hid h
  have HK := Lib.hid hk
  clear h hk
  go_enter Tryd.func21, Tryd.ntmps21
  go_wp2_with fail
  go_loopw [5, 13] (fun v i wr => ∃ k : Nat, k ≤ ps.length ∧ i = .int .i64 k ∧ wr.ownsRow w.heap.size 42 7 v ((ps.take k).filter (keepP ks)).length (cellsP ((ps.take k).filter (keepP ks))) ∧ RowKit.Below w.heap.size w wr) (fun _ i _ => ps.length - (intOf i).toNat)
  case atStart => exact ⟨0, Nat.zero_le _, rfl, ⟨rfl, .inl ⟨rfl, rfl⟩⟩, Below.refl _ _⟩
  case round =>
    obtain ⟨k, hk, rfl, hown, hb⟩ := hrel
    have HO := Lib.hid hown
    have HB := Lib.hid hb
    have hwz := hb.size
    clear hown hb
    by_cases hlt : k < ps.length
    · obtain ⟨p, hpk⟩ : ∃ p, ps[k]? = some p := ⟨_, List.getElem?_eq_getElem (by omega)⟩
      obtain ⟨b, o, rfl, hb0, hcl⟩ := H.out.at_ k p hpk
      have hcell : ∀ j u, p.1.vs[j]? = some u → wr.cell? ⟨b, o + k * 7 + j, none⟩ = some u := fun j u hu => (HB.out.cell (p := ⟨b, o + k * 7 + j, none⟩) hb0).trans (hcl j u hu)
      have c0 : wr.cell? ⟨b, o + k * 7, none⟩ = some (.int .u8 p.1.key.kind) := hcell 0 _ rfl
      have c1 := hcell 1 _ rfl
      have c2 := hcell 2 _ rfl
      have c3 := hcell 3 _ rfl
      have c4 := hcell 4 _ rfl
      have c5 := hcell 5 _ rfl
      have c6 := hcell 6 _ rfl
      have hst := keep_take (ks := ks) hpk
      have hfl := List.length_filter_le (keepP ks) (ps.take k)
      have htl := List.length_take_le k ps
      have HST := Lib.hid hst
      generalize (ps.take k).filter (keepP ks) = fs at *
      clear hst hcell hcl hpk
      go_wp2_with fail
      have hblk := heap_alloc_new wr (.cells #[.int .u8 p.1.key.kind, .int .i64 p.1.key.a, .int .i64 p.1.key.b, .int .i64 p.1.key.n, .int .i64 p.1.t, .int .i64 p.1.d, .slice p.1.p p.1.n p.1.c] 42)
      have hbo : RowKit.Below wr.heap.size wr (wr.alloc (.cells #[.int .u8 p.1.key.kind, .int .i64 p.1.key.a, .int .i64 p.1.key.b, .int .i64 p.1.key.n, .int .i64 p.1.t, .int .i64 p.1.d, .slice p.1.p p.1.n p.1.c] 42)) := (RowKit.Below.refl _ _).alloc (Nat.le_refl _) _
      have HBLK := Lib.hid hblk
      have HBO := Lib.hid hbo
      clear hblk hbo c0 c1 c2 c3 c4 c5 c6
      obtain ⟨wo, rfl⟩ : ∃ wo : World, wo = wr := ⟨_, rfl⟩
      go_loopw [8, 19] (fun g i wr => ∃ j : Nat, j ≤ ks.length ∧ i = .int .i64 j ∧ g = .bool (ChoP.hasKey (ks.take j) p.1.key) ∧ wr.heap[wo.heap.size]? = some (.cells #[.int .u8 p.1.key.kind, .int .i64 p.1.key.a, .int .i64 p.1.key.b, .int .i64 p.1.key.n, .int .i64 p.1.t, .int .i64 p.1.d, .slice p.1.p p.1.n p.1.c] 42 (0, 0)) ∧ RowKit.Below wo.heap.size wo wr) (fun _ i _ => ks.length - (intOf i).toNat)
      case atStart => exact ⟨0, Nat.zero_le _, rfl, rfl, HBLK.out, HBO.out⟩
      case round =>
        clear HBLK HBO
        obtain ⟨j, hj, rfl, rfl, hblk, hb⟩ := hrel
        have HBLK := Lib.hid hblk
        have HBO := Lib.hid hb
        have hzo := hb.size
        have hzb : wo.heap.size < wr.heap.size := (Array.getElem?_eq_some_iff.1 hblk).1
        obtain ⟨⟨a0, a1, a2, a3, a4, a5, a6⟩, _⟩ := blk7 hblk
        clear hblk hb
        by_cases hjt : j < ks.length
        · obtain ⟨q, hqk⟩ : ∃ q, ks[j]? = some q := ⟨_, List.getElem?_eq_getElem (by omega)⟩
          obtain ⟨b2, o2, rfl, hb2, hc⟩ := keys_at HK.out j q hqk
          have hcell : ∀ m u, (keyVs q)[m]? = some u → wr.cell? ⟨b2, o2 + j * 4 + m, none⟩ = some u := fun m u hu => ((HB.out.trans (HBO.out.mono hwz)).cell (p := ⟨b2, o2 + j * 4 + m, none⟩) hb2).trans (hc m u hu)
          have k0 : wr.cell? ⟨b2, o2 + j * 4, none⟩ = some (.int .u8 q.kind) := hcell 0 _ rfl
          have k1 := hcell 1 _ rfl
          have k2 := hcell 2 _ rfl
          have k3 := hcell 3 _ rfl
          obtain ⟨bq, hbq⟩ : ∃ bq : Bool, ChoP.eqB q p.1.key = bq := ⟨_, rfl⟩
          obtain ⟨g, hg⟩ : ∃ g : Bool, ChoP.hasKey (ks.take j) p.1.key = g := ⟨_, rfl⟩
          have hke2 : ∀ W : World, (Op.equalIn 10000 25 (.agg #[.int .u8 q.kind, .int .i64 q.a, .int .i64 q.b, .int .i64 q.n]) (.agg #[.int .u8 p.1.key.kind, .int .i64 p.1.key.a, .int .i64 p.1.key.b, .int .i64 p.1.key.n])).run Tryd.prog W = .ok bq W := fun W => by rw [← hbq]; exact key_equalIn _ _ _ _ _ _ _ _ W
          have hkg := key_guard
          have hn := ChoP.hasKey_take ks j q p.1.key hqk
          rw [hg, hbq] at hn
          rw [hg]
          have HN := Lib.hid hn
          have hi1 : (0 : Int) ≤ (j : Int) := by omega
          have hi2 : (j : Int) < (ks.length : Int) := by omega
          have hne : wo.heap.size ≠ wr.heap.size := by omega
          clear hcell hc hqk hbq hg hn
          cases g
          all_goals
            go_wp2_with fail
            go_roundw
            case rel => exact ⟨j + 1, by omega, by go_num, by rw [HN.out]; rfl, by exact (heap_alloc_old _ _ (by omega)).trans HBLK.out, HBO.out.alloc (by omega) _⟩
            case measure => simp [intOf]; omega
        · obtain rfl : j = ks.length := by omega
          rw [List.take_of_length_le (Nat.le_refl _)]
          have hkp : keepP ks p = !ChoP.hasKey ks p.1.key := rfl
          have hst := HST.out
          rw [hkp] at hst
          obtain ⟨g, hg⟩ : ∃ g : Bool, ChoP.hasKey ks p.1.key = g := ⟨_, rfl⟩
          rw [hg] at hst ⊢
          have ho := own_below HO.out HBO.out
          have hbb := HB.out.trans (HBO.out.mono hwz)
          have HO2 := Lib.hid ho
          have HB2 := Lib.hid hbb
          clear hg hkp ho hbb HST
          cases g
          · simp only [Bool.not_false, if_true] at hst
            have HST := Lib.hid hst
            clear hst
            go_wp2_with (at_builtin; refine wpList_append_own _ rfl _ _ 22 rfl w.heap.size 42 i0 _ 7 72 Tryd.underlying22 hi0 hz0 hz1 hz2 rfl (by decide) _ fs.length (cellsP fs) rfl ?c0 ⟨wr.heap.size, 0, none⟩ 1 1 p.1.vs rfl rfl ?c1 ?c2 ?c3 ?c4 ?c5 ?_)
            case c0 => exact HO2.out.alloc _
            case c1 => exact cells_new wr p.1.vs 42
            case c2 => simp [Value.oneCell', Row.vs]
            case c3 => unfold maxLen; omega
            case c4 => omega
            case c5 => simp; omega
            intro v2 w2 hown2 hgrow2 _
            have HO3 : Hid (w2.ownsRow w.heap.size 42 7 v2 ((ps.take (k + 1)).filter (keepP ks)).length (cellsP ((ps.take (k + 1)).filter (keepP ks)))) := Lib.hid (by rw [HST.out, List.length_append, cellsP_append]; simpa [cellsP, encP] using hown2)
            have HB3 : Hid (RowKit.Below w.heap.size w w2) := Lib.hid ((HB2.out.alloc (by omega) _).grown hgrow2 (by simp; omega) (own_ge HO.out))
            clear hown2 hgrow2 a0 a1 a2 a3 a4 a5 a6
            go_wp2_with fail
            go_roundw
            case rel => exact ⟨k + 1, by omega, by go_num, HO3.out, HB3.out⟩
            case measure => simp [intOf]; omega
          · simp only [Bool.not_true, Bool.false_eq_true, if_false, List.append_nil] at hst
            have HST := Lib.hid hst
            clear hst a0 a1 a2 a3 a4 a5 a6
            go_wp2_with fail
            go_roundw
            case rel => exact ⟨k + 1, by omega, by go_num, by rw [HST.out]; exact HO2.out, HB2.out⟩
            case measure => simp [intOf]; omega
    · obtain ⟨A2, c2, rfl, hcc, hcm, hsl⟩ := own_form HO.out
      have hf : ChosPost (ChoP.withoutL (cho ps) ks) w (.returned (.slice A2 ((ps.take k).filter (keepP ks)).length c2)) wr := by
        refine ⟨A2, (ps.take k).filter (keepP ks), c2, rfl, ?_, ⟨hsl.2, fun q hq => ?_⟩, by omega, hcm, NewA.own HO.out (Nat.le_refl _), HB.out⟩
        · rw [List.take_of_length_le (by omega)]
          exact keep_cho H.out
        · exact (H.out.row q (List.mem_of_mem_take (List.mem_filter.1 hq |>.1))).below HB.out hwz
      have HF := Lib.hid hf
      clear hf hsl HO
      generalize (ps.take k).filter (keepP ks) = fs at *
      go_wp2_with fail
      go_ret
      exact HF.out
end Go.Proofs.YtolfbnjmkgikdaaDoor
