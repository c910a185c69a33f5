/- (choice.Set).Without. -/
import Derived.Test.YtolfbnjmkgikdaaDoorChoRefWout
import Derived.Test.YtolfbnjmkgikdaaDoorChoKeys
import Derived.Deep.OwnRows
namespace Go.Proofs.YtolfbnjmkgikdaaDoor
open Go.RowKit Go.Sort
/-- a set that comes back -/
def SetPost (l : List ChoP.Cho) (w : World) (e : Ending) (w' : World) : Prop :=
  ∃ (A : Option Addr) (ps : List Pair) (c : Nat), e = .returned (.agg #[.slice A ps.length c]) ∧ cho ps = l ∧ Chos w' w'.heap.size A ps ∧ ps.length ≤ c ∧ c ≤ 9223372036854775807 ∧ RowKit.Below w.heap.size w w'
def goneB (l : List ChoP.Key) (ps : List Pair) (i : Nat) : Bool := ((ps[i]?).map fun p => ChoP.hasKey l p.1.key).getD false
def goneF (l : List ChoP.Key) (ps : List Pair) (i : Nat) : Value := .bool (goneB l ps i)
theorem goneB_at {l : List ChoP.Key} {ps : List Pair} {i : Nat} {p : Pair} (h : ps[i]? = some p) : goneB l ps i = ChoP.hasKey l p.1.key := by
  unfold goneB
  rw [h]
  rfl
theorem gone_no {ks : List ChoP.Key} {ps : List Pair} {j : Nat} {q : ChoP.Key} (hq : ks[j]? = some q) (hk : ∀ p ∈ ps, p.1.key = p.2.key) (h : ChoP.hasK (cho ps) q = false) (i : Nat) : goneF (ks.take j) ps i = goneF (ks.take (j + 1)) ps i := by
  unfold goneF
  congr 1
  cases hp : ps[i]? with
  | none => unfold goneB; rw [hp]; rfl
  | some p =>
    rw [goneB_at hp, goneB_at hp, ChoP.hasKey_take ks j q _ hq]
    have hm := List.mem_of_getElem? hp
    rw [ChoP.hasK, List.any_eq_false] at h
    have h1 := h p.2 (List.mem_map.2 ⟨p, hm, rfl⟩)
    have h2 : ChoP.eqB q p.1.key = false := by
      rw [ChoP.eqB_false]
      intro e
      exact h1 ((ChoP.eqB_iff _ _).2 (by rw [e, hk p hm]))
    rw [h2, Bool.or_false]
theorem gone_yes {ks : List ChoP.Key} {ps : List Pair} {j : Nat} {q : ChoP.Key} (hq : ks[j]? = some q) (hk : ∀ p ∈ ps, p.1.key = p.2.key) (ho : ChoP.Ord (cho ps)) (h : ChoP.hasK (cho ps) q = true) (i : Nat) : (if i = ChoP.posK (cho ps) q then .bool true else goneF (ks.take j) ps i) = goneF (ks.take (j + 1)) ps i := by
  unfold goneF
  cases hp : ps[i]? with
  | none =>
    obtain ⟨x, hx, _⟩ := ChoP.posK_has ho h
    have hne : i ≠ ChoP.posK (cho ps) q := by
      rintro rfl
      simp only [cho, List.getElem?_map] at hx
      simp only [cho] at hp
      rw [hp] at hx
      cases hx
    rw [if_neg hne]
    unfold goneB
    rw [hp]
    rfl
  | some p =>
    have hm := List.mem_of_getElem? hp
    rw [goneB_at hp, goneB_at hp, ChoP.hasKey_take ks j q _ hq]
    have hx : (cho ps)[i]? = some p.2 := by simp [cho, hp]
    by_cases e : p.2.key = q
    · have : i = ChoP.posK (cho ps) q := by rw [← e, ChoP.posK_at ho hx]
      rw [if_pos this, hk p hm, e, (ChoP.eqB_iff q q).2 rfl, Bool.or_true]
    · have hne : i ≠ ChoP.posK (cho ps) q := by
        intro e2
        obtain ⟨x, hx2, he⟩ := ChoP.posK_has ho h
        rw [← e2, hx] at hx2
        cases hx2
        exact e he
      have h2 : ChoP.eqB q p.1.key = false := by
        rw [ChoP.eqB_false, hk p hm]
        exact fun e' => e e'.symm
      rw [if_neg hne, h2, Bool.or_false]
theorem RowIs.setNe {w : World} {B : Nat} {r : Row} {x : ChoP.Cho} (h : RowIs w B r x) (p : Addr) (u : Value) (hne : ∀ b o, r.p = some ⟨b, o, none⟩ → x.args ≠ [] → b ≠ p.block) : RowIs (w.setCell p u) B r x := by
  refine ⟨h.key, h.t, h.d, h.n, h.c, h.m, ?_⟩
  by_cases e : x.args = []
  · rw [e]
    exact Lie.nil _ _ _
  · exact h.lie.set p u (fun b o e' => hne b o e' e)
theorem info_bool : (Tryd.prog.info? 4).map (fun i => (i.zero, i.size, i.bytes)) = some (some (.bool false), 1, 1) := by kernel_rfl
set_option maxRecDepth 100000 in
set_option maxHeartbeats 4000000 in
theorem without_any (A KA : Option Addr) (ps : List Pair) (ks : List ChoP.Key) (c kc : Nat) (w : World) (h : Chos w w.heap.size A ps) (hk : Lie w w.heap.size KA (cellsK ks)) (ho : ChoP.Ord (cho ps)) (hl : ps.length ≤ 60000) (hkl : ks.length ≤ 60000) : Calls Tryd.prog 20 #[.agg #[.slice A ps.length c], .slice KA ks.length kc] w (SetPost (ChoP.withoutL (cho ps) ks) w) := by
  obtain ⟨i0, hi0, hz0, hz1, hz2⟩ := info_parts info_cho
  have hmk := fun W => run_make_row' (P := Tryd.prog) 78 4 (.bool false) 1 Tryd.underlying78 info_bool rfl .i64 .i64 ps.length (by omega) (by omega) W
  have hkeq : ∀ p ∈ ps, p.1.key = p.2.key := fun p hp => (h.row p hp).key
  have HKEQ := Lib.hid hkeq
  have H := Lib.hid h
  have HK := Lib.hid hk
  have HORD := Lib.hid ho
  clear h hk ho hkeq
  go_enter Tryd.func20, Tryd.ntmps20
  go_wp2_with fail
  clear hmk
  have hb0 : RowKit.Below w.heap.size w ((w.alloc (.cells #[.slice A ps.length c] 29)).alloc (.cells #[.slice none 0 0] 29)) := ((RowKit.Below.refl _ _).alloc (Nat.le_refl _) _).alloc (by simp) _
  have hbx : ((w.alloc (.cells #[.slice A ps.length c] 29)).alloc (.cells #[.slice none 0 0] 29)).cell? ⟨w.heap.size, 0, none⟩ = some (.slice A ps.length c) := (World.cell?_alloc_lt _ _ _ (by simp)).trans (cell_at (heap_alloc_new w _) 0 _ rfl)
  have hrx := heap_alloc_new (w.alloc (.cells #[.slice A ps.length c] 29)) (.cells #[.slice none 0 0] 29)
  rw [World.size_alloc] at hrx
  have hzz : w.heap.size + 1 < ((w.alloc (.cells #[.slice A ps.length c] 29)).alloc (.cells #[.slice none 0 0] 29)).heap.size := by simp
  have hsz : ((w.alloc (.cells #[.slice A ps.length c] 29)).alloc (.cells #[.slice none 0 0] 29)).heap.size = w.heap.size + 1 + 1 := by simp
  have hrow := World.rowIs_made ((w.alloc (.cells #[.slice A ps.length c] 29)).alloc (.cells #[.slice none 0 0] 29)) (.bool false) ps.length 4
  rw [hsz] at hrow
  have hbm : RowKit.Below (w.heap.size + 1 + 1) ((w.alloc (.cells #[.slice A ps.length c] 29)).alloc (.cells #[.slice none 0 0] 29)) (((w.alloc (.cells #[.slice A ps.length c] 29)).alloc (.cells #[.slice none 0 0] 29)).alloc (.cells (madeCells #[.bool false] ps.length) 4)) := (RowKit.Below.refl _ _).alloc (by simp) _
  generalize ((w.alloc (.cells #[.slice A ps.length c] 29)).alloc (.cells #[.slice none 0 0] 29)) = w0 at *
  have HBM := Lib.hid hbm
  have HROW := Lib.hid hrow
  have HB0 := Lib.hid hb0
  have HBX := Lib.hid hbx
  have HRX := Lib.hid hrx
  have HSZ := Lib.hid hsz
  clear hb0 hbx hrx hsz hrow hbm
  obtain ⟨G, hG⟩ : ∃ G, G = w.heap.size + 1 + 1 := ⟨_, rfl⟩
  rw [← hG] at HROW HBM HSZ
  rw [← hG]
  have hG1 : w.heap.size + 1 < G := by omega
  clear hG
  go_loopw [19] (fun i wr => ∃ j : Nat, j ≤ ks.length ∧ i = .int .i64 j ∧ wr.rowIs G 4 ps.length (goneF (ks.take j) ps) ∧ RowKit.Below G w0 wr) (fun i _ => ks.length - (intOf i).toNat)
  case atStart => exact ⟨0, Nat.zero_le _, rfl, HROW.out.congr (fun i _ => by unfold goneF goneB; cases ps[i]? <;> rfl), HBM.out⟩
  case round =>
    obtain ⟨j, hj, rfl, hrow, hb⟩ := hrel
    have HR := Lib.hid hrow
    have HB := Lib.hid hb
    have hGr : G < wr.heap.size := hrow.lt
    have r0 : wr.cell? ⟨w.heap.size, 0, none⟩ = some (.slice A ps.length c) := (hb.cell (p := ⟨w.heap.size, 0, none⟩) (by show w.heap.size < G; omega)).trans HBX.out
    clear hrow hb
    have hbw : RowKit.Below w.heap.size w wr := HB0.out.trans (HB.out.mono (by omega))
    have HBW := Lib.hid hbw
    have hbwz := hbw.size
    have hlt0 : w.heap.size < wr.heap.size := by omega
    have hne0 : w.heap.size ≠ wr.heap.size := by omega
    clear hbw
    by_cases hjt : j < ks.length
    · obtain ⟨q, hqk⟩ : ∃ q, ks[j]? = some q := ⟨_, List.getElem?_eq_getElem (by omega)⟩
      obtain ⟨b2, o2, rfl, hb2, hc⟩ := keys_at HK.out j q hqk
      have hcell : ∀ m u, (keyVs q)[m]? = some u → wr.cell? ⟨b2, o2 + j * 4 + m, none⟩ = some u := fun m u hu => (HBW.out.cell (p := ⟨b2, o2 + j * 4 + m, none⟩) hb2).trans (hc m u hu)
      have k0 : wr.cell? ⟨b2, o2 + j * 4, none⟩ = some (.int .u8 q.kind) := hcell 0 _ rfl
      have k1 := hcell 1 _ rfl
      have k2 := hcell 2 _ rfl
      have k3 := hcell 3 _ rfl
      have hfind := fun o1 : Obj => find_any A ps c q (wr.alloc o1) (by rw [World.size_alloc]; exact H.out.below (HBW.out.alloc hbwz _) (by omega)) HORD.out (by omega)
      have e2 : keyV q = .agg #[.int .u8 q.kind, .int .i64 q.a, .int .i64 q.b, .int .i64 q.n] := rfl
      rw [e2] at hfind
      have HFIND := Lib.hid hfind
      have HQK := Lib.hid hqk
      have hi1 : (0 : Int) ≤ (j : Int) := by omega
      have hi2 : (j : Int) < (ks.length : Int) := by omega
      clear hfind e2 hcell hc hqk
      go_wp2_with fail
      refine (HFIND.out _).mono ?_
      rintro e w1 ⟨rfl, hb1⟩
      rw [World.size_alloc] at hb1
      have hbr : RowKit.Below wr.heap.size wr w1 := ((RowKit.Below.refl wr.heap.size wr).alloc (Nat.le_refl _) _).trans (hb1.mono (by omega))
      have hr1 := HR.out.of_block (hbr.block G hGr)
      have HB1 := Lib.hid (HB.out.trans (hbr.mono (by omega)))
      clear hbr hb1 k0 k1 k2 k3 HFIND
      obtain ⟨ok, hok⟩ : ∃ ok, ChoP.hasK (cho ps) q = ok := ⟨_, rfl⟩
      rw [hok]
      cases ok
      · have hr2 := hr1.congr (fun i _ => gone_no HQK.out HKEQ.out hok i)
        have HR2 := Lib.hid hr2
        clear hr1 hr2 hok
        generalize ChoP.posK (cho ps) q = pos
        go_wp2_with fail
        go_roundw
        case rel => exact ⟨j + 1, by omega, by go_num, HR2.out, HB1.out⟩
        case measure => simp [intOf]; omega
      · have hr2 := (hr1.set (ChoP.posK (cho ps) q) (.bool true)).congr (fun i _ => gone_yes HQK.out HKEQ.out HORD.out hok i)
        have hpl : ChoP.posK (cho ps) q < ps.length := by
          obtain ⟨x, hx, _⟩ := ChoP.posK_has HORD.out hok
          have := (List.getElem?_eq_some_iff.1 hx).1
          simpa [cho] using this
        generalize ChoP.posK (cho ps) q = pos at *
        have g0 := hr1.cell hpl
        have g1 := hr1.frozen pos
        have hi3 : (0 : Int) ≤ (pos : Int) := by omega
        have hi4 : (pos : Int) < (ps.length : Int) := by omega
        have HR2 := Lib.hid hr2
        have HB2 := Lib.hid (HB1.out.setCell (p := ⟨G, pos, none⟩) (Nat.le_refl G) (.bool true))
        clear hr1 hr2 hok
        go_wp2_with fail
        go_roundw
        case rel => exact ⟨j + 1, by omega, by go_num, HR2.out, HB2.out⟩
        case measure => simp [intOf]; omega
    · obtain rfl : j = ks.length := by omega
      have hr := HR.out
      rw [List.take_of_length_le (Nat.le_refl _)] at hr
      have HR2 := Lib.hid hr
      clear hr HR hjt
      go_wp2_with fail
      obtain ⟨w2, rfl⟩ : ∃ w2 : World, w2 = wr := ⟨_, rfl⟩
      go_loopw [10, 37] (fun v i wr => ∃ k : Nat, k ≤ ps.length ∧ i = .int .i64 k ∧ wr.ownsRow w2.heap.size 42 7 v ((ps.take k).filter (keepP ks)).length (cellsP ((ps.take k).filter (keepP ks))) ∧ RowKit.Below w2.heap.size w2 wr) (fun _ i _ => ps.length - (intOf i).toNat)
      case atStart => exact ⟨0, Nat.zero_le _, rfl, ⟨rfl, .inl ⟨rfl, rfl⟩⟩, Below.refl _ _⟩
      case round =>
        obtain ⟨k, hk, rfl, hown, hb⟩ := hrel
        have HO := Lib.hid hown
        have HB3 := Lib.hid hb
        have hwz := hb.size
        have hbw3 : RowKit.Below w.heap.size w wr := HBW.out.trans (hb.mono hbwz)
        have HBW3 := Lib.hid hbw3
        clear hown hb hbw3
        by_cases hlt : k < ps.length
        · obtain ⟨p, hpk⟩ : ∃ p, ps[k]? = some p := ⟨_, List.getElem?_eq_getElem (by omega)⟩
          obtain ⟨b, o, rfl, hb0, hcl⟩ := H.out.at_ k p hpk
          have hcell : ∀ j u, p.1.vs[j]? = some u → wr.cell? ⟨b, o + k * 7 + j, none⟩ = some u := fun j u hu => (HBW3.out.cell (p := ⟨b, o + k * 7 + j, none⟩) hb0).trans (hcl j u hu)
          have c0 : wr.cell? ⟨b, o + k * 7, none⟩ = some (.int .u8 p.1.key.kind) := hcell 0 _ rfl
          have c1 := hcell 1 _ rfl
          have c2 := hcell 2 _ rfl
          have c3 := hcell 3 _ rfl
          have c4 := hcell 4 _ rfl
          have c5 := hcell 5 _ rfl
          have c6 := hcell 6 _ rfl
          have hst := keep_take (ks := ks) hpk
          have hkp : keepP ks p = !ChoP.hasKey ks p.1.key := rfl
          rw [hkp] at hst
          have hgk := HR2.out.cell hlt
          rw [goneF, goneB_at hpk] at hgk
          have g0 : wr.cell? ⟨G, k, none⟩ = some (.bool (ChoP.hasKey ks p.1.key)) := (HB3.out.cell (p := ⟨G, k, none⟩) hGr).trans hgk
          obtain ⟨g, hg⟩ : ∃ g : Bool, ChoP.hasKey ks p.1.key = g := ⟨_, rfl⟩
          rw [hg] at hst g0
          have hfl := List.length_filter_le (keepP ks) (ps.take k)
          have htl := List.length_take_le k ps
          generalize (ps.take k).filter (keepP ks) = fs at *
          have hi5 : (0 : Int) ≤ (k : Int) := by omega
          have hi6 : (k : Int) < (ps.length : Int) := by omega
          have hltG : G < wr.heap.size := by omega
          have hneG : G ≠ wr.heap.size := by omega
          clear hcell hcl hpk hg hkp hgk
          cases g
          · simp only [Bool.not_false, if_true] at hst
            have HST := Lib.hid hst
            clear hst
            go_wp2_with (at_builtin; refine wpList_append_own _ rfl _ _ 22 rfl w2.heap.size 42 i0 _ 7 72 Tryd.underlying22 hi0 hz0 hz1 hz2 rfl (by decide) _ fs.length (cellsP fs) rfl ?c0 ⟨wr.heap.size + 1, 0, none⟩ 1 1 p.1.vs rfl rfl ?c1 ?c2 ?c3 ?c4 ?c5 ?_)
            case c0 => exact (HO.out.alloc _).alloc _
            case c1 =>
              have := cells_new (wr.alloc (.cells #[.int .u8 p.1.key.kind, .int .i64 p.1.key.a, .int .i64 p.1.key.b, .int .i64 p.1.key.n, .int .i64 p.1.t, .int .i64 p.1.d, .slice p.1.p p.1.n p.1.c] 42)) p.1.vs 42
              rw [World.size_alloc] at this
              exact this
            case c2 => simp [Value.oneCell', Row.vs]
            case c3 => unfold maxLen; omega
            case c4 => omega
            case c5 => simp; omega
            intro v2 w3 hown2 hgrow2 _
            have HO3 : Hid (w3.ownsRow w2.heap.size 42 7 v2 ((ps.take (k + 1)).filter (keepP ks)).length (cellsP ((ps.take (k + 1)).filter (keepP ks)))) := Lib.hid (by rw [HST.out, List.length_append, cellsP_append]; simpa [cellsP, encP] using hown2)
            have HB4 : Hid (RowKit.Below w2.heap.size w2 w3) := Lib.hid (((HB3.out.alloc hwz _).alloc (by simp; omega) _).grown hgrow2 (by simp; omega) (own_ge HO.out))
            clear hown2 hgrow2 c0 c1 c2 c3 c4 c5 c6 g0
            go_wp2_with fail
            go_roundw
            case rel => exact ⟨k + 1, by omega, by go_num, HO3.out, HB4.out⟩
            case measure => simp [intOf]; omega
          · simp only [Bool.not_true, Bool.false_eq_true, if_false, List.append_nil] at hst
            have HST := Lib.hid hst
            have HO2 := Lib.hid (fun o : Obj => HO.out.alloc o)
            have HB4 := Lib.hid (fun o : Obj => HB3.out.alloc hwz o)
            clear hst
            go_wp2_with fail
            go_roundw
            case rel => exact ⟨k + 1, by omega, by go_num, by rw [HST.out]; exact HO2.out _, HB4.out _⟩
            case measure => simp [intOf]; omega
        · obtain ⟨A2, c2, rfl, hcc, hcm, hsl⟩ := own_form HO.out
          have hna : NewA w2 A2 := NewA.own HO.out (Nat.le_refl _)
          have hch : Chos wr wr.heap.size A2 (ps.filter (keepP ks)) := by
            rw [List.take_of_length_le (by omega)] at hsl
            exact ⟨hsl.2, fun q hq => (H.out.row q (List.mem_filter.1 hq |>.1)).below HBW3.out HBW3.out.size⟩
          have hpp : ∀ q ∈ ps.filter (keepP ks), ∀ b o, q.1.p = some ⟨b, o, none⟩ → q.2.args ≠ [] → b < w.heap.size := fun q hq b o e hne => by
            obtain ⟨b', o', e', hlt', _⟩ := (H.out.row q (List.mem_filter.1 hq |>.1)).lie (by simpa [intV] using hne)
            rw [e'] at e
            injection e with e
            injection e with e1 _
            omega
          rw [List.take_of_length_le (show ps.length ≤ k by omega)] at hcc ⊢
          have hcho := keep_cho (ks := ks) H.out
          have x1 := frozen_at ((HB3.out.block (w.heap.size + 1) (by omega)).trans ((HB.out.block (w.heap.size + 1) (by omega)).trans HRX.out)) 0
          have x0 := cell_at ((HB3.out.block (w.heap.size + 1) (by omega)).trans ((HB.out.block (w.heap.size + 1) (by omega)).trans HRX.out)) 0 _ rfl
          have HCH := Lib.hid hch
          have HNA := Lib.hid hna
          have HPP := Lib.hid hpp
          have HCHO := Lib.hid hcho
          clear hch hna hpp hcho hsl HO
          generalize ps.filter (keepP ks) = fs at *
          go_wp2_with fail
          refine bodyPost_ret (v := .agg #[.slice A2 fs.length c2]) (by simp [results, Tryd.results20, go_sem, x0]) rfl ⟨A2, fs, c2, rfl, HCHO.out, ?_, hcc, hcm, ?_⟩
          · rw [World.size_setCell]
            refine ⟨HCH.out.lie.set _ _ (fun b o e => ?_), fun q hq => (HCH.out.row q hq).setNe _ _ (fun b o e hne => ?_)⟩
            · have := HNA.out b o e
              show b ≠ w.heap.size + 1
              omega
            · have := HPP.out q hq b o e hne
              show b ≠ w.heap.size + 1
              omega
          · exact HBW3.out.setCell (by show w.heap.size ≤ w.heap.size + 1; omega) _
end Go.Proofs.YtolfbnjmkgikdaaDoor
