/- The set that choice.New makes lies in new blocks alone. Written by gen_newf.py out of ChoNew. -/
import Derived.Test.YtpniilgkceadeaaGreatDoorChoNew
namespace Go.Proofs.YtpniilgkceadeaaGreatDoor
open Go.RowKit
/-- the slice and its rows' arguments lie from block B on -/
def FreshP (B : Nat) (A : Option Addr) (ps : List Pair) : Prop := (∀ b o, A = some ⟨b, o, none⟩ → B ≤ b) ∧ ∀ q ∈ ps, ∀ b o, q.1.p = some ⟨b, o, none⟩ → B ≤ b
theorem fresh_nil (B : Nat) : FreshP B none [] := ⟨fun b o e => (by cases e), fun q hq => (by cases hq)⟩
def NewPostF (l : List ChoP.Cho) (w : World) (e : Ending) (w' : World) : Prop :=
  ∃ (A : Option Addr) (ps : List Pair) (c : Nat), e = .returned (.tuple #[.agg #[.slice A ps.length c], .int .i64 (ChoP.errNew l)]) ∧ cho ps = ChoP.setL l ∧ Chos w' w'.heap.size A ps ∧ ps.length ≤ c ∧ c ≤ 9223372036854775807 ∧ FreshP w.heap.size A ps ∧ Below w.heap.size w w'
set_option maxRecDepth 100000 in
set_option maxHeartbeats 4000000 in
theorem new_fresh (A : Option Addr) (ps : List Pair) (c : Nat) (w : World) (h : Chos w w.heap.size A ps) (hn : ps.length ≤ 65536) : Calls Tryz.prog 9 #[.slice A ps.length c] w (NewPostF (cho ps) w) := by
  obtain ⟨i0, hi0, hz0, hz1, hz2⟩ := info_parts info_cho
  have H := Lib.hid h
  clear h
  go_enter Tryz.func9, Tryz.ntmps9
  go_wp2_with fail
  go_loopw [13] (fun i wr => ∃ k : Nat, k ≤ ps.length ∧ i = .int .i64 k ∧ (∀ p ∈ ps.take k, errR p.1 = 0) ∧ Below (w.heap.size + 1) (w.alloc (.cells #[.slice none 0 0] 27)) wr) (fun i _ => ps.length - (intOf i).toNat)
  case atStart => exact ⟨0, Nat.zero_le _, rfl, by simp, Below.refl _ _⟩
  case round =>
    obtain ⟨k, hk, rfl, hok, hb⟩ := hrel
    have HOK := Lib.hid hok
    have HB := Lib.hid hb
    have hwz := hb.size
    simp only [World.size_alloc] at hwz
    clear hok hb
    by_cases hlt : k < ps.length
    · obtain ⟨p, hpk⟩ : ∃ p, ps[k]? = some p := ⟨_, List.getElem?_eq_getElem hlt⟩
      have hrow := H.out.row p (List.mem_of_getElem? hpk)
      have hpm := hrow.m
      have hpc := hrow.c
      obtain ⟨b, o, rfl, hb0, hc⟩ := H.out.at_ k p hpk
      have hcell : ∀ j u, p.1.vs[j]? = some u → wr.cell? ⟨b, o + k * 7 + j, none⟩ = some u := fun j u hu => ((HB.out.cell (p := ⟨b, o + k * 7 + j, none⟩) (by simp; omega)).trans (World.cell?_alloc_lt _ _ _ hb0)).trans (hc j u hu)
      have c0 : wr.cell? ⟨b, o + k * 7, none⟩ = some (.int .u8 p.1.key.kind) := hcell 0 _ rfl
      have c1 := hcell 1 _ rfl
      have c2 := hcell 2 _ rfl
      have c3 := hcell 3 _ rfl
      have c4 := hcell 4 _ rfl
      have c5 := hcell 5 _ rfl
      have c6 := hcell 6 _ rfl
      have HPK := Lib.hid hpk
      have HR := Lib.hid hrow
      have hck := fun W => check_any p.1 W (by omega)
      have e1 : choV p.1 = .agg #[.int .u8 p.1.key.kind, .int .i64 p.1.key.a, .int .i64 p.1.key.b, .int .i64 p.1.key.n, .int .i64 p.1.t, .int .i64 p.1.d, .slice p.1.p p.1.n p.1.c] := rfl
      rw [e1] at hck
      have HCK := Lib.hid hck
      clear hck e1 hrow hcell hc hpk
      go_wp2_with fail
      refine (HCK.out _).mono ?_
      rintro e w1 ⟨rfl, hb1⟩
      have hb2 : Below (w.heap.size + 1) (w.alloc (.cells #[.slice none 0 0] 27)) w1 := by
        rw [World.size_alloc] at hb1
        exact (HB.out.alloc hwz _).trans (hb1.mono (by omega))
      have HB2 := Lib.hid hb2
      have r0 : w1.cell? ⟨w.heap.size, 0, none⟩ = some (.slice none 0 0) := (hb2.cell (p := ⟨w.heap.size, 0, none⟩) (by simp)).trans (cell_at (heap_alloc_new w _) 0 _ rfl)
      have r1 : w1.frozen? ⟨w.heap.size, 0, none⟩ = false := (hb2.frozen (p := ⟨w.heap.size, 0, none⟩) (by simp)).trans (frozen_at (heap_alloc_new w _) 0)
      clear hb1 hb2 c0 c1 c2 c3 c4 c5 c6 HCK
      rcases errR_cases p.1 with hE | hE
      · rw [hE]
        have HE := Lib.hid hE
        clear hE
        go_wp2_with fail
        go_roundw
        case rel =>
          refine ⟨k + 1, by omega, by go_num, fun q hq => ?_, HB2.out⟩
          rw [List.take_add_one, HPK.out] at hq
          rcases List.mem_append.1 hq with hq | hq
          · exact HOK.out q hq
          · simp at hq; rw [hq]; exact HE.out
        case measure => simp [intOf]; omega
      · rw [hE]
        have HE := Lib.hid hE
        clear hE
        go_wp2_with fail
        have herr := errNew_bad (List.mem_of_getElem? HPK.out) (bad_of HR.out HE.out)
        refine bodyPost_ret (v := .tuple #[.agg #[.slice none 0 0], .int .i64 1]) (by simp [results, Tryz.results9, go_sem, r0]) rfl ⟨none, [], 0, by rw [herr]; rfl, by rw [setL_err herr (by decide)]; rfl, chos_nil _ _ _, Nat.le_refl _, by omega, fresh_nil _, ?_⟩
        exact (((Below.refl w.heap.size w).alloc (Nat.le_refl _) _).trans (HB2.out.mono (by omega))).setCell (by simp) _
    · have hall : ∀ p ∈ ps, errR p.1 = 0 := fun p hp => HOK.out p (by rw [List.take_of_length_le (by omega)]; exact hp)
      have HALL := Lib.hid hall
      clear hall HOK
      go_wp2_with (at_make; refine wpList_make_own _ rfl _ _ 22 rfl (w.heap.size + 1) 59 i0 _ 7 Tryz.underlying22 hi0 hz0 hz1 .i64 .i64 _ ps.length rfl rfl rfl (by rw [hz2]; omega) (by unfold maxLen; omega) hwz ?_; intro w0 hown0 hgrow0)
      have hb3 : Below (w.heap.size + 1) (w.alloc (.cells #[.slice none 0 0] 27)) w0 := HB.out.grown hgrow0 hwz (fun k e => by cases e)
      have HB3 := Lib.hid hb3
      generalize wr.heap.size = G at *
      have HL2 : Hid (L2 ps (w.heap.size + 1) G 0 w0 []) := Lib.hid ⟨rfl, rfl, hown0, by simp⟩
      clear hown0 hgrow0 hb3 HB
      go_loopw [7, 29] (fun v i wr => ∃ (k : Nat) (qs : List Pair), k ≤ ps.length ∧ i = .int .i64 k ∧ v = .slice (some ⟨G, 0, none⟩) k ps.length ∧ L2 ps (w.heap.size + 1) G k wr qs ∧ Below (w.heap.size + 1) (w.alloc (.cells #[.slice none 0 0] 27)) wr) (fun _ i _ => ps.length - (intOf i).toNat)
      case atStart => exact ⟨0, [], Nat.zero_le _, rfl, rfl, HL2.out, HB3.out⟩
      case round =>
        clear HL2 HB3
        obtain ⟨k, qs, hk, rfl, rfl, hl2, hb⟩ := hrel
        have HL2 := Lib.hid hl2
        have HB := Lib.hid hb
        have hwz := hb.size
        simp only [World.size_alloc] at hwz
        clear hl2 hb
        by_cases hlt : k < ps.length
        · obtain ⟨p, hpk⟩ : ∃ p, ps[k]? = some p := ⟨_, List.getElem?_eq_getElem hlt⟩
          have hrow := H.out.row p (List.mem_of_getElem? hpk)
          have hargs := okC_args (okC_of hrow (HALL.out p (List.mem_of_getElem? hpk)))
          obtain ⟨b, o, rfl, hb0, hc⟩ := H.out.at_ k p hpk
          have hcell : ∀ j u, p.1.vs[j]? = some u → wr.cell? ⟨b, o + k * 7 + j, none⟩ = some u := fun j u hu => ((HB.out.cell (p := ⟨b, o + k * 7 + j, none⟩) (by simp; omega)).trans (World.cell?_alloc_lt _ _ _ hb0)).trans (hc j u hu)
          have c0 : wr.cell? ⟨b, o + k * 7, none⟩ = some (.int .u8 p.1.key.kind) := hcell 0 _ rfl
          have c1 := hcell 1 _ rfl
          have c2 := hcell 2 _ rfl
          have c3 := hcell 3 _ rfl
          have c4 := hcell 4 _ rfl
          have c5 := hcell 5 _ rfl
          have c6 := hcell 6 _ rfl
          have hxk : (cho ps)[k]? = some p.2 := by simp [cho, hpk]
          have HXK := Lib.hid hxk
          have hbw : Below w.heap.size w wr := ((Below.refl w.heap.size w).alloc (Nat.le_refl _) _).trans (HB.out.mono (by omega))
          have hck := fun (o : Obj) => clone_any p.1 p.2 (wr.alloc o) (by rw [World.size_alloc]; exact hrow.below (hbw.alloc (by omega) _) (by omega)) (by omega)
          have e1 : choV p.1 = .agg #[.int .u8 p.1.key.kind, .int .i64 p.1.key.a, .int .i64 p.1.key.b, .int .i64 p.1.key.n, .int .i64 p.1.t, .int .i64 p.1.d, .slice p.1.p p.1.n p.1.c] := rfl
          rw [e1] at hck
          have HCK := Lib.hid hck
          clear hck e1 hrow hcell hc hpk hxk hbw
          go_wp2_with fail
          refine (HCK.out _).mono ?_
          rintro e w1 ⟨r, rfl, hr, hge, hb1⟩
          have hb2 : Below wr.heap.size wr w1 := by
            rw [World.size_alloc] at hb1
            exact ((Below.refl wr.heap.size wr).alloc (Nat.le_refl _) _).trans (hb1.mono (by omega))
          have e2 : choV r = .agg #[.int .u8 r.key.kind, .int .i64 r.key.a, .int .i64 r.key.b, .int .i64 r.key.n, .int .i64 r.t, .int .i64 r.d, .slice r.p r.n r.c] := rfl
          rw [e2]
          have HB1 := Lib.hid hb2
          have HR := Lib.hid hr
          have hG : G < wr.heap.size := own_lt HL2.out.own G rfl
          have hge' : ∀ b o, r.p = some ⟨b, o, none⟩ → G < b := fun b o e => by have := hge b o e; rw [World.size_alloc] at this; omega
          have HGE := Lib.hid hge'
          have hw1 := hb2.size
          clear hb1 hr hge hge' c0 c1 c2 c3 c4 c5 c6 HCK e2 hb2
          go_wp2_with (at_builtin; refine wpList_append_fits _ rfl _ _ 22 rfl (w.heap.size + 1) 59 i0 7 Tryz.underlying22 hi0 hz1 G k ps.length (cellsP qs) rfl ((own_below HL2.out.own HB1.out).alloc _) ⟨w1.heap.size, 0, none⟩ 1 1 r.vs rfl rfl ?c1 ?c2 ?c3 ?_)
          case c1 => exact cells_new w1 r.vs 59
          case c2 => simp [Row.vs, Value.oneCell']
          case c3 => omega
          intro w2 hown2 hgrow2
          have HL3 := Lib.hid (HL2.out.step HXK.out HB1.out HR.out HGE.out hgrow2 hown2)
          have HB4 : Hid (Below (w.heap.size + 1) (w.alloc (.cells #[.slice none 0 0] 27)) w2) := Lib.hid (((HB.out.trans (HB1.out.mono hwz)).alloc (by omega) _).grown hgrow2 (by simp; omega) (fun k e => by cases e; exact own_ge HL2.out.own _ rfl))
          clear hown2 hgrow2
          go_wp2_with fail
          go_roundw
          case rel => exact ⟨k + 1, _, by omega, by go_num, rfl, HL3.out, HB4.out⟩
          case measure => simp [intOf]; omega
        · obtain rfl : k = ps.length := by omega
          go_wp2_with fail
          have hlq : qs.length = ps.length := HL2.out.len
          have hG : G < wr.heap.size := own_lt HL2.out.own G rfl
          have hGw : w.heap.size + 1 ≤ G := own_ge HL2.out.own G rfl
          have hs := sort_any (w.heap.size + 1) G ps.length qs wr (by rw [hlq]; exact HL2.out.own) (by omega)
          rw [hlq] at hs
          refine Calls.mono hs ?_
          rintro e w1 ⟨rfl, ss, hp, hso, hlie, hbg, hne, hsz⟩
          have hls : ss.length = ps.length := hp.length_eq.trans hlq
          have hcs : Chos w1 w1.heap.size (some ⟨G, 0, none⟩) ss := ⟨hlie, fun q hq => by
            have h1 := HL2.out.row q (hp.mem_iff.1 hq)
            exact h1.1.keepNe (g := G) hsz hne (fun b o e => by have := h1.2 b o e; omega)⟩
          have hb1 : Below (w.heap.size + 1) (w.alloc (.cells #[.slice none 0 0] 27)) w1 := HB.out.trans (hbg.mono hGw)
          have r0 : w1.cell? ⟨w.heap.size, 0, none⟩ = some (.slice none 0 0) := (hb1.cell (p := ⟨w.heap.size, 0, none⟩) (by simp)).trans (cell_at (heap_alloc_new w _) 0 _ rfl)
          have r1 : w1.frozen? ⟨w.heap.size, 0, none⟩ = false := (hb1.frozen (p := ⟨w.heap.size, 0, none⟩) (by simp)).trans (frozen_at (heap_alloc_new w _) 0)
          have hbw : Below w.heap.size w w1 := ((Below.refl w.heap.size w).alloc (Nat.le_refl _) _).trans (hb1.mono (by omega))
          have hcho : (cho ss).Perm (cho ps) := by
            have h1 : (cho ss).Perm (cho qs) := hp.map _
            rw [HL2.out.cho, List.take_of_length_le (by simp [cho])] at h1
            exact h1
          have hokl : (cho ps).all ChoP.okC = true := by
            rw [List.all_eq_true]
            intro x hx
            obtain ⟨p, hp', rfl⟩ := List.mem_map.1 hx
            exact okC_of (H.out.row p hp') (HALL.out p hp')
          have hso2 : (cho ss).Pairwise (fun x y => ¬ ChoP.ltK y.key x.key) := by
            rw [cho, List.pairwise_map]
            refine hso.imp_of_mem (fun {a b} ha hb hab => ?_)
            rw [← (hcs.row a ha).key, ← (hcs.row b hb).key]
            exact hab
          have harg : ∀ q ∈ ss, ∀ b o, q.1.p = some ⟨b, o, none⟩ → G < b := fun q hq => (HL2.out.row q (hp.mem_iff.1 hq)).2
          have HARG := Lib.hid harg
          clear harg
          have HLS := Lib.hid hls
          have HCS := Lib.hid hcs
          have HBW := Lib.hid hbw
          have HCHO := Lib.hid hcho
          have HOKL := Lib.hid hokl
          have HSO := Lib.hid hso2
          clear hs hp hso hlie hbg hne hsz hls hcs hb1 hbw hcho hokl hso2 hlq HL2 HB H HALL
          go_wp2_with fail
          go_loopw [10] (fun i wr => ∃ (k nq : Nat), 1 ≤ k ∧ (k ≤ ps.length ∨ k = 1) ∧ i = .int .i64 k ∧ (∀ (i : Nat) (x y : Pair), ss[i]? = some x → ss[i + 1]? = some y → i + 1 < k → x.1.key ≠ y.1.key) ∧ wr = w1.drewN nq) (fun i _ => ps.length - (intOf i).toNat)
          case atStart => exact ⟨1, 0, Nat.le_refl _, .inr rfl, rfl, fun i x y _ _ h => absurd h (by omega), rfl⟩
          case round =>
            obtain ⟨k, nq0, hk1, hk2, rfl, hks, rfl⟩ := hrel
            have HKS := Lib.hid hks
            clear hks
            by_cases hlt : k < ps.length
            · obtain ⟨m, rfl⟩ : ∃ m, k = m + 1 := ⟨k - 1, by omega⟩
              obtain ⟨x, hx⟩ : ∃ x, ss[m]? = some x := ⟨_, List.getElem?_eq_getElem (by rw [HLS.out]; omega)⟩
              obtain ⟨y, hy⟩ : ∃ y, ss[m + 1]? = some y := ⟨_, List.getElem?_eq_getElem (by rw [HLS.out]; omega)⟩
              obtain ⟨b1, o1, eA1, _, hcx⟩ := HCS.out.at_ m x hx
              obtain ⟨b2, o2, eA2, _, hcy⟩ := HCS.out.at_ (m + 1) y hy
              obtain ⟨rfl, rfl⟩ : G = b1 ∧ 0 = o1 := by injection eA1 with e; injection e with e1 e2; exact ⟨e1, e2⟩
              obtain ⟨rfl, rfl⟩ : G = b2 ∧ 0 = o2 := by injection eA2 with e; injection e with e1 e2; exact ⟨e1, e2⟩
              have x0 : w1.cell? ⟨G, m * 7, none⟩ = some (.int .u8 x.1.key.kind) := by simpa using hcx 0 _ rfl
              have x1 : w1.cell? ⟨G, m * 7 + 1, none⟩ = some (.int .i64 x.1.key.a) := by simpa using hcx 1 _ rfl
              have x2 : w1.cell? ⟨G, m * 7 + 2, none⟩ = some (.int .i64 x.1.key.b) := by simpa using hcx 2 _ rfl
              have x3 : w1.cell? ⟨G, m * 7 + 3, none⟩ = some (.int .i64 x.1.key.n) := by simpa using hcx 3 _ rfl
              have y0 : w1.cell? ⟨G, (m + 1) * 7, none⟩ = some (.int .u8 y.1.key.kind) := by simpa using hcy 0 _ rfl
              have y1 : w1.cell? ⟨G, (m + 1) * 7 + 1, none⟩ = some (.int .i64 y.1.key.a) := by simpa using hcy 1 _ rfl
              have y2 : w1.cell? ⟨G, (m + 1) * 7 + 2, none⟩ = some (.int .i64 y.1.key.b) := by simpa using hcy 2 _ rfl
              have y3 : w1.cell? ⟨G, (m + 1) * 7 + 3, none⟩ = some (.int .i64 y.1.key.n) := by simpa using hcy 3 _ rfl
              have hke := fun W => key_equalIn y.1.key.kind y.1.key.a y.1.key.b y.1.key.n x.1.key.kind x.1.key.a x.1.key.b x.1.key.n W
              obtain ⟨bq, hbq⟩ : ∃ bq : Bool, ChoP.eqB y.1.key x.1.key = bq := ⟨_, rfl⟩
              have hke2 : ∀ W : World, (Op.equalIn 10000 44 (.agg #[.int .u8 y.1.key.kind, .int .i64 y.1.key.a, .int .i64 y.1.key.b, .int .i64 y.1.key.n]) (.agg #[.int .u8 x.1.key.kind, .int .i64 x.1.key.a, .int .i64 x.1.key.b, .int .i64 x.1.key.n])).run Tryz.prog W = .ok bq W := fun W => by rw [← hbq]; exact hke W
              clear hke
              have HBQ := Lib.hid hbq
              clear hbq
              have hkg := key_guard
              have hi1 : (0 : Int) ≤ ↑m + 1 := by omega
              have hi2 : (↑m + 1 : Int) < ↑ps.length := by omega
              have hw1 : IntKind.i64.wrap ((↑m + 1 : Int) - 1) = ↑m := by rw [show (↑m + 1 : Int) - 1 = ↑m by omega]; exact IntWalk.i64_in _ (by omega)
              have HX := Lib.hid hx
              have HY := Lib.hid hy
              clear hcx hcy eA1 eA2 hx hy
              go_wp2_with fail
              go_quiet (fail)
              have kx : x.2.key = x.1.key := (HCS.out.row x (List.mem_of_getElem? HX.out)).key.symm
              have ky : y.2.key = y.1.key := (HCS.out.row y (List.mem_of_getElem? HY.out)).key.symm
              have KX := Lib.hid kx
              have KY := Lib.hid ky
              clear kx ky x0 x1 x2 x3 y0 y1 y2 y3 hke2 hw1
              cases bq
              · go_wp2_with fail
                go_roundw
                case rel =>
                  refine ⟨m + 1 + 1, nq0 + nq, by omega, by omega, by go_num, fun i a b ha hb hi => ?_, rfl⟩
                  by_cases him : i + 1 = m + 1
                  · obtain rfl : i = m := by omega
                    rw [HX.out] at ha
                    rw [HY.out] at hb
                    cases ha
                    cases hb
                    intro e
                    have := HBQ.out
                    rw [ChoP.eqB_false] at this
                    exact this e.symm
                  · exact HKS.out i a b ha hb (by omega)
                case measure => simp [intOf]; omega
              · go_wp2_with fail
                have hk : x.2.key = y.2.key := by rw [KX.out, KY.out]; exact ((ChoP.eqB_iff _ _).1 HBQ.out).symm
                have herr := new_dup HCHO.out HOKL.out HX.out HY.out hk
                refine bodyPost_ret (v := .tuple #[.agg #[.slice none 0 0], .int .i64 5]) (by simp [results, Tryz.results9, go_sem, r0]) rfl ⟨none, [], 0, by rw [herr]; rfl, by rw [setL_err herr (by decide)]; rfl, chos_nil _ _ _, Nat.le_refl _, by omega, fresh_nil _, ?_⟩
                refine Below.setCell ?_ (by simp) _
                exact ⟨HBW.out.os, HBW.out.tape, HBW.out.output, HBW.out.size, HBW.out.block⟩
            · obtain ⟨herr, hso⟩ := new_fin HCHO.out HOKL.out HSO.out (fun i a b ha hb => by
                rw [← (HCS.out.row a (List.mem_of_getElem? ha)).key, ← (HCS.out.row b (List.mem_of_getElem? hb)).key]
                have := (List.getElem?_eq_some_iff.1 hb).1
                rw [HLS.out] at this
                exact HKS.out i a b ha hb (by omega))
              have HERR := Lib.hid herr
              have HFIN := Lib.hid hso
              clear herr hso
              by_cases h96 : 96 < ps.length
              · go_wp2_with fail
                have herr := HERR.out
                rw [if_pos h96] at herr
                refine bodyPost_ret (v := .tuple #[.agg #[.slice none 0 0], .int .i64 3]) (by simp [results, Tryz.results9, go_sem, r0]) rfl ⟨none, [], 0, by rw [herr]; rfl, by rw [setL_err herr (by decide)]; rfl, chos_nil _ _ _, Nat.le_refl _, by omega, fresh_nil _, ?_⟩
                refine Below.setCell ?_ (by simp) _
                exact ⟨HBW.out.os, HBW.out.tape, HBW.out.output, HBW.out.size, HBW.out.block⟩
              · go_wp2_with fail
                have herr := HERR.out
                rw [if_neg h96] at herr
                refine bodyPost_ret (v := .tuple #[.agg #[.slice (some ⟨G, 0, none⟩) ps.length ps.length], .int .i64 0]) (by simp [results, Tryz.results9, go_sem, r0]) rfl ⟨some ⟨G, 0, none⟩, ss, ps.length, by rw [herr, HLS.out], by rw [HFIN.out, ChoP.setL, if_pos herr], ?_, by rw [HLS.out]; exact Nat.le_refl _, by omega, ⟨fun b o e => by injection e with e; injection e with e1 _; omega, fun q hq b o e => by have := HARG.out q hq b o e; omega⟩, ?_⟩
                · rw [World.size_setCell]
                  exact (HCS.out.drewN nq0).set _ _ (fun b o e => by injection e with e; injection e with e1 _; subst e1; simp; omega) (fun q hq b o e => by have := HARG.out q hq b o e; simp; omega)
                · refine Below.setCell ?_ (by simp) _
                  exact ⟨HBW.out.os, HBW.out.tape, HBW.out.output, HBW.out.size, HBW.out.block⟩
end Go.Proofs.YtpniilgkceadeaaGreatDoor
