/- The walk of the law on reading bytes. -/
import Derived.Test.YtolfbnjmkgikdaaDoorChoAwake
import Derived.Test.YtolfbnjmkgikdaaDoorChoCut
import Derived.Test.YtolfbnjmkgikdaaDoorChoRead
import Derived.Test.YtolfbnjmkgikdaaDoorChoOpenL
namespace ChoP
theorem okC_in {x : Cho} (h : okC x = true) : (1 ≤ x.key.kind ∧ x.key.kind ≤ 9) ∧ (0 ≤ x.key.a ∧ x.key.a ≤ 7) ∧ (0 ≤ x.key.b ∧ x.key.b ≤ 7) ∧ (0 ≤ x.key.n ∧ x.key.n ≤ 65535) ∧ (0 ≤ x.t ∧ x.t ≤ 200) ∧ (0 ≤ x.d ∧ x.d ≤ 200) ∧ x.args.length ≤ 4 := by
  simp only [okC, choOK, keyOK, inB, Bool.and_eq_true, decide_eq_true_eq] at h
  obtain ⟨⟨⟨⟨⟨⟨k1, k2⟩, k3⟩, k4⟩, k5⟩, k6⟩, k7⟩ := h
  have hb : (if pairB x.key.kind = true then (7 : Int) else 0) ≤ 7 := by split <;> omega
  have ht : (if timedB x.key.kind = true then (200 : Int) else 0) ≤ 200 := by split <;> omega
  have hl : 0 ≤ lowD x.key.kind := by unfold lowD; split <;> omega
  have hh : highD x.key.kind ≤ 200 := by unfold highD; repeat (first | omega | split)
  have ha : (if (x.key.kind == 1) = true then 4 else 0) ≤ 4 := by split <;> omega
  refine ⟨by omega, by omega, by omega, by omega, by omega, by omega, by omega⟩
theorem setBytes_byt {l : List Cho} (h : IsSet l) (hr : ∀ x ∈ l, InR' x) : Byt (setBytes l) := by
  have hput : ∀ v, v < 18446744073709551616 → ∀ x ∈ putL v, x < 256 := fun v hv => putF_lt 10 v (by simp; omega) (by omega)
  intro x hx
  rcases List.mem_append.1 hx with hx | hx
  · exact hput _ (by have := h.le; omega) x hx
  · obtain ⟨y, hy, hx⟩ := List.mem_flatMap.1 hx
    obtain ⟨k1, k2, k3, k4, k5, k6, k7⟩ := okC_in (h.ok y hy)
    rw [choBytes_eq] at hx
    rcases List.mem_append.1 hx with hx | hx
    · rcases List.mem_append.1 hx with hx | hx
      · simp at hx
        omega
      · obtain ⟨v, hv, hx⟩ := List.mem_flatMap.1 hx
        refine hput v ?_ x hx
        simp only [six, List.mem_cons, List.not_mem_nil, or_false] at hv
        rcases hv with rfl | rfl | rfl | rfl | rfl | rfl <;> omega
    · obtain ⟨v, hv, hx⟩ := List.mem_flatMap.1 hx
      have hz := hr y hy v hv
      refine hput _ ?_ x hx
      unfold zig
      split <;> omega
end ChoP
namespace Go.Proofs.YtolfbnjmkgikdaaDoor
open Go.RowKit Go.Sort
theorem Lie.setAt {w : World} {B b o : Nat} {xs : List Value} (h : Lie w B (some ⟨b, o, none⟩) xs) (i : Nat) (hi : i < xs.length) (u : Value) : Lie (w.setCell ⟨b, o + i, none⟩ u) B (some ⟨b, o, none⟩) (xs.set i u) := fun _ => by
  obtain ⟨b', o', e, hb, hc⟩ := h (by rintro rfl; simp at hi)
  injection e with e
  injection e with e1 e2
  subst e1 e2
  refine ⟨b, o, rfl, hb, fun j v hv => ?_⟩
  by_cases e : j = i
  · subst e
    rw [List.getElem?_set_self hi] at hv
    cases hv
    exact World.cell?_setCell_same _ _ _ (hc j _ (List.getElem?_eq_getElem hi))
  · rw [List.getElem?_set_ne (fun e' => e e'.symm)] at hv
    exact (World.cell?_setCell_other _ _ _ _ (by intro e'; injection e' with _ e2; omega)).trans (hc j v hv)
set_option maxRecDepth 100000 in
set_option maxHeartbeats 1000000 in
theorem cloneB_any (b o c : Nat) (l : List Nat) (w : World) (h : Lie w w.heap.size (some ⟨b, o, none⟩) (natC l)) (hl : l.length ≤ 1048576) : Calls Tryd.prog 27 #[.slice (some ⟨b, o, none⟩) l.length c] w (BytesPost l w) := by
  obtain ⟨i0, hi0, hz0, hz1, hz2⟩ := info_parts info_u8
  have H := Lib.hid h
  clear h
  have hnil := fun W => Lib.run_eql_slice_nil (P := Tryd.prog) W 59 5 (some ⟨b, o, none⟩) l.length c 0 0 Tryd.underlying59
  simp only [Option.isNone_some] at hnil
  go_enter Tryd.func27, Tryd.ntmps27
  go_wp2_with (at_builtin; refine wpList_append_lie rfl _ _ 59 rfl w.heap.size 5 i0 _ 1 1 Tryd.underlying59 hi0 hz0 hz1 hz2 rfl (by decide) (.slice (some ⟨w.heap.size, 0, none⟩) 0 0) 0 [] rfl ?c0 w.heap.size (some ⟨b, o, none⟩) l.length c (natC l) rfl ?c1 ?c2 ?c3 ?c4 ?c5 ?_)
  case c0 => exact own_u8 w
  case c1 => exact ⟨by simp [natC], H.out.below ((RowKit.Below.refl _ _).alloc (Nat.le_refl _) _) (Nat.le_refl _)⟩
  case c2 => exact natC_one _
  case c3 => unfold maxLen; omega
  case c4 => omega
  case c5 => simp
  intro v2 w2 hown2 hgrow2 _
  have hbw : RowKit.Below w.heap.size w w2 := ((RowKit.Below.refl w.heap.size w).alloc (Nat.le_refl _) _).grown hgrow2 (by simp) (fun k e => by simp [Value.ownBlock] at e; omega)
  have HF : Hid (BytesPost l w (.returned v2) w2) := Lib.hid ⟨v2, rfl, ⟨by simpa using hown2, hbw⟩⟩
  clear hown2 hgrow2 hbw
  go_wp2_with fail
  go_ret
  exact HF.out
theorem newB (W : World) (x : Int) : SliceIs (W.alloc (.cells #[.int .u8 x] 5)) (W.heap.size + 1) 1 (some ⟨W.heap.size, 0, none⟩) 1 [.int .u8 x] :=
  ⟨rfl, fun _ => ⟨W.heap.size, 0, rfl, by omega, fun j u hu => by
    rw [Nat.zero_add]
    exact cell_at (heap_alloc_new W _) j u (by simpa using hu)⟩⟩
theorem SliceIs.belowW {W W' : World} {B B' size m : Nat} {A : Option Addr} {news : List Value} (h : SliceIs W B size A m news) (hb : RowKit.Below B W W') (hB : B ≤ B') : SliceIs W' B' size A m news := ⟨h.1, h.2.below hb hB⟩
theorem src3 {w6 w7 w8 : World} {x : Int} (hb7 : RowKit.Below (w6.alloc (.cells #[.int .u8 x] 5)).drew.heap.size (w6.alloc (.cells #[.int .u8 x] 5)).drew w7) (hb8 : RowKit.Below w7.heap.size w7 w8) : SliceIs w8 w8.heap.size 1 (some ⟨w6.heap.size, 0, none⟩) 1 [.int .u8 x] := by
  have hs : (w6.alloc (.cells #[.int .u8 x] 5)).drew.heap.size = w6.heap.size + 1 := World.size_alloc _ _
  have h1 : RowKit.Below (w6.heap.size + 1) (w6.alloc (.cells #[.int .u8 x] 5)).drew w7 := by rw [← hs]; exact hb7
  have h2 : SliceIs w7 w7.heap.size 1 (some ⟨w6.heap.size, 0, none⟩) 1 [.int .u8 x] := SliceIs.belowW ((newB w6 x).drew) h1 (by have := hb7.size; omega)
  exact h2.belowW hb8 hb8.size
theorem bytes_some {w : World} {base : Nat} {v : Value} {l : List Nat} (h : w.ownsRow base 5 1 v l.length (natC l)) (hl : 1 ≤ l.length) : ∃ b cap, v = .slice (some ⟨b, 0, none⟩) l.length cap ∧ Lie w w.heap.size (some ⟨b, 0, none⟩) (natC l) := by
  rcases h.2 with ⟨_, h0⟩ | ⟨g, cap, cur, rfl, hb, hg, hc, hm, _, _⟩
  · omega
  · exact ⟨g, cap, rfl, Lie.of_own h⟩
theorem valid_len12 {l : List ChoP.Cho} {ps : List Pair} (h : cho ps = ChoP.validL l 12) : ps.length ≤ 12 := by
  have h1 := congrArg List.length h
  have h2 := ChoP.validL_le l 12
  simp only [cho, List.length_map] at h1
  omega
set_option maxRecDepth 100000 in
set_option maxHeartbeats 4000000 in
theorem choiceReads_walk (A : Option Addr) (ps : List Pair) (c at_ vb : Nat) (w : World) (hL : Laid w) (h : Chos w w.heap.size A ps) (hc : ps.length ≤ c) (hc2 : c ≤ 9223372036854775807) (hin : ∀ p ∈ ps, ChoIn p.2) (hat : at_ < 65536) (hvb : vb < 256) : Calls Tryd.prog 5 #[.slice A ps.length c, .int .u16 at_, .int .u8 vb] w (TruePost w) := by
  have HL := Lib.hid hL
  have H := Lib.hid h
  have HIN := Lib.hid hin
  clear hL h hin
  go_enter Tryd.func5, Tryd.ntmps5
  go_wp2_with fail
  refine (awake_any w HL.out).mono ?_
  rintro e w1 ⟨rfl, hb⟩
  have hz1 := hb.size
  have HB := Lib.hid hb
  clear hb HL
  go_wp2_with fail
  refine (few_any A ps c w1 (H.out.below HB.out (by omega)) hc hc2).mono ?_
  rintro e w2 ⟨A1, qs, c1, rfl, hq, hcq, hqc, hqc2, _, hb2⟩
  have hql : qs.length ≤ 100 := by
    have h1 := congrArg List.length hq
    simp [cho] at h1
    omega
  have hinr : ∀ x ∈ cho qs, ChoP.InR' x := by
    rw [hq]
    intro x hx
    obtain ⟨y, hy, rfl⟩ := List.mem_map.1 hx
    obtain ⟨p, hp, rfl⟩ := List.mem_map.1 (List.mem_of_mem_take hy)
    intro v hv
    exact (HIN.out p hp).r v (List.mem_of_mem_take hv)
  have HINR := Lib.hid hinr
  have HCQ := Lib.hid hcq
  have HB2 := Lib.hid hb2
  have hz2 := hb2.size
  clear hq hcq hb2 H hinr HIN
  go_wp2_with fail
  refine (valid_any A1 qs c1 12 w2 HCQ.out (by omega) (by omega)).mono ?_
  rintro e w3 ⟨A3, al, c3, rfl, ha, hca, hac, hac2, _, hb3⟩
  have hal := valid_len12 ha
  have has : ChoP.IsSet (cho al) := by rw [ha]; exact ChoP.validL_isSet _ _
  have hin3 : ∀ x ∈ cho al, ChoP.InR' x := fun x hx => HINR.out x (ChoP.valid_mem (by rw [← ha]; exact hx))
  have HCA := Lib.hid hca
  have HAS := Lib.hid has
  have HIN3 := Lib.hid hin3
  have HB3 := Lib.hid hb3
  have hz3 := hb3.size
  clear ha hca has hin3 hb3 HCQ HINR
  go_wp2_with fail
  refine (new_fresh A3 al c3 w3 HCA.out (by omega)).mono ?_
  rintro e w4 ⟨A4, ss, c4, rfl, hss, hcs, hsc, hsc2, _, hb4⟩
  rw [HAS.out.err]
  rw [HAS.out.set] at hss
  have hsl : ss.length ≤ 12 := by
    have h1 := congrArg List.length hss
    simp only [cho, List.length_map] at h1
    omega
  have hset : ChoP.IsSet (cho ss) := by rw [hss]; exact HAS.out
  have hinS : ∀ x ∈ cho ss, ChoP.InR' x := by rw [hss]; exact HIN3.out
  have hokS : ∀ p ∈ ss, ChoP.okC p.2 = true ∧ ChoP.InR p.2 := fun p hp => ⟨hset.ok _ (List.mem_map.2 ⟨p, hp, rfl⟩), hinS _ (List.mem_map.2 ⟨p, hp, rfl⟩)⟩
  have OKS := Lib.hid hokS
  have HCS := Lib.hid hcs
  have SET := Lib.hid hset
  have INS := Lib.hid hinS
  have HBW4 := Lib.hid (HB.out.trans ((HB2.out.mono (by omega)).trans ((HB3.out.mono (by omega)).trans (hb4.mono (by omega)))))
  have hz4 := HBW4.out.size
  clear hss hcs hset hinS hokS hb4 HB HB2 HB3 HCA HAS HIN3
  go_wp2_with fail
  have hba : ∀ o : Obj, RowKit.Below w4.heap.size w4 (w4.alloc o) := fun o => (RowKit.Below.refl _ _).alloc (Nat.le_refl _) _
  refine (bytes_any A4 ss c4 (w4.alloc _) (HCS.out.below (hba _) (hba _).size) OKS.out (by omega)).mono ?_
  rintro e w5 ⟨v5, rfl, hst⟩
  have hown5 := hst.own
  have hb5 := hst.below
  rw [World.size_alloc] at hown5 hb5
  have hs0 : w5.cell? ⟨w4.heap.size, 0, none⟩ = some (.slice A4 ss.length c4) := (hb5.cell (p := ⟨w4.heap.size, 0, none⟩) (by simp)).trans (cell_at (heap_alloc_new w4 _) 0 _ rfl)
  have hb45 : RowKit.Below w4.heap.size w4 w5 := (hba _).trans (hb5.mono (by omega))
  have hLb : ChoP.Byt (ChoP.setBytes (cho ss)) := ChoP.setBytes_byt SET.out INS.out
  have hL1 : 1 ≤ (ChoP.setBytes (cho ss)).length := by
    have := (ChoP.putF_len 10 (cho ss).length).1
    simp only [ChoP.setBytes, ChoP.putL, List.length_append]
    omega
  have hL2 : (ChoP.setBytes (cho ss)).length ≤ 20000 := by
    have h1 := ChoP.putL_len (cho ss).length
    have h2 := ChoP.flat_le ChoP.choBytes 111 (cho ss) (fun x hx => ChoP.choBytes_le x (ChoP.okC_in (SET.out.ok x hx)).2.2.2.2.2.2)
    have h3 : (cho ss).length = ss.length := by simp [cho]
    simp only [ChoP.setBytes, List.length_append]
    omega
  generalize hLL : ChoP.setBytes (cho ss) = L at *
  obtain ⟨b5, cap5, rfl, hg5, hcap5, hcap5', hl5⟩ : ∃ b5 cap5, v5 = .slice (some ⟨b5, 0, none⟩) L.length cap5 ∧ w4.heap.size + 1 ≤ b5 ∧ L.length ≤ cap5 ∧ cap5 ≤ 9223372036854775807 ∧ Lie w5 w5.heap.size (some ⟨b5, 0, none⟩) (natC L) := by
    rcases hown5.2 with ⟨_, h0⟩ | ⟨g, cap, cur, rfl, hb, hg, hc, hm, _, _⟩
    · omega
    · exact ⟨g, cap, rfl, hb, hc, by unfold maxLen at hm; omega, Lie.of_own hown5⟩
  have hfz : w5.frozen? ⟨b5, at_ % L.length, none⟩ = false := hown5.frozenAt _
  obtain ⟨I, hI⟩ : ∃ I, at_ % L.length = I := ⟨_, rfl⟩
  have hIL : I < L.length := by rw [← hI]; exact Nat.mod_lt _ (by omega)
  have hrem : Int.tmod (at_ : Int) (L.length : Int) = (I : Int) := by rw [← hI]; rfl
  rw [hI] at hfz
  obtain ⟨x0, hx0⟩ : ∃ x0, L[I]? = some x0 := ⟨_, List.getElem?_eq_getElem hIL⟩
  obtain ⟨bz, oz, ez, hb5lt0, hcz⟩ := hl5.at_ I (.int .u8 (x0 : Int)) (by simp [natC, hx0])
  injection ez with ez
  injection ez with ez1 ez2
  subst ez1 ez2
  rw [Nat.zero_add] at hcz
  have hlp := hl5.setAt I (by simpa [natC] using hIL) (.int .u8 (vb : Int))
  rw [Nat.zero_add] at hlp
  have hset : (natC L).set I (.int .u8 (vb : Int)) = natC (L.set I vb) := by simp [natC, List.map_set]
  rw [hset] at hlp
  have hlenp : (L.set I vb).length = L.length := by simp
  have hbytp : ChoP.Byt (L.set I vb) := fun x hx => by
    rcases List.mem_or_eq_of_mem_set hx with h | h
    · exact hLb x h
    · omega
  have hb5' : RowKit.Below (w4.heap.size + 1) w5 (w5.setCell ⟨b5, I, none⟩ (.int .u8 (vb : Int))) := (RowKit.Below.refl _ _).setCell (by show w4.heap.size + 1 ≤ b5; omega) _
  have HLP := Lib.hid hlp
  have HLENP := Lib.hid hlenp
  have HBYTP := Lib.hid hbytp
  have HS0 := Lib.hid ((hb5'.cell (p := ⟨w4.heap.size, 0, none⟩) (by simp)).trans hs0)
  have HB45 := Lib.hid (hb45.trans (hb5'.mono (by omega)))
  have HLB := Lib.hid hLb
  have HLL := Lib.hid hLL
  have hj1 : (0 : Int) ≤ (I : Int) := by omega
  have hj2 : (I : Int) < (L.length : Int) := by omega
  have hj3 : (I : Int) ≤ (L.length : Int) := by omega
  have hj4 : (L.length : Int) ≤ (cap5 : Int) := by omega
  have hj5 : (I : Int) ≤ (cap5 : Int) := by omega
  have hj6 : ((L.length : Int) == 0) = false := by rw [beq_eq_false_iff_ne]; omega
  have hj8 : ¬ (L = []) := by rintro rfl; simp at hL1
  have hj9 : ¬ (L.length = 0) := by omega
  have hrem2 : (at_ : Int) % (L.length : Int) = (I : Int) := by rw [← hI]; rfl
  have hrem3 : at_ % L.length = I := hI
  have hk1 : I ≤ cap5 := by omega
  have hk2 : I ≤ L.length := by omega
  have hwat : IntKind.i64.wrap (at_ : Int) = (at_ : Int) := IntWalk.i64_in _ ⟨by omega, by omega⟩
  have hw1 : IntKind.i64.wrap (I : Int) = (I : Int) := IntWalk.i64_in _ ⟨by omega, by omega⟩
  have hw2 : IntKind.i64.wrap (Int.tmod (at_ : Int) (L.length : Int)) = (I : Int) := by rw [hrem]; exact hw1
  have hj7 : ¬ ((L.length : Int) = 0) := by omega
  have hb5lt : b5 < w5.heap.size := hb5lt0
  have hz5 := hb5'.size
  clear hst hown5 hb5 hs0 hb45 hLb hLL hl5 hI hx0 hlp hset hlenp hbytp hb5' hba
  go_wp2_with fail
  generalize w5.setCell ⟨b5, I, none⟩ (.int .u8 (vb : Int)) = w6 at *
  have s0 : w6.cell? ⟨w4.heap.size, 0, none⟩ = some (.slice A4 ss.length c4) := HS0.out
  have hz46 : w4.heap.size < w6.heap.size := by have := HB45.out.size; omega
  have hby := fun (W : World) (hW : RowKit.Below w6.heap.size w6 W) => bytes_any A4 ss c4 W (HCS.out.below (HB45.out.trans (hW.mono HB45.out.size)) (by have := hW.size; have := HB45.out.size; omega)) OKS.out (by omega)
  rw [HLL.out] at hby
  have HBY := Lib.hid hby
  have hbr : RowKit.Below w6.heap.size w6 w6 := RowKit.Below.refl _ _
  have hbrA : ∀ o : Obj, RowKit.Below w6.heap.size w6 (w6.alloc o) := fun o => hbr.alloc (Nat.le_refl _) o
  obtain ⟨i0, hi0, hz0, hz1', hz2'⟩ := info_parts info_u8
  have hnn1 : L.length + 1 ≤ maxLen := by unfold maxLen; omega
  have hnn2 : (L.length + 1) * 1 ≤ 140737488355328 := by omega
  have HBR := Lib.hid hbr
  have HBRA := Lib.hid hbrA
  clear hby hbr hbrA
  have hslc : ∀ W : World, (Instr.slice 59 (.slice (some ⟨b5, 0, none⟩) L.length cap5) none (some (.int .i64 (I : Int))) none).run Tryd.prog W = .ok (.slice (some ⟨b5, 0, none⟩) I cap5) W := by
    intro W
    go_simp
  have hown9 : ∀ (w7 w8 : World) (v8 : Value), RowKit.Below w6.heap.size w6 w7 → True := fun _ _ _ _ => trivial
  clear hown9
  go_region_held3 (fun w' => w'.cell? ⟨w4.heap.size, 0, none⟩ = some (.slice A4 ss.length c4))
    (first | go_keep | exact (hb7.cell (p := ⟨_, _, none⟩) (by first | exact hz46 | (simp; omega))).trans (by first | assumption | go_keep) | exact (hb8.cell (p := ⟨_, _, none⟩) (by first | (show w4.heap.size < _; omega) | (simp; omega))).trans (by first | assumption | go_keep) | exact (hgrow9.cell_far _ (by first | (show w4.heap.size < _; omega) | (show w4.heap.size < _; simp; omega)) (own_ne hown8 hz46)).trans (by first | assumption | go_keep))
    (first | (go_at_call 26; refine Calls.mono (HBY.out _ (by first | exact HBR.out.drew | exact (HBRA.out _).drew)) ?_; rintro e w7 ⟨v7, rfl, hst7⟩; have hown7 := hst7.own; have hb7 := hst7.below; have hzz7 : w6.heap.size ≤ w7.heap.size := Nat.le_trans (by first | exact Nat.le_refl _ | (show _ ≤ (World.alloc _ _).heap.size; rw [World.size_alloc]; omega)) hb7.size; obtain ⟨b7, cap7, rfl, hl7⟩ := bytes_some hown7 hL1) | (go_at_call 27; refine Calls.mono (cloneB_any b7 0 cap7 L _ (by first | exact hl7 | exact hl7.below ((RowKit.Below.refl _ _).alloc (Nat.le_refl _) _) (by rw [World.size_alloc]; omega)) (by omega)) ?_; rintro e w8 ⟨v8, rfl, hst8⟩; have hown8 := own_base hst8.own (show w6.heap.size ≤ _ by first | exact hzz7 | (rw [World.size_alloc]; omega)); have hb8 := hst8.below; have hzz8 : w7.heap.size ≤ w8.heap.size := Nat.le_trans (by first | exact Nat.le_refl _ | (show _ ≤ (World.alloc _ _).heap.size; rw [World.size_alloc]; omega)) hb8.size) | (refine step_append_lie (by rfl) (.tmp 48) (.tmp 50) _ (by rfl) w6.heap.size 5 i0 _ 1 1 Tryd.underlying59 hi0 hz0 hz1' hz2' rfl (by decide) v8 L.length (natC L) (by rfl) (hown8.alloc _) (w8.heap.size + 1) (some ⟨w8.heap.size, 0, none⟩) 1 1 [.int .u8 (vb : Int)] (by rfl) (newB w8 vb) (by simp [Value.oneCell']) hnn1 hnn2 (by rw [World.size_alloc]; omega) ?_; intro v9 w9 hown9 hgrow9 hat9; obtain ⟨A9, c9, rfl, hcc9, hcm9, hsl9⟩ := own_form hown9) | (refine step_append_lie (by rfl) (.tmp 48) (.tmp 50) _ (by rfl) w6.heap.size 5 i0 _ 1 1 Tryd.underlying59 hi0 hz0 hz1' hz2' rfl (by decide) v8 L.length (natC L) (by rfl) hown8 w8.heap.size (some ⟨w7.heap.size, 0, none⟩) 1 1 [.int .u8 (vb : Int)] (by rfl) ((newB w7 vb).belowW (hb8.mono (by rw [World.size_alloc]; exact Nat.le_refl _)) (by have := hb8.size; rw [World.size_alloc] at this; omega)) (by simp [Value.oneCell']) hnn1 hnn2 (by omega) ?_; intro v9 w9 hown9 hgrow9 hat9; obtain ⟨A9, c9, rfl, hcc9, hcm9, hsl9⟩ := own_form hown9) | (refine step_append_lie (by rfl) (.tmp 48) (.tmp 50) _ (by rfl) w6.heap.size 5 i0 _ 1 1 Tryd.underlying59 hi0 hz0 hz1' hz2' rfl (by decide) v8 L.length (natC L) (by rfl) hown8 w8.heap.size (some ⟨w6.heap.size, 0, none⟩) 1 1 [.int .u8 (vb : Int)] (by rfl) (src3 hb7 hb8) (by simp [Value.oneCell']) hnn1 hnn2 (by omega) ?_; intro v9 w9 hown9 hgrow9 hat9; obtain ⟨A9, c9, rfl, hcc9, hcm9, hsl9⟩ := own_form hown9) | fail)
  all_goals
    have h67 : RowKit.Below w6.heap.size w6 w7 := by
      first | exact RowKit.Below.trans HBR.out.drew hb7 | exact RowKit.Below.trans (HBRA.out _).drew (hb7.mono (by show w6.heap.size ≤ (World.alloc _ _).heap.size; rw [World.size_alloc]; omega))
    have h68 : RowKit.Below w6.heap.size w6 w8 := by
      first | exact h67.trans (hb8.mono hzz7) | exact (h67.alloc hzz7 _).trans (hb8.mono (by rw [World.size_alloc]; omega))
    have hb69 : RowKit.Below w6.heap.size w6 w9 := by
      first | exact h68.grown hgrow9 h68.size (own_ge hown8) | exact (h68.alloc h68.size _).grown hgrow9 (by rw [World.size_alloc]; have := h68.size; omega) (own_ge hown8)
    have hl9 : Lie w9 w9.heap.size A9 (natC (L ++ [vb])) := by
      have e : natC (L ++ [vb]) = natC L ++ [.int .u8 (vb : Int)] := by simp [natC]
      rw [e]
      exact hsl9.2
    have HB69 := Lib.hid hb69
    have HL9 := Lib.hid hl9
    clear hb69 h67 h68 hl9 hsl9 hown9 hgrow9 hat9 hown8 hb8 hst8 hzz8 hown7 hb7 hst7 hzz7 hl7 s0 hslc
    go_wp2_with fail
    have hbx := heap_alloc_new w9 (.cells #[.slice (some ⟨b5, 0, none⟩) L.length cap5, .slice (some ⟨b5, 0, none⟩) I cap5, .slice A9 (L.length + 1) c9] 59)
    have hba : RowKit.Below w9.heap.size w9 (w9.alloc (.cells #[.slice (some ⟨b5, 0, none⟩) L.length cap5, .slice (some ⟨b5, 0, none⟩) I cap5, .slice A9 (L.length + 1) c9] 59)) := (RowKit.Below.refl _ _).alloc (Nat.le_refl _) _
    have hK : w9.heap.size < (w9.alloc (.cells #[.slice (some ⟨b5, 0, none⟩) L.length cap5, .slice (some ⟨b5, 0, none⟩) I cap5, .slice A9 (L.length + 1) c9] 59)).heap.size := by simp
    generalize w9.alloc (.cells #[.slice (some ⟨b5, 0, none⟩) L.length cap5, .slice (some ⟨b5, 0, none⟩) I cap5, .slice A9 (L.length + 1) c9] 59) = w10 at *
    have hb610 : RowKit.Below w6.heap.size w6 w10 := HB69.out.trans (hba.mono HB69.out.size)
    have hz10 := hb610.size
    have hlp10 : Lie w10 w10.heap.size (some ⟨b5, 0, none⟩) (natC (L.set I vb)) := HLP.out.below (hb610.mono hz5) (by omega)
    have hx : ∀ k, k < 3 → ∃ (X : Option Addr) (l : List Nat) (cp : Nat), w10.cell? ⟨w9.heap.size, k, none⟩ = some (.slice X l.length cp) ∧ Lie w10 w10.heap.size X (natC l) ∧ ChoP.Byt l ∧ l.length ≤ 20001 := by
      intro k hk
      have : k = 0 ∨ k = 1 ∨ k = 2 := by omega
      rcases this with rfl | rfl | rfl
      · exact ⟨some ⟨b5, 0, none⟩, L.set I vb, cap5, by rw [HLENP.out]; exact cell_at hbx 0 _ rfl, hlp10, HBYTP.out, by rw [HLENP.out]; omega⟩
      · refine ⟨some ⟨b5, 0, none⟩, (L.set I vb).take I, cap5, ?_, ?_, fun x hx => HBYTP.out x (List.mem_of_mem_take hx), ?_⟩
        · rw [List.length_take, HLENP.out, Nat.min_eq_left hk2]
          exact cell_at hbx 1 _ rfl
        · have e : natC ((L.set I vb).take I) = (natC (L.set I vb)).take I := by simp [natC, List.map_take]
          rw [e]
          exact hlp10.take I
        · rw [List.length_take, HLENP.out]
          omega
      · refine ⟨A9, L ++ [vb], c9, ?_, HL9.out.below hba hba.size, ?_, by simp; omega⟩
        · have e : (L ++ [vb]).length = L.length + 1 := by simp
          rw [e]
          exact cell_at hbx 2 _ rfl
        · intro x hx
          rcases List.mem_append.1 hx with h | h
          · exact HLB.out x h
          · simp at h
            omega
    have HX := Lib.hid hx
    have HW10 := Lib.hid (HBW4.out.trans ((HB45.out.trans (hb610.mono HB45.out.size)).mono hz4))
    clear hx hlp10 hb610 hba hbx HB69 HL9 HLP HLENP HBYTP HLB HBY HBR HBRA HS0 HCS SET INS OKS HLL HB45 HBW4 hj1 hj2 hj3 hj4 hj5 hj6 hj7 hj8 hj9 hk1 hk2 hw1 hw2 hwat hrem hrem2 hrem3 hnn1 hnn2 hfz hcz
    generalize w9.heap.size = K at *
    go_loopw [54] (fun i wr => ∃ k : Nat, k ≤ 3 ∧ i = .int .i64 k ∧ RowKit.Below w10.heap.size w10 wr) (fun i _ => 3 - (intOf i).toNat)
    case atStart => exact ⟨0, by omega, rfl, RowKit.Below.refl _ _⟩
    case round =>
      obtain ⟨k, hk, rfl, hb⟩ := hrel
      have HB := Lib.hid hb
      have hwz := hb.size
      clear hb
      by_cases hlt : k < 3
      · obtain ⟨X, l, cp, hcX, hlX, hbX, hlenX⟩ := HX.out k hlt
        have c0 : wr.cell? ⟨K, k, none⟩ = some (.slice X l.length cp) := (HB.out.cell (p := ⟨K, k, none⟩) hK).trans hcX
        have HLX := Lib.hid hlX
        have HBX := Lib.hid hbX
        have hi1 : (0 : Int) ≤ (k : Int) := by omega
        have hi2 : (k : Int) < 3 := by omega
        clear hcX hlX hbX
        go_wp2_with fail
        refine (read_any X l cp wr (HLX.out.below HB.out hwz) HBX.out (by omega)).mono ?_
        rintro e w11 ⟨A11, ts, c11, rfl, hts, hct, htc, htc2, hb11⟩
        have HB11 := Lib.hid (HB.out.trans (hb11.mono hwz))
        have hz11 := hb11.size
        cases hrd : ChoP.readF l with
        | none =>
          obtain ⟨e1, e2⟩ := ChoP.rd_none hrd
          rw [e2] at hts
          rw [e1]
          obtain rfl : ts = [] := by cases ts with | nil => rfl | cons a b => simp [cho] at hts
          clear hts hct hb11 hrd e1 e2 c0
          go_wp2_with fail
          refine (len_any A11 0 c11 _).mono ?_
          rintro e w12 ⟨rfl, hb12⟩
          rw [World.size_alloc] at hb12
          have HB12 := Lib.hid ((HB11.out.alloc (by omega) _).trans (hb12.mono (by omega)))
          clear hb12
          go_wp2_with fail
          go_roundw
          case rel => exact ⟨k + 1, by omega, by go_num, HB12.out⟩
          case measure => simp [intOf]; omega
        | some lv =>
          obtain ⟨e1, e2⟩ := ChoP.rd_some hrd
          obtain ⟨g1, g2, g3⟩ := ChoP.readF_ok HBX.out hrd
          rw [e2] at hts
          rw [e1]
          have htl : ts.length ≤ 96 := by
            have h1 := congrArg List.length hts
            have h2 := g2.le
            simp only [cho, List.length_map] at h1
            omega
          have hokT : ∀ p ∈ ts, ChoP.okC p.2 = true ∧ ChoP.InR p.2 := fun p hp => by
            have hm : p.2 ∈ lv := by rw [← hts]; exact List.mem_map.2 ⟨p, hp, rfl⟩
            exact ⟨g2.ok _ hm, g3 _ hm⟩
          have hba : ∀ o : Obj, RowKit.Below w11.heap.size w11 (w11.alloc o) := fun o => (RowKit.Below.refl _ _).alloc (Nat.le_refl _) _
          have hby := fun o : Obj => bytes_any A11 ts c11 (w11.alloc o) (hct.below (hba o) (hba o).size) hokT (by omega)
          rw [hts, g1] at hby
          have HBY := Lib.hid hby
          clear hts hct hb11 hrd e1 e2 g1 g2 g3 hokT hby hba c0
          go_wp2_with fail
          refine (HBY.out _).mono ?_
          rintro e w12 ⟨v12, rfl, hst12⟩
          obtain ⟨A12, c12, rfl, hl12⟩ := hst12.slice
          have hb12 := hst12.below
          rw [World.size_alloc] at hb12
          have hb1012 : RowKit.Below w10.heap.size w10 w12 := (HB11.out.alloc (by omega) _).trans (hb12.mono (by omega))
          have heq := eqU8_any A12 X c12 cp (l.map fun (n : Nat) => (n : Int)) (l.map fun (n : Nat) => (n : Int)) w12 (by rw [← natC_eq]; exact hl12) (by rw [← natC_eq]; exact HLX.out.below hb1012 hb1012.size) (by simp; omega) (by simp; omega)
          rw [decide_eq_true rfl, List.length_map] at heq
          have e3 : (natC l).length = l.length := by simp [natC]
          rw [e3]
          have HEQ := Lib.hid heq
          have HB12 := Lib.hid hb1012
          clear heq hb1012 hb12 hl12 hst12 e3
          go_wp2_with fail
          refine Calls.mono HEQ.out ?_
          rintro e w13 hp
          obtain ⟨rfl, hb13⟩ := hp.below
          have HB13 := Lib.hid (HB12.out.trans (hb13.mono HB12.out.size))
          clear hp hb13 HEQ
          go_wp2_with fail
          go_roundw
          case rel => exact ⟨k + 1, by omega, by go_num, HB13.out⟩
          case measure => simp [intOf]; omega
      · have HF := Lib.hid (HW10.out.trans (HB.out.mono HW10.out.size))
        go_wp2_with fail
        go_ret
        exact ⟨rfl, HF.out⟩
end Go.Proofs.YtolfbnjmkgikdaaDoor
