/- line: a choice as text. -/
import Derived.Test.YtpniilgkceadeaaGreatDoorChoKeyText
import Derived.Test.YtpniilgkceadeaaGreatDoorChoNew
namespace ChoP
/-- the arguments are numbers of 64 bits -/
def InR (x : Cho) : Prop := ∀ v ∈ x.args, -9223372036854775808 ≤ v ∧ v ≤ 9223372036854775807
theorem okC_bounds {x : Cho} (h : okC x = true) : keyOK x.key = true ∧ (0 ≤ x.t ∧ x.t ≤ 200) ∧ (0 ≤ x.d ∧ x.d ≤ 200) := by
  unfold okC choOK inB at h
  simp only [Bool.and_eq_true, decide_eq_true_eq] at h
  refine ⟨h.1.1.1, ⟨h.1.1.2.1, ?_⟩, ⟨?_, ?_⟩⟩
  · have := h.1.1.2.2
    split at this <;> omega
  · have := h.1.2.1
    unfold lowD at this
    split at this <;> omega
  · have := h.1.2.2
    unfold highD at this
    split at this
    · omega
    · split at this
      · omega
      · split at this <;> omega
end ChoP
namespace Go.Proofs.YtpniilgkceadeaaGreatDoor
open Go.RowKit
theorem measured_any (k : Int) (w : World) : Calls Tryz.prog 86 #[.int .u8 k] w fun e w' => e = .returned (.bool (ChoP.measuredB k)) ∧ w = w' := by
  cases h1 : (k == 2) <;> cases h2 : (k == 3) <;> cases h3 : (k == 6) <;> cases h4 : (k == 7) <;> cases h5 : (k == 9)
  all_goals
    (go_enter Tryz.func86, Tryz.ntmps86
     go_wp2
     go_ret
     exact ⟨by simp [ChoP.measuredB, h1, h2, h3, h4, h5], rfl⟩)
theorem lineWords_le {x : ChoP.Cho} (h : ChoP.okC x = true) (hr : ChoP.InR x) : (∀ y ∈ ChoP.lineWords x, y.length ≤ 88) ∧ (ChoP.lineWords x).length ≤ 8 ∧ 1 ≤ (ChoP.lineWords x).length := by
  obtain ⟨h1, h2, h3⟩ := ChoP.okC_bounds h
  have h4 := okC_args h
  refine ⟨fun y hy => ?_, ?_, ?_⟩
  · unfold ChoP.lineWords at hy
    simp only [List.mem_append, List.mem_cons, List.not_mem_nil, or_false] at hy
    rcases hy with ((rfl | hy) | hy) | hy
    · exact keyText_le h1
    · split at hy
      · simp at hy
        rcases hy with rfl | rfl
        · simp
        · have := Lib.itoa_length_le x.t (by omega) (by omega); omega
      · simp at hy
    · split at hy
      · simp at hy
        rw [hy]
        have := Lib.itoa_length_le x.d (by omega) (by omega); omega
      · simp at hy
    · obtain ⟨v, hv, rfl⟩ := List.mem_map.1 hy
      have := Lib.itoa_length_le v (hr v hv).1 (hr v hv).2; omega
  · unfold ChoP.lineWords
    split <;> split <;> simp <;> omega
  · unfold ChoP.lineWords
    simp
theorem lineText_le {x : ChoP.Cho} (h : ChoP.okC x = true) (hr : ChoP.InR x) : (ChoP.lineText x).length ≤ 712 := by
  obtain ⟨h1, h2, _⟩ := lineWords_le h hr
  have := join_le 88 _ h1
  unfold ChoP.lineText
  omega
set_option maxRecDepth 100000 in
set_option maxHeartbeats 4000000 in
theorem line_any (r : Row) (x : ChoP.Cho) (w : World) (hL : Laid w) (hrow : RowIs w w.heap.size r x) (h : ChoP.okC x = true) (hr : ChoP.InR x) : Calls Tryz.prog 57 #[choV r] w (StrPost (ChoP.lineText x) w) := by
  obtain ⟨i0, hi0, hz0, hz1, hz2⟩ := info_parts info_str
  obtain ⟨hkey, ⟨bt0, bt1⟩, ⟨bd0, bd1⟩⟩ := ChoP.okC_bounds h
  have hargs := okC_args h
  have hlw := lineWords_le h hr
  have hlen := lineText_le h hr
  have hjoin := fun W base v h1 => join_words W base v (ChoP.lineWords x) h1 (by omega) (by omega) (by show (ChoP.lineText x).length ≤ _; omega)
  have ej : Lib.join (ChoP.lineWords x) [32] = ChoP.lineText x := rfl
  rw [ej] at hjoin
  generalize ChoP.lineText x = T at *
  have hK : ChoP.lineWords x = [ChoP.keyText x.key] ++ (if ChoP.timedB x.key.kind = true then [[97, 116], Lib.itoa x.t] else []) ++ (if ChoP.measuredB x.key.kind = true then [Lib.itoa x.d] else []) ++ x.args.map Lib.itoa := rfl
  rw [hK] at hjoin
  have hkt := fun W (hL : Laid W) => keyText_any x.key W hL hkey
  have hlie := hrow.lie
  have hrn := hrow.n
  have e1 : choV r = .agg #[.int .u8 r.key.kind, .int .i64 r.key.a, .int .i64 r.key.b, .int .i64 r.key.n, .int .i64 r.t, .int .i64 r.d, .slice r.p r.n r.c] := rfl
  have e2 : keyV x.key = .agg #[.int .u8 x.key.kind, .int .i64 x.key.a, .int .i64 x.key.b, .int .i64 x.key.n] := rfl
  rw [e2] at hkt
  rw [e1, hrow.key, hrow.t, hrow.d, hrn]
  generalize ChoP.keyText x.key = KT at *
  obtain ⟨bt, hbt⟩ : ∃ bt, ChoP.timedB x.key.kind = bt := ⟨_, rfl⟩
  obtain ⟨bm, hbm⟩ : ∃ bm, ChoP.measuredB x.key.kind = bm := ⟨_, rfl⟩
  rw [hbt, hbm] at hjoin
  have HLIE := Lib.hid hlie
  have HIN := Lib.hid hr
  have HKT := Lib.hid hkt
  have HL := Lib.hid hL
  have HJ0 : Hid (∀ (W : World) (base : Nat) (v : Value), Words W base v ([KT] ++ (if bt = true then [[97, 116], Lib.itoa x.t] else []) ++ (if bm = true then [Lib.itoa x.d] else []) ++ x.args.map Lib.itoa) → Calls Tryz.prog 63 #[v, .string ⟨#[32]⟩] W (StrPost T W)) := Lib.hid hjoin
  have HBT := Lib.hid hbt
  have HBM := Lib.hid hbm
  clear e1 e2 hK ej hjoin hkt hlie hr hL hbt hbm hrow h hrn hlw hkey hlen
  generalize x.key.kind = kd at *
  generalize x.key.a = ka at *
  generalize x.key.b = kb at *
  generalize x.key.n = kn at *
  generalize x.t = tt at *
  generalize x.d = td at *
  generalize r.p = rp at *
  generalize r.c = rc at *
  go_enter Tryz.func57, Tryz.ntmps57
  go_wp2_with fail
  refine (HKT.out _ (HL.out.below ((Below.refl _ _).alloc (Nat.le_refl _) _))).mono ?_
  rintro e w1 ⟨rfl, hb⟩
  rw [World.size_alloc] at hb
  have hblk : w1.heap[w.heap.size]? = some (.cells #[.int .u8 kd, .int .i64 ka, .int .i64 kb, .int .i64 kn, .int .i64 tt, .int .i64 td, .slice rp x.args.length rc] 59 (0, 0)) := (hb.block _ (by omega)).trans (heap_alloc_new w _)
  have hB : Below w.heap.size w w1 := ((Below.refl w.heap.size w).alloc (Nat.le_refl _) _).trans (hb.mono (by omega))
  have hs1 : w.heap.size < w1.heap.size := by have := hb.size; simp at this; omega
  obtain ⟨⟨a0, a1, a2, a3, a4, a5, a6⟩, _⟩ := blk7 hblk
  have HB := Lib.hid hB
  have HBLK := Lib.hid hblk
  clear hb hB hblk HKT
  go_wp2_with fail
  clear a0 a1 a2 a3 a4 a5 a6
  have hk3 : KSt w (w1.alloc (.cells #[strV KT] 9)) #[.int .u8 kd, .int .i64 ka, .int .i64 kb, .int .i64 kn, .int .i64 tt, .int .i64 td, .slice rp x.args.length rc] 59 (.slice (some ⟨w1.heap.size, 0, none⟩) 1 1) [KT] :=
    ⟨HB.out.alloc (by omega) _, (HL.out.below HB.out).below ((Below.refl _ _).alloc (Nat.le_refl _) _), (Below.heap_alloc _ _ _ (by omega)).trans HBLK.out, words_new w1 (w.heap.size + 1) [KT] (by omega) (by simp), by simp; omega, HL.out.low⟩
  generalize w1.alloc (.cells #[strV KT] 9) = w3 at *
  have HK3 := Lib.hid hk3
  generalize (Value.slice (some ⟨w1.heap.size, 0, none⟩) 1 1) = v3 at *
  clear hk3 HB HBLK hs1 HL
  refine (timed_any _ _).mono ?_
  rintro e w' ⟨rfl, rfl⟩
  rw [HBT.out]
  obtain ⟨⟨a0, a1, a2, a3, a4, a5, a6⟩, _⟩ := blk7 HK3.out.blk
  cases bt
  · cases bm
    · have _ := trivial
      go_wp2_with fail
      refine (measured_any _ _).mono ?_
      rintro e w' ⟨rfl, rfl⟩
      rw [HBM.out]
      go_wp2_with fail
      have HJ : Hid (∀ (W : World) (base : Nat) (v : Value), Words W base v (([KT]) ++ x.args.map Lib.itoa) → Calls Tryz.prog 63 #[v, .string ⟨#[32]⟩] W (StrPost T W)) := Lib.hid (fun W base v hw => HJ0.out W base v (by simpa using hw))
      clear HJ0
      generalize hx0 : [KT] = X0 at *
      have hx1 : X0.length ≤ 4 := by rw [← hx0]; simp
      have hx2 : 1 ≤ X0.length := by rw [← hx0]; simp
      clear hx0
      go_loopw [3, 33] (fun v i wr => ∃ k : Nat, k ≤ x.args.length ∧ i = .int .i64 k ∧ KSt w wr #[.int .u8 kd, .int .i64 ka, .int .i64 kb, .int .i64 kn, .int .i64 tt, .int .i64 td, .slice rp x.args.length rc] 59 v (X0 ++ (x.args.take k).map Lib.itoa)) (fun _ i _ => x.args.length - (intOf i).toNat)
      case atStart => exact ⟨0, Nat.zero_le _, rfl, by simpa using HK3.out⟩
      case round =>
        obtain ⟨k, hk, rfl, hks⟩ := hrel
        have HKS := Lib.hid hks
        clear hks a0 a1 a2 a3 a4 a5 a6
        by_cases hlt : k < x.args.length
        · obtain ⟨z, hz⟩ : ∃ z, x.args[k]? = some z := ⟨_, List.getElem?_eq_getElem hlt⟩
          have hzr := HIN.out z (List.mem_of_getElem? hz)
          obtain ⟨hzl, hzh⟩ := hzr
          obtain ⟨b, o, rfl, hbl, hc⟩ := HLIE.out.at_ k (.int .i64 z) (by simp [intV, hz])
          have hcell : wr.cell? ⟨b, o + k, none⟩ = some (.int .i64 z) := (HKS.out.below.cell (p := ⟨b, o + k, none⟩) hbl).trans hc
          have HZ := Lib.hid hz
          have hxl : (X0 ++ (x.args.take k).map Lib.itoa).length = X0.length + k := by simp; omega
          generalize hXK : X0 ++ (x.args.take k).map Lib.itoa = XK at *
          have HXK := Lib.hid hXK
          have HXL := Lib.hid hxl
          clear hz hc hxl hXK
          go_wp2_with fail
          refine (formatInt_any z wr HKS.out.laid (by omega) (by omega)).mono ?_
          rintro e w6 ⟨rfl, hb⟩
          have HK6 := Lib.hid (HKS.out.call hb)
          clear hb
          go_wp2_with (at_builtin; refine wpList_append_own _ rfl _ _ 83 rfl (w.heap.size + 1) 9 i0 _ 1 16 Tryz.underlying83 hi0 hz0 hz1 hz2 rfl (by decide) _ _ _ rfl (HK6.out.words.alloc _) ⟨w6.heap.size, 0, none⟩ 1 1 (strs [Lib.itoa z]) rfl rfl ?c1 (strs_one _) ?c3 ?c4 ?c5 ?_)
          case c1 => exact cells_new w6 (strs [Lib.itoa z]) 9
          case c3 => rw [HXL.out]; unfold maxLen; omega
          case c4 => rw [HXL.out]; omega
          case c5 => have := HK6.out.size; simp; omega
          intro v7 w7 hown hgrow _
          have HK7 := Lib.hid (HK6.out.app (ys := [Lib.itoa z]) hgrow hown)
          clear hown hgrow
          go_wp2_with fail
          go_roundw
          case rel => exact ⟨k + 1, by omega, by go_num, by rw [List.take_add_one, HZ.out, List.map_append, ← List.append_assoc, HXK.out]; exact HK7.out⟩
          case measure => simp [intOf]; omega
        · obtain rfl : k = x.args.length := by omega
          go_wp2_with fail
          refine (HJ.out _ _ _ (by have := HKS.out.words; rw [List.take_length] at this; exact this)).mono ?_
          rintro e w9 ⟨rfl, hb⟩
          have HB9 := Lib.hid hb
          clear hb
          go_wp2_with fail
          go_ret
          exact ⟨rfl, HKS.out.below.trans (HB9.out.mono HKS.out.below.size)⟩
    · have _ := trivial
      go_wp2_with fail
      refine (measured_any _ _).mono ?_
      rintro e w' ⟨rfl, rfl⟩
      rw [HBM.out]
      go_wp2_with fail
      clear a0 a1 a2 a3 a4 a5 a6
      refine (itoa_any td w3 HK3.out.laid (by omega) (by omega)).mono ?_
      rintro e wm ⟨rfl, hb⟩
      have HKm := Lib.hid (HK3.out.call hb)
      clear hb
      go_wp2_with (at_builtin; refine wpList_append_own _ rfl _ _ 83 rfl (w.heap.size + 1) 9 i0 _ 1 16 Tryz.underlying83 hi0 hz0 hz1 hz2 rfl (by decide) _ _ _ rfl (HKm.out.words.alloc _) ⟨wm.heap.size, 0, none⟩ 1 1 (strs [Lib.itoa td]) rfl rfl ?c1 (strs_one _) ?c3 ?c4 ?c5 ?_)
      case c1 => exact cells_new wm (strs [Lib.itoa td]) 9
      case c3 => unfold maxLen; simp; try omega
      case c4 => simp; try omega
      case c5 => have := HKm.out.size; simp; omega
      intro vn wn hown hgrow _
      have HKn := Lib.hid (HKm.out.app (ys := [Lib.itoa td]) hgrow hown)
      clear hown hgrow
      have HJ : Hid (∀ (W : World) (base : Nat) (v : Value), Words W base v (([KT] ++ [Lib.itoa td]) ++ x.args.map Lib.itoa) → Calls Tryz.prog 63 #[v, .string ⟨#[32]⟩] W (StrPost T W)) := Lib.hid (fun W base v hw => HJ0.out W base v (by simpa using hw))
      clear HJ0
      generalize hx0 : [KT] ++ [Lib.itoa td] = X0 at *
      have hx1 : X0.length ≤ 4 := by rw [← hx0]; simp
      have hx2 : 1 ≤ X0.length := by rw [← hx0]; simp
      clear hx0
      obtain ⟨⟨a0, a1, a2, a3, a4, a5, a6⟩, _⟩ := blk7 HKn.out.blk
      go_wp2_with fail
      go_loopw [3, 33] (fun v i wr => ∃ k : Nat, k ≤ x.args.length ∧ i = .int .i64 k ∧ KSt w wr #[.int .u8 kd, .int .i64 ka, .int .i64 kb, .int .i64 kn, .int .i64 tt, .int .i64 td, .slice rp x.args.length rc] 59 v (X0 ++ (x.args.take k).map Lib.itoa)) (fun _ i _ => x.args.length - (intOf i).toNat)
      case atStart => exact ⟨0, Nat.zero_le _, rfl, by simpa using HKn.out⟩
      case round =>
        obtain ⟨k, hk, rfl, hks⟩ := hrel
        have HKS := Lib.hid hks
        clear hks a0 a1 a2 a3 a4 a5 a6
        by_cases hlt : k < x.args.length
        · obtain ⟨z, hz⟩ : ∃ z, x.args[k]? = some z := ⟨_, List.getElem?_eq_getElem hlt⟩
          have hzr := HIN.out z (List.mem_of_getElem? hz)
          obtain ⟨hzl, hzh⟩ := hzr
          obtain ⟨b, o, rfl, hbl, hc⟩ := HLIE.out.at_ k (.int .i64 z) (by simp [intV, hz])
          have hcell : wr.cell? ⟨b, o + k, none⟩ = some (.int .i64 z) := (HKS.out.below.cell (p := ⟨b, o + k, none⟩) hbl).trans hc
          have HZ := Lib.hid hz
          have hxl : (X0 ++ (x.args.take k).map Lib.itoa).length = X0.length + k := by simp; omega
          generalize hXK : X0 ++ (x.args.take k).map Lib.itoa = XK at *
          have HXK := Lib.hid hXK
          have HXL := Lib.hid hxl
          clear hz hc hxl hXK
          go_wp2_with fail
          refine (formatInt_any z wr HKS.out.laid (by omega) (by omega)).mono ?_
          rintro e w6 ⟨rfl, hb⟩
          have HK6 := Lib.hid (HKS.out.call hb)
          clear hb
          go_wp2_with (at_builtin; refine wpList_append_own _ rfl _ _ 83 rfl (w.heap.size + 1) 9 i0 _ 1 16 Tryz.underlying83 hi0 hz0 hz1 hz2 rfl (by decide) _ _ _ rfl (HK6.out.words.alloc _) ⟨w6.heap.size, 0, none⟩ 1 1 (strs [Lib.itoa z]) rfl rfl ?c1 (strs_one _) ?c3 ?c4 ?c5 ?_)
          case c1 => exact cells_new w6 (strs [Lib.itoa z]) 9
          case c3 => rw [HXL.out]; unfold maxLen; omega
          case c4 => rw [HXL.out]; omega
          case c5 => have := HK6.out.size; simp; omega
          intro v7 w7 hown hgrow _
          have HK7 := Lib.hid (HK6.out.app (ys := [Lib.itoa z]) hgrow hown)
          clear hown hgrow
          go_wp2_with fail
          go_roundw
          case rel => exact ⟨k + 1, by omega, by go_num, by rw [List.take_add_one, HZ.out, List.map_append, ← List.append_assoc, HXK.out]; exact HK7.out⟩
          case measure => simp [intOf]; omega
        · obtain rfl : k = x.args.length := by omega
          go_wp2_with fail
          refine (HJ.out _ _ _ (by have := HKS.out.words; rw [List.take_length] at this; exact this)).mono ?_
          rintro e w9 ⟨rfl, hb⟩
          have HB9 := Lib.hid hb
          clear hb
          go_wp2_with fail
          go_ret
          exact ⟨rfl, HKS.out.below.trans (HB9.out.mono HKS.out.below.size)⟩
  · cases bm
    · have _ := trivial
      go_wp2_with fail
      clear a0 a1 a2 a3 a4 a5 a6
      refine (itoa_any tt w3 HK3.out.laid (by omega) (by omega)).mono ?_
      rintro e w4 ⟨rfl, hb⟩
      have HK4 := Lib.hid (HK3.out.call hb)
      clear hb
      go_wp2_with (at_builtin; refine wpList_append_own _ rfl _ _ 83 rfl (w.heap.size + 1) 9 i0 _ 1 16 Tryz.underlying83 hi0 hz0 hz1 hz2 rfl (by decide) _ _ _ rfl (HK4.out.words.alloc _) ⟨w4.heap.size, 0, none⟩ 2 2 (strs [[97, 116], Lib.itoa tt]) rfl rfl ?c1 (strs_one _) ?c3 ?c4 ?c5 ?_)
      case c1 => exact cells_new w4 (strs [[97, 116], Lib.itoa tt]) 9
      case c3 => unfold maxLen; simp; try omega
      case c4 => simp; try omega
      case c5 => have := HK4.out.size; simp; omega
      intro v5 w5 hown hgrow _
      have HK5 := Lib.hid (HK4.out.app (ys := [[97, 116], Lib.itoa tt]) hgrow hown)
      clear hown hgrow
      obtain ⟨⟨a0, a1, a2, a3, a4, a5, a6⟩, _⟩ := blk7 HK5.out.blk
      go_wp2_with fail
      refine (measured_any _ _).mono ?_
      rintro e w' ⟨rfl, rfl⟩
      rw [HBM.out]
      go_wp2_with fail
      have HJ : Hid (∀ (W : World) (base : Nat) (v : Value), Words W base v (([KT] ++ [[97, 116], Lib.itoa tt]) ++ x.args.map Lib.itoa) → Calls Tryz.prog 63 #[v, .string ⟨#[32]⟩] W (StrPost T W)) := Lib.hid (fun W base v hw => HJ0.out W base v (by simpa using hw))
      clear HJ0
      generalize hx0 : [KT] ++ [[97, 116], Lib.itoa tt] = X0 at *
      have hx1 : X0.length ≤ 4 := by rw [← hx0]; simp
      have hx2 : 1 ≤ X0.length := by rw [← hx0]; simp
      clear hx0
      go_loopw [3, 33] (fun v i wr => ∃ k : Nat, k ≤ x.args.length ∧ i = .int .i64 k ∧ KSt w wr #[.int .u8 kd, .int .i64 ka, .int .i64 kb, .int .i64 kn, .int .i64 tt, .int .i64 td, .slice rp x.args.length rc] 59 v (X0 ++ (x.args.take k).map Lib.itoa)) (fun _ i _ => x.args.length - (intOf i).toNat)
      case atStart => exact ⟨0, Nat.zero_le _, rfl, by simpa using HK5.out⟩
      case round =>
        obtain ⟨k, hk, rfl, hks⟩ := hrel
        have HKS := Lib.hid hks
        clear hks a0 a1 a2 a3 a4 a5 a6
        by_cases hlt : k < x.args.length
        · obtain ⟨z, hz⟩ : ∃ z, x.args[k]? = some z := ⟨_, List.getElem?_eq_getElem hlt⟩
          have hzr := HIN.out z (List.mem_of_getElem? hz)
          obtain ⟨hzl, hzh⟩ := hzr
          obtain ⟨b, o, rfl, hbl, hc⟩ := HLIE.out.at_ k (.int .i64 z) (by simp [intV, hz])
          have hcell : wr.cell? ⟨b, o + k, none⟩ = some (.int .i64 z) := (HKS.out.below.cell (p := ⟨b, o + k, none⟩) hbl).trans hc
          have HZ := Lib.hid hz
          have hxl : (X0 ++ (x.args.take k).map Lib.itoa).length = X0.length + k := by simp; omega
          generalize hXK : X0 ++ (x.args.take k).map Lib.itoa = XK at *
          have HXK := Lib.hid hXK
          have HXL := Lib.hid hxl
          clear hz hc hxl hXK
          go_wp2_with fail
          refine (formatInt_any z wr HKS.out.laid (by omega) (by omega)).mono ?_
          rintro e w6 ⟨rfl, hb⟩
          have HK6 := Lib.hid (HKS.out.call hb)
          clear hb
          go_wp2_with (at_builtin; refine wpList_append_own _ rfl _ _ 83 rfl (w.heap.size + 1) 9 i0 _ 1 16 Tryz.underlying83 hi0 hz0 hz1 hz2 rfl (by decide) _ _ _ rfl (HK6.out.words.alloc _) ⟨w6.heap.size, 0, none⟩ 1 1 (strs [Lib.itoa z]) rfl rfl ?c1 (strs_one _) ?c3 ?c4 ?c5 ?_)
          case c1 => exact cells_new w6 (strs [Lib.itoa z]) 9
          case c3 => rw [HXL.out]; unfold maxLen; omega
          case c4 => rw [HXL.out]; omega
          case c5 => have := HK6.out.size; simp; omega
          intro v7 w7 hown hgrow _
          have HK7 := Lib.hid (HK6.out.app (ys := [Lib.itoa z]) hgrow hown)
          clear hown hgrow
          go_wp2_with fail
          go_roundw
          case rel => exact ⟨k + 1, by omega, by go_num, by rw [List.take_add_one, HZ.out, List.map_append, ← List.append_assoc, HXK.out]; exact HK7.out⟩
          case measure => simp [intOf]; omega
        · obtain rfl : k = x.args.length := by omega
          go_wp2_with fail
          refine (HJ.out _ _ _ (by have := HKS.out.words; rw [List.take_length] at this; exact this)).mono ?_
          rintro e w9 ⟨rfl, hb⟩
          have HB9 := Lib.hid hb
          clear hb
          go_wp2_with fail
          go_ret
          exact ⟨rfl, HKS.out.below.trans (HB9.out.mono HKS.out.below.size)⟩
    · have _ := trivial
      go_wp2_with fail
      clear a0 a1 a2 a3 a4 a5 a6
      refine (itoa_any tt w3 HK3.out.laid (by omega) (by omega)).mono ?_
      rintro e w4 ⟨rfl, hb⟩
      have HK4 := Lib.hid (HK3.out.call hb)
      clear hb
      go_wp2_with (at_builtin; refine wpList_append_own _ rfl _ _ 83 rfl (w.heap.size + 1) 9 i0 _ 1 16 Tryz.underlying83 hi0 hz0 hz1 hz2 rfl (by decide) _ _ _ rfl (HK4.out.words.alloc _) ⟨w4.heap.size, 0, none⟩ 2 2 (strs [[97, 116], Lib.itoa tt]) rfl rfl ?c1 (strs_one _) ?c3 ?c4 ?c5 ?_)
      case c1 => exact cells_new w4 (strs [[97, 116], Lib.itoa tt]) 9
      case c3 => unfold maxLen; simp; try omega
      case c4 => simp; try omega
      case c5 => have := HK4.out.size; simp; omega
      intro v5 w5 hown hgrow _
      have HK5 := Lib.hid (HK4.out.app (ys := [[97, 116], Lib.itoa tt]) hgrow hown)
      clear hown hgrow
      obtain ⟨⟨a0, a1, a2, a3, a4, a5, a6⟩, _⟩ := blk7 HK5.out.blk
      go_wp2_with fail
      refine (measured_any _ _).mono ?_
      rintro e w' ⟨rfl, rfl⟩
      rw [HBM.out]
      go_wp2_with fail
      clear a0 a1 a2 a3 a4 a5 a6
      refine (itoa_any td w5 HK5.out.laid (by omega) (by omega)).mono ?_
      rintro e wm ⟨rfl, hb⟩
      have HKm := Lib.hid (HK5.out.call hb)
      clear hb
      go_wp2_with (at_builtin; refine wpList_append_own _ rfl _ _ 83 rfl (w.heap.size + 1) 9 i0 _ 1 16 Tryz.underlying83 hi0 hz0 hz1 hz2 rfl (by decide) _ _ _ rfl (HKm.out.words.alloc _) ⟨wm.heap.size, 0, none⟩ 1 1 (strs [Lib.itoa td]) rfl rfl ?c1 (strs_one _) ?c3 ?c4 ?c5 ?_)
      case c1 => exact cells_new wm (strs [Lib.itoa td]) 9
      case c3 => unfold maxLen; simp; try omega
      case c4 => simp; try omega
      case c5 => have := HKm.out.size; simp; omega
      intro vn wn hown hgrow _
      have HKn := Lib.hid (HKm.out.app (ys := [Lib.itoa td]) hgrow hown)
      clear hown hgrow
      have HJ : Hid (∀ (W : World) (base : Nat) (v : Value), Words W base v (([KT] ++ [[97, 116], Lib.itoa tt] ++ [Lib.itoa td]) ++ x.args.map Lib.itoa) → Calls Tryz.prog 63 #[v, .string ⟨#[32]⟩] W (StrPost T W)) := Lib.hid (fun W base v hw => HJ0.out W base v (by simpa using hw))
      clear HJ0
      generalize hx0 : [KT] ++ [[97, 116], Lib.itoa tt] ++ [Lib.itoa td] = X0 at *
      have hx1 : X0.length ≤ 4 := by rw [← hx0]; simp
      have hx2 : 1 ≤ X0.length := by rw [← hx0]; simp
      clear hx0
      obtain ⟨⟨a0, a1, a2, a3, a4, a5, a6⟩, _⟩ := blk7 HKn.out.blk
      go_wp2_with fail
      go_loopw [3, 33] (fun v i wr => ∃ k : Nat, k ≤ x.args.length ∧ i = .int .i64 k ∧ KSt w wr #[.int .u8 kd, .int .i64 ka, .int .i64 kb, .int .i64 kn, .int .i64 tt, .int .i64 td, .slice rp x.args.length rc] 59 v (X0 ++ (x.args.take k).map Lib.itoa)) (fun _ i _ => x.args.length - (intOf i).toNat)
      case atStart => exact ⟨0, Nat.zero_le _, rfl, by simpa using HKn.out⟩
      case round =>
        obtain ⟨k, hk, rfl, hks⟩ := hrel
        have HKS := Lib.hid hks
        clear hks a0 a1 a2 a3 a4 a5 a6
        by_cases hlt : k < x.args.length
        · obtain ⟨z, hz⟩ : ∃ z, x.args[k]? = some z := ⟨_, List.getElem?_eq_getElem hlt⟩
          have hzr := HIN.out z (List.mem_of_getElem? hz)
          obtain ⟨hzl, hzh⟩ := hzr
          obtain ⟨b, o, rfl, hbl, hc⟩ := HLIE.out.at_ k (.int .i64 z) (by simp [intV, hz])
          have hcell : wr.cell? ⟨b, o + k, none⟩ = some (.int .i64 z) := (HKS.out.below.cell (p := ⟨b, o + k, none⟩) hbl).trans hc
          have HZ := Lib.hid hz
          have hxl : (X0 ++ (x.args.take k).map Lib.itoa).length = X0.length + k := by simp; omega
          generalize hXK : X0 ++ (x.args.take k).map Lib.itoa = XK at *
          have HXK := Lib.hid hXK
          have HXL := Lib.hid hxl
          clear hz hc hxl hXK
          go_wp2_with fail
          refine (formatInt_any z wr HKS.out.laid (by omega) (by omega)).mono ?_
          rintro e w6 ⟨rfl, hb⟩
          have HK6 := Lib.hid (HKS.out.call hb)
          clear hb
          go_wp2_with (at_builtin; refine wpList_append_own _ rfl _ _ 83 rfl (w.heap.size + 1) 9 i0 _ 1 16 Tryz.underlying83 hi0 hz0 hz1 hz2 rfl (by decide) _ _ _ rfl (HK6.out.words.alloc _) ⟨w6.heap.size, 0, none⟩ 1 1 (strs [Lib.itoa z]) rfl rfl ?c1 (strs_one _) ?c3 ?c4 ?c5 ?_)
          case c1 => exact cells_new w6 (strs [Lib.itoa z]) 9
          case c3 => rw [HXL.out]; unfold maxLen; omega
          case c4 => rw [HXL.out]; omega
          case c5 => have := HK6.out.size; simp; omega
          intro v7 w7 hown hgrow _
          have HK7 := Lib.hid (HK6.out.app (ys := [Lib.itoa z]) hgrow hown)
          clear hown hgrow
          go_wp2_with fail
          go_roundw
          case rel => exact ⟨k + 1, by omega, by go_num, by rw [List.take_add_one, HZ.out, List.map_append, ← List.append_assoc, HXK.out]; exact HK7.out⟩
          case measure => simp [intOf]; omega
        · obtain rfl : k = x.args.length := by omega
          go_wp2_with fail
          refine (HJ.out _ _ _ (by have := HKS.out.words; rw [List.take_length] at this; exact this)).mono ?_
          rintro e w9 ⟨rfl, hb⟩
          have HB9 := Lib.hid hb
          clear hb
          go_wp2_with fail
          go_ret
          exact ⟨rfl, HKS.out.below.trans (HB9.out.mono HKS.out.below.size)⟩
end Go.Proofs.YtpniilgkceadeaaGreatDoor
