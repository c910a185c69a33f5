/- KeyText of a valid key. -/
import Derived.Test.YtpniilgkceadeaaGreatDoorChoWords
import Derived.Test.YtpniilgkceadeaaGreatDoorChoValid
import Derived.StillTailTactics
namespace ChoP
theorem keyOK_bounds {k : Key} (h : keyOK k = true) : (1 ≤ k.kind ∧ k.kind ≤ 9) ∧ (0 ≤ k.a ∧ k.a ≤ 7) ∧ (0 ≤ k.b ∧ k.b ≤ 7) ∧ (0 ≤ k.n ∧ k.n ≤ 65535) := by
  unfold keyOK inB at h
  simp only [Bool.and_eq_true, decide_eq_true_eq] at h
  refine ⟨h.1.1.1, h.1.1.2, ⟨h.1.2.1, ?_⟩, h.2⟩
  have := h.1.2.2
  split at this <;> omega
theorem word_len (k : Nat) : (words.getD k []).length ≤ 21 := by
  by_cases h : k < words.length
  · have : ∀ x ∈ words, x.length ≤ 21 := by decide
    exact this _ (by rw [List.getD_eq_getElem?_getD, List.getElem?_eq_getElem h]; exact List.getElem_mem h)
  · rw [List.getD_eq_getElem?_getD, List.getElem?_eq_none (by omega)]; simp
theorem keyWords_le {k : Key} (h : keyOK k = true) : ∀ x ∈ keyWords k, x.length ≤ 21 := by
  obtain ⟨_, h1, h2, h3⟩ := keyOK_bounds h
  intro x hx
  unfold keyWords at hx
  simp only [List.mem_append, List.mem_cons, List.not_mem_nil, or_false] at hx
  rcases hx with ((rfl | rfl) | hx) | rfl
  · exact word_len _
  · exact Go.Lib.itoa_length_le _ (by omega) (by omega)
  · split at hx
    · simp at hx; rw [hx]; exact Go.Lib.itoa_length_le _ (by omega) (by omega)
    · simp at hx
  · exact Go.Lib.itoa_length_le _ (by omega) (by omega)
theorem keyWords_len (k : Key) : (keyWords k).length ≤ 4 ∧ 3 ≤ (keyWords k).length := by
  unfold keyWords
  split <;> simp
end ChoP
namespace Go.Proofs.YtpniilgkceadeaaGreatDoor
open Go.RowKit
theorem pair_any (k : Int) (w : World) : Calls Tryz.prog 62 #[.int .u8 k] w fun e w' => e = .returned (.bool (ChoP.pairB k)) ∧ w = w' := by
  cases h1 : (k == 1) <;> cases h2 : (k == 5) <;> cases h3 : (k == 6) <;> cases h4 : (k == 7)
  all_goals
    (go_enter Tryz.func62, Tryz.ntmps62
     go_wp2
     go_ret
     exact ⟨by simp [ChoP.pairB, h1, h2, h3, h4], rfl⟩)
theorem keyText_le {k : ChoP.Key} (h : ChoP.keyOK k = true) : (ChoP.keyText k).length ≤ 88 := by
  have h1 := join_le 21 _ (ChoP.keyWords_le h)
  have h2 := (ChoP.keyWords_len k).1
  unfold ChoP.keyText
  omega
/-- a boxed key's cells after a call that changed nothing -/
theorem box4 {w w1 : World} {v0 v1 v2 v3 : Value} {T : TypeId} (hb : Below (w.alloc (.cells #[v0, v1, v2, v3] T)).heap.size (w.alloc (.cells #[v0, v1, v2, v3] T)) w1) :
    Below w.heap.size w w1 ∧ w.heap.size + 1 ≤ w1.heap.size ∧ w1.heap[w.heap.size]? = some (.cells #[v0, v1, v2, v3] T (0, 0)) := by
  have h := heap_alloc_new w (.cells #[v0, v1, v2, v3] T)
  rw [World.size_alloc] at hb
  have hs := hb.size
  rw [World.size_alloc] at hs
  exact ⟨((Below.refl w.heap.size w).alloc (Nat.le_refl _) _).trans (hb.mono (by omega)), hs, (hb.block _ (by omega)).trans h⟩
theorem blk4 {w : World} {b : Nat} {v0 v1 v2 v3 : Value} {t : TypeId} (h : w.heap[b]? = some (.cells #[v0, v1, v2, v3] t (0, 0))) :
    w.cell? ⟨b, 0, none⟩ = some v0 ∧ w.cell? ⟨b, 1, none⟩ = some v1 ∧ w.cell? ⟨b, 2, none⟩ = some v2 ∧ w.cell? ⟨b, 3, none⟩ = some v3 :=
  ⟨cell_at h 0 _ rfl, cell_at h 1 _ rfl, cell_at h 2 _ rfl, cell_at h 3 _ rfl⟩
/-- in the midst of writing words: what lay below stands, the box holds its cells, the words so far -/
structure KSt (w wx : World) (cs : Array Value) (T : TypeId) (v : Value) (xs : List (List UInt8)) : Prop where
  below : Below w.heap.size w wx
  laid : Laid wx
  blk : wx.heap[w.heap.size]? = some (.cells cs T (0, 0))
  words : Words wx (w.heap.size + 1) v xs
  size : w.heap.size + 1 ≤ wx.heap.size
  low : Low w.heap.size
theorem KSt.call {w wx wy : World} {cs : Array Value} {T : TypeId} {v : Value} {xs : List (List UInt8)} (h : KSt w wx cs T v xs) (hb : Below wx.heap.size wx wy) : KSt w wy cs T v xs :=
  ⟨h.below.trans (hb.mono h.below.size), h.laid.below hb, (hb.block _ (by have := h.size; omega)).trans h.blk, h.words.below hb, Nat.le_trans h.size hb.size, h.low⟩
theorem KSt.app {w wx wy : World} {cs : Array Value} {T : TypeId} {v v' : Value} {xs ys : List (List UInt8)} {o : Obj} (h : KSt w wx cs T v xs) (hg : (wx.alloc o).grownBy wy v.ownBlock) (hown : wy.ownsRow (w.heap.size + 1) 9 1 v' (xs.length + ys.length) (strs xs ++ strs ys)) : KSt w wy cs T v' (xs ++ ys) := by
  have hge := own_ge h.words
  have hsz := hg.size
  rw [World.size_alloc] at hsz
  have h0 := h.size
  have hb : Below (w.heap.size + 1) wx wy := ((Below.refl (w.heap.size + 1) wx).alloc h0 o).grown hg (by simp; omega) hge
  refine ⟨h.below.trans (hb.mono (by omega)), ?_, (hb.block _ (by omega)).trans h.blk, ?_, by omega, h.low⟩
  · exact h.laid.keep (h.low.mono (by omega)) hb
  · unfold Words
    rw [List.length_append]
    simpa [strs] using hown
set_option maxRecDepth 100000 in
set_option maxHeartbeats 1000000 in
theorem keyText_any (k : ChoP.Key) (w : World) (hL : Laid w) (h : ChoP.keyOK k = true) : Calls Tryz.prog 24 #[keyV k] w (StrPost (ChoP.keyText k) w) := by
  obtain ⟨i0, hi0, hz0, hz1, hz2⟩ := info_parts info_str
  have hlen := keyText_le h
  have hkw := ChoP.keyWords_len k
  have hck := fun W => checkKey_any k W
  have : errK k = 0 := by unfold errK; rw [h]; rfl
  rw [this] at hck
  clear this
  obtain ⟨⟨b1, b2⟩, ⟨b3, b4⟩, ⟨b5, b6⟩, b7, b8⟩ := ChoP.keyOK_bounds h
  have hjoin := fun W base v h1 h2 h3 => join_words W base v (ChoP.keyWords k) h1 h2 h3 (by show (ChoP.keyText k).length ≤ _; omega)
  have ej : Lib.join (ChoP.keyWords k) [32] = ChoP.keyText k := rfl
  rw [ej] at hjoin
  generalize ChoP.keyText k = T at *
  have hK : ChoP.keyWords k = [ChoP.words.getD k.kind.toNat [], Lib.itoa k.a] ++ (if ChoP.pairB k.kind = true then [Lib.itoa k.b] else []) ++ [Lib.itoa k.n] := rfl
  rw [hK] at hjoin hkw
  have hwd := fun W (hL : Laid W) => hL.word k.kind.toNat (by omega)
  generalize ChoP.words.getD k.kind.toNat [] = wd at *
  have e1 : keyV k = .agg #[.int .u8 k.kind, .int .i64 k.a, .int .i64 k.b, .int .i64 k.n] := rfl
  rw [e1] at hck
  rw [e1]
  clear e1 hK ej h
  generalize k.kind = kd at *
  generalize k.a = ka at *
  generalize k.b = kb at *
  generalize k.n = kn at *
  obtain ⟨kn', rfl⟩ := Int.eq_ofNat_of_zero_le (show 0 ≤ kd by omega)
  rw [Int.toNat_natCast] at hwd
  have HC := Lib.hid hck
  have HL := Lib.hid hL
  have HJ := Lib.hid hjoin
  have HW := Lib.hid hwd
  have HKW := Lib.hid hkw
  clear hck hL hjoin hwd hkw
  have hia := fun W => itoa_small ka W b3 (by omega)
  have HIA := Lib.hid hia
  clear hia
  go_enter Tryz.func24, Tryz.ntmps24
  go_wp2_with fail
  refine (HC.out _).mono ?_
  rintro e w1 ⟨rfl, hb⟩
  obtain ⟨hB, hs1, hblk⟩ := box4 hb
  obtain ⟨k0, k1, k2, k3⟩ := blk4 hblk
  have hL1 := HL.out.below hB
  have g0 := HW.out w1 hL1
  have HB := Lib.hid hB
  have HL1 := Lib.hid hL1
  have HBLK := Lib.hid hblk
  clear hb hB hL1 hblk
  have hi1 : (0 : Int) ≤ (kn' : Int) := by omega
  have hi2 : (kn' : Int) < 10 := by omega
  go_wp2_with fail
  go_still_tail 7, (by kernel_rfl)
  still_call (HIA.out _)
  try refine wpStill_nil ?_
  change wpList _ _ _ _ _ w1.drew
  have HB2 : Hid (Below w.heap.size w w1.drew) := Lib.hid ⟨HB.out.os, HB.out.tape, HB.out.output, HB.out.size, HB.out.block⟩
  have HL2 : Hid (Laid w1.drew) := HL1
  have HBLK2 : Hid (w1.drew.heap[w.heap.size]? = _) := HBLK
  have hs2 : w.heap.size + 1 ≤ w1.drew.heap.size := hs1
  generalize w1.drew = w2 at *
  clear k0 k1 k2 k3 g0 HB HL1 HBLK hs1 HIA
  obtain ⟨k0, k1, k2, k3⟩ := blk4 HBLK2.out
  have hs3 : w.heap.size < w2.heap.size := by omega
  go_wp2_with fail
  clear k0 k1 k2 k3
  have hk3 : KSt w (w2.alloc (.cells #[strV wd, strV (Lib.itoa ka)] 9)) #[.int .u8 (kn' : Int), .int .i64 ka, .int .i64 kb, .int .i64 kn] 44 (.slice (some ⟨w2.heap.size, 0, none⟩) 2 2) [wd, Lib.itoa ka] :=
    ⟨HB2.out.alloc (by omega) _, HL2.out.below ((Below.refl _ _).alloc (Nat.le_refl _) _), (Below.heap_alloc _ _ _ (by omega)).trans HBLK2.out, words_new w2 (w.heap.size + 1) [wd, Lib.itoa ka] (by omega) (by simp), by simp; omega, HL.out.low⟩
  generalize w2.alloc (.cells #[strV wd, strV (Lib.itoa ka)] 9) = w3 at *
  have HK3 := Lib.hid hk3
  generalize (Value.slice (some ⟨w2.heap.size, 0, none⟩) 2 2) = v3 at *
  clear hk3 HB2 HL2 HBLK2 hs2 hs3
  refine (pair_any _ _).mono ?_
  rintro e w' ⟨rfl, rfl⟩
  obtain ⟨bp, hbp⟩ : ∃ bp, ChoP.pairB (kn' : Int) = bp := ⟨_, rfl⟩
  rw [hbp]
  obtain ⟨k0, k1, k2, k3⟩ := blk4 HK3.out.blk
  have HJ2 : Hid (∀ (W : World) (base : Nat) (v : Value), Words W base v ([wd, Lib.itoa ka] ++ (if bp = true then [Lib.itoa kb] else []) ++ [Lib.itoa kn]) → Calls Tryz.prog 63 #[v, .string ⟨#[32]⟩] W (StrPost T W)) := Lib.hid (fun W base v h1 => by
    have := HJ.out W base v (by rw [hbp]; exact h1)
    rw [hbp] at this
    exact this (by simp) (by cases bp <;> simp))
  clear hbp HJ HKW
  cases bp
  · go_wp2_with fail
    clear k0 k1 k2 k3
    refine (itoa_any kn w3 HK3.out.laid (by omega) (by omega)).mono ?_
    rintro e w4 ⟨rfl, hb⟩
    have HK4 := Lib.hid (HK3.out.call hb)
    clear hb
    go_wp2_with (at_builtin; refine wpList_append_own _ rfl _ _ 83 rfl (w.heap.size + 1) 9 i0 _ 1 16 Tryz.underlying83 hi0 hz0 hz1 hz2 rfl (by decide) _ _ _ rfl (HK4.out.words.alloc _) ⟨w4.heap.size, 0, none⟩ 1 1 (strs [Lib.itoa kn]) rfl rfl ?c1 (strs_one _) ?c3 ?c4 ?c5 ?_)
    case c1 => exact cells_new w4 (strs [Lib.itoa kn]) 9
    case c3 => unfold maxLen; simp
    case c4 => simp
    case c5 => have := HK4.out.size; simp; omega
    intro v5 w5 hown hgrow _
    have HK5 := Lib.hid (HK4.out.app (ys := [Lib.itoa kn]) hgrow hown)
    clear hown hgrow
    go_wp2_with fail
    refine (HJ2.out _ _ _ HK5.out.words).mono ?_
    rintro e w9 ⟨rfl, hb⟩
    have HB9 := Lib.hid hb
    clear hb
    go_wp2_with fail
    go_ret
    exact ⟨rfl, HK5.out.below.trans (HB9.out.mono HK5.out.below.size)⟩
  · go_wp2_with fail
    clear k0 k1 k2 k3
    refine (itoa_any kb w3 HK3.out.laid (by omega) (by omega)).mono ?_
    rintro e w4 ⟨rfl, hb⟩
    have HK4 := Lib.hid (HK3.out.call hb)
    clear hb
    go_wp2_with (at_builtin; refine wpList_append_own _ rfl _ _ 83 rfl (w.heap.size + 1) 9 i0 _ 1 16 Tryz.underlying83 hi0 hz0 hz1 hz2 rfl (by decide) _ _ _ rfl (HK4.out.words.alloc _) ⟨w4.heap.size, 0, none⟩ 1 1 (strs [Lib.itoa kb]) rfl rfl ?c1 (strs_one _) ?c3 ?c4 ?c5 ?_)
    case c1 => exact cells_new w4 (strs [Lib.itoa kb]) 9
    case c3 => unfold maxLen; simp
    case c4 => simp
    case c5 => have := HK4.out.size; simp; omega
    intro v5 w5 hown hgrow _
    have HK5 := Lib.hid (HK4.out.app (ys := [Lib.itoa kb]) hgrow hown)
    clear hown hgrow
    obtain ⟨k0, k1, k2, k3⟩ := blk4 HK5.out.blk
    go_wp2_with fail
    clear k0 k1 k2 k3
    refine (itoa_any kn w5 HK5.out.laid (by omega) (by omega)).mono ?_
    rintro e w6 ⟨rfl, hb⟩
    have HK6 := Lib.hid (HK5.out.call hb)
    clear hb
    go_wp2_with (at_builtin; refine wpList_append_own _ rfl _ _ 83 rfl (w.heap.size + 1) 9 i0 _ 1 16 Tryz.underlying83 hi0 hz0 hz1 hz2 rfl (by decide) _ _ _ rfl (HK6.out.words.alloc _) ⟨w6.heap.size, 0, none⟩ 1 1 (strs [Lib.itoa kn]) rfl rfl ?c1 (strs_one _) ?c3 ?c4 ?c5 ?_)
    case c1 => exact cells_new w6 (strs [Lib.itoa kn]) 9
    case c3 => unfold maxLen; simp
    case c4 => simp
    case c5 => have := HK6.out.size; simp; omega
    intro v7 w7 hown hgrow _
    have HK7 := Lib.hid (HK6.out.app (ys := [Lib.itoa kn]) hgrow hown)
    clear hown hgrow
    go_wp2_with fail
    refine (HJ2.out _ _ _ HK7.out.words).mono ?_
    rintro e w9 ⟨rfl, hb⟩
    have HB9 := Lib.hid hb
    clear hb
    go_wp2_with fail
    go_ret
    exact ⟨rfl, HK7.out.below.trans (HB9.out.mono HK7.out.below.size)⟩
end Go.Proofs.YtpniilgkceadeaaGreatDoor
