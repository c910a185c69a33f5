/- The walk of the law on tokens that are written with blanks between them. -/
import Derived.Test.YtdhllkbcheokfaaDoorLexJoinP
import Derived.Test.YtdhllkbcheokfaaDoorLexUtf
import Derived.Test.YtdhllkbcheokfaaDoorLexSame
import Derived.Test.YtdhllkbcheokfaaDoorLexValue
import Derived.RegionTactic
import Derived.Laws.Concat
namespace LexP
theorem lexB_size (s : ByteArray) : ∀ x ∈ lexB s, x.text.size ≤ s.size :=
  toksFrom_all s (fun x => x.text.size ≤ s.size) (fun off hoff => by
    have := readAt_bounds s off hoff
    show (s.extract off (off + (readAt s off).2)).size ≤ s.size
    simp; omega) _ _ (Nat.le_refl _)
/-- the text holds these tokens, each behind a separating text -/
def Joined (l : List Tok) (tx : List UInt8) : Prop := ∃ J : List (List UInt8 × Nat × List UInt8), (∀ x ∈ J, Sep x.1 ∧ Good x.2.1 x.2.2) ∧ tx = joinL J ∧ J.map (fun x => (x.2.1, x.2.2)) = l.map (fun x => (x.kind, x.text.data.toList))
theorem joinL_snoc : ∀ (J : List (List UInt8 × Nat × List UInt8)) (b : List UInt8) (kd : Nat) (t : List UInt8), joinL (J ++ [(b, kd, t)]) = joinL J ++ (b ++ t)
  | [], b, kd, t => by simp [joinL]
  | (b', kd', t') :: J, b, kd, t => by simp [joinL, joinL_snoc J b kd t]
theorem Joined.snoc {l : List Tok} {tx : List UInt8} (h : Joined l tx) (x : Tok) (b : List UInt8) (hs : Sep b) (hg : Good x.kind x.text.data.toList) : Joined (l ++ [x]) (tx ++ (b ++ x.text.data.toList)) := by
  obtain ⟨J, h1, h2, h3⟩ := h
  refine ⟨J ++ [(b, x.kind, x.text.data.toList)], fun y hy => ?_, by rw [joinL_snoc, h2], by simp [h3]⟩
  rcases List.mem_append.1 hy with h | h
  · exact h1 y h
  · simp at h; subst h; exact ⟨hs, hg⟩
theorem Joined.lex {l : List Tok} {s : ByteArray} (h : Joined l s.data.toList) : (lexB s).map (fun x => (x.kind, x.text.data.toList)) = l.map (fun x => (x.kind, x.text.data.toList)) := by
  obtain ⟨J, h1, h2, h3⟩ := h
  rw [lex_join s J h1 h2, h3]
end LexP
namespace Go.Proofs.YtdhllkbcheokfaaDoor
open Go.RowKit Go.Shelf
set_option maxRecDepth 100000 in
set_option maxHeartbeats 4000000 in
theorem lexerJoins_walk (s : ByteArray) (ba : Option Addr) (bl bc : Nat) (w : World) (hL : Laid w) (hs : s.size ≤ 140737488351232) (hbl0 : bl ≤ 9223372036854775807)
    (hbl : ∀ k, k < bl → ∃ (b off : Nat) (z : Int), ba = some ⟨b, off, none⟩ ∧ b < w.heap.size ∧ w.cell? ⟨b, off + k, none⟩ = some (.int .u8 z) ∧ 0 ≤ z ∧ z ≤ 255) :
    Calls Tryd.prog 7 #[.string s, .slice ba bl bc] w (TruePost w) := by
  have h2' : 2 ≤ w.heap.size := by
    obtain ⟨_, t, fr, e⟩ := hL
    have := (Array.getElem?_eq_some_iff.1 e).1
    omega
  have HL := Lib.hid hL
  have HBL := Lib.hid hbl
  clear hL hbl
  go_enter Tryd.func7, Tryd.ntmps7
  go_wp2_with fail
  refine (awake_any w HL.out h2').mono ?_
  rintro e w1 ⟨rfl, hb⟩
  have HB := Lib.hid hb
  have hz1 := hb.size
  clear hb
  go_wp2_with fail
  refine (short_any _ _).mono ?_
  rintro e w' ⟨rfl, rfl⟩
  generalize hS : s.extract 0 (min s.size 500) = S
  have hSs : S.size ≤ 500 := by rw [← hS]; simp; omega
  clear hS
  go_wp2_with fail
  refine (all_any S (by omega) w1 (HL.out.below HB.out h2') (by omega)).mono ?_
  rintro e w2 ⟨v2, rfl, hr2, hb2⟩
  have hz2 := hb2.size
  have HB2 := Lib.hid (HB.out.trans (hb2.mono hz1))
  have HR2 := Lib.hid hr2
  obtain ⟨a2, cap2, rfl, hc2⟩ := row_form hr2
  have hlen := LexP.lexB_length S
  generalize hT : LexP.lexB S = T at *
  have HT := Lib.hid hT
  clear hb2 hr2 hT
  go_wp2_with fail
  go_loopw [6, 21] (fun t i wr => ∃ (k : Nat) (tx : ByteArray), k ≤ T.length ∧ i = .int .i64 k ∧ t = .string tx ∧ tx.size ≤ 520 * k ∧ LexP.Joined (T.take k) tx.data.toList ∧ Below w2.heap.size w2 wr) (fun _ i _ => T.length - (intOf i).toNat)
  case atStart => exact ⟨0, ⟨#[]⟩, Nat.zero_le _, rfl, rfl, Nat.le_refl _, ⟨[], by simp, rfl, rfl⟩, Below.refl _ _⟩
  case round =>
    obtain ⟨k, tx, hk, rfl, rfl, htx, hj, hbr⟩ := hrel
    obtain ⟨wq, hwq⟩ : ∃ wq : World, wr = wq := ⟨_, rfl⟩
    subst hwq
    obtain ⟨wq, hwq⟩ : ∃ wq : World, wr = wq := ⟨_, rfl⟩
    subst hwq
    have HBR := Lib.hid hbr
    have HJ := Lib.hid hj
    have hzr := hbr.size
    clear hj
    by_cases hlt : k < T.length
    · obtain ⟨g2, cap2', e2, hg2, hg2', hcap2, hcl2⟩ := row_cells HR2.out (by omega)
      injection e2 with e2 _ e2'
      subst e2 e2'
      have hx : T[k]? = some T[k] := List.getElem?_eq_getElem hlt
      have hmem : T[k] ∈ LexP.lexB S := by rw [HT.out]; exact List.getElem_mem _
      have HXZ := Lib.hid (LexP.lexB_size S _ hmem)
      have hkd := (LexP.lexB_kind S _ hmem).2
      have hgood := LexP.lexB_good S _ hmem
      have htake : T.take (k + 1) = T.take k ++ [T[k]] := List.take_succ_eq_append_getElem hlt
      have HTK := Lib.hid htake
      have HG := Lib.hid hgood
      clear htake hgood hmem
      generalize T[k] = x at *
      obtain ⟨t1, t2, t3⟩ := rowT_at _ _ _ hx
      have c1 : wr.cell? ⟨g2, k * 3, none⟩ = _ := (hbr.cell (p := ⟨g2, k * 3, none⟩) hg2').trans (hcl2 _ _ t1)
      have c2 : wr.cell? ⟨g2, k * 3 + 1, none⟩ = _ := (hbr.cell (p := ⟨g2, k * 3 + 1, none⟩) hg2').trans (hcl2 _ _ t2)
      have c3 : wr.cell? ⟨g2, k * 3 + 2, none⟩ = _ := (hbr.cell (p := ⟨g2, k * 3 + 2, none⟩) hg2').trans (hcl2 _ _ t3)
      clear hcl2 t1 t2 t3 hx hbr
      cases h5 : ((x.kind : Int) == 5)
      · have hxs : x.text.size ≤ 500 := Nat.le_trans HXZ.out hSs
        have hg := HG.out (by rw [beq_eq_false_iff_ne] at h5; omega)
        have HG2 := Lib.hid hg
        clear hg
        by_cases hkb : k < bl
        · obtain ⟨b, off, z, rfl, hbw, hcz, hz0, hz255⟩ := HBL.out k hkb
          have cz := ((HB2.out.trans (HBR.out.mono (by omega))).cell (p := ⟨b, off + k, none⟩) hbw).trans hcz
          clear hcz
          have hr4 : z % 4 = 0 ∨ z % 4 = 1 ∨ z % 4 = 2 ∨ z % 4 = 3 := by omega
          have hmn1 : (0 : Int) ≤ min (s.size : Int) 3 := by omega
          have hmn2 : min (s.size : Int) 3 ≤ (s.size : Int) := by omega
          go_wp2_with fail
          have hbx := World.alloc_heap_new wr (.cells #[.int .u8 (x.kind : Nat), .string x.text, .int .i64 (x.off : Nat)] 31)
          have cz2 := (((Below.refl _ wr).alloc (Nat.le_refl _) (.cells #[.int .u8 (x.kind : Nat), .string x.text, .int .i64 (x.off : Nat)] 31)).cell (p := ⟨b, off + k, none⟩) (by show b < wr.heap.size; omega)).trans cz
          have HBO : Hid (Below w2.heap.size w2 (wr.alloc (.cells #[.int .u8 (x.kind : Nat), .string x.text, .int .i64 (x.off : Nat)] 31))) := Lib.hid (HBR.out.alloc (by omega) _)
          have hzo : wr.heap.size + 1 = (wr.alloc (.cells #[.int .u8 (x.kind : Nat), .string x.text, .int .i64 (x.off : Nat)] 31)).heap.size := by simp
          generalize wr.alloc (.cells #[.int .u8 (x.kind : Nat), .string x.text, .int .i64 (x.off : Nat)] 31) = wo at *
          have HZO := Lib.hid hzo
          have ct := cell_at hbx 1 _ rfl
          have hbo : b < wo.heap.size := by omega
          have cz3 : ∀ o : Obj, (wo.alloc o).cell? ⟨b, off + k, none⟩ = some (.int .u8 z) := fun o => (((Below.refl _ wo).alloc (Nat.le_refl _) o).cell (p := ⟨b, off + k, none⟩) hbo).trans cz2
          clear cz c1 c2 c3 hzo
          rcases hr4 with h4 | h4 | h4 | h4
          · go_region
            go_wp2_with fail
            generalize hs3 : s.extract 0 (min (s.size : Int) 3).toNat = s3 at *
            have hs3z : s3.size ≤ 3 := by rw [← hs3]; simp; omega
            clear hs3
            have hsep : (∀ j, j < s3.size → ∀ hj : j < s3.size, (s3[j]).toNat ≠ 10) → LexP.Sep (⟨#[32]⟩ : ByteArray).data.toList := by
              exact fun _ => LexP.sep_space
            have hB0z : (⟨#[32]⟩ : ByteArray).size ≤ 8 := by decide
            have HSEP := Lib.hid hsep
            clear hsep
            obtain ⟨wI, hwI⟩ : ∃ wI : World, wI = (wo.alloc (.cells #[.string ⟨#[32]⟩, .string ⟨#[10]⟩, .string ⟨#[9, 13]⟩, .string (⟨#[32, 47, 47, 32]⟩ ++ s3 ++ ⟨#[10]⟩)] 9)).drew := ⟨_, rfl⟩
            have hbI : Below wo.heap.size wo wI := by rw [hwI]; exact ((Below.refl _ wo).alloc (Nat.le_refl _) _).drew
            have hzI := hbI.size
            have hto : wr.heap.size < wo.heap.size := by have := HZO.out; omega
            have cI : ∀ pos, (wI.iter s3 pos).cell? ⟨wr.heap.size, 1, none⟩ = some (.string x.text) := fun pos =>
              (((Below.refl wI.heap.size wI).alloc (Nat.le_refl _) (.stringIter s3 pos)).cell (p := ⟨wr.heap.size, 1, none⟩) (by show wr.heap.size < wI.heap.size; omega)).trans ((hbI.cell (p := ⟨wr.heap.size, 1, none⟩) hto).trans ct)
            have HBI : Hid (∀ pos, Below w2.heap.size w2 (wI.iter s3 pos)) := Lib.hid (fun pos => (HBO.out.trans (hbI.mono (by omega))).alloc (by omega) _)
            have hzIe : wo.heap.size + 1 = wI.heap.size := by rw [hwI]; simp
            rw [← hwI, hzIe]
            clear hwI cz2 cz3 ct hbI hzIe
            go_loopw [9, 11] (fun v _ w' => ∃ (pos : Nat) (bb : ByteArray), w' = wI.iter s3 pos ∧ v = .string bb ∧ (bb = ⟨#[32]⟩ ∨ (bb = ⟨#[32]⟩ ∧ ∀ j, j < pos → ∀ hj : j < s3.size, (s3[j]).toNat ≠ 10))) (fun _ _ w' => s3.size - w'.iterPos wI.heap.size)
            case atStart => exact ⟨0, _, rfl, rfl, .inr ⟨rfl, fun j hj => absurd hj (by omega)⟩⟩
            case round =>
              obtain ⟨pos, bb, rfl, rfl, hor⟩ := hrel
              have HOR := Lib.hid hor
              clear hor
              by_cases hp : pos < s3.size
              · have hnx : ∀ ty, (Instr.next (.pointer (some ⟨wI.heap.size, 0, none⟩)) true ty).run Tryd.prog (wI.iter s3 pos) = _ := fun ty => run_next_any wI s3 pos ty hp
                have hcl := LexP.decode_clean s3 pos hp
                have hwd := LexP.width_pos s3 pos hp
                generalize (Utf8.decode s3 pos).1 = r at *
                generalize (Utf8.decode s3 pos).2 = wd at *
                have HCL := Lib.hid hcl
                clear hcl
                cases hq : ((r : Int) == 10)
                · go_wp2_with fail
                  go_roundw
                  case rel =>
                    refine ⟨pos + wd, bb, rfl, rfl, ?_⟩
                    rcases HOR.out with h | ⟨h1, h2⟩
                    · exact .inl h
                    · refine .inr ⟨h1, fun j hj hj2 => ?_⟩
                      rcases Nat.lt_or_ge j pos with h | h
                      · exact h2 j h hj2
                      · exact HCL.out (by rw [beq_eq_false_iff_ne] at hq; omega) j h hj hj2
                  case measure => simp; omega
                · go_wp2_with fail
                  go_roundw
                  case rel => exact ⟨pos + wd, ⟨#[32]⟩, rfl, rfl, .inl rfl⟩
                  case measure => simp; omega
              · have hnx : ∀ ty, (Instr.next (.pointer (some ⟨wI.heap.size, 0, none⟩)) true ty).run Tryd.prog (wI.iter s3 pos) = _ := fun ty => run_next_end wI s3 pos ty hp
                have hbb : LexP.Sep bb.data.toList ∧ bb.size ≤ 8 := by
                  rcases HOR.out with rfl | ⟨rfl, h2⟩
                  · exact ⟨LexP.sep_space, by decide⟩
                  · exact ⟨HSEP.out (fun j hj hj2 => h2 j (by omega) hj2), hB0z⟩
                obtain ⟨hbs, hbz⟩ := hbb
                have HBS := Lib.hid hbs
                have cIp := cI pos
                have HBP := Lib.hid (HBI.out pos)
                clear hbs cI
                go_wp2_with fail
                go_roundw
                case rel =>
                  refine ⟨k + 1, _, by omega, by go_num, rfl, ?_, ?_, HBP.out⟩
                  · simp [ByteArray.size_append]; omega
                  · rw [HTK.out]
                    have := HJ.out.snoc x bb.data.toList HBS.out HG2.out
                    simpa [ByteArray.data_append] using this
                case measure => simp [intOf]; omega
          · go_region
            go_wp2_with fail
            generalize hs3 : s.extract 0 (min (s.size : Int) 3).toNat = s3 at *
            have hs3z : s3.size ≤ 3 := by rw [← hs3]; simp; omega
            clear hs3
            have hsep : (∀ j, j < s3.size → ∀ hj : j < s3.size, (s3[j]).toNat ≠ 10) → LexP.Sep (⟨#[10]⟩ : ByteArray).data.toList := by
              exact fun _ => LexP.sep_nl
            have hB0z : (⟨#[10]⟩ : ByteArray).size ≤ 8 := by decide
            have HSEP := Lib.hid hsep
            clear hsep
            obtain ⟨wI, hwI⟩ : ∃ wI : World, wI = (wo.alloc (.cells #[.string ⟨#[32]⟩, .string ⟨#[10]⟩, .string ⟨#[9, 13]⟩, .string (⟨#[32, 47, 47, 32]⟩ ++ s3 ++ ⟨#[10]⟩)] 9)).drew := ⟨_, rfl⟩
            have hbI : Below wo.heap.size wo wI := by rw [hwI]; exact ((Below.refl _ wo).alloc (Nat.le_refl _) _).drew
            have hzI := hbI.size
            have hto : wr.heap.size < wo.heap.size := by have := HZO.out; omega
            have cI : ∀ pos, (wI.iter s3 pos).cell? ⟨wr.heap.size, 1, none⟩ = some (.string x.text) := fun pos =>
              (((Below.refl wI.heap.size wI).alloc (Nat.le_refl _) (.stringIter s3 pos)).cell (p := ⟨wr.heap.size, 1, none⟩) (by show wr.heap.size < wI.heap.size; omega)).trans ((hbI.cell (p := ⟨wr.heap.size, 1, none⟩) hto).trans ct)
            have HBI : Hid (∀ pos, Below w2.heap.size w2 (wI.iter s3 pos)) := Lib.hid (fun pos => (HBO.out.trans (hbI.mono (by omega))).alloc (by omega) _)
            have hzIe : wo.heap.size + 1 = wI.heap.size := by rw [hwI]; simp
            rw [← hwI, hzIe]
            clear hwI cz2 cz3 ct hbI hzIe
            go_loopw [9, 11] (fun v _ w' => ∃ (pos : Nat) (bb : ByteArray), w' = wI.iter s3 pos ∧ v = .string bb ∧ (bb = ⟨#[32]⟩ ∨ (bb = ⟨#[10]⟩ ∧ ∀ j, j < pos → ∀ hj : j < s3.size, (s3[j]).toNat ≠ 10))) (fun _ _ w' => s3.size - w'.iterPos wI.heap.size)
            case atStart => exact ⟨0, _, rfl, rfl, .inr ⟨rfl, fun j hj => absurd hj (by omega)⟩⟩
            case round =>
              obtain ⟨pos, bb, rfl, rfl, hor⟩ := hrel
              have HOR := Lib.hid hor
              clear hor
              by_cases hp : pos < s3.size
              · have hnx : ∀ ty, (Instr.next (.pointer (some ⟨wI.heap.size, 0, none⟩)) true ty).run Tryd.prog (wI.iter s3 pos) = _ := fun ty => run_next_any wI s3 pos ty hp
                have hcl := LexP.decode_clean s3 pos hp
                have hwd := LexP.width_pos s3 pos hp
                generalize (Utf8.decode s3 pos).1 = r at *
                generalize (Utf8.decode s3 pos).2 = wd at *
                have HCL := Lib.hid hcl
                clear hcl
                cases hq : ((r : Int) == 10)
                · go_wp2_with fail
                  go_roundw
                  case rel =>
                    refine ⟨pos + wd, bb, rfl, rfl, ?_⟩
                    rcases HOR.out with h | ⟨h1, h2⟩
                    · exact .inl h
                    · refine .inr ⟨h1, fun j hj hj2 => ?_⟩
                      rcases Nat.lt_or_ge j pos with h | h
                      · exact h2 j h hj2
                      · exact HCL.out (by rw [beq_eq_false_iff_ne] at hq; omega) j h hj hj2
                  case measure => simp; omega
                · go_wp2_with fail
                  go_roundw
                  case rel => exact ⟨pos + wd, ⟨#[32]⟩, rfl, rfl, .inl rfl⟩
                  case measure => simp; omega
              · have hnx : ∀ ty, (Instr.next (.pointer (some ⟨wI.heap.size, 0, none⟩)) true ty).run Tryd.prog (wI.iter s3 pos) = _ := fun ty => run_next_end wI s3 pos ty hp
                have hbb : LexP.Sep bb.data.toList ∧ bb.size ≤ 8 := by
                  rcases HOR.out with rfl | ⟨rfl, h2⟩
                  · exact ⟨LexP.sep_space, by decide⟩
                  · exact ⟨HSEP.out (fun j hj hj2 => h2 j (by omega) hj2), hB0z⟩
                obtain ⟨hbs, hbz⟩ := hbb
                have HBS := Lib.hid hbs
                have cIp := cI pos
                have HBP := Lib.hid (HBI.out pos)
                clear hbs cI
                go_wp2_with fail
                go_roundw
                case rel =>
                  refine ⟨k + 1, _, by omega, by go_num, rfl, ?_, ?_, HBP.out⟩
                  · simp [ByteArray.size_append]; omega
                  · rw [HTK.out]
                    have := HJ.out.snoc x bb.data.toList HBS.out HG2.out
                    simpa [ByteArray.data_append] using this
                case measure => simp [intOf]; omega
          · go_region
            go_wp2_with fail
            generalize hs3 : s.extract 0 (min (s.size : Int) 3).toNat = s3 at *
            have hs3z : s3.size ≤ 3 := by rw [← hs3]; simp; omega
            clear hs3
            have hsep : (∀ j, j < s3.size → ∀ hj : j < s3.size, (s3[j]).toNat ≠ 10) → LexP.Sep (⟨#[9, 13]⟩ : ByteArray).data.toList := by
              exact fun _ => LexP.sep_tab
            have hB0z : (⟨#[9, 13]⟩ : ByteArray).size ≤ 8 := by decide
            have HSEP := Lib.hid hsep
            clear hsep
            obtain ⟨wI, hwI⟩ : ∃ wI : World, wI = (wo.alloc (.cells #[.string ⟨#[32]⟩, .string ⟨#[10]⟩, .string ⟨#[9, 13]⟩, .string (⟨#[32, 47, 47, 32]⟩ ++ s3 ++ ⟨#[10]⟩)] 9)).drew := ⟨_, rfl⟩
            have hbI : Below wo.heap.size wo wI := by rw [hwI]; exact ((Below.refl _ wo).alloc (Nat.le_refl _) _).drew
            have hzI := hbI.size
            have hto : wr.heap.size < wo.heap.size := by have := HZO.out; omega
            have cI : ∀ pos, (wI.iter s3 pos).cell? ⟨wr.heap.size, 1, none⟩ = some (.string x.text) := fun pos =>
              (((Below.refl wI.heap.size wI).alloc (Nat.le_refl _) (.stringIter s3 pos)).cell (p := ⟨wr.heap.size, 1, none⟩) (by show wr.heap.size < wI.heap.size; omega)).trans ((hbI.cell (p := ⟨wr.heap.size, 1, none⟩) hto).trans ct)
            have HBI : Hid (∀ pos, Below w2.heap.size w2 (wI.iter s3 pos)) := Lib.hid (fun pos => (HBO.out.trans (hbI.mono (by omega))).alloc (by omega) _)
            have hzIe : wo.heap.size + 1 = wI.heap.size := by rw [hwI]; simp
            rw [← hwI, hzIe]
            clear hwI cz2 cz3 ct hbI hzIe
            go_loopw [9, 11] (fun v _ w' => ∃ (pos : Nat) (bb : ByteArray), w' = wI.iter s3 pos ∧ v = .string bb ∧ (bb = ⟨#[32]⟩ ∨ (bb = ⟨#[9, 13]⟩ ∧ ∀ j, j < pos → ∀ hj : j < s3.size, (s3[j]).toNat ≠ 10))) (fun _ _ w' => s3.size - w'.iterPos wI.heap.size)
            case atStart => exact ⟨0, _, rfl, rfl, .inr ⟨rfl, fun j hj => absurd hj (by omega)⟩⟩
            case round =>
              obtain ⟨pos, bb, rfl, rfl, hor⟩ := hrel
              have HOR := Lib.hid hor
              clear hor
              by_cases hp : pos < s3.size
              · have hnx : ∀ ty, (Instr.next (.pointer (some ⟨wI.heap.size, 0, none⟩)) true ty).run Tryd.prog (wI.iter s3 pos) = _ := fun ty => run_next_any wI s3 pos ty hp
                have hcl := LexP.decode_clean s3 pos hp
                have hwd := LexP.width_pos s3 pos hp
                generalize (Utf8.decode s3 pos).1 = r at *
                generalize (Utf8.decode s3 pos).2 = wd at *
                have HCL := Lib.hid hcl
                clear hcl
                cases hq : ((r : Int) == 10)
                · go_wp2_with fail
                  go_roundw
                  case rel =>
                    refine ⟨pos + wd, bb, rfl, rfl, ?_⟩
                    rcases HOR.out with h | ⟨h1, h2⟩
                    · exact .inl h
                    · refine .inr ⟨h1, fun j hj hj2 => ?_⟩
                      rcases Nat.lt_or_ge j pos with h | h
                      · exact h2 j h hj2
                      · exact HCL.out (by rw [beq_eq_false_iff_ne] at hq; omega) j h hj hj2
                  case measure => simp; omega
                · go_wp2_with fail
                  go_roundw
                  case rel => exact ⟨pos + wd, ⟨#[32]⟩, rfl, rfl, .inl rfl⟩
                  case measure => simp; omega
              · have hnx : ∀ ty, (Instr.next (.pointer (some ⟨wI.heap.size, 0, none⟩)) true ty).run Tryd.prog (wI.iter s3 pos) = _ := fun ty => run_next_end wI s3 pos ty hp
                have hbb : LexP.Sep bb.data.toList ∧ bb.size ≤ 8 := by
                  rcases HOR.out with rfl | ⟨rfl, h2⟩
                  · exact ⟨LexP.sep_space, by decide⟩
                  · exact ⟨HSEP.out (fun j hj hj2 => h2 j (by omega) hj2), hB0z⟩
                obtain ⟨hbs, hbz⟩ := hbb
                have HBS := Lib.hid hbs
                have cIp := cI pos
                have HBP := Lib.hid (HBI.out pos)
                clear hbs cI
                go_wp2_with fail
                go_roundw
                case rel =>
                  refine ⟨k + 1, _, by omega, by go_num, rfl, ?_, ?_, HBP.out⟩
                  · simp [ByteArray.size_append]; omega
                  · rw [HTK.out]
                    have := HJ.out.snoc x bb.data.toList HBS.out HG2.out
                    simpa [ByteArray.data_append] using this
                case measure => simp [intOf]; omega
          · go_region
            go_wp2_with fail
            generalize hs3 : s.extract 0 (min (s.size : Int) 3).toNat = s3 at *
            have hs3z : s3.size ≤ 3 := by rw [← hs3]; simp; omega
            clear hs3
            have hsep : (∀ j, j < s3.size → ∀ hj : j < s3.size, (s3[j]).toNat ≠ 10) → LexP.Sep ((⟨#[32, 47, 47, 32]⟩ ++ s3 ++ ⟨#[10]⟩) : ByteArray).data.toList := by
              intro h
              have hx := LexP.sep_note s3.data.toList (fun c hc => by
                obtain ⟨j, hj, e⟩ := List.getElem_of_mem hc
                have h2 := h j (by simpa using hj) (by simpa using hj)
                intro ec
                apply h2
                have e2 : s3[j]'(by simpa using hj) = c := e
                rw [e2, ec]; rfl)
              simpa [ByteArray.data_append] using hx
            have hB0z : ((⟨#[32, 47, 47, 32]⟩ ++ s3 ++ ⟨#[10]⟩) : ByteArray).size ≤ 8 := by simp [ByteArray.size_append]; show 4 + (s3.size + 1) ≤ 8; omega
            have HSEP := Lib.hid hsep
            clear hsep
            obtain ⟨wI, hwI⟩ : ∃ wI : World, wI = (wo.alloc (.cells #[.string ⟨#[32]⟩, .string ⟨#[10]⟩, .string ⟨#[9, 13]⟩, .string (⟨#[32, 47, 47, 32]⟩ ++ s3 ++ ⟨#[10]⟩)] 9)).drew := ⟨_, rfl⟩
            have hbI : Below wo.heap.size wo wI := by rw [hwI]; exact ((Below.refl _ wo).alloc (Nat.le_refl _) _).drew
            have hzI := hbI.size
            have hto : wr.heap.size < wo.heap.size := by have := HZO.out; omega
            have cI : ∀ pos, (wI.iter s3 pos).cell? ⟨wr.heap.size, 1, none⟩ = some (.string x.text) := fun pos =>
              (((Below.refl wI.heap.size wI).alloc (Nat.le_refl _) (.stringIter s3 pos)).cell (p := ⟨wr.heap.size, 1, none⟩) (by show wr.heap.size < wI.heap.size; omega)).trans ((hbI.cell (p := ⟨wr.heap.size, 1, none⟩) hto).trans ct)
            have HBI : Hid (∀ pos, Below w2.heap.size w2 (wI.iter s3 pos)) := Lib.hid (fun pos => (HBO.out.trans (hbI.mono (by omega))).alloc (by omega) _)
            have hzIe : wo.heap.size + 1 = wI.heap.size := by rw [hwI]; simp
            rw [← hwI, hzIe]
            clear hwI cz2 cz3 ct hbI hzIe
            go_loopw [9, 11] (fun v _ w' => ∃ (pos : Nat) (bb : ByteArray), w' = wI.iter s3 pos ∧ v = .string bb ∧ (bb = ⟨#[32]⟩ ∨ (bb = (⟨#[32, 47, 47, 32]⟩ ++ s3 ++ ⟨#[10]⟩) ∧ ∀ j, j < pos → ∀ hj : j < s3.size, (s3[j]).toNat ≠ 10))) (fun _ _ w' => s3.size - w'.iterPos wI.heap.size)
            case atStart => exact ⟨0, _, rfl, rfl, .inr ⟨rfl, fun j hj => absurd hj (by omega)⟩⟩
            case round =>
              obtain ⟨pos, bb, rfl, rfl, hor⟩ := hrel
              have HOR := Lib.hid hor
              clear hor
              by_cases hp : pos < s3.size
              · have hnx : ∀ ty, (Instr.next (.pointer (some ⟨wI.heap.size, 0, none⟩)) true ty).run Tryd.prog (wI.iter s3 pos) = _ := fun ty => run_next_any wI s3 pos ty hp
                have hcl := LexP.decode_clean s3 pos hp
                have hwd := LexP.width_pos s3 pos hp
                generalize (Utf8.decode s3 pos).1 = r at *
                generalize (Utf8.decode s3 pos).2 = wd at *
                have HCL := Lib.hid hcl
                clear hcl
                cases hq : ((r : Int) == 10)
                · go_wp2_with fail
                  go_roundw
                  case rel =>
                    refine ⟨pos + wd, bb, rfl, rfl, ?_⟩
                    rcases HOR.out with h | ⟨h1, h2⟩
                    · exact .inl h
                    · refine .inr ⟨h1, fun j hj hj2 => ?_⟩
                      rcases Nat.lt_or_ge j pos with h | h
                      · exact h2 j h hj2
                      · exact HCL.out (by rw [beq_eq_false_iff_ne] at hq; omega) j h hj hj2
                  case measure => simp; omega
                · go_wp2_with fail
                  go_roundw
                  case rel => exact ⟨pos + wd, ⟨#[32]⟩, rfl, rfl, .inl rfl⟩
                  case measure => simp; omega
              · have hnx : ∀ ty, (Instr.next (.pointer (some ⟨wI.heap.size, 0, none⟩)) true ty).run Tryd.prog (wI.iter s3 pos) = _ := fun ty => run_next_end wI s3 pos ty hp
                have hbb : LexP.Sep bb.data.toList ∧ bb.size ≤ 8 := by
                  rcases HOR.out with rfl | ⟨rfl, h2⟩
                  · exact ⟨LexP.sep_space, by decide⟩
                  · exact ⟨HSEP.out (fun j hj hj2 => h2 j (by omega) hj2), hB0z⟩
                obtain ⟨hbs, hbz⟩ := hbb
                have HBS := Lib.hid hbs
                have cIp := cI pos
                have HBP := Lib.hid (HBI.out pos)
                clear hbs cI
                go_wp2_with fail
                go_roundw
                case rel =>
                  refine ⟨k + 1, _, by omega, by go_num, rfl, ?_, ?_, HBP.out⟩
                  · simp [ByteArray.size_append]; omega
                  · rw [HTK.out]
                    have := HJ.out.snoc x bb.data.toList HBS.out HG2.out
                    simpa [ByteArray.data_append] using this
                case measure => simp [intOf]; omega
        · go_wp2_with fail
          go_roundw
          case rel =>
            refine ⟨k + 1, _, by omega, by go_num, rfl, ?_, ?_, HBR.out.alloc (by omega) _⟩
            · simp [ByteArray.size_append]; show tx.size + (1 + x.text.size) ≤ _; omega
            · rw [HTK.out]
              have := HJ.out.snoc x [32] LexP.sep_space HG2.out
              simpa [ByteArray.data_append] using this
          case measure => simp [intOf]; omega
      · go_wp2_with fail
        go_ret
        exact ⟨rfl, (HB2.out.trans (HBR.out.mono (by omega))).alloc (by omega) _⟩
    · have hkk : T.take k = T := List.take_of_length_le (by omega)
      have hJ2 := HJ.out
      rw [hkk] at hJ2
      have hmap := hJ2.lex
      have htz : tx.size ≤ 520 * 500 := by
        have : 520 * k ≤ 520 * 500 := Nat.mul_le_mul_left _ (by omega)
        omega
      clear hkk hJ2 hbr
      have HBQ := Lib.hid (HB2.out.trans (HBR.out.mono (by omega)))
      have HRQ := Lib.hid (ownsRow_below HR2.out HBR.out)
      go_wp2_with fail
      refine (all_any tx (by omega) _ (HL.out.below HBQ.out h2') (by omega)).mono ?_
      rintro e w5 ⟨v5, rfl, hr5, hb5⟩
      have hz5 := hb5.size
      obtain ⟨a5, cap5, rfl, hc5⟩ := row_form hr5
      have HB5 := Lib.hid (HBQ.out.trans (hb5.mono (by omega)))
      have HR5 := Lib.hid hr5
      have HRT := Lib.hid (ownsRow_below HRQ.out hb5)
      generalize LexP.lexB tx = T' at *
      have hll : T'.length = T.length := by have := congrArg List.length hmap; simpa using this
      have HMAP := Lib.hid hmap
      rw [hll] at hc5 ⊢
      have HLL := Lib.hid hll
      clear hmap hll hr5 hb5
      go_wp2_with fail
      go_loopw [13, 75] (fun _ i wr => ∃ j : Nat, j ≤ T.length ∧ i = .int .i64 j ∧ Below w5.heap.size w5 wr) (fun _ i _ => T.length - (intOf i).toNat)
      case atStart => exact ⟨0, Nat.zero_le _, rfl, Below.refl _ _⟩
      case round =>
        obtain ⟨j, hj, rfl, hbj⟩ := hrel
        by_cases hjl : j < T.length
        · have hjl' : j < T'.length := by have := HLL.out; omega
          obtain ⟨g2, cg2, e2, hg2, hg2', hcap2, hcl2⟩ := row_cells HRT.out (by omega)
          obtain ⟨g5, cg5, e5, hg5, hg5', hcap5, hcl5⟩ := row_cells HR5.out (by omega)
          injection e2 with e2 _ e2'
          injection e5 with e5 _ e5'
          subst e2 e2' e5 e5'
          obtain ⟨x, hx⟩ : ∃ x, T[j]? = some x := ⟨_, List.getElem?_eq_getElem hjl⟩
          obtain ⟨y, hy⟩ : ∃ y, T'[j]? = some y := ⟨_, List.getElem?_eq_getElem hjl'⟩
          have hxy : y.kind = x.kind ∧ y.text.data.toList = x.text.data.toList := by
            have := congrArg (·[j]?) HMAP.out
            simp only [List.getElem?_map, hx, hy, Option.map_some, Option.some.injEq, Prod.mk.injEq] at this
            exact this
          obtain ⟨t1, t2, t3⟩ := rowT_at _ _ _ hx
          obtain ⟨r1, r2, r3⟩ := rowT_at _ _ _ hy
          rw [hxy.1] at r1
          have htt : y.text = x.text := ByteArray.ext (Array.toList_inj.1 hxy.2)
          rw [htt] at r2
          have hkk : ((x.kind : Int) != (x.kind : Int)) = false := by simp
          clear htt
          have c1 := (hbj.cell (p := ⟨g2, j * 3, none⟩) hg2').trans (hcl2 _ _ t1)
          have c2 := (hbj.cell (p := ⟨g2, j * 3 + 1, none⟩) hg2').trans (hcl2 _ _ t2)
          have d1 := (hbj.cell (p := ⟨g5, j * 3, none⟩) hg5').trans (hcl5 _ _ r1)
          have d2 := (hbj.cell (p := ⟨g5, j * 3 + 1, none⟩) hg5').trans (hcl5 _ _ r2)
          have HBJ := Lib.hid hbj
          have hj1 : (j : Int) < (T.length : Int) := by omega
          have hj0 : (0 : Int) ≤ (j : Int) := by omega
          clear hcl2 hcl5 t1 t2 t3 r1 r2 r3 hx hy hxy hbj
          go_wp2_with fail
          go_quiet (fail)
          go_wp2_with fail
          go_roundw
          case rel => exact ⟨j + 1, by omega, by go_num, HBJ.out.trans ((below_dr _ _ _ (Below.refl _ _)).mono HBJ.out.size)⟩
          case measure => simp [intOf]; omega
        · have HBJ := Lib.hid hbj
          clear hbj
          go_wp2_with fail
          go_ret
          exact ⟨rfl, HB5.out.trans (HBJ.out.mono (by omega))⟩
end Go.Proofs.YtdhllkbcheokfaaDoor
