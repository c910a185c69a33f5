/- The walk of the law on names. -/
import Derived.Test.YtdhllkbcheokfaaDoorLexNames
import Derived.OwnWalk
import Derived.Test.YtdhllkbcheokfaaDoorLexValue
namespace Go.Proofs.YtdhllkbcheokfaaDoor
open Go.RowKit Go.Shelf
theorem info_str : (Tryd.prog.info? 9).map (fun i => (i.zero, i.size, i.bytes)) = some (some (.string ⟨#[]⟩), 1, 16) := by kernel_rfl
def strRow (l : List (List UInt8)) : List Value := l.map strV
def KwPost (w : World) (e : Ending) (w' : World) : Prop :=
  ∃ v, e = .returned v ∧ w'.ownsRow w.heap.size 9 1 v 39 (strRow LexP.words) ∧ Below w.heap.size w w'
def emptyStrs : Array Value := Array.replicate 39 (.string ⟨#[]⟩)
theorem make_strs (w : World) : (Instr.makeSlice 42 (.int .i64 0) (.int .i64 39)).run Tryd.prog w = .ok (.slice (some ⟨w.heap.size, 0, none⟩) 0 39) (w.alloc (.cells emptyStrs 9)) := by kernel_rfl
theorem made_owns (w : World) : (w.alloc (.cells emptyStrs 9)).ownsRow w.heap.size 9 1 (.slice (some ⟨w.heap.size, 0, none⟩) 0 39) 0 [] :=
  ⟨rfl, .inr ⟨w.heap.size, 39, emptyStrs, rfl, Nat.le_refl _, World.alloc_heap_new w _, by decide, by unfold maxLen; omega, by simp [emptyStrs], rfl⟩⟩
set_option maxRecDepth 100000 in
set_option maxHeartbeats 1000000 in
theorem keywords_any (w : World) (hL : Laid w) : Calls Tryd.prog 18 #[] w (KwPost w) := by
  have h2 : 2 ≤ w.heap.size := by
    obtain ⟨_, t, fr, e⟩ := hL
    have := (Array.getElem?_eq_some_iff.1 e).1
    omega
  obtain ⟨i0, hi, hz0, hz1, hz2⟩ := info_parts info_str
  have hmk := make_strs
  obtain ⟨⟨tt, fr, hg⟩, _⟩ := hL
  have HG := Lib.hid ((Below.heap_alloc w (.cells emptyStrs 9) 0 (by omega)).trans hg)
  clear hg
  go_enter Tryd.func18, Tryd.ntmps18
  go_wp2_with (refine wpList_load_row rfl 59 _ rfl 0 rfl tt _ fr _ HG.out under_words rfl size_words ?_)
  go_loopw [1, 3, 6] (fun v _ i wr => ∃ k : Nat, k ≤ 39 ∧ i = .int .i64 k ∧ wr.ownsRow w.heap.size 9 1 v k (strRow (LexP.words.take k)) ∧ Below w.heap.size w wr) (fun _ _ i _ => 39 - (intOf i).toNat)
  case atStart => exact ⟨0, Nat.zero_le _, rfl, made_owns w, (Below.refl _ _).alloc (Nat.le_refl _) _⟩
  case round =>
    obtain ⟨k, hk, rfl, hown, hb⟩ := hrel
    have HO := Lib.hid hown
    have HB := Lib.hid hb
    have hwz := hb.size
    clear hown hb
    by_cases hlt : k < 39
    · have hix := fun w => idx_words w k hlt
      go_wp2_with (at_builtin; refine wpList_append_own _ rfl _ _ 42 rfl w.heap.size 9 i0 _ 1 16 Tryd.underlying42 hi hz0 hz1 hz2 rfl (by decide) _ _ _ rfl (HO.out.alloc _) ⟨wr.heap.size, 0, none⟩ 1 1 [strV (LexP.words[k]?.getD [])] rfl rfl ?c1 ?c2 ?c3 ?c4 ?c5 ?_)
      case c1 => exact cells_new _ _ _
      case c2 => simp [Value.oneCell', strV]
      case c3 => unfold maxLen; omega
      case c4 => omega
      case c5 => simp; omega
      intro v' w3 hown' hgrow _
      have HO3 : Hid (w3.ownsRow w.heap.size 9 1 v' (k + 1) (strRow (LexP.words.take (k + 1)))) := Lib.hid (by
        have h2 : k < LexP.words.length := hlt
        rw [List.take_succ_eq_append_getElem h2]
        unfold strRow at hown' ⊢
        rw [List.getElem?_eq_getElem h2, Option.getD_some] at hown'
        simp only [List.map_append, List.map_cons, List.map_nil]
        exact hown')
      have HB3 : Hid (Below w.heap.size w w3) := Lib.hid ((HB.out.alloc hwz _).grown hgrow (by simp; omega) (fun k e => ownsRow_ge HO.out k e))
      clear hown' hgrow hix
      go_wp2_with fail
      go_roundw
      case rel => exact ⟨k + 1, by omega, by go_num, HO3.out, HB3.out⟩
      case measure => simp [intOf]; omega
    · obtain rfl : k = 39 := by omega
      go_wp2_with fail
      go_ret
      exact ⟨_, rfl, HO.out, HB.out⟩
def NamePost (b : Bool) (w : World) (e : Ending) (w' : World) : Prop := e = .returned (.bool b) ∧ Below w.heap.size w w'
set_option maxRecDepth 100000 in
set_option maxHeartbeats 1000000 in
theorem refIsName_any (s : ByteArray) (w : World) (hs : s.size ≤ 4194304) : Calls Tryd.prog 21 #[.string s] w (NamePost (LexP.refNameB s) w) := by
  go_enter Tryd.func21, Tryd.ntmps21
  go_wp2_with fail
  refine (reflex_any s w hs).mono ?_
  rintro e w1 ⟨v1, rfl, hr1, hb1⟩
  have HB := Lib.hid hb1
  obtain ⟨a1, cap1, rfl, hc1⟩ := row_form hr1
  have hlen := LexP.lexB_length s
  clear hb1
  by_cases h1 : (LexP.lexB s).length = 1
  · obtain ⟨x, hx⟩ := List.length_eq_one_iff.1 h1
    obtain ⟨g, cap, e, hg, hg', hcap, hcl⟩ := row_cells hr1 (by omega)
    injection e with e1 _ e2
    subst e1 e2
    rw [hx] at hcl
    have c0 := hcl 0 _ rfl
    have c1 := hcl 1 _ rfl
    have hv : LexP.refNameB s = (((x.kind : Int) == 1) && (x.text.toList == s.toList)) := by unfold LexP.refNameB; rw [hx]
    have HV := Lib.hid hv
    rw [h1] at hc1 ⊢
    clear hcl hv hr1 hx h1 hlen
    cases q1 : ((x.kind : Int) == 1) <;> cases q2 : (x.text.toList == s.toList)
    all_goals
      have HF := HV.out
      rw [q1, q2] at HF
      have HF2 := Lib.hid HF
      clear HF
      go_wp2_with fail
      go_ret
      exact ⟨by rw [HF2.out]; rfl, HB.out⟩
  · have hv : LexP.refNameB s = false := by
      unfold LexP.refNameB
      split
      · rename_i x hx; rw [hx] at h1; simp at h1
      · rfl
    have HV := Lib.hid hv
    have hq : (((LexP.lexB s).length : Int) == 1) = false := by rw [beq_eq_false_iff_ne]; omega
    generalize (LexP.lexB s).length = n at *
    clear hv hr1 h1
    go_wp2_with fail
    go_ret
    exact ⟨by rw [HV.out]; rfl, HB.out⟩
set_option maxRecDepth 100000 in
set_option maxHeartbeats 2000000 in
theorem lexerNames_walk (s : ByteArray) (w : World) (hL : Laid w) (hs0 : s.size ≤ 140737488351232) (hs : s.data.toList.length + 1 + 0 ≤ 1048576) :
    Calls Tryd.prog 8 #[.string s] w (TruePost w) := by
  have hs : s.size ≤ 4194304 := by
    have : s.data.toList.length = s.size := by simp
    omega
  have h2' : 2 ≤ w.heap.size := by
    obtain ⟨_, t, fr, e⟩ := hL
    have := (Array.getElem?_eq_some_iff.1 e).1
    omega
  have HL := Lib.hid hL
  clear hL
  go_enter Tryd.func8, Tryd.ntmps8
  go_wp2_with fail
  refine (awake_any w HL.out h2').mono ?_
  rintro e w1 ⟨rfl, hb⟩
  have HB := Lib.hid hb
  have hz1 := hb.size
  have HL1 := Lib.hid (HL.out.below hb h2')
  clear hb
  go_wp2_with fail
  refine (keywords_any w1 HL1.out).mono ?_
  rintro e w2 ⟨v2, rfl, hr2, hb2⟩
  have hz2 := hb2.size
  obtain ⟨g, cap, rfl, hg, hg', hcap, hcl⟩ := row_cells hr2 (by omega)
  have HB2 := Lib.hid (HB.out.trans (hb2.mono hz1))
  have HC := Lib.hid hcl
  clear hb2 hr2 hcl
  go_wp2_with fail
  refine (refKeywords_any w2).mono ?_
  rintro e w' ⟨rfl, rfl⟩
  have hcw := fun (j : Nat) (hj : j < 39) => cell_words w2 j hj
  have HCW := Lib.hid hcw
  have HG : Hid (∀ j, j < 39 → (w2.alloc (.cells wordsV 9)).cell? ⟨g, j, none⟩ = some (strV (LexP.words[j]?.getD []))) := Lib.hid (fun j hj => by
    have h2 : j < LexP.words.length := hj
    refine (((Below.refl _ w2).alloc (Nat.le_refl _) _).cell (p := ⟨g, j, none⟩) hg').trans (HC.out j _ ?_)
    simp [strRow, strV, h2])
  have HB3 : Hid (Below w.heap.size w (w2.alloc (.cells wordsV 9))) := Lib.hid (HB2.out.alloc (by omega) _)
  have hz3 : (w2.alloc (.cells wordsV 9)).heap.size = w2.heap.size + 1 := by simp
  generalize w2.alloc (.cells wordsV 9) = w3 at *
  clear hcw
  go_wp2_with fail
  go_loopw [5, 17] (fun _ i wr => ∃ k : Nat, k ≤ 39 ∧ i = .int .i64 k ∧ Below w3.heap.size w3 wr) (fun _ i _ => 39 - (intOf i).toNat)
  case atStart => exact ⟨0, Nat.zero_le _, rfl, Below.refl _ _⟩
  case round =>
    obtain ⟨k, hk, rfl, hbr⟩ := hrel
    have HBR := Lib.hid (HB3.out.trans (hbr.mono (by omega)))
    have HLR := Lib.hid (HL.out.below HBR.out h2')
    have HBW := Lib.hid hbr
    have hzr := hbr.size
    have h2r : 2 ≤ wr.heap.size := by omega
    by_cases hlt : k < 39
    · have cg := (hbr.cell (p := ⟨g, k, none⟩) (by show g < w3.heap.size; omega)).trans (HG.out k hlt)
      have cw := (hbr.cell (p := ⟨w2.heap.size, k, none⟩) (by show w2.heap.size < w3.heap.size; omega)).trans (HCW.out k hlt)
      have hno := LexP.word_no k
      have hsz : (⟨(LexP.words[k]?.getD []).toArray⟩ : ByteArray).size ≤ 140737488351232 := by
        have hall : (LexP.words.all fun x => decide (x.length ≤ 20)) = true := by decide
        have h2 : k < LexP.words.length := hlt
        have := List.all_eq_true.1 hall LexP.words[k] (List.getElem_mem _)
        rw [List.getElem?_eq_getElem h2, Option.getD_some]
        have h3 : LexP.words[k].length ≤ 20 := by simpa using this
        show LexP.words[k].toArray.size ≤ _
        simp; omega
      clear hbr hz3
      generalize LexP.words[k]?.getD [] = x at *
      have hcon := fun (n : Nat) => isName_any ⟨x.toArray⟩ (wr.drewN n) (HLR.out.below (below_dr _ _ n (Below.refl _ _)) (by omega)) hsz
      rw [hno] at hcon
      have HCN := Lib.hid hcon
      clear hcon hno
      go_wp2_with fail
      go_quiet ((go_at_call 20; exact quiet_same (HCN.out _)))
      go_wp2_with fail
      go_roundw
      case rel => exact ⟨k + 1, by omega, by go_num, HBW.out.trans (below_dr _ _ _ (Below.refl _ _) |>.mono (by omega))⟩
      case measure => simp [intOf]; omega
    · clear hbr
      go_wp2_with fail
      refine (isName_any s _ HLR.out (by omega)).mono ?_
      rintro e w' ⟨rfl, rfl⟩
      go_wp2_with fail
      refine (refIsName_any s _ hs).mono ?_
      rintro e w5 ⟨rfl, hb5⟩
      rw [LexP.refName_eq]
      have HB5 := Lib.hid (HBR.out.trans (hb5.mono (by omega)))
      have HL5 := Lib.hid (HL.out.below HB5.out h2')
      have hsh := LexP.name_short s
      have hcon := isName_any s w5 HL5.out (by omega)
      clear hb5
      cases hn : LexP.isNameB s
      · rw [hn] at hcon
        have HCN := Lib.hid hcon
        clear hcon hsh hn
        go_wp2_with fail
        refine HCN.out.mono ?_
        rintro e w' ⟨rfl, rfl⟩
        go_wp2_with fail
        go_ret
        exact ⟨rfl, HB5.out⟩
      · have h12 : decide ((s.size : Int) ≤ 12) = true := by have := hsh hn; simp; omega
        rw [hn] at hcon
        have HCN := Lib.hid hcon
        clear hcon hsh hn
        go_wp2_with fail
        refine HCN.out.mono ?_
        rintro e w' ⟨rfl, rfl⟩
        go_wp2_with fail
        go_ret
        exact ⟨rfl, HB5.out⟩
end Go.Proofs.YtdhllkbcheokfaaDoor
