/- The walk of the law on tokens. -/
import Derived.Test.YtdhllkbcheokfaaDoorLexSame
import Derived.StillTailTactics
import Derived.Test.YtdhllkbcheokfaaDoorLexToksB
namespace Go.Proofs.YtdhllkbcheokfaaDoor
open Go.RowKit Go.Shelf
theorem Laid.two {w : World} (hL : Laid w) : 2 ≤ w.heap.size := by
  obtain ⟨_, t, fr, e⟩ := hL
  have := (Array.getElem?_eq_some_iff.1 e).1
  omega
set_option maxRecDepth 100000 in
set_option maxHeartbeats 1000000 in
theorem lexerTokens_walk (s : ByteArray) (w : World) (hL : Laid w) (hs : s.size ≤ 140737488351232) :
    Calls Tryd.prog 3 #[.string s] w (TruePost w) := by
  have h2' := hL.two
  have HL := Lib.hid hL
  clear hL
  go_enter Tryd.func3, Tryd.ntmps3
  go_wp2_with fail
  refine (awake_any w HL.out h2').mono ?_
  rintro e w1 ⟨rfl, hb⟩
  have HB := Lib.hid hb
  have hz1 := hb.size
  clear hb
  go_wp2_with fail
  refine (short_any _ _).mono ?_
  rintro e w' ⟨rfl, rfl⟩
  generalize hS : s.extract 0 (min s.size 500) = S
  have hSs : S.size ≤ 500 := by rw [← hS]; simp; omega
  clear hS hs
  go_wp2_with fail
  refine (all_any S (by omega) w1 (HL.out.below HB.out h2') (by omega)).mono ?_
  rintro e w2 ⟨v2, rfl, hr2, hb2⟩
  have hz2 := hb2.size
  go_wp2_with fail
  refine (reflex_any S w2 (by omega)).mono ?_
  rintro e w3 ⟨v3, rfl, hr3, hb3⟩
  have hz3 := hb3.size
  have HB3 := Lib.hid (HB.out.trans ((hb2.mono hz1).trans (hb3.mono (by omega))))
  have HR2 := Lib.hid (ownsRow_below hr2 hb3)
  have HR3 := Lib.hid hr3
  clear hr2 hr3 hb2 hb3
  obtain ⟨a2, cap2, rfl, hc2⟩ := row_form HR2.out
  obtain ⟨a3, cap3, rfl, hc3⟩ := row_form HR3.out
  have hlen := LexP.lexB_length S
  generalize hT : LexP.lexB S = T at *
  have HT := Lib.hid hT
  clear hT
  go_wp2_with fail
  go_loopw [5, 21] (fun _ i wr => ∃ k : Nat, k ≤ T.length ∧ i = .int .i64 k ∧ Below w3.heap.size w3 wr) (fun _ i _ => T.length - (intOf i).toNat)
  case atStart => exact ⟨0, Nat.zero_le _, rfl, Below.refl _ _⟩
  case round =>
    obtain ⟨k, hk, rfl, hbr⟩ := hrel
    by_cases hlt : k < T.length
    · obtain ⟨g2, cap2', e2, hg2, hg2', hcap2, hcl2⟩ := row_cells HR2.out (by omega)
      obtain ⟨g3, cap3', e3, hg3, hg3', hcap3, hcl3⟩ := row_cells HR3.out (by omega)
      injection e2 with e2 _ e2'
      injection e3 with e3 _ e3'
      subst e2 e2' e3 e3'
      have hx : T[k]? = some T[k] := List.getElem?_eq_getElem hlt
      have hkd : (T[k]).kind ≤ 5 := by
        have := LexP.lexB_kind S T[k] (by rw [HT.out]; exact List.getElem_mem _)
        exact this.2
      generalize T[k] = x at *
      obtain ⟨t1, t2, t3⟩ := rowT_at _ _ _ hx
      obtain ⟨r1, r2, r3⟩ := rowR_at _ _ _ hx
      have c1 : wr.cell? ⟨g2, k * 3, none⟩ = _ := (hbr.cell (p := ⟨g2, k * 3, none⟩) hg2').trans (hcl2 _ _ t1)
      have c2 : wr.cell? ⟨g2, k * 3 + 1, none⟩ = _ := (hbr.cell (p := ⟨g2, k * 3 + 1, none⟩) hg2').trans (hcl2 _ _ t2)
      have c3 : wr.cell? ⟨g2, k * 3 + 2, none⟩ = _ := (hbr.cell (p := ⟨g2, k * 3 + 2, none⟩) hg2').trans (hcl2 _ _ t3)
      have d1 : wr.cell? ⟨g3, k * 3, none⟩ = _ := (hbr.cell (p := ⟨g3, k * 3, none⟩) hg3').trans (hcl3 _ _ r1)
      have d2 : wr.cell? ⟨g3, k * 3 + 1, none⟩ = _ := (hbr.cell (p := ⟨g3, k * 3 + 1, none⟩) hg3').trans (hcl3 _ _ r2)
      have d3 : wr.cell? ⟨g3, k * 3 + 2, none⟩ = _ := (hbr.cell (p := ⟨g3, k * 3 + 2, none⟩) hg3').trans (hcl3 _ _ r3)
      have HBR := Lib.hid hbr
      have hzr := hbr.size
      clear hcl2 hcl3 t1 t2 t3 r1 r2 r3 hbr hx
      go_wp2_with fail
      go_still_tail 8, (by kernel_rfl)
      change wpList _ _ _ _ _ wr.drew
      have HBD : Hid (Below w3.heap.size w3 wr.drew) := Lib.hid HBR.out.drew
      have hzd : wr.drew.heap.size = wr.heap.size := rfl
      generalize wr.drew = wd at *
      clear c1 c2 c3 d1 d2 d3
      go_wp2_with fail
      refine (same_true x _ hkd).mono ?_
      rintro e w4 ⟨rfl, hb4⟩
      have HB4 : Hid (Below w3.heap.size w3 w4) := Lib.hid (HBD.out.trans (hb4.mono (by omega)))
      clear hb4 hzd
      go_wp2_with fail
      go_roundw
      case rel => exact ⟨k + 1, by omega, by go_num, HB4.out⟩
      case measure => simp [intOf]; omega
    · have HBR := Lib.hid hbr
      clear hbr
      go_wp2_with fail
      go_ret
      exact ⟨rfl, HB3.out.trans (HBR.out.mono (by omega))⟩
end Go.Proofs.YtdhllkbcheokfaaDoor
