/- The walk of the law on sequences that are left early. -/
import Derived.Test.YtdhllkbcheokfaaDoorLexSameB
import Derived.Test.YtdhllkbcheokfaaDoorLexToksB
import Derived.Maps.AppendAt
import Derived.RangeFuncBox
import Derived.Test.YtdhllkbcheokfaaDoorRoundStill
import Derived.Test.YtdhllkbcheokfaaDoorLexValue
namespace Go.Proofs.YtdhllkbcheokfaaDoor
open Go.RowKit Go.Shelf
attribute [local go_sem] Oper.semAt_some
theorem keeps_below {W W' : World} (h : Below W.heap.size W W') : KeepsOthers W W' := ⟨h.size, fun k _ hk _ => (h.block k (Array.getElem?_eq_some_iff.1 hk).1).trans hk⟩
theorem pre_at {T pre : List LexP.Tok} {x : LexP.Tok} (h : (pre ++ [x]) <+: T) : T[pre.length]? = some x := by
  obtain ⟨r, rfl⟩ := h
  simp
theorem with_tmps {F : Fence} {n : Nat} {P : Program} {c : Code} {Q : Exit → Act → World → Prop} {a : Act} {w : World} (h : ∀ (TM : Array Value) (DF : List Deferred), a = ⟨TM, DF⟩ → c.wpIn F n P Q ⟨TM, DF⟩ w) : c.wpIn F n P Q a w := h a.tmps a.defers rfl
set_option maxRecDepth 100000 in
set_option maxHeartbeats 4000000 in
theorem lexerLeaves_walk (s : ByteArray) (most : Int) (w : World) (hL : Laid w) (hs : s.size ≤ 140737488351232) (_hm1 : -9223372036854775808 ≤ most) (_hm2 : most ≤ 9223372036854775807) :
    Calls Tryd.prog 4 #[.string s, .int .i64 most] w (TruePost w) := by
  have h2' : 2 ≤ w.heap.size := by
    obtain ⟨_, t, fr, e⟩ := hL
    have := (Array.getElem?_eq_some_iff.1 e).1
    omega
  have HL := Lib.hid hL
  clear hL
  refine (callsIn_wide (n := 4)).1 ?_
  have hro : Fence.wide.round = none := rfl
  refine callsIn_of_wp_marks Tryd.func4 rfl trivial ?_ hro
  simp only [Tryd.ntmps4, List.size_toArray, List.length_cons, List.length_nil, Nat.reduceAdd, Nat.reduceSub, Array.replicate_succ, Array.replicate_zero, List.push_toArray, List.append_toArray, List.nil_append, List.cons_append]
  gi_wp2_with fail
  refine ⟨trivial, ?_⟩
  have hBa : Below w.heap.size w ((w.alloc (.cells #[.int .i64 most] 3)).alloc (.cells #[.bool false] 4)) := ((Below.refl _ w).alloc (Nat.le_refl _) _).alloc (by simp) _
  have hsa : ((w.alloc (.cells #[.int .i64 most] 3)).alloc (.cells #[.bool false] 4)).heap.size = w.heap.size + 2 := by simp
  refine (callsIn_wide.2 (awake_any _ (HL.out.below hBa h2') (by omega))).mono ?_
  rintro e w1 ⟨rfl, hb1⟩
  have m1 : w1.heap[w.heap.size]? = some (.cells #[.int .i64 most] 3 (0, 0)) := (hb1.block _ (by omega)).trans ((Below.heap_alloc _ _ _ (by simp)).trans (World.alloc_heap_new w _))
  have r1 : w1.heap[w.heap.size + 1]? = some (.cells #[.bool false] 4 (0, 0)) := (hb1.block _ (by omega)).trans (by have := World.alloc_heap_new (w.alloc (.cells #[.int .i64 most] 3)) (.cells #[.bool false] 4); rwa [World.size_alloc] at this)
  have hz1 : w.heap.size + 2 ≤ w1.heap.size := by have := hb1.size; omega
  have HB1 := Lib.hid (hBa.trans (hb1.mono (by omega)))
  have M1 := Lib.hid m1
  have R1 := Lib.hid r1
  clear hb1 hBa m1 r1
  gi_wp2_with fail
  refine ⟨trivial, ?_⟩
  refine (callsIn_wide.2 (short_any _ _)).mono ?_
  rintro e w' ⟨rfl, rfl⟩
  generalize hS : s.extract 0 (min s.size 500) = S
  have hSs : S.size ≤ 500 := by rw [← hS]; simp; omega
  clear hS hs
  gi_wp2_with fail
  refine ⟨trivial, ?_⟩
  refine (callsIn_wide.2 (reflex_any S w1 (by omega))).mono ?_
  rintro e w2 ⟨v2, rfl, hr2, hb2⟩
  have hz2 := hb2.size
  obtain ⟨a2, cap2, rfl, hc2⟩ := row_form hr2
  have HB2 := Lib.hid hb2
  have HR2 := Lib.hid hr2
  have hlen := LexP.lexB_length S
  generalize hT : LexP.lexB S = T at *
  have HT := Lib.hid hT
  clear hT hb2 hr2
  gi_wp2_with fail
  refine ⟨trivial, ?_⟩
  refine (callsIn_wide.2 (lex_any _ _)).mono ?_
  rintro e w' ⟨rfl, rfl⟩
  obtain ⟨W3, hW3⟩ : ∃ W3, (w2.alloc (.cells #[.slice a2 T.length cap2] 26)).alloc (.cells #[.string S] 9) = W3 := ⟨_, rfl⟩
  have hz3 : W3.heap.size = w2.heap.size + 2 := by rw [← hW3]; simp
  have HB3 : Hid (Below w1.heap.size w1 W3) := Lib.hid (by rw [← hW3]; exact HB2.out.trans ((((Below.refl _ w2).alloc (Nat.le_refl _) _).alloc (by simp) _).mono (by omega)))
  have HR3 : Hid (W3.ownsRow w1.heap.size 33 3 (.slice a2 T.length cap2) T.length (rowR T)) := Lib.hid (by rw [← hW3]; exact (HR2.out.alloc _).alloc _)
  have hw3 : W3.heap[w2.heap.size]? = some (.cells #[.slice a2 T.length cap2] 26 (0, 0)) := by rw [← hW3]; exact (Below.heap_alloc _ _ _ (by simp)).trans (World.alloc_heap_new w2 _)
  have hs3 : W3.heap[w2.heap.size + 1]? = some (.cells #[.string S] 9 (0, 0)) := by rw [← hW3]; have := World.alloc_heap_new (w2.alloc (.cells #[.slice a2 T.length cap2] 26)) (.cells #[.string S] 9); rwa [World.size_alloc] at this
  have hm3 : W3.heap[w.heap.size]? = some (.cells #[.int .i64 most] 3 (0, 0)) := (HB3.out.block _ (by omega)).trans M1.out
  have hr3 : W3.heap[w.heap.size + 1]? = some (.cells #[.bool false] 4 (0, 0)) := (HB3.out.block _ (by omega)).trans R1.out
  simp only [World.size_alloc]
  rw [hW3]
  have HL3 := Lib.hid ((HL.out.below HB1.out h2').below HB3.out (by omega))
  clear hW3
  have HZ3 := Lib.hid hz3
  have hz3a : w2.heap.size + 2 ≤ W3.heap.size := by omega
  clear hz3
  have HBW : Hid (Below w.heap.size w W3) := Lib.hid (HB1.out.trans (HB3.out.mono (by omega)))
  have HBW3 := HBW
  gi_wp2_with fail
  refine wpIn_loop_rounds 3 ?_
  rw [roundsIn_succ]
  gi_wp2_with fail
  obtain ⟨X3, hX⟩ : ∃ X, W3.alloc (.cells #[.int .i64 0] 3) = X := ⟨_, rfl⟩
  have bN : Boxed X3 W3.heap.size 3 (.int .i64 0) := by rw [← hX]; exact Boxed.new W3 _ _
  have hBX : Below W3.heap.size W3 X3 := by rw [← hX]; exact (Below.refl _ _).alloc (Nat.le_refl _) _
  have hzX : X3.heap.size = W3.heap.size + 1 := by rw [← hX]; simp
  rw [hX]
  clear hX
  have hseq : SeqStopsK Fence.wide (4 - 1) Tryd.prog 26 #[.pointer (some ⟨w2.heap.size + 1, 0, none⟩)] (fun x => #[tokV x]) (Kp W3.heap.size (w2.heap.size + 1)) (fun ys => ys = T) (fun pre => pre <+: T) T.length X3 := by
    rw [← HT.out]
    exact lex1_stops (4 - 1) (by omega) (w2.heap.size + 1) W3.heap.size S (by unfold maxLen; omega) (by omega) X3 (by omega) (by omega) ((hBX.block _ (by omega)).trans hs3) (HL3.out.below hBX (by omega))
  refine with_tmps ?_
  intro TM DF hTM
  refine wpIn_rangeFunc_ownH hro (by omega) (gf := 26) (lb := #[.pointer (some ⟨w2.heap.size + 1, 0, none⟩)]) (by cases hTM; rfl) trivial (enters_of Tryd.func26 (by kernel_rfl) rfl)
    hseq (kp_t _ _) (kp_b (by omega) (by omega)) (Below.refl _ _) (fun _ => rfl)
    (fun pre W => Boxed W W3.heap.size 3 (.int .i64 (pre.length : Nat)) ∧ Below W3.heap.size W3 W)
    (fun c pre W => (c = .ret ∧ ¬ pre <+: T) ∨ (c = .exit 2 ∧ Boxed W W3.heap.size 3 (.int .i64 most) ∧ Below W3.heap.size W3 W))
    (OwnFrom.and (Own.from (boxed_own _ _ _) _) (ownFrom_below (Nat.le_refl _) (by omega)))
    (fun c s A B row hs hg hr => by
      rcases hs with h | ⟨h1, h2, h3⟩
      · exact .inl h
      · have := (OwnFrom.and (Own.from (boxed_own W3.heap.size 3 (fun _ : List LexP.Tok => Value.int .i64 most)) X3.heap.size) (ownFrom_below (Nat.le_refl _) (by omega))) s A B row ⟨h2, h3⟩ hg hr
        exact .inr ⟨h1, this.1, this.2⟩)
    ⟨bN, hBX⟩
    (fun x a' W => ∃ Bx, W3.heap.size < Bx ∧ W.heap[Bx]? = some (.cells #[.int .u8 (x.kind : Nat), .string x.text, .int .i64 (x.off : Nat)] 31 (0, 0)) ∧ a' = ⟨(TM.setIfInBounds 20 (tokV x)).setIfInBounds 8 (.pointer (some ⟨Bx, 0, none⟩)), []⟩)
    (fun x a' _ X Y row hs hg hr => by
      obtain ⟨Bx, h1, h2, h3⟩ := hs
      refine ⟨Bx, h1, ?_, h3⟩
      refine (hg.block Bx (Array.getElem?_eq_some_iff.1 h2).1 (fun e => ?_)).trans h2
      obtain ⟨_, o, ho, hc⟩ := hr Bx e.symm
      rw [h2] at ho; cases ho; cases hc)
    ?assign3 ?body3 ?done3 ?stop3
  case assign3 =>
    cases hTM
    rintro l pre x W K ⟨bn, hB1⟩ hK
    simp only [tokV]
    gi_wp2
    have hW := hB1.size
    have hBW2 : Below W3.heap.size W (W.alloc (.cells #[.int .u8 (x.kind : Nat), .string x.text, .int .i64 (x.off : Nat)] 31)) := (Below.refl _ W).alloc hW _
    refine hK _ _ ((KeepsOthers.alloc _ _).from _) ⟨hBW2, hBW2.block _ (by omega)⟩ ⟨bn.alloc _, hB1.trans hBW2⟩ ⟨W.heap.size, bn.lt, World.alloc_heap_new W _, rfl⟩
  case body3 =>
    cases hTM
    rintro l pre x a' W hl - ⟨bn, hB1⟩ ⟨Bx, hBx, bX, rfl⟩ hlt
    have hW := hB1.size
    obtain ⟨g, capg, e2, hg, hg', hcapg, hcl⟩ := row_cells HR3.out (by omega)
    injection e2 with e2 _ e2'
    subst e2 e2'
    obtain ⟨y, hx⟩ : ∃ y, T[pre.length]? = some y := ⟨_, List.getElem?_eq_getElem hlt⟩
    obtain ⟨r1, r2, r3⟩ := rowR_at _ _ _ hx
    have d1 := (hB1.cell (p := ⟨g, pre.length * 3, none⟩) hg').trans (hcl _ _ r1)
    have d2 := (hB1.cell (p := ⟨g, pre.length * 3 + 1, none⟩) hg').trans (hcl _ _ r2)
    have d3 := (hB1.cell (p := ⟨g, pre.length * 3 + 2, none⟩) hg').trans (hcl _ _ r3)
    have cn := bn.cell
    have cm := cell_of_one ((hB1.block _ (by omega)).trans hm3)
    have cw := cell_of_one ((hB1.block _ (by omega)).trans hw3)
    have t0 := cell_at bX 0 _ rfl
    have t1 := cell_at bX 1 _ rfl
    have t2 := cell_at bX 2 _ rfl
    simp only [tokV, List.setIfInBounds_toArray, List.set_cons_succ, List.set_cons_zero]
    cases hq : ((pre.length : Int) == most)
    · have hge : decide (T.length ≤ pre.length) = false := by simp; omega
      have HX := Lib.hid hx
      clear hx hcl r1 r2 r3
      cases hsm : sameB x y
      all_goals
        gi_wp2_with fail
        refine RoundStill.region_tail 10 (by kernel_rfl) (by kernel_rfl) (by kernel_rfl) ?_ ?_
        · rintro ⟨_, _, h⟩
          exact h.elim
        simp only [List.take_succ_cons, List.take_zero, List.drop_succ_cons, List.drop_zero]
        repeat still_step
        refine wpStill_nil ?_
        change wpList _ _ _ _ _ W.drew
        go_wp2_with (go_at_call 14; refine (same_any x y _).mono ?_; rintro e w4 ⟨rfl, hb4⟩)
        have hb5 : Below W.heap.size W w4 := (Below.refl _ W).drew.trans hb4
        have bn4 : Boxed w4 W3.heap.size 3 (.int .i64 (pre.length : Nat)) := (hb5.block _ bn.lt).trans bn
        have r4 := (hb5.block (w.heap.size + 1) (by omega)).trans ((hB1.block _ (by omega)).trans hr3)
        have cr := cell_of_one r4
        have fr := free_of_one r4
        have cn4 := bn4.cell
        have fn4 := bn4.frozen
        have HB5 := Lib.hid hb5
        have HBY := Lib.hid (hB1.trans (hb5.mono hW))
        clear hb4 hb5 d1 d2 d3 cn cm cw t0 t1 t2 r4
      · gi_wp2_with fail
        refine ⟨(keeps_below HB5.out).trans (KeepsOthers.setCell _ _ _) |>.from _, .inl ⟨rfl, fun hp => ?_⟩⟩
        have e1 := pre_at hp
        rw [HX.out] at e1
        injection e1 with e1
        subst e1
        have hk := LexP.lexB_kind S y (by rw [HT.out]; exact List.mem_of_getElem? HX.out)
        rw [sameB_self y hk.2] at hsm
        cases hsm
      · have hpl : pre.length < 9223372036854775807 := by omega
        gi_wp2_with fail
        have hset := bn4.set (.int .i64 ((pre.length : Int) + 1))
        have hbs : Below W3.heap.size W (w4.setCell ⟨W3.heap.size, 0, none⟩ (.int .i64 ((pre.length : Int) + 1))) := (HB5.out.mono hW).setCell (p := ⟨W3.heap.size, 0, none⟩) (Nat.le_refl _) _
        refine ⟨(keeps_below HB5.out).trans (KeepsOthers.setCell _ _ _) |>.from _, ⟨hbs, hbs.block _ (by omega)⟩, by simpa using hset, hB1.trans hbs⟩
    · clear d1 d2 d3 hx hcl r1 r2 r3
      gi_wp2_with fail
      have e3 : (pre.length : Int) = most := by simpa using hq
      exact ⟨KeepsFrom.refl _ _, .inr ⟨rfl, by rw [← e3]; exact bn, hB1⟩⟩
  case done3 =>
    cases hTM
    rintro D4 ys W4 hD hys ⟨bn, hB1⟩ hK4
    rw [hys] at bn
    clear hys
    have hW := hB1.size
    have bnc := bn.cell
    have cm := cell_of_one ((hB1.block _ (by omega)).trans hm3)
    have cw := cell_of_one ((hB1.block _ (by omega)).trans hw3)
    have hs4 := (hB1.block _ (by omega)).trans hs3
    have hm4 := (hB1.block _ (by omega)).trans hm3
    have hw4 := (hB1.block _ (by omega)).trans hw3
    have hr4 := (hB1.block _ (by omega)).trans hr3
    have HL4 := Lib.hid (HL3.out.below hB1 (by omega))
    have HR4 := Lib.hid (ownsRow_below HR3.out hB1)
    have HBW4 : Hid (Below w.heap.size w W4) := Lib.hid (HBW3.out.trans (hB1.mono (by omega)))
    have hlt4 := (Array.getElem?_eq_some_iff.1 hK4).1
    have hq : (((T.length : Nat) : Int) != (T.length : Int)) = false := by simp
    gi_wp2_with fail
    clear cm cw bnc hq
    rw [roundsIn_succ]
    gi_wp2_with fail
    obtain ⟨X4, hX⟩ : ∃ X, W4.alloc (.cells #[.int .i64 0] 3) = X := ⟨_, rfl⟩
    have bN : Boxed X4 W4.heap.size 3 (.int .i64 0) := by rw [← hX]; exact Boxed.new W4 _ _
    have hBX : Below W4.heap.size W4 X4 := by rw [← hX]; exact (Below.refl _ _).alloc (Nat.le_refl _) _
    have hzX : X4.heap.size = W4.heap.size + 1 := by rw [← hX]; simp
    rw [hX]
    clear hX
    have hseq : SeqStopsK Fence.wide (4 - 1) Tryd.prog 26 #[.pointer (some ⟨w2.heap.size + 1, 0, none⟩)] (fun x => #[tokV x]) (Kp W4.heap.size (w2.heap.size + 1)) (fun ys => ys = T) (fun pre => pre <+: T) T.length X4 := by
      rw [← HT.out]
      exact lex1_stops (4 - 1) (by omega) (w2.heap.size + 1) W4.heap.size S (by unfold maxLen; omega) (by omega) X4 (by omega) (by omega) ((hBX.block _ (by omega)).trans hs4) (HL4.out.below hBX (by omega))
    refine with_tmps ?_
    intro TM DF hTM
    refine wpIn_rangeFunc_ownH hro (by omega) (gf := 26) (lb := #[.pointer (some ⟨w2.heap.size + 1, 0, none⟩)]) (by cases hTM; rfl) trivial (enters_of Tryd.func26 (by kernel_rfl) rfl)
      hseq (kp_t _ _) (kp_b (by omega) (by omega)) (Below.refl _ _) (fun _ => rfl)
      (fun pre W => Boxed W W4.heap.size 3 (.int .i64 (pre.length : Nat)) ∧ Below W4.heap.size W4 W)
      (fun c pre W => (c = .ret ∧ ¬ pre <+: T) ∨ (c = .exit 2 ∧ Boxed W W4.heap.size 3 (.int .i64 most) ∧ Below W4.heap.size W4 W))
      (OwnFrom.and (Own.from (boxed_own _ _ _) _) (ownFrom_below (Nat.le_refl _) (by omega)))
      (fun c s A B row hs hg hr => by
        rcases hs with h | ⟨h1, h2, h3⟩
        · exact .inl h
        · have := (OwnFrom.and (Own.from (boxed_own W4.heap.size 3 (fun _ : List LexP.Tok => Value.int .i64 most)) X4.heap.size) (ownFrom_below (Nat.le_refl _) (by omega))) s A B row ⟨h2, h3⟩ hg hr
          exact .inr ⟨h1, this.1, this.2⟩)
      ⟨bN, hBX⟩
      (fun x a' W => ∃ Bx, W4.heap.size < Bx ∧ W.heap[Bx]? = some (.cells #[.int .u8 (x.kind : Nat), .string x.text, .int .i64 (x.off : Nat)] 31 (0, 0)) ∧ a' = ⟨(TM.setIfInBounds 20 (tokV x)).setIfInBounds 8 (.pointer (some ⟨Bx, 0, none⟩)), []⟩)
      (fun x a' _ X Y row hs hg hr => by
        obtain ⟨Bx, h1, h2, h3⟩ := hs
        refine ⟨Bx, h1, ?_, h3⟩
        refine (hg.block Bx (Array.getElem?_eq_some_iff.1 h2).1 (fun e => ?_)).trans h2
        obtain ⟨_, o, ho, hc⟩ := hr Bx e.symm
        rw [h2] at ho; cases ho; cases hc)
      ?assign4 ?body4 ?done4 ?stop4
    case assign4 =>
      cases hTM
      rintro l pre x W K ⟨bn, hB1⟩ hK
      simp only [tokV]
      gi_wp2
      have hW := hB1.size
      have hBW2 : Below W4.heap.size W (W.alloc (.cells #[.int .u8 (x.kind : Nat), .string x.text, .int .i64 (x.off : Nat)] 31)) := (Below.refl _ W).alloc hW _
      refine hK _ _ ((KeepsOthers.alloc _ _).from _) ⟨hBW2, hBW2.block _ (by omega)⟩ ⟨bn.alloc _, hB1.trans hBW2⟩ ⟨W.heap.size, bn.lt, World.alloc_heap_new W _, rfl⟩
    case body4 =>
      cases hTM
      rintro l pre x a' W hl - ⟨bn, hB1⟩ ⟨Bx, hBx, bX, rfl⟩ hlt
      have hW := hB1.size
      obtain ⟨g, capg, e2, hg, hg', hcapg, hcl⟩ := row_cells HR4.out (by omega)
      injection e2 with e2 _ e2'
      subst e2 e2'
      obtain ⟨y, hx⟩ : ∃ y, T[pre.length]? = some y := ⟨_, List.getElem?_eq_getElem hlt⟩
      obtain ⟨r1, r2, r3⟩ := rowR_at _ _ _ hx
      have d1 := (hB1.cell (p := ⟨g, pre.length * 3, none⟩) hg').trans (hcl _ _ r1)
      have d2 := (hB1.cell (p := ⟨g, pre.length * 3 + 1, none⟩) hg').trans (hcl _ _ r2)
      have d3 := (hB1.cell (p := ⟨g, pre.length * 3 + 2, none⟩) hg').trans (hcl _ _ r3)
      have cn := bn.cell
      have cm := cell_of_one ((hB1.block _ (by omega)).trans hm4)
      have cw := cell_of_one ((hB1.block _ (by omega)).trans hw4)
      have t0 := cell_at bX 0 _ rfl
      have t1 := cell_at bX 1 _ rfl
      have t2 := cell_at bX 2 _ rfl
      simp only [tokV, List.setIfInBounds_toArray, List.set_cons_succ, List.set_cons_zero]
      cases hq : ((pre.length : Int) == most)
      · have hge : decide (T.length ≤ pre.length) = false := by simp; omega
        have HX := Lib.hid hx
        clear hx hcl r1 r2 r3
        cases hsm : sameB x y
        all_goals
          gi_wp2_with fail
          refine RoundStill.region_tail 10 (by kernel_rfl) (by kernel_rfl) (by kernel_rfl) ?_ ?_
          · rintro ⟨_, _, h⟩
            exact h.elim
          simp only [List.take_succ_cons, List.take_zero, List.drop_succ_cons, List.drop_zero]
          repeat still_step
          refine wpStill_nil ?_
          change wpList _ _ _ _ _ W.drew
          go_wp2_with (go_at_call 14; refine (same_any x y _).mono ?_; rintro e w4 ⟨rfl, hb4⟩)
          have hb5 : Below W.heap.size W w4 := (Below.refl _ W).drew.trans hb4
          have bn4 : Boxed w4 W4.heap.size 3 (.int .i64 (pre.length : Nat)) := (hb5.block _ bn.lt).trans bn
          have r4 := (hb5.block (w.heap.size + 1) (by omega)).trans ((hB1.block _ (by omega)).trans hr4)
          have cr := cell_of_one r4
          have fr := free_of_one r4
          have cn4 := bn4.cell
          have fn4 := bn4.frozen
          have HB5 := Lib.hid hb5
          have HBY := Lib.hid (hB1.trans (hb5.mono hW))
          clear hb4 hb5 d1 d2 d3 cn cm cw t0 t1 t2 r4
        · gi_wp2_with fail
          refine ⟨(keeps_below HB5.out).trans (KeepsOthers.setCell _ _ _) |>.from _, .inl ⟨rfl, fun hp => ?_⟩⟩
          have e1 := pre_at hp
          rw [HX.out] at e1
          injection e1 with e1
          subst e1
          have hk := LexP.lexB_kind S y (by rw [HT.out]; exact List.mem_of_getElem? HX.out)
          rw [sameB_self y hk.2] at hsm
          cases hsm
        · have hpl : pre.length < 9223372036854775807 := by omega
          gi_wp2_with fail
          have hset := bn4.set (.int .i64 ((pre.length : Int) + 1))
          have hbs : Below W4.heap.size W (w4.setCell ⟨W4.heap.size, 0, none⟩ (.int .i64 ((pre.length : Int) + 1))) := (HB5.out.mono hW).setCell (p := ⟨W4.heap.size, 0, none⟩) (Nat.le_refl _) _
          refine ⟨(keeps_below HB5.out).trans (KeepsOthers.setCell _ _ _) |>.from _, ⟨hbs, hbs.block _ (by omega)⟩, by simpa using hset, hB1.trans hbs⟩
      · clear d1 d2 d3 hx hcl r1 r2 r3
        gi_wp2_with fail
        have e3 : (pre.length : Int) = most := by simpa using hq
        exact ⟨KeepsFrom.refl _ _, .inr ⟨rfl, by rw [← e3]; exact bn, hB1⟩⟩
    case done4 =>
      cases hTM
      rintro D5 ys W5 hD hys ⟨bn, hB1⟩ hK5
      rw [hys] at bn
      clear hys
      have hW := hB1.size
      have bnc := bn.cell
      have cm := cell_of_one ((hB1.block _ (by omega)).trans hm4)
      have cw := cell_of_one ((hB1.block _ (by omega)).trans hw4)
      have hs5 := (hB1.block _ (by omega)).trans hs4
      have hm5 := (hB1.block _ (by omega)).trans hm4
      have hw5 := (hB1.block _ (by omega)).trans hw4
      have hr5 := (hB1.block _ (by omega)).trans hr4
      have HL5 := Lib.hid (HL4.out.below hB1 (by omega))
      have HR5 := Lib.hid (ownsRow_below HR4.out hB1)
      have HBW5 : Hid (Below w.heap.size w W5) := Lib.hid (HBW4.out.trans (hB1.mono (by omega)))
      have hlt5 := (Array.getElem?_eq_some_iff.1 hK5).1
      have hK4_5 := (hB1.block _ (by omega)).trans hK4
      have hq : (((T.length : Nat) : Int) != (T.length : Int)) = false := by simp
      gi_wp2_with fail
      clear cm cw bnc hq
      rw [roundsIn_succ]
      have cr := cell_of_one hr5
      have fr := free_of_one hr5
      gi_wp2_with fail
      have k5 : (W5.setCell ⟨w.heap.size + 1, 0, none⟩ (.bool true)).heap[D5]? = some (.deferred (some [])) := (Below.heap_setCell _ _ _ D5 (by show D5 ≠ w.heap.size + 1; omega)).trans hK5
      have k4 : (W5.setCell ⟨w.heap.size + 1, 0, none⟩ (.bool true)).heap[D4]? = some (.deferred (some [])) := (Below.heap_setCell _ _ _ D4 (by show D4 ≠ w.heap.size + 1; omega)).trans hK4_5
      have hne : D4 ≠ D5 := by omega
      have bR : Boxed (W5.setCell ⟨w.heap.size + 1, 0, none⟩ (.bool true)) (w.heap.size + 1) 4 (.bool true) := Boxed.set (.bool true) hr5
      have hBF : Below w.heap.size w (W5.setCell ⟨w.heap.size + 1, 0, none⟩ (.bool true)) := HBW5.out.setCell (p := ⟨w.heap.size + 1, 0, none⟩) (by simp) _
      have hlt5' := (Array.getElem?_eq_some_iff.1 k5).1
      have hlt4' := (Array.getElem?_eq_some_iff.1 k4).1
      generalize W5.setCell ⟨w.heap.size + 1, 0, none⟩ (.bool true) = WF at *
      refine ⟨by simp, .inl ⟨_, _, rfl, run_takeDeferred k5, ?_⟩⟩
      have k4' : (WF.putObj D5 (.deferred none)).heap[D4]? = some (.deferred (some [])) := ((grownBy_putObj' WF D5 (.deferred none)).block D4 hlt4' (by simp; omega)).trans k4
      have bR' : Boxed (WF.putObj D5 (.deferred none)) (w.heap.size + 1) 4 (.bool true) := bR.kept (grownBy_putObj' WF D5 (.deferred none)) (by simp; omega)
      have hBF' : Below w.heap.size w (WF.putObj D5 (.deferred none)) := hBF.trans (belowK_b (w := w) (Nat.le_refl _) WF D5 _ _ (by omega) k5 rfl rfl)
      generalize WF.putObj D5 (.deferred none) = WG at *
      refine ⟨by simp, .inl ⟨_, _, rfl, run_takeDeferred k4', ?_⟩⟩
      have bR2 : Boxed (WG.putObj D4 (.deferred none)) (w.heap.size + 1) 4 (.bool true) := bR'.kept (grownBy_putObj' WG D4 (.deferred none)) (by simp; omega)
      have hBF2 : Below w.heap.size w (WG.putObj D4 (.deferred none)) := hBF'.trans (belowK_b (w := w) (Nat.le_refl _) WG D4 _ _ (by omega) k4' rfl rfl)
      generalize WG.putObj D4 (.deferred none) = WH at *
      have cR := bR2.cell
      refine ⟨.bool true, by simp [results, Tryd.results4, go_sem, cR], rfl, hBF2⟩
    case stop4 =>
      cases hTM
      rintro D5 c pre W5 hD hpre hIx hK5
      rcases hIx with ⟨_, hno⟩ | ⟨rfl, bn, hB1⟩
      · exact absurd hpre hno
      have hW := hB1.size
      have bnc := bn.cell
      have cm := cell_of_one ((hB1.block _ (by omega)).trans hm4)
      have cw := cell_of_one ((hB1.block _ (by omega)).trans hw4)
      have hs5 := (hB1.block _ (by omega)).trans hs4
      have hm5 := (hB1.block _ (by omega)).trans hm4
      have hw5 := (hB1.block _ (by omega)).trans hw4
      have hr5 := (hB1.block _ (by omega)).trans hr4
      have HL5 := Lib.hid (HL4.out.below hB1 (by omega))
      have HR5 := Lib.hid (ownsRow_below HR4.out hB1)
      have HBW5 : Hid (Below w.heap.size w W5) := Lib.hid (HBW4.out.trans (hB1.mono (by omega)))
      have hlt5 := (Array.getElem?_eq_some_iff.1 hK5).1
      have hK4_5 := (hB1.block _ (by omega)).trans hK4
      have hq2 : (most != most) = false := by simp
      cases hq : (most != (T.length : Int))
      all_goals
        gi_wp2_with fail
        clear cm cw bnc hq hq2
        rw [roundsIn_succ]
        have cr := cell_of_one hr5
        have fr := free_of_one hr5
        gi_wp2_with fail
        have k5 : (W5.setCell ⟨w.heap.size + 1, 0, none⟩ (.bool true)).heap[D5]? = some (.deferred (some [])) := (Below.heap_setCell _ _ _ D5 (by show D5 ≠ w.heap.size + 1; omega)).trans hK5
        have k4 : (W5.setCell ⟨w.heap.size + 1, 0, none⟩ (.bool true)).heap[D4]? = some (.deferred (some [])) := (Below.heap_setCell _ _ _ D4 (by show D4 ≠ w.heap.size + 1; omega)).trans hK4_5
        have hne : D4 ≠ D5 := by omega
        have bR : Boxed (W5.setCell ⟨w.heap.size + 1, 0, none⟩ (.bool true)) (w.heap.size + 1) 4 (.bool true) := Boxed.set (.bool true) hr5
        have hBF : Below w.heap.size w (W5.setCell ⟨w.heap.size + 1, 0, none⟩ (.bool true)) := HBW5.out.setCell (p := ⟨w.heap.size + 1, 0, none⟩) (by simp) _
        have hlt5' := (Array.getElem?_eq_some_iff.1 k5).1
        have hlt4' := (Array.getElem?_eq_some_iff.1 k4).1
        generalize W5.setCell ⟨w.heap.size + 1, 0, none⟩ (.bool true) = WF at *
        refine ⟨by simp, .inl ⟨_, _, rfl, run_takeDeferred k5, ?_⟩⟩
        have k4' : (WF.putObj D5 (.deferred none)).heap[D4]? = some (.deferred (some [])) := ((grownBy_putObj' WF D5 (.deferred none)).block D4 hlt4' (by simp; omega)).trans k4
        have bR' : Boxed (WF.putObj D5 (.deferred none)) (w.heap.size + 1) 4 (.bool true) := bR.kept (grownBy_putObj' WF D5 (.deferred none)) (by simp; omega)
        have hBF' : Below w.heap.size w (WF.putObj D5 (.deferred none)) := hBF.trans (belowK_b (w := w) (Nat.le_refl _) WF D5 _ _ (by omega) k5 rfl rfl)
        generalize WF.putObj D5 (.deferred none) = WG at *
        refine ⟨by simp, .inl ⟨_, _, rfl, run_takeDeferred k4', ?_⟩⟩
        have bR2 : Boxed (WG.putObj D4 (.deferred none)) (w.heap.size + 1) 4 (.bool true) := bR'.kept (grownBy_putObj' WG D4 (.deferred none)) (by simp; omega)
        have hBF2 : Below w.heap.size w (WG.putObj D4 (.deferred none)) := hBF'.trans (belowK_b (w := w) (Nat.le_refl _) WG D4 _ _ (by omega) k4' rfl rfl)
        generalize WG.putObj D4 (.deferred none) = WH at *
        have cR := bR2.cell
        refine ⟨.bool true, by simp [results, Tryd.results4, go_sem, cR], rfl, hBF2⟩
  case stop3 =>
    cases hTM
    rintro D4 c pre W4 hD hpre hIx hK4
    rcases hIx with ⟨_, hno⟩ | ⟨rfl, bn, hB1⟩
    · exact absurd hpre hno
    have hW := hB1.size
    have bnc := bn.cell
    have cm := cell_of_one ((hB1.block _ (by omega)).trans hm3)
    have cw := cell_of_one ((hB1.block _ (by omega)).trans hw3)
    have hs4 := (hB1.block _ (by omega)).trans hs3
    have hm4 := (hB1.block _ (by omega)).trans hm3
    have hw4 := (hB1.block _ (by omega)).trans hw3
    have hr4 := (hB1.block _ (by omega)).trans hr3
    have HL4 := Lib.hid (HL3.out.below hB1 (by omega))
    have HR4 := Lib.hid (ownsRow_below HR3.out hB1)
    have HBW4 : Hid (Below w.heap.size w W4) := Lib.hid (HBW3.out.trans (hB1.mono (by omega)))
    have hlt4 := (Array.getElem?_eq_some_iff.1 hK4).1
    have hq2 : (most != most) = false := by simp
    cases hq : (most != (T.length : Int))
    all_goals
      gi_wp2_with fail
      clear cm cw bnc hq hq2
      rw [roundsIn_succ]
      gi_wp2_with fail
      obtain ⟨X4, hX⟩ : ∃ X, W4.alloc (.cells #[.int .i64 0] 3) = X := ⟨_, rfl⟩
      have bN : Boxed X4 W4.heap.size 3 (.int .i64 0) := by rw [← hX]; exact Boxed.new W4 _ _
      have hBX : Below W4.heap.size W4 X4 := by rw [← hX]; exact (Below.refl _ _).alloc (Nat.le_refl _) _
      have hzX : X4.heap.size = W4.heap.size + 1 := by rw [← hX]; simp
      rw [hX]
      clear hX
      have hseq : SeqStopsK Fence.wide (4 - 1) Tryd.prog 26 #[.pointer (some ⟨w2.heap.size + 1, 0, none⟩)] (fun x => #[tokV x]) (Kp W4.heap.size (w2.heap.size + 1)) (fun ys => ys = T) (fun pre => pre <+: T) T.length X4 := by
        rw [← HT.out]
        exact lex1_stops (4 - 1) (by omega) (w2.heap.size + 1) W4.heap.size S (by unfold maxLen; omega) (by omega) X4 (by omega) (by omega) ((hBX.block _ (by omega)).trans hs4) (HL4.out.below hBX (by omega))
      refine with_tmps ?_
      intro TM DF hTM
      refine wpIn_rangeFunc_ownH hro (by omega) (gf := 26) (lb := #[.pointer (some ⟨w2.heap.size + 1, 0, none⟩)]) (by cases hTM; rfl) trivial (enters_of Tryd.func26 (by kernel_rfl) rfl)
        hseq (kp_t _ _) (kp_b (by omega) (by omega)) (Below.refl _ _) (fun _ => rfl)
        (fun pre W => Boxed W W4.heap.size 3 (.int .i64 (pre.length : Nat)) ∧ Below W4.heap.size W4 W)
        (fun c pre W => (c = .ret ∧ ¬ pre <+: T) ∨ (c = .exit 2 ∧ Boxed W W4.heap.size 3 (.int .i64 most) ∧ Below W4.heap.size W4 W))
        (OwnFrom.and (Own.from (boxed_own _ _ _) _) (ownFrom_below (Nat.le_refl _) (by omega)))
        (fun c s A B row hs hg hr => by
          rcases hs with h | ⟨h1, h2, h3⟩
          · exact .inl h
          · have := (OwnFrom.and (Own.from (boxed_own W4.heap.size 3 (fun _ : List LexP.Tok => Value.int .i64 most)) X4.heap.size) (ownFrom_below (Nat.le_refl _) (by omega))) s A B row ⟨h2, h3⟩ hg hr
            exact .inr ⟨h1, this.1, this.2⟩)
        ⟨bN, hBX⟩
        (fun x a' W => ∃ Bx, W4.heap.size < Bx ∧ W.heap[Bx]? = some (.cells #[.int .u8 (x.kind : Nat), .string x.text, .int .i64 (x.off : Nat)] 31 (0, 0)) ∧ a' = ⟨(TM.setIfInBounds 20 (tokV x)).setIfInBounds 8 (.pointer (some ⟨Bx, 0, none⟩)), []⟩)
        (fun x a' _ X Y row hs hg hr => by
          obtain ⟨Bx, h1, h2, h3⟩ := hs
          refine ⟨Bx, h1, ?_, h3⟩
          refine (hg.block Bx (Array.getElem?_eq_some_iff.1 h2).1 (fun e => ?_)).trans h2
          obtain ⟨_, o, ho, hc⟩ := hr Bx e.symm
          rw [h2] at ho; cases ho; cases hc)
        ?assign4 ?body4 ?done4 ?stop4
      case assign4 =>
        cases hTM
        rintro l pre x W K ⟨bn, hB1⟩ hK
        simp only [tokV]
        gi_wp2
        have hW := hB1.size
        have hBW2 : Below W4.heap.size W (W.alloc (.cells #[.int .u8 (x.kind : Nat), .string x.text, .int .i64 (x.off : Nat)] 31)) := (Below.refl _ W).alloc hW _
        refine hK _ _ ((KeepsOthers.alloc _ _).from _) ⟨hBW2, hBW2.block _ (by omega)⟩ ⟨bn.alloc _, hB1.trans hBW2⟩ ⟨W.heap.size, bn.lt, World.alloc_heap_new W _, rfl⟩
      case body4 =>
        cases hTM
        rintro l pre x a' W hl - ⟨bn, hB1⟩ ⟨Bx, hBx, bX, rfl⟩ hlt
        have hW := hB1.size
        obtain ⟨g, capg, e2, hg, hg', hcapg, hcl⟩ := row_cells HR4.out (by omega)
        injection e2 with e2 _ e2'
        subst e2 e2'
        obtain ⟨y, hx⟩ : ∃ y, T[pre.length]? = some y := ⟨_, List.getElem?_eq_getElem hlt⟩
        obtain ⟨r1, r2, r3⟩ := rowR_at _ _ _ hx
        have d1 := (hB1.cell (p := ⟨g, pre.length * 3, none⟩) hg').trans (hcl _ _ r1)
        have d2 := (hB1.cell (p := ⟨g, pre.length * 3 + 1, none⟩) hg').trans (hcl _ _ r2)
        have d3 := (hB1.cell (p := ⟨g, pre.length * 3 + 2, none⟩) hg').trans (hcl _ _ r3)
        have cn := bn.cell
        have cm := cell_of_one ((hB1.block _ (by omega)).trans hm4)
        have cw := cell_of_one ((hB1.block _ (by omega)).trans hw4)
        have t0 := cell_at bX 0 _ rfl
        have t1 := cell_at bX 1 _ rfl
        have t2 := cell_at bX 2 _ rfl
        simp only [tokV, List.setIfInBounds_toArray, List.set_cons_succ, List.set_cons_zero]
        cases hq : ((pre.length : Int) == most)
        · have hge : decide (T.length ≤ pre.length) = false := by simp; omega
          have HX := Lib.hid hx
          clear hx hcl r1 r2 r3
          cases hsm : sameB x y
          all_goals
            gi_wp2_with fail
            refine RoundStill.region_tail 10 (by kernel_rfl) (by kernel_rfl) (by kernel_rfl) ?_ ?_
            · rintro ⟨_, _, h⟩
              exact h.elim
            simp only [List.take_succ_cons, List.take_zero, List.drop_succ_cons, List.drop_zero]
            repeat still_step
            refine wpStill_nil ?_
            change wpList _ _ _ _ _ W.drew
            go_wp2_with (go_at_call 14; refine (same_any x y _).mono ?_; rintro e w4 ⟨rfl, hb4⟩)
            have hb5 : Below W.heap.size W w4 := (Below.refl _ W).drew.trans hb4
            have bn4 : Boxed w4 W4.heap.size 3 (.int .i64 (pre.length : Nat)) := (hb5.block _ bn.lt).trans bn
            have r4 := (hb5.block (w.heap.size + 1) (by omega)).trans ((hB1.block _ (by omega)).trans hr4)
            have cr := cell_of_one r4
            have fr := free_of_one r4
            have cn4 := bn4.cell
            have fn4 := bn4.frozen
            have HB5 := Lib.hid hb5
            have HBY := Lib.hid (hB1.trans (hb5.mono hW))
            clear hb4 hb5 d1 d2 d3 cn cm cw t0 t1 t2 r4
          · gi_wp2_with fail
            refine ⟨(keeps_below HB5.out).trans (KeepsOthers.setCell _ _ _) |>.from _, .inl ⟨rfl, fun hp => ?_⟩⟩
            have e1 := pre_at hp
            rw [HX.out] at e1
            injection e1 with e1
            subst e1
            have hk := LexP.lexB_kind S y (by rw [HT.out]; exact List.mem_of_getElem? HX.out)
            rw [sameB_self y hk.2] at hsm
            cases hsm
          · have hpl : pre.length < 9223372036854775807 := by omega
            gi_wp2_with fail
            have hset := bn4.set (.int .i64 ((pre.length : Int) + 1))
            have hbs : Below W4.heap.size W (w4.setCell ⟨W4.heap.size, 0, none⟩ (.int .i64 ((pre.length : Int) + 1))) := (HB5.out.mono hW).setCell (p := ⟨W4.heap.size, 0, none⟩) (Nat.le_refl _) _
            refine ⟨(keeps_below HB5.out).trans (KeepsOthers.setCell _ _ _) |>.from _, ⟨hbs, hbs.block _ (by omega)⟩, by simpa using hset, hB1.trans hbs⟩
        · clear d1 d2 d3 hx hcl r1 r2 r3
          gi_wp2_with fail
          have e3 : (pre.length : Int) = most := by simpa using hq
          exact ⟨KeepsFrom.refl _ _, .inr ⟨rfl, by rw [← e3]; exact bn, hB1⟩⟩
      case done4 =>
        cases hTM
        rintro D5 ys W5 hD hys ⟨bn, hB1⟩ hK5
        rw [hys] at bn
        clear hys
        have hW := hB1.size
        have bnc := bn.cell
        have cm := cell_of_one ((hB1.block _ (by omega)).trans hm4)
        have cw := cell_of_one ((hB1.block _ (by omega)).trans hw4)
        have hs5 := (hB1.block _ (by omega)).trans hs4
        have hm5 := (hB1.block _ (by omega)).trans hm4
        have hw5 := (hB1.block _ (by omega)).trans hw4
        have hr5 := (hB1.block _ (by omega)).trans hr4
        have HL5 := Lib.hid (HL4.out.below hB1 (by omega))
        have HR5 := Lib.hid (ownsRow_below HR4.out hB1)
        have HBW5 : Hid (Below w.heap.size w W5) := Lib.hid (HBW4.out.trans (hB1.mono (by omega)))
        have hlt5 := (Array.getElem?_eq_some_iff.1 hK5).1
        have hK4_5 := (hB1.block _ (by omega)).trans hK4
        have hq : (((T.length : Nat) : Int) != (T.length : Int)) = false := by simp
        gi_wp2_with fail
        clear cm cw bnc hq
        rw [roundsIn_succ]
        have cr := cell_of_one hr5
        have fr := free_of_one hr5
        gi_wp2_with fail
        have k5 : (W5.setCell ⟨w.heap.size + 1, 0, none⟩ (.bool true)).heap[D5]? = some (.deferred (some [])) := (Below.heap_setCell _ _ _ D5 (by show D5 ≠ w.heap.size + 1; omega)).trans hK5
        have k4 : (W5.setCell ⟨w.heap.size + 1, 0, none⟩ (.bool true)).heap[D4]? = some (.deferred (some [])) := (Below.heap_setCell _ _ _ D4 (by show D4 ≠ w.heap.size + 1; omega)).trans hK4_5
        have hne : D4 ≠ D5 := by omega
        have bR : Boxed (W5.setCell ⟨w.heap.size + 1, 0, none⟩ (.bool true)) (w.heap.size + 1) 4 (.bool true) := Boxed.set (.bool true) hr5
        have hBF : Below w.heap.size w (W5.setCell ⟨w.heap.size + 1, 0, none⟩ (.bool true)) := HBW5.out.setCell (p := ⟨w.heap.size + 1, 0, none⟩) (by simp) _
        have hlt5' := (Array.getElem?_eq_some_iff.1 k5).1
        have hlt4' := (Array.getElem?_eq_some_iff.1 k4).1
        generalize W5.setCell ⟨w.heap.size + 1, 0, none⟩ (.bool true) = WF at *
        refine ⟨by simp, .inl ⟨_, _, rfl, run_takeDeferred k5, ?_⟩⟩
        have k4' : (WF.putObj D5 (.deferred none)).heap[D4]? = some (.deferred (some [])) := ((grownBy_putObj' WF D5 (.deferred none)).block D4 hlt4' (by simp; omega)).trans k4
        have bR' : Boxed (WF.putObj D5 (.deferred none)) (w.heap.size + 1) 4 (.bool true) := bR.kept (grownBy_putObj' WF D5 (.deferred none)) (by simp; omega)
        have hBF' : Below w.heap.size w (WF.putObj D5 (.deferred none)) := hBF.trans (belowK_b (w := w) (Nat.le_refl _) WF D5 _ _ (by omega) k5 rfl rfl)
        generalize WF.putObj D5 (.deferred none) = WG at *
        refine ⟨by simp, .inl ⟨_, _, rfl, run_takeDeferred k4', ?_⟩⟩
        have bR2 : Boxed (WG.putObj D4 (.deferred none)) (w.heap.size + 1) 4 (.bool true) := bR'.kept (grownBy_putObj' WG D4 (.deferred none)) (by simp; omega)
        have hBF2 : Below w.heap.size w (WG.putObj D4 (.deferred none)) := hBF'.trans (belowK_b (w := w) (Nat.le_refl _) WG D4 _ _ (by omega) k4' rfl rfl)
        generalize WG.putObj D4 (.deferred none) = WH at *
        have cR := bR2.cell
        refine ⟨.bool true, by simp [results, Tryd.results4, go_sem, cR], rfl, hBF2⟩
      case stop4 =>
        cases hTM
        rintro D5 c pre W5 hD hpre hIx hK5
        rcases hIx with ⟨_, hno⟩ | ⟨rfl, bn, hB1⟩
        · exact absurd hpre hno
        have hW := hB1.size
        have bnc := bn.cell
        have cm := cell_of_one ((hB1.block _ (by omega)).trans hm4)
        have cw := cell_of_one ((hB1.block _ (by omega)).trans hw4)
        have hs5 := (hB1.block _ (by omega)).trans hs4
        have hm5 := (hB1.block _ (by omega)).trans hm4
        have hw5 := (hB1.block _ (by omega)).trans hw4
        have hr5 := (hB1.block _ (by omega)).trans hr4
        have HL5 := Lib.hid (HL4.out.below hB1 (by omega))
        have HR5 := Lib.hid (ownsRow_below HR4.out hB1)
        have HBW5 : Hid (Below w.heap.size w W5) := Lib.hid (HBW4.out.trans (hB1.mono (by omega)))
        have hlt5 := (Array.getElem?_eq_some_iff.1 hK5).1
        have hK4_5 := (hB1.block _ (by omega)).trans hK4
        have hq2 : (most != most) = false := by simp
        cases hq : (most != (T.length : Int))
        all_goals
          gi_wp2_with fail
          clear cm cw bnc hq hq2
          rw [roundsIn_succ]
          have cr := cell_of_one hr5
          have fr := free_of_one hr5
          gi_wp2_with fail
          have k5 : (W5.setCell ⟨w.heap.size + 1, 0, none⟩ (.bool true)).heap[D5]? = some (.deferred (some [])) := (Below.heap_setCell _ _ _ D5 (by show D5 ≠ w.heap.size + 1; omega)).trans hK5
          have k4 : (W5.setCell ⟨w.heap.size + 1, 0, none⟩ (.bool true)).heap[D4]? = some (.deferred (some [])) := (Below.heap_setCell _ _ _ D4 (by show D4 ≠ w.heap.size + 1; omega)).trans hK4_5
          have hne : D4 ≠ D5 := by omega
          have bR : Boxed (W5.setCell ⟨w.heap.size + 1, 0, none⟩ (.bool true)) (w.heap.size + 1) 4 (.bool true) := Boxed.set (.bool true) hr5
          have hBF : Below w.heap.size w (W5.setCell ⟨w.heap.size + 1, 0, none⟩ (.bool true)) := HBW5.out.setCell (p := ⟨w.heap.size + 1, 0, none⟩) (by simp) _
          have hlt5' := (Array.getElem?_eq_some_iff.1 k5).1
          have hlt4' := (Array.getElem?_eq_some_iff.1 k4).1
          generalize W5.setCell ⟨w.heap.size + 1, 0, none⟩ (.bool true) = WF at *
          refine ⟨by simp, .inl ⟨_, _, rfl, run_takeDeferred k5, ?_⟩⟩
          have k4' : (WF.putObj D5 (.deferred none)).heap[D4]? = some (.deferred (some [])) := ((grownBy_putObj' WF D5 (.deferred none)).block D4 hlt4' (by simp; omega)).trans k4
          have bR' : Boxed (WF.putObj D5 (.deferred none)) (w.heap.size + 1) 4 (.bool true) := bR.kept (grownBy_putObj' WF D5 (.deferred none)) (by simp; omega)
          have hBF' : Below w.heap.size w (WF.putObj D5 (.deferred none)) := hBF.trans (belowK_b (w := w) (Nat.le_refl _) WF D5 _ _ (by omega) k5 rfl rfl)
          generalize WF.putObj D5 (.deferred none) = WG at *
          refine ⟨by simp, .inl ⟨_, _, rfl, run_takeDeferred k4', ?_⟩⟩
          have bR2 : Boxed (WG.putObj D4 (.deferred none)) (w.heap.size + 1) 4 (.bool true) := bR'.kept (grownBy_putObj' WG D4 (.deferred none)) (by simp; omega)
          have hBF2 : Below w.heap.size w (WG.putObj D4 (.deferred none)) := hBF'.trans (belowK_b (w := w) (Nat.le_refl _) WG D4 _ _ (by omega) k4' rfl rfl)
          generalize WG.putObj D4 (.deferred none) = WH at *
          have cR := bR2.cell
          refine ⟨.bool true, by simp [results, Tryd.results4, go_sem, cR], rfl, hBF2⟩
end Go.Proofs.YtdhllkbcheokfaaDoor
