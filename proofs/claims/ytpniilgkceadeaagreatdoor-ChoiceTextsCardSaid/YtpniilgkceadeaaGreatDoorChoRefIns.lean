/- The reference's insert. -/
import Derived.Test.YtpniilgkceadeaaGreatDoorChoApp2
import Derived.Test.YtpniilgkceadeaaGreatDoorChoRefLess
import Derived.Deep.DrawnRows
namespace ChoP
theorem posK_stop (l : List Cho) (k : Key) (m : Nat) (hm : m ≤ l.length) (h1 : ∀ (q : Nat) (y : Cho), q < m → l[q]? = some y → lessB y.key k = true) (h2 : ∀ y, l[m]? = some y → lessB y.key k = false) : posK l k = m := by
  induction l generalizing m with
  | nil => simp at hm; subst hm; rfl
  | cons y r ih =>
    unfold posK at *
    rw [List.takeWhile_cons]
    cases m with
    | zero =>
      rw [if_neg (by rw [h2 y rfl]; simp)]
      rfl
    | succ m =>
      rw [if_pos (h1 0 y (by omega) rfl), List.length_cons, ih m (by simpa using hm) (fun q z hq hz => h1 (q + 1) z (by omega) (by simpa using hz)) (fun z hz => h2 z (by simpa using hz))]
end ChoP
namespace Go.Proofs.YtpniilgkceadeaaGreatDoor
open Go.RowKit Go.Sort
/-- the array is a new one -/
def NewA (w : World) (A : Option Addr) : Prop := ∀ b o, A = some ⟨b, o, none⟩ → w.heap.size ≤ b
theorem NewA.none (w : World) : NewA w none := fun b o e => (by cases e)
theorem NewA.mono {w w1 : World} {A : Option Addr} (h : NewA w1 A) (hs : w.heap.size ≤ w1.heap.size) : NewA w A := fun b o e => Nat.le_trans hs (h b o e)
theorem NewA.own {w w' : World} {base e size n c : Nat} {A : Option Addr} {xs : List Value} (h : w'.ownsRow base e size (.slice A n c) n xs) (hb : w.heap.size ≤ base) : NewA w A := fun b o e => by
  subst e
  exact Nat.le_trans hb (own_ge h b rfl)
/-- a slice of choices that comes back -/
def ChosPost (l : List ChoP.Cho) (w : World) (e : Ending) (w' : World) : Prop :=
  ∃ (A : Option Addr) (ps : List Pair) (c : Nat), e = .returned (.slice A ps.length c) ∧ cho ps = l ∧ Chos w' w'.heap.size A ps ∧ ps.length ≤ c ∧ c ≤ 9223372036854775807 ∧ NewA w A ∧ Below w.heap.size w w'
theorem own_e1 (W : World) (base : Nat) (hb : base ≤ W.heap.size) : (W.alloc (.cells #[] 59)).ownsRow base 59 7 (.slice (some ⟨W.heap.size, 0, none⟩) 0 0) 0 [] :=
  ⟨rfl, .inr ⟨W.heap.size, 0, #[], rfl, hb, heap_alloc_new W _, Nat.le_refl _, by unfold maxLen; omega, rfl, rfl⟩⟩
theorem own_e3 (W : World) (o : Obj) (base : Nat) (hb : base ≤ W.heap.size) : ((W.alloc o).alloc (.cells #[] 59)).ownsRow base 59 7 (.slice (some ⟨W.heap.size + 1, 0, none⟩) 0 0) 0 [] := by
  have := own_e1 (W.alloc o) base (by simp; omega)
  rwa [World.size_alloc] at this
theorem newR (W : World) (r : Row) : SliceIs (W.alloc (.cells #[.int .u8 r.key.kind, .int .i64 r.key.a, .int .i64 r.key.b, .int .i64 r.key.n, .int .i64 r.t, .int .i64 r.d, .slice r.p r.n r.c] 59)) (W.heap.size + 1) 7 (some ⟨W.heap.size, 0, none⟩) 1 r.vs :=
  ⟨rfl, fun _ => ⟨W.heap.size, 0, rfl, by omega, fun j u hu => by
    rw [Nat.zero_add]
    exact cell_at (heap_alloc_new W _) j u (by simpa [Row.vs] using hu)⟩⟩
theorem SliceIs.grown {W W' : World} {B b size m : Nat} {news : List Value} {row : Option Nat} (h : SliceIs W B size (some ⟨b, 0, none⟩) m news) (hg : W.grownBy W' row) (hB : B ≤ W.heap.size) (hne : some b ≠ row) : SliceIs W' W'.heap.size size (some ⟨b, 0, none⟩) m news :=
  ⟨h.1, h.2.grown hg hB (fun b' o' e _ => by injection e with e; injection e with e1 _; rw [← e1]; exact hne)⟩
theorem SliceIs.alloc {W : World} {B size m : Nat} {A : Option Addr} {news : List Value} (h : SliceIs W B size A m news) (hB : B ≤ W.heap.size) (o : Obj) : SliceIs (W.alloc o) B size A m news :=
  ⟨h.1, h.2.below ((RowKit.Below.refl _ _).alloc hB o) (Nat.le_refl _)⟩
theorem SliceIs.drew {W : World} {B size m : Nat} {A : Option Addr} {news : List Value} (h : SliceIs W B size A m news) : SliceIs W.drew B size A m news := h
theorem own_ne {W : World} {base e size : Nat} {v : Value} {n : Nat} {xs : List Value} (h : W.ownsRow base e size v n xs) {b : Nat} (hb : b < base) : some b ≠ v.ownBlock := fun e => by
  have := own_ge h b e.symm
  omega
theorem ins_fin {A : Option Addr} {ps : List Pair} {r : Row} {x : ChoP.Cho} {w w9 : World} {v9 : Value} {m : Nat} (H : Chos w w.heap.size A ps) (HR : RowIs w w.heap.size r x) (hm : m ≤ ps.length)
    (hown : w9.ownsRow (w.heap.size + 1) 59 7 v9 (0 + m + 1 + (ps.length - m)) ([] ++ cellsP (ps.take m) ++ r.vs ++ cellsP (ps.drop m))) (hb : RowKit.Below w.heap.size w w9) (hins : ChoP.ins (cho ps) x = (cho ps).take m ++ x :: (cho ps).drop m) :
    ChosPost (ChoP.ins (cho ps) x) w (.returned v9) w9 := by
  obtain ⟨A9, c9, rfl, h1, h2, h3⟩ := own_form hown
  have hlen : (ps.take m ++ (r, x) :: ps.drop m).length = 0 + m + 1 + (ps.length - m) := by simp; omega
  have ecs : cellsP (ps.take m ++ (r, x) :: ps.drop m) = [] ++ cellsP (ps.take m) ++ r.vs ++ cellsP (ps.drop m) := by
    rw [cellsP_append, List.nil_append, List.append_assoc]
    rfl
  refine ⟨A9, ps.take m ++ (r, x) :: ps.drop m, c9, by rw [hlen], ?_, ⟨by rw [ecs]; exact h3.2, fun q hq => ?_⟩, by rw [hlen]; exact h1, h2, NewA.own hown (by omega), hb⟩
  · rw [hins, cho, List.map_append, List.map_cons, List.map_take, List.map_drop]
    rfl
  · rcases List.mem_append.1 hq with hq | hq
    · exact (H.row q (List.mem_of_mem_take hq)).below hb hb.size
    · rcases List.mem_cons.1 hq with rfl | hq
      · exact HR.below hb hb.size
      · exact (H.row q (List.mem_of_mem_drop hq)).below hb hb.size
set_option maxRecDepth 100000 in
set_option maxHeartbeats 4000000 in
theorem refIns_any (A : Option Addr) (ps : List Pair) (c : Nat) (r : Row) (x : ChoP.Cho) (w : World) (h : Chos w w.heap.size A ps) (hn : ps.length ≤ 65536) (hc : ps.length ≤ c) (hc2 : c ≤ 9223372036854775807) (hr : RowIs w w.heap.size r x) :
    Calls Tryz.prog 90 #[.slice A ps.length c, choV r] w (ChosPost (ChoP.ins (cho ps) x) w) := by
  obtain ⟨i0, hi0, hz0, hz1, hz2⟩ := info_parts info_cho
  have e1 : choV r = .agg #[.int .u8 r.key.kind, .int .i64 r.key.a, .int .i64 r.key.b, .int .i64 r.key.n, .int .i64 r.t, .int .i64 r.d, .slice r.p r.n r.c] := rfl
  rw [e1]
  have H := Lib.hid h
  have HR := Lib.hid hr
  clear h hr e1
  go_enter Tryz.func90, Tryz.ntmps90
  go_wp2_with fail
  go_loopw [5] (fun i wr => ∃ m : Nat, i = .int .i64 m ∧ m ≤ ps.length ∧ (∀ (q : Nat) (y : ChoP.Cho), q < m → (cho ps)[q]? = some y → ChoP.lessB y.key x.key = true) ∧ wr.heap[w.heap.size]? = some (.cells #[.int .u8 r.key.kind, .int .i64 r.key.a, .int .i64 r.key.b, .int .i64 r.key.n, .int .i64 r.t, .int .i64 r.d, .slice r.p r.n r.c] 59 (0, 0)) ∧ Below w.heap.size w wr) (fun i _ => ps.length - (intOf i).toNat)
  case atStart => exact ⟨0, rfl, Nat.zero_le _, fun q y hq => absurd hq (by omega), heap_alloc_new w _, (Below.refl _ _).alloc (Nat.le_refl _) _⟩
  case round =>
    obtain ⟨m, rfl, hm, h1, hblk, hb⟩ := hrel
    have H1 := Lib.hid h1
    have HB := Lib.hid hb
    have HBLK := Lib.hid hblk
    have hwz := hb.size
    obtain ⟨⟨a0, a1, a2, a3, a4, a5, a6⟩, _⟩ := blk7 hblk
    clear h1 hb hblk
    have kx := HR.out.key
    have hmain : (m < ps.length ∧ ∃ p, ps[m]? = some p ∧ ChoP.lessB p.1.key r.key = true) ∨ (m < ps.length ∧ (∃ p, ps[m]? = some p ∧ ChoP.lessB p.1.key r.key = false) ∧ ChoP.ins (cho ps) x = (cho ps).take m ++ x :: (cho ps).drop m) ∨ (¬ m < ps.length ∧ ChoP.ins (cho ps) x = (cho ps).take m ++ x :: (cho ps).drop m) := by
      by_cases hlt : m < ps.length
      · obtain ⟨p, hpk⟩ : ∃ p, ps[m]? = some p := ⟨_, List.getElem?_eq_getElem hlt⟩
        have hkey := (H.out.row p (List.mem_of_getElem? hpk)).key
        cases hl : ChoP.lessB p.1.key r.key
        · refine .inr (.inl ⟨hlt, ⟨p, hpk, hl⟩, ?_⟩)
          rw [ChoP.ins_eq, ChoP.posK_stop (cho ps) x.key m (by simp [cho]; omega) H1.out (fun y hy => ?_)]
          simp only [cho, List.getElem?_map, hpk, Option.map_some, Option.some.injEq] at hy
          rw [← hy, ← hkey, ← kx]
          exact hl
        · exact .inl ⟨hlt, p, hpk, hl⟩
      · refine .inr (.inr ⟨hlt, ?_⟩)
        rw [ChoP.ins_eq, ChoP.posK_stop (cho ps) x.key m (by simp [cho]; omega) H1.out (fun y hy => ?_)]
        have := (List.getElem?_eq_some_iff.1 hy).1
        simp [cho] at this
        omega
    have q0 := cell_regrown a0
    have q1 := cell_regrown a1
    have q2 := cell_regrown a2
    have q3 := cell_regrown a3
    clear a0 a1 a2 a3 a4 a5 a6
    have hs1 : ∀ W : World, Below w.heap.size w W → SliceIs W w.heap.size 7 A m (cellsP (ps.take m)) := fun W hW => ⟨by rw [cellsP_len, List.length_take, Nat.min_eq_left hm], by rw [(cellsP_split ps m hm).1]; exact (H.out.lie.take _).below hW (Nat.le_refl _)⟩
    have hs2 : ∀ W : World, Below w.heap.size w W → SliceIs W w.heap.size 7 (if c = m then A else Option.map (fun x => x.add (m * 7)) A) (ps.length - m) (cellsP (ps.drop m)) := fun W hW => ⟨by rw [cellsP_len, List.length_drop], by rw [(cellsP_split ps m hm).2]; exact (H.out.lie.cut m ps.length c (cellsP_len ps) hc).below hW (Nat.le_refl _)⟩
    have HS1 := Lib.hid hs1
    have HS2 := Lib.hid hs2
    have hmc : m ≤ c := by omega
    clear hs1 hs2
    rcases hmain with ⟨hlt, p, hpk, hl⟩ | ⟨hlt, ⟨p, hpk, hl⟩, hins⟩ | ⟨hlt, hins⟩
    · obtain ⟨b, o, rfl, hb0, hc⟩ := H.out.at_ m p hpk
      have hcell : ∀ q u, p.1.vs[q]? = some u → wr.cell? ⟨b, o + m * 7 + q, none⟩ = some u := fun q u hu => (HB.out.cell (p := ⟨b, o + m * 7 + q, none⟩) hb0).trans (hc q u hu)
      have c0 : wr.cell? ⟨b, o + m * 7, none⟩ = some (.int .u8 p.1.key.kind) := hcell 0 _ rfl
      have d0 := cell_regrown c0
      have d1 := cell_regrown (hcell 1 _ rfl)
      have d2 := cell_regrown (hcell 2 _ rfl)
      have d3 := cell_regrown (hcell 3 _ rfl)
      have cL : ∀ d os, Calls Tryz.prog 113 #[.agg #[.int .u8 p.1.key.kind, .int .i64 p.1.key.a, .int .i64 p.1.key.b, .int .i64 p.1.key.n], .agg #[.int .u8 r.key.kind, .int .i64 r.key.a, .int .i64 r.key.b, .int .i64 r.key.n]] (grow (redrawn wr d) os) fun e w'' => e = .returned (.bool true) ∧ ∃ p : Regrown, w'' = grow (redrawn wr p.d) p.os := fun d os => by
        have h := refLess_any p.1.key r.key (grow (redrawn wr d) os)
        rw [hl] at h
        exact Calls.regrown_of h
      have hxk : (cho ps)[m]? = some p.2 := by simp [cho, hpk]
      have hll : ChoP.lessB p.2.key x.key = true := by rw [← (H.out.row p (List.mem_of_getElem? hpk)).key, ← kx]; exact hl
      have HXK := Lib.hid hxk
      have HLL := Lib.hid hll
      have CL := Lib.hid cL
      have hi1 : (0 : Int) ≤ (m : Int) := by omega
      have hi2 : (m : Int) < (ps.length : Int) := by omega
      clear c0 hcell hc cL hxk hll hpk hl kx
      go_wp2_with fail
      refine wp_region_quiet_below (by kernel_rfl) (by kernel_rfl) ?_
      repeat (first | go_big_quiet_step (exact CL.out _ _) | quiet_step (exact CL.out _ _))
      refine wpQuiet_nil ?_
      rintro w' ⟨pq, rfl⟩
      have hb2 := below_regrown wr pq.d pq.os
      have HB2 := Lib.hid (HB.out.trans (hb2.mono hwz))
      have HBLK2 := Lib.hid ((hb2.block _ ((Array.getElem?_eq_some_iff.1 HBLK.out).1)).trans HBLK.out)
      generalize grow (redrawn wr pq.d) pq.os = w2 at *
      clear hb2 d0 d1 d2 d3 q0 q1 q2 q3 CL
      go_wp2_with fail
      go_roundw
      case rel =>
        refine ⟨m + 1, by go_num, by omega, fun q y hq hy => ?_, HBLK2.out, HB2.out⟩
        by_cases hqm : q = m
        · subst hqm
          rw [HXK.out] at hy
          cases hy
          exact HLL.out
        · exact H1.out q y (by omega) hy
      case measure => simp [intOf]; omega
    · obtain ⟨b, o, rfl, hb0, hc⟩ := H.out.at_ m p hpk
      have hcell : ∀ q u, p.1.vs[q]? = some u → wr.cell? ⟨b, o + m * 7 + q, none⟩ = some u := fun q u hu => (HB.out.cell (p := ⟨b, o + m * 7 + q, none⟩) hb0).trans (hc q u hu)
      have c0 : wr.cell? ⟨b, o + m * 7, none⟩ = some (.int .u8 p.1.key.kind) := hcell 0 _ rfl
      have d0 := cell_regrown c0
      have d1 := cell_regrown (hcell 1 _ rfl)
      have d2 := cell_regrown (hcell 2 _ rfl)
      have d3 := cell_regrown (hcell 3 _ rfl)
      have cL : ∀ d os, Calls Tryz.prog 113 #[.agg #[.int .u8 p.1.key.kind, .int .i64 p.1.key.a, .int .i64 p.1.key.b, .int .i64 p.1.key.n], .agg #[.int .u8 r.key.kind, .int .i64 r.key.a, .int .i64 r.key.b, .int .i64 r.key.n]] (grow (redrawn wr d) os) fun e w'' => e = .returned (.bool false) ∧ ∃ p : Regrown, w'' = grow (redrawn wr p.d) p.os := fun d os => by
        have h := refLess_any p.1.key r.key (grow (redrawn wr d) os)
        rw [hl] at h
        exact Calls.regrown_of h
      have HINS := Lib.hid hins
      have CL := Lib.hid cL
      have hi1 : (0 : Int) ≤ (m : Int) := by omega
      have hi2 : (m : Int) < (ps.length : Int) := by omega
      clear c0 hcell hc cL hins hpk hl kx
      go_wp2_with fail
      refine wp_region_quiet_below (by kernel_rfl) (by kernel_rfl) ?_
      repeat (first | go_big_quiet_step (exact CL.out _ _) | quiet_step (exact CL.out _ _))
      refine wpQuiet_nil ?_
      rintro w' ⟨pq, rfl⟩
      have hb2 := below_regrown wr pq.d pq.os
      have HB2 := Lib.hid (HB.out.trans (hb2.mono hwz))
      have HBLK2 := Lib.hid ((hb2.block _ ((Array.getElem?_eq_some_iff.1 HBLK.out).1)).trans HBLK.out)
      generalize grow (redrawn wr pq.d) pq.os = w2 at *
      clear hb2 d0 d1 d2 d3 q0 q1 q2 q3 CL
      go_wp2_with fail
      obtain ⟨⟨a0, a1, a2, a3, a4, a5, a6⟩, _⟩ := blk7 HBLK2.out
      have hlt0 : w.heap.size < w2.heap.size := (Array.getElem?_eq_some_iff.1 HBLK2.out).1
      have j1 : (0 : Int) ≤ (m : Int) := by omega
      have j2 : (m : Int) ≤ (ps.length : Int) := by omega
      have j3 : (ps.length : Int) ≤ (c : Int) := by omega
      have j4 : (m : Int) ≤ (c : Int) := by omega
      have hB0 : w.heap.size ≤ w2.heap.size := Nat.le_of_lt hlt0
      have hB1 : w.heap.size + 1 ≤ w2.heap.size := hlt0
      by_cases hcp : c = m
      · exfalso; omega
      all_goals
        go_region_held3 (fun w' => w'.cell? ⟨w.heap.size, 0, none⟩ = some (.int .u8 r.key.kind) ∧ w'.cell? ⟨w.heap.size, 1, none⟩ = some (.int .i64 r.key.a) ∧ w'.cell? ⟨w.heap.size, 2, none⟩ = some (.int .i64 r.key.b) ∧ w'.cell? ⟨w.heap.size, 3, none⟩ = some (.int .i64 r.key.n) ∧ w'.cell? ⟨w.heap.size, 4, none⟩ = some (.int .i64 r.t) ∧ w'.cell? ⟨w.heap.size, 5, none⟩ = some (.int .i64 r.d) ∧ w'.cell? ⟨w.heap.size, 6, none⟩ = some (.slice r.p r.n r.c))
          (first | go_keep | (go_split_ands; refine ⟨?_, ?_, ?_, ?_, ?_, ?_, ?_⟩ <;> (rw [hgrow4.cell_far _ (by simp; omega) (by simp [Value.ownBlock]; omega)]; assumption)) | (go_split_ands; refine ⟨?_, ?_, ?_, ?_, ?_, ?_, ?_⟩ <;> (rw [hgrow7.cell_far _ (by show w.heap.size < _; first | omega | (rw [World.size_alloc]; omega)) (own_ne hown4 (by show w.heap.size < _; omega))]; assumption)) | (go_split_ands; refine ⟨?_, ?_, ?_, ?_, ?_, ?_, ?_⟩ <;> (rw [hgrow9.cell_far _ (by show w.heap.size < _; omega) (own_ne hown7 (by show w.heap.size < _; omega))]; assumption)))
          (first | (refine step_append_lie (by rfl) (.tmp 22) (.tmp 25) _ (by rfl) (w.heap.size + 1) 59 i0 _ 7 72 Tryz.underlying22 hi0 hz0 hz1 hz2 rfl (by decide) (.slice (some ⟨w2.heap.size, 0, none⟩) 0 0) 0 [] (by rfl) ?_ w.heap.size _ m _ (cellsP (ps.take m)) (by rfl) ?_ (cellsP_one _) ?_ ?_ ?_ ?_; (exact (own_e1 w2 _ hB1).drew); (exact HS1.out _ ((HB2.out.alloc hB0 _).drew)); (unfold maxLen; omega); omega; (first | (show w.heap.size + 1 ≤ (World.alloc _ _).heap.size; rw [World.size_alloc]; omega) | (show w.heap.size + 1 ≤ (World.alloc (World.alloc _ _) _).heap.size; rw [World.size_alloc, World.size_alloc]; omega) | omega); intro v4 w4 hown4 hgrow4 hat4; have hz4 : w2.heap.size + 1 ≤ w4.heap.size := Nat.le_trans (by first | (show _ ≤ (World.alloc _ _).heap.size; rw [World.size_alloc]; omega) | (show _ ≤ (World.alloc (World.alloc _ _) _).heap.size; rw [World.size_alloc, World.size_alloc]; omega)) hgrow4.size; have hb4 : RowKit.Below w.heap.size w w4 := RowKit.Below.grown ((HB2.out.alloc hB0 _).drew) hgrow4 (Nat.le_trans hB0 (by first | (show _ ≤ (World.alloc _ _).heap.size; rw [World.size_alloc]; omega) | (show _ ≤ (World.alloc (World.alloc _ _) _).heap.size; rw [World.size_alloc, World.size_alloc]; omega))) (fun k e => by simp [Value.ownBlock] at e; omega)) | (refine step_append_lie (by rfl) (.tmp 22) (.tmp 25) _ (by rfl) (w.heap.size + 1) 59 i0 _ 7 72 Tryz.underlying22 hi0 hz0 hz1 hz2 rfl (by decide) (.slice (some ⟨w2.heap.size, 0, none⟩) 0 0) 0 [] (by rfl) ?_ w.heap.size _ m _ (cellsP (ps.take m)) (by rfl) ?_ (cellsP_one _) ?_ ?_ ?_ ?_; (exact ((own_e1 w2 _ hB1).alloc _).drew); (exact HS1.out _ (((HB2.out.alloc hB0 _).alloc (by rw [World.size_alloc]; omega) _).drew)); (unfold maxLen; omega); omega; (first | (show w.heap.size + 1 ≤ (World.alloc _ _).heap.size; rw [World.size_alloc]; omega) | (show w.heap.size + 1 ≤ (World.alloc (World.alloc _ _) _).heap.size; rw [World.size_alloc, World.size_alloc]; omega) | omega); intro v4 w4 hown4 hgrow4 hat4; have hz4 : w2.heap.size + 1 ≤ w4.heap.size := Nat.le_trans (by first | (show _ ≤ (World.alloc _ _).heap.size; rw [World.size_alloc]; omega) | (show _ ≤ (World.alloc (World.alloc _ _) _).heap.size; rw [World.size_alloc, World.size_alloc]; omega)) hgrow4.size; have hb4 : RowKit.Below w.heap.size w w4 := RowKit.Below.grown (((HB2.out.alloc hB0 _).alloc (by rw [World.size_alloc]; omega) _).drew) hgrow4 (Nat.le_trans hB0 (by first | (show _ ≤ (World.alloc _ _).heap.size; rw [World.size_alloc]; omega) | (show _ ≤ (World.alloc (World.alloc _ _) _).heap.size; rw [World.size_alloc, World.size_alloc]; omega))) (fun k e => by simp [Value.ownBlock] at e; omega)) | (refine step_append_lie (by rfl) (.tmp 22) (.tmp 25) _ (by rfl) (w.heap.size + 1) 59 i0 _ 7 72 Tryz.underlying22 hi0 hz0 hz1 hz2 rfl (by decide) (.slice (some ⟨w2.heap.size + 1, 0, none⟩) 0 0) 0 [] (by rfl) ?_ w.heap.size _ m _ (cellsP (ps.take m)) (by rfl) ?_ (cellsP_one _) ?_ ?_ ?_ ?_; (exact (own_e3 w2 _ _ hB1).drew); (exact HS1.out _ (((HB2.out.alloc hB0 _).alloc (by rw [World.size_alloc]; omega) _).drew)); (unfold maxLen; omega); omega; (first | (show w.heap.size + 1 ≤ (World.alloc _ _).heap.size; rw [World.size_alloc]; omega) | (show w.heap.size + 1 ≤ (World.alloc (World.alloc _ _) _).heap.size; rw [World.size_alloc, World.size_alloc]; omega) | omega); intro v4 w4 hown4 hgrow4 hat4; have hz4 : w2.heap.size + 1 ≤ w4.heap.size := Nat.le_trans (by first | (show _ ≤ (World.alloc _ _).heap.size; rw [World.size_alloc]; omega) | (show _ ≤ (World.alloc (World.alloc _ _) _).heap.size; rw [World.size_alloc, World.size_alloc]; omega)) hgrow4.size; have hb4 : RowKit.Below w.heap.size w w4 := RowKit.Below.grown (((HB2.out.alloc hB0 _).alloc (by rw [World.size_alloc]; omega) _).drew) hgrow4 (Nat.le_trans hB0 (by first | (show _ ≤ (World.alloc _ _).heap.size; rw [World.size_alloc]; omega) | (show _ ≤ (World.alloc (World.alloc _ _) _).heap.size; rw [World.size_alloc, World.size_alloc]; omega))) (fun k e => by simp [Value.ownBlock] at e; omega)) | (refine step_append_lie (by rfl) (.tmp 26) (.tmp 28) _ (by rfl) (w.heap.size + 1) 59 i0 _ 7 72 Tryz.underlying22 hi0 hz0 hz1 hz2 rfl (by decide) v4 (0 + m) ([] ++ cellsP (ps.take m)) (by rfl) ?_ (w4.heap.size + 1) (some ⟨w4.heap.size, 0, none⟩) 1 1 r.vs (by rfl) ?_ ?_ ?_ ?_ ?_ ?_; (exact hown4.alloc _); (exact newR w4 r); (simp [Row.vs, Value.oneCell']); (unfold maxLen; omega); omega; (rw [World.size_alloc]; omega); intro v7 w7 hown7 hgrow7 hat7; have hz7 : w4.heap.size ≤ w7.heap.size := Nat.le_trans (by rw [World.size_alloc]; omega) hgrow7.size; have hb7 : RowKit.Below w.heap.size w w7 := RowKit.Below.grown (hb4.alloc (by omega) _) hgrow7 (by rw [World.size_alloc]; omega) (fun k e => by have := own_ge hown4 k e; omega)) | (refine step_append_lie (by rfl) (.tmp 26) (.tmp 28) _ (by rfl) (w.heap.size + 1) 59 i0 _ 7 72 Tryz.underlying22 hi0 hz0 hz1 hz2 rfl (by decide) v4 (0 + m) ([] ++ cellsP (ps.take m)) (by rfl) ?_ w4.heap.size (some ⟨w2.heap.size + 1, 0, none⟩) 1 1 r.vs (by rfl) ?_ ?_ ?_ ?_ ?_ ?_; (exact hown4); (exact (by have h := (newR (w2.alloc (.cells #[] 59)) r).drew; rw [World.size_alloc] at h; exact h.grown hgrow4 (by show _ ≤ (World.alloc (World.alloc _ _) _).heap.size; rw [World.size_alloc, World.size_alloc]; omega) (by simp [Value.ownBlock]))); (simp [Row.vs, Value.oneCell']); (unfold maxLen; omega); omega; omega; intro v7 w7 hown7 hgrow7 hat7; have hz7 : w4.heap.size ≤ w7.heap.size := Nat.le_trans (Nat.le_refl _) hgrow7.size; have hb7 : RowKit.Below w.heap.size w w7 := RowKit.Below.grown (hb4) hgrow7 (by omega) (fun k e => by have := own_ge hown4 k e; omega)) | (refine step_append_lie (by rfl) (.tmp 26) (.tmp 28) _ (by rfl) (w.heap.size + 1) 59 i0 _ 7 72 Tryz.underlying22 hi0 hz0 hz1 hz2 rfl (by decide) v4 (0 + m) ([] ++ cellsP (ps.take m)) (by rfl) ?_ w4.heap.size (some ⟨w2.heap.size, 0, none⟩) 1 1 r.vs (by rfl) ?_ ?_ ?_ ?_ ?_ ?_; (exact hown4); (exact (((newR w2 r).alloc (by rw [World.size_alloc]; omega) _).drew.grown hgrow4 (by show _ ≤ (World.alloc (World.alloc _ _) _).heap.size; rw [World.size_alloc, World.size_alloc]; omega) (by simp [Value.ownBlock]))); (simp [Row.vs, Value.oneCell']); (unfold maxLen; omega); omega; omega; intro v7 w7 hown7 hgrow7 hat7; have hz7 : w4.heap.size ≤ w7.heap.size := Nat.le_trans (Nat.le_refl _) hgrow7.size; have hb7 : RowKit.Below w.heap.size w w7 := RowKit.Below.grown (hb4) hgrow7 (by omega) (fun k e => by have := own_ge hown4 k e; omega)) | (refine step_append_lie (by rfl) (.tmp 29) (.tmp 32) _ (by rfl) (w.heap.size + 1) 59 i0 _ 7 72 Tryz.underlying22 hi0 hz0 hz1 hz2 rfl (by decide) v7 (0 + m + 1) ([] ++ cellsP (ps.take m) ++ r.vs) (by rfl) ?_ w.heap.size _ (ps.length - m) _ (cellsP (ps.drop m)) (by rfl) ?_ (cellsP_one _) ?_ ?_ ?_ ?_; (exact hown7); (have h := HS2.out w7 hb7; first | (rw [if_pos hcp] at h; exact h) | (rw [if_neg hcp] at h; exact h) | (rw [if_neg hcp, Option.map_some, addr_add] at h; exact h)); (unfold maxLen; omega); omega; omega; intro v9 w9 hown9 hgrow9 hat9))
        all_goals
          have hb9 := RowKit.Below.grown hb7 hgrow9 (by omega) (fun k e => by have := own_ge hown7 k e; omega)
          have HFIN := Lib.hid (ins_fin H.out HR.out hm hown9 hb9 HINS.out)
          clear hown4 hown7 hown9 hgrow4 hgrow7 hgrow9 hat4 hat7 hat9 hb4 hb7 hb9
          go_wp2_with fail
          go_ret
          exact HFIN.out
    · have HINS := Lib.hid hins
      have hi3 : decide ((m : Int) < (ps.length : Int)) = false := by simp; omega
      clear hins kx
      go_wp2_with fail
      refine wp_region_quiet_below (by kernel_rfl) (by kernel_rfl) ?_
      repeat (first | go_big_quiet_step (fail) | quiet_step (fail))
      refine wpQuiet_nil ?_
      rintro w' ⟨pq, rfl⟩
      have hb2 := below_regrown wr pq.d pq.os
      have HB2 := Lib.hid (HB.out.trans (hb2.mono hwz))
      have HBLK2 := Lib.hid ((hb2.block _ ((Array.getElem?_eq_some_iff.1 HBLK.out).1)).trans HBLK.out)
      generalize grow (redrawn wr pq.d) pq.os = w2 at *
      clear hb2 q0 q1 q2 q3
      go_wp2_with fail
      obtain ⟨⟨a0, a1, a2, a3, a4, a5, a6⟩, _⟩ := blk7 HBLK2.out
      have hlt0 : w.heap.size < w2.heap.size := (Array.getElem?_eq_some_iff.1 HBLK2.out).1
      have j1 : (0 : Int) ≤ (m : Int) := by omega
      have j2 : (m : Int) ≤ (ps.length : Int) := by omega
      have j3 : (ps.length : Int) ≤ (c : Int) := by omega
      have j4 : (m : Int) ≤ (c : Int) := by omega
      have hB0 : w.heap.size ≤ w2.heap.size := Nat.le_of_lt hlt0
      have hB1 : w.heap.size + 1 ≤ w2.heap.size := hlt0
      by_cases hcp : c = m
      all_goals
        go_region_held3 (fun w' => w'.cell? ⟨w.heap.size, 0, none⟩ = some (.int .u8 r.key.kind) ∧ w'.cell? ⟨w.heap.size, 1, none⟩ = some (.int .i64 r.key.a) ∧ w'.cell? ⟨w.heap.size, 2, none⟩ = some (.int .i64 r.key.b) ∧ w'.cell? ⟨w.heap.size, 3, none⟩ = some (.int .i64 r.key.n) ∧ w'.cell? ⟨w.heap.size, 4, none⟩ = some (.int .i64 r.t) ∧ w'.cell? ⟨w.heap.size, 5, none⟩ = some (.int .i64 r.d) ∧ w'.cell? ⟨w.heap.size, 6, none⟩ = some (.slice r.p r.n r.c))
          (first | go_keep | (go_split_ands; refine ⟨?_, ?_, ?_, ?_, ?_, ?_, ?_⟩ <;> (rw [hgrow4.cell_far _ (by simp; omega) (by simp [Value.ownBlock]; omega)]; assumption)) | (go_split_ands; refine ⟨?_, ?_, ?_, ?_, ?_, ?_, ?_⟩ <;> (rw [hgrow7.cell_far _ (by show w.heap.size < _; first | omega | (rw [World.size_alloc]; omega)) (own_ne hown4 (by show w.heap.size < _; omega))]; assumption)) | (go_split_ands; refine ⟨?_, ?_, ?_, ?_, ?_, ?_, ?_⟩ <;> (rw [hgrow9.cell_far _ (by show w.heap.size < _; omega) (own_ne hown7 (by show w.heap.size < _; omega))]; assumption)))
          (first | (refine step_append_lie (by rfl) (.tmp 22) (.tmp 25) _ (by rfl) (w.heap.size + 1) 59 i0 _ 7 72 Tryz.underlying22 hi0 hz0 hz1 hz2 rfl (by decide) (.slice (some ⟨w2.heap.size, 0, none⟩) 0 0) 0 [] (by rfl) ?_ w.heap.size _ m _ (cellsP (ps.take m)) (by rfl) ?_ (cellsP_one _) ?_ ?_ ?_ ?_; (exact (own_e1 w2 _ hB1).drew); (exact HS1.out _ ((HB2.out.alloc hB0 _).drew)); (unfold maxLen; omega); omega; (first | (show w.heap.size + 1 ≤ (World.alloc _ _).heap.size; rw [World.size_alloc]; omega) | (show w.heap.size + 1 ≤ (World.alloc (World.alloc _ _) _).heap.size; rw [World.size_alloc, World.size_alloc]; omega) | omega); intro v4 w4 hown4 hgrow4 hat4; have hz4 : w2.heap.size + 1 ≤ w4.heap.size := Nat.le_trans (by first | (show _ ≤ (World.alloc _ _).heap.size; rw [World.size_alloc]; omega) | (show _ ≤ (World.alloc (World.alloc _ _) _).heap.size; rw [World.size_alloc, World.size_alloc]; omega)) hgrow4.size; have hb4 : RowKit.Below w.heap.size w w4 := RowKit.Below.grown ((HB2.out.alloc hB0 _).drew) hgrow4 (Nat.le_trans hB0 (by first | (show _ ≤ (World.alloc _ _).heap.size; rw [World.size_alloc]; omega) | (show _ ≤ (World.alloc (World.alloc _ _) _).heap.size; rw [World.size_alloc, World.size_alloc]; omega))) (fun k e => by simp [Value.ownBlock] at e; omega)) | (refine step_append_lie (by rfl) (.tmp 22) (.tmp 25) _ (by rfl) (w.heap.size + 1) 59 i0 _ 7 72 Tryz.underlying22 hi0 hz0 hz1 hz2 rfl (by decide) (.slice (some ⟨w2.heap.size, 0, none⟩) 0 0) 0 [] (by rfl) ?_ w.heap.size _ m _ (cellsP (ps.take m)) (by rfl) ?_ (cellsP_one _) ?_ ?_ ?_ ?_; (exact ((own_e1 w2 _ hB1).alloc _).drew); (exact HS1.out _ (((HB2.out.alloc hB0 _).alloc (by rw [World.size_alloc]; omega) _).drew)); (unfold maxLen; omega); omega; (first | (show w.heap.size + 1 ≤ (World.alloc _ _).heap.size; rw [World.size_alloc]; omega) | (show w.heap.size + 1 ≤ (World.alloc (World.alloc _ _) _).heap.size; rw [World.size_alloc, World.size_alloc]; omega) | omega); intro v4 w4 hown4 hgrow4 hat4; have hz4 : w2.heap.size + 1 ≤ w4.heap.size := Nat.le_trans (by first | (show _ ≤ (World.alloc _ _).heap.size; rw [World.size_alloc]; omega) | (show _ ≤ (World.alloc (World.alloc _ _) _).heap.size; rw [World.size_alloc, World.size_alloc]; omega)) hgrow4.size; have hb4 : RowKit.Below w.heap.size w w4 := RowKit.Below.grown (((HB2.out.alloc hB0 _).alloc (by rw [World.size_alloc]; omega) _).drew) hgrow4 (Nat.le_trans hB0 (by first | (show _ ≤ (World.alloc _ _).heap.size; rw [World.size_alloc]; omega) | (show _ ≤ (World.alloc (World.alloc _ _) _).heap.size; rw [World.size_alloc, World.size_alloc]; omega))) (fun k e => by simp [Value.ownBlock] at e; omega)) | (refine step_append_lie (by rfl) (.tmp 22) (.tmp 25) _ (by rfl) (w.heap.size + 1) 59 i0 _ 7 72 Tryz.underlying22 hi0 hz0 hz1 hz2 rfl (by decide) (.slice (some ⟨w2.heap.size + 1, 0, none⟩) 0 0) 0 [] (by rfl) ?_ w.heap.size _ m _ (cellsP (ps.take m)) (by rfl) ?_ (cellsP_one _) ?_ ?_ ?_ ?_; (exact (own_e3 w2 _ _ hB1).drew); (exact HS1.out _ (((HB2.out.alloc hB0 _).alloc (by rw [World.size_alloc]; omega) _).drew)); (unfold maxLen; omega); omega; (first | (show w.heap.size + 1 ≤ (World.alloc _ _).heap.size; rw [World.size_alloc]; omega) | (show w.heap.size + 1 ≤ (World.alloc (World.alloc _ _) _).heap.size; rw [World.size_alloc, World.size_alloc]; omega) | omega); intro v4 w4 hown4 hgrow4 hat4; have hz4 : w2.heap.size + 1 ≤ w4.heap.size := Nat.le_trans (by first | (show _ ≤ (World.alloc _ _).heap.size; rw [World.size_alloc]; omega) | (show _ ≤ (World.alloc (World.alloc _ _) _).heap.size; rw [World.size_alloc, World.size_alloc]; omega)) hgrow4.size; have hb4 : RowKit.Below w.heap.size w w4 := RowKit.Below.grown (((HB2.out.alloc hB0 _).alloc (by rw [World.size_alloc]; omega) _).drew) hgrow4 (Nat.le_trans hB0 (by first | (show _ ≤ (World.alloc _ _).heap.size; rw [World.size_alloc]; omega) | (show _ ≤ (World.alloc (World.alloc _ _) _).heap.size; rw [World.size_alloc, World.size_alloc]; omega))) (fun k e => by simp [Value.ownBlock] at e; omega)) | (refine step_append_lie (by rfl) (.tmp 26) (.tmp 28) _ (by rfl) (w.heap.size + 1) 59 i0 _ 7 72 Tryz.underlying22 hi0 hz0 hz1 hz2 rfl (by decide) v4 (0 + m) ([] ++ cellsP (ps.take m)) (by rfl) ?_ (w4.heap.size + 1) (some ⟨w4.heap.size, 0, none⟩) 1 1 r.vs (by rfl) ?_ ?_ ?_ ?_ ?_ ?_; (exact hown4.alloc _); (exact newR w4 r); (simp [Row.vs, Value.oneCell']); (unfold maxLen; omega); omega; (rw [World.size_alloc]; omega); intro v7 w7 hown7 hgrow7 hat7; have hz7 : w4.heap.size ≤ w7.heap.size := Nat.le_trans (by rw [World.size_alloc]; omega) hgrow7.size; have hb7 : RowKit.Below w.heap.size w w7 := RowKit.Below.grown (hb4.alloc (by omega) _) hgrow7 (by rw [World.size_alloc]; omega) (fun k e => by have := own_ge hown4 k e; omega)) | (refine step_append_lie (by rfl) (.tmp 26) (.tmp 28) _ (by rfl) (w.heap.size + 1) 59 i0 _ 7 72 Tryz.underlying22 hi0 hz0 hz1 hz2 rfl (by decide) v4 (0 + m) ([] ++ cellsP (ps.take m)) (by rfl) ?_ w4.heap.size (some ⟨w2.heap.size + 1, 0, none⟩) 1 1 r.vs (by rfl) ?_ ?_ ?_ ?_ ?_ ?_; (exact hown4); (exact (by have h := (newR (w2.alloc (.cells #[] 59)) r).drew; rw [World.size_alloc] at h; exact h.grown hgrow4 (by show _ ≤ (World.alloc (World.alloc _ _) _).heap.size; rw [World.size_alloc, World.size_alloc]; omega) (by simp [Value.ownBlock]))); (simp [Row.vs, Value.oneCell']); (unfold maxLen; omega); omega; omega; intro v7 w7 hown7 hgrow7 hat7; have hz7 : w4.heap.size ≤ w7.heap.size := Nat.le_trans (Nat.le_refl _) hgrow7.size; have hb7 : RowKit.Below w.heap.size w w7 := RowKit.Below.grown (hb4) hgrow7 (by omega) (fun k e => by have := own_ge hown4 k e; omega)) | (refine step_append_lie (by rfl) (.tmp 26) (.tmp 28) _ (by rfl) (w.heap.size + 1) 59 i0 _ 7 72 Tryz.underlying22 hi0 hz0 hz1 hz2 rfl (by decide) v4 (0 + m) ([] ++ cellsP (ps.take m)) (by rfl) ?_ w4.heap.size (some ⟨w2.heap.size, 0, none⟩) 1 1 r.vs (by rfl) ?_ ?_ ?_ ?_ ?_ ?_; (exact hown4); (exact (((newR w2 r).alloc (by rw [World.size_alloc]; omega) _).drew.grown hgrow4 (by show _ ≤ (World.alloc (World.alloc _ _) _).heap.size; rw [World.size_alloc, World.size_alloc]; omega) (by simp [Value.ownBlock]))); (simp [Row.vs, Value.oneCell']); (unfold maxLen; omega); omega; omega; intro v7 w7 hown7 hgrow7 hat7; have hz7 : w4.heap.size ≤ w7.heap.size := Nat.le_trans (Nat.le_refl _) hgrow7.size; have hb7 : RowKit.Below w.heap.size w w7 := RowKit.Below.grown (hb4) hgrow7 (by omega) (fun k e => by have := own_ge hown4 k e; omega)) | (refine step_append_lie (by rfl) (.tmp 29) (.tmp 32) _ (by rfl) (w.heap.size + 1) 59 i0 _ 7 72 Tryz.underlying22 hi0 hz0 hz1 hz2 rfl (by decide) v7 (0 + m + 1) ([] ++ cellsP (ps.take m) ++ r.vs) (by rfl) ?_ w.heap.size _ (ps.length - m) _ (cellsP (ps.drop m)) (by rfl) ?_ (cellsP_one _) ?_ ?_ ?_ ?_; (exact hown7); (have h := HS2.out w7 hb7; first | (rw [if_pos hcp] at h; exact h) | (rw [if_neg hcp] at h; exact h) | (rw [if_neg hcp, Option.map_some, addr_add] at h; exact h)); (unfold maxLen; omega); omega; omega; intro v9 w9 hown9 hgrow9 hat9))
        all_goals
          have hb9 := RowKit.Below.grown hb7 hgrow9 (by omega) (fun k e => by have := own_ge hown7 k e; omega)
          have HFIN := Lib.hid (ins_fin H.out HR.out hm hown9 hb9 HINS.out)
          clear hown4 hown7 hown9 hgrow4 hgrow7 hgrow9 hat4 hat7 hat9 hb4 hb7 hb9
          go_wp2_with fail
          go_ret
          exact HFIN.out
end Go.Proofs.YtpniilgkceadeaaGreatDoor
