/- With: a set with one more choice. -/
import Derived.Test.YtolfbnjmkgikdaaDoorChoFind
namespace ChoP
theorem posK_le (l : List Cho) (k : Key) : posK l k ≤ l.length := by
  unfold posK
  exact (List.takeWhile_prefix _).length_le
theorem ins_eq (l : List Cho) (x : Cho) : ins l x = l.take (posK l x.key) ++ x :: l.drop (posK l x.key) := by
  induction l with
  | nil => rfl
  | cons y r ih =>
    unfold posK at *
    rw [ins, List.takeWhile_cons]
    split
    · rename_i h
      simp only [List.length_cons, List.take_succ_cons, List.drop_succ_cons, List.cons_append]
      rw [ih]
    · simp
theorem isort_snoc (l : List Cho) (x : Cho) : isort (l ++ [x]) = ins (isort l) x := by simp [isort, List.foldl_append]
theorem nodup_snoc {l : List Cho} (ho : Ord l) (x : Cho) : nodupB (l ++ [x]) = !hasK l x.key := by
  rw [Bool.eq_iff_iff, nodup_iff, List.pairwise_append]
  have h1 := (nodup_iff l).1 ho.nodup
  constructor
  · rintro ⟨_, _, h⟩
    simp only [Bool.not_eq_true', hasK, List.any_eq_false]
    intro y hy e
    exact h y hy x (by simp) ((eqB_iff _ _).1 e)
  · intro h
    refine ⟨h1, by simp, fun y hy z hz e => ?_⟩
    simp only [List.mem_cons, List.not_mem_nil, or_false] at hz
    subst hz
    simp only [Bool.not_eq_true', hasK, List.any_eq_false] at h
    exact h y hy ((eqB_iff _ _).2 e)
theorem errNew_snoc {l : List Cho} (ho : Ord l) (hok : l.all okC = true) {x : Cho} (hx : okC x = true) : errNew (l ++ [x]) = if hasK l x.key = true then 5 else if 96 ≤ l.length then 3 else 0 := by
  unfold errNew
  rw [nodup_snoc ho, List.all_append, hok]
  simp only [List.all_cons, hx, List.all_nil, Bool.and_true, Bool.true_eq_false, if_false, List.length_append, List.length_cons, List.length_nil]
  cases hasK l x.key
  · simp
    by_cases h : 96 ≤ l.length
    · rw [if_pos (by omega), if_pos h]
    · rw [if_neg (by omega), if_neg h]
  · simp
theorem setL_snoc {l : List Cho} (ho : Ord l) {x : Cho} (he : errNew (l ++ [x]) = 0) : setL (l ++ [x]) = l.take (posK l x.key) ++ x :: l.drop (posK l x.key) := by
  unfold setL
  rw [if_pos he, isort_snoc, isort_of_ord ho, ins_eq]
end ChoP
namespace Go.Proofs.YtolfbnjmkgikdaaDoor
open Go.RowKit
theorem Lie.take {w : World} {B : Nat} {A : Option Addr} {xs : List Value} (h : Lie w B A xs) (n : Nat) : Lie w B A (xs.take n) := fun hx => by
  obtain ⟨b, o, e, hb, hc⟩ := h (by rintro rfl; simp at hx)
  refine ⟨b, o, e, hb, fun j u hu => hc j u ?_⟩
  rw [List.getElem?_take] at hu
  split at hu
  · exact hu
  · cases hu
theorem cellsP_split (ps : List Pair) (n : Nat) (hn : n ≤ ps.length) : cellsP (ps.take n) = (cellsP ps).take (n * 7) ∧ cellsP (ps.drop n) = (cellsP ps).drop (n * 7) := by
  have h := cellsP_append (ps.take n) (ps.drop n)
  rw [List.take_append_drop] at h
  have hl : (cellsP (ps.take n)).length = n * 7 := by rw [cellsP_len, List.length_take, Nat.min_eq_left hn]
  rw [h]
  exact ⟨(List.take_left' hl).symm, (List.drop_left' hl).symm⟩
theorem Lie.cut {w : World} {B : Nat} {A : Option Addr} {xs : List Value} (h : Lie w B A xs) (pos n c : Nat) (hl : xs.length = n * 7) (hn : n ≤ c) : Lie w B (if c = pos then A else Option.map (fun x => x.add (pos * 7)) A) (xs.drop (pos * 7)) := fun hx => by
  obtain ⟨b, o, rfl, hb, hc⟩ := h (by rintro rfl; simp at hx)
  have hlt : pos * 7 < xs.length := by
    rcases Nat.lt_or_ge (pos * 7) xs.length with h | h
    · exact h
    · exact absurd (List.drop_of_length_le h) hx
  rw [if_neg (by omega), Option.map_some, addr_add]
  refine ⟨b, o + pos * 7, rfl, hb, fun j u hu => ?_⟩
  rw [List.getElem?_drop] at hu
  rw [Nat.add_assoc]
  exact hc _ u hu
theorem Lie.grown {w w' : World} {B : Nat} {A : Option Addr} {xs : List Value} {row : Option Nat} (h : Lie w B A xs) (hg : w.grownBy w' row) (hB : B ≤ w.heap.size) (hne : ∀ b o, A = some ⟨b, o, none⟩ → b < B → some b ≠ row) : Lie w' w'.heap.size A xs := fun hx => by
  obtain ⟨b, o, e, hb, hc⟩ := h hx
  have := hg.size
  exact ⟨b, o, e, by omega, fun j u hu => (World.cell?_of_block (a := ⟨b, o + j, none⟩) (hg.block b (by omega) (hne b o e hb))).trans (hc j u hu)⟩
theorem RowIs.grown {w w' : World} {B : Nat} {r : Row} {x : ChoP.Cho} {row : Option Nat} (h : RowIs w B r x) (hg : w.grownBy w' row) (hB : B ≤ w.heap.size) (hne : ∀ b o, r.p = some ⟨b, o, none⟩ → b < B → some b ≠ row) : RowIs w' w'.heap.size r x :=
  ⟨h.key, h.t, h.d, h.n, h.c, h.m, h.lie.grown hg hB hne⟩
theorem cellsP_one (ps : List Pair) : ∀ u ∈ cellsP ps, u.oneCell' = true := by
  intro u hu
  simp only [cellsP, List.mem_flatMap] at hu
  obtain ⟨p, _, hu⟩ := hu
  simp only [encP, Row.vs, List.mem_cons, List.not_mem_nil, or_false] at hu
  rcases hu with rfl | rfl | rfl | rfl | rfl | rfl | rfl <;> rfl
theorem box1 {w w1 : World} {v : Value} {T : TypeId} {b : Nat} (h : w.heap[b]? = some (.cells #[v] T (0, 0))) (hb : Below (b + 1) w w1) : w1.cell? ⟨b, 0, none⟩ = some v ∧ w1.frozen? ⟨b, 0, none⟩ = false :=
  ⟨cell_at ((hb.block b (by omega)).trans h) 0 _ rfl, frozen_at ((hb.block b (by omega)).trans h) 0⟩
set_option maxRecDepth 100000 in
set_option maxHeartbeats 4000000 in
theorem with_any (A : Option Addr) (ps : List Pair) (c : Nat) (r : Row) (x : ChoP.Cho) (w : World) (h : Chos w w.heap.size A ps) (ho : ChoP.Ord (cho ps)) (hn : ps.length ≤ 96) (hc : ps.length ≤ c) (hc2 : c ≤ 9223372036854775807) (hok : ∀ p ∈ ps, ChoP.okC p.2 = true) (hr : RowIs w w.heap.size r x) :
    Calls Tryd.prog 18 #[.agg #[.slice A ps.length c], choV r] w (NewPost (cho ps ++ [x]) w) := by
  obtain ⟨i0, hi0, hz0, hz1, hz2⟩ := info_parts info_cho
  have e1 : choV r = .agg #[.int .u8 r.key.kind, .int .i64 r.key.a, .int .i64 r.key.b, .int .i64 r.key.n, .int .i64 r.t, .int .i64 r.d, .slice r.p r.n r.c] := rfl
  have hck := fun W => check_any r W (by have := hr.m; have := hr.c; omega)
  rw [e1] at hck
  rw [e1]
  have H := Lib.hid h
  have HO := Lib.hid ho
  have HOK := Lib.hid hok
  have HR := Lib.hid hr
  have HCK := Lib.hid hck
  clear h ho hok hr hck e1
  go_enter Tryd.func18, Tryd.ntmps18
  go_wp2_with fail
  refine (HCK.out _).mono ?_
  rintro e w1 ⟨rfl, hb⟩
  rw [World.size_alloc, World.size_alloc, World.size_alloc] at hb
  have hx0 : w1.heap[w.heap.size]? = some (.cells #[.slice A ps.length c] 29 (0, 0)) := (hb.block _ (by omega)).trans ((Below.heap_alloc _ _ _ (by simp; omega)).trans ((Below.heap_alloc _ _ _ (by simp)).trans (heap_alloc_new w _)))
  have hx1 : w1.heap[w.heap.size + 1]? = some (.cells #[.int .u8 r.key.kind, .int .i64 r.key.a, .int .i64 r.key.b, .int .i64 r.key.n, .int .i64 r.t, .int .i64 r.d, .slice r.p r.n r.c] 42 (0, 0)) := by
    have h := heap_alloc_new (w.alloc (.cells #[.slice A ps.length c] 29)) (.cells #[.int .u8 r.key.kind, .int .i64 r.key.a, .int .i64 r.key.b, .int .i64 r.key.n, .int .i64 r.t, .int .i64 r.d, .slice r.p r.n r.c] 42)
    rw [World.size_alloc] at h
    exact (hb.block _ (by omega)).trans ((Below.heap_alloc _ _ _ (by simp)).trans h)
  have hx2 : w1.heap[w.heap.size + 1 + 1]? = some (.cells #[.slice none 0 0] 29 (0, 0)) := by
    have h := heap_alloc_new ((w.alloc (.cells #[.slice A ps.length c] 29)).alloc (.cells #[.int .u8 r.key.kind, .int .i64 r.key.a, .int .i64 r.key.b, .int .i64 r.key.n, .int .i64 r.t, .int .i64 r.d, .slice r.p r.n r.c] 42)) (.cells #[.slice none 0 0] 29)
    rw [World.size_alloc, World.size_alloc] at h
    exact (hb.block _ (by omega)).trans h
  have hB : Below w.heap.size w w1 := ((((Below.refl w.heap.size w).alloc (Nat.le_refl _) _).alloc (by simp) _).alloc (by simp; omega) _).trans (hb.mono (by omega))
  have hs1 : w.heap.size + 3 ≤ w1.heap.size := by have := hb.size; simp at this; omega
  have HB := Lib.hid hB
  have HX0 := Lib.hid hx0
  have HX1 := Lib.hid hx1
  have HX2 := Lib.hid hx2
  have r0 := cell_at hx2 0 _ rfl
  have r1 := frozen_at hx2 0
  have s0 := cell_at hx0 0 _ rfl
  obtain ⟨⟨a0, a1, a2, a3, a4, a5, a6⟩, _⟩ := blk7 hx1
  clear hb hB hx0 hx1 hx2 HCK
  rcases errR_cases r with hE | hE
  · rw [hE]
    have hokx := okC_of HR.out hE
    have HOKX := Lib.hid hokx
    clear hE hokx
    have hfind := find_any A ps c r.key w1 (H.out.below HB.out HB.out.size) HO.out (by omega)
    have e2 : keyV r.key = .agg #[.int .u8 r.key.kind, .int .i64 r.key.a, .int .i64 r.key.b, .int .i64 r.key.n] := rfl
    rw [e2] at hfind
    have herr := ChoP.errNew_snoc HO.out (by rw [List.all_eq_true]; intro y hy; obtain ⟨p, hp, rfl⟩ := List.mem_map.1 hy; exact HOK.out p hp) HOKX.out
    have hset := fun he => ChoP.setL_snoc HO.out (x := x) he
    rw [← HR.out.key] at herr hset
    have hpl := ChoP.posK_le (cho ps) r.key
    have hcl : (cho ps).length = ps.length := by simp [cho]
    rw [hcl] at herr hpl
    generalize ChoP.posK (cho ps) r.key = pos at *
    obtain ⟨hs, hhs⟩ : ∃ b, ChoP.hasK (cho ps) r.key = b := ⟨_, rfl⟩
    rw [hhs] at hfind herr
    have HF := Lib.hid hfind
    have HERR := Lib.hid herr
    have HSET := Lib.hid hset
    clear hfind e2 herr hset hhs hcl
    go_wp2_with fail
    refine HF.out.mono ?_
    rintro e w2 ⟨rfl, hb2⟩
    have hx0 := (hb2.block _ (by omega)).trans HX0.out
    have hx1 := (hb2.block _ (by omega)).trans HX1.out
    have hx2 := (hb2.block _ (by omega)).trans HX2.out
    clear HX0 HX1 HX2 r0 r1 s0 a0 a1 a2 a3 a4 a5 a6 HF
    have HX0 := Lib.hid hx0
    have HX1 := Lib.hid hx1
    have HX2 := Lib.hid hx2
    have r0 := cell_at hx2 0 _ rfl
    have r1 := frozen_at hx2 0
    have s0 := cell_at hx0 0 _ rfl
    obtain ⟨⟨a0, a1, a2, a3, a4, a5, a6⟩, _⟩ := blk7 hx1
    have HB2 := Lib.hid (HB.out.trans (hb2.mono HB.out.size))
    have hs2 : w.heap.size + 3 ≤ w2.heap.size := Nat.le_trans hs1 hb2.size
    clear hb2 hx0 hx1 hx2 HB hs1
    cases hs
    · by_cases h96 : 96 ≤ ps.length
      · have herr := HERR.out
        simp only [Bool.false_eq_true, if_false, if_pos h96] at herr
        have HE := Lib.hid herr
        clear herr
        go_wp2_with fail
        refine bodyPost_ret (v := .tuple #[.agg #[.slice none 0 0], .int .i64 3]) (by simp [results, Tryd.results18, go_sem, r0]) rfl ⟨none, [], 0, by rw [HE.out]; rfl, by rw [setL_err HE.out (by decide)]; rfl, chos_nil _ _ _, Nat.le_refl _, by omega, ?_⟩
        exact HB2.out.setCell (by simp; omega) _
      · have herr := HERR.out
        simp only [Bool.false_eq_true, if_false, if_neg h96] at herr
        have HE := Lib.hid herr
        have HST := Lib.hid (HSET.out herr)
        clear herr
        have hlt : SliceIs w w.heap.size 7 A pos (cellsP (ps.take pos)) := ⟨by rw [cellsP_len, List.length_take, Nat.min_eq_left hpl], by rw [(cellsP_split ps pos hpl).1]; exact H.out.lie.take _⟩
        have HLT := Lib.hid hlt
        have hpc : pos ≤ c := by omega
        have hb96 : decide ((96 : Int) ≤ (ps.length : Int)) = false := by simp; omega
        have hl96 : ps.length < 96 := by omega
        clear h96
        clear hlt
        go_wp2_with (first
          | (at_make; refine wpList_make_own _ rfl _ _ 22 rfl (w.heap.size + 3) 42 i0 _ 7 Tryd.underlying22 hi0 hz0 hz1 .i64 .i64 _ (ps.length + 1) rfl rfl (by simp) (by rw [hz2]; omega) (by unfold maxLen; omega) hs2 ?_; intro w3 hown3 hgrow3; have HO3 := Lib.hid hown3; have HB3 := Lib.hid ((Below.refl w2.heap.size w2).grown hgrow3 (Nat.le_refl _) (fun k e => by cases e)); have hs3 := hgrow3.size; have s0' := (HB3.out.cell (p := ⟨w.heap.size, 0, none⟩) (by simp; omega)).trans s0; clear hown3 hgrow3)
          | (at_builtin; refine wpList_append_lie rfl _ _ 22 rfl (w.heap.size + 3) 42 i0 _ 7 72 Tryd.underlying22 hi0 hz0 hz1 hz2 rfl (by decide) _ 0 [] rfl HO3.out w.heap.size A pos c (cellsP (ps.take pos)) rfl ?c1 (cellsP_one _) ?c3 ?c4 ?c5 ?_))
        case c1 => exact ⟨HLT.out.1, HLT.out.2.below (HB2.out.trans (HB3.out.mono (by omega))) (Nat.le_refl _)⟩
        case c3 => unfold maxLen; omega
        case c4 => omega
        case c5 => omega
        intro v4 w4 hown4 hgrow4 hat4
        have HB4 : Hid (Below (w.heap.size + 3) w2 w4) := Lib.hid ((HB3.out.mono hs2).grown hgrow4 (by omega) (own_ge HO3.out))
        have HO4 := Lib.hid hown4
        have hs4 := hgrow4.size
        have hx0 := (HB4.out.block _ (by omega)).trans HX0.out
        have hx1 := (HB4.out.block _ (by omega)).trans HX1.out
        have hx2 := (HB4.out.block _ (by omega)).trans HX2.out
        clear HX0 HX1 HX2 r0 r1 s0 s0' a0 a1 a2 a3 a4 a5 a6 hat4 hgrow4 hown4
        have HX0 := Lib.hid hx0
        have HX1 := Lib.hid hx1
        have HX2 := Lib.hid hx2
        obtain ⟨⟨a0, a1, a2, a3, a4, a5, a6⟩, _⟩ := blk7 hx1
        have hbw4 : Below w.heap.size w w4 := HB2.out.trans (HB4.out.mono (by omega))
        have hcl := clone_any r x w4 (HR.out.below hbw4 hbw4.size) (by have := okC_args HOKX.out; omega)
        have e2 : choV r = .agg #[.int .u8 r.key.kind, .int .i64 r.key.a, .int .i64 r.key.b, .int .i64 r.key.n, .int .i64 r.t, .int .i64 r.d, .slice r.p r.n r.c] := rfl
        rw [e2] at hcl
        have HCL := Lib.hid hcl
        have HBW4 := Lib.hid hbw4
        clear hx0 hx1 hx2 hcl e2 hbw4
        go_wp2_with fail
        refine HCL.out.mono ?_
        rintro e w5 ⟨r', rfl, hr', hge, hb5⟩
        have e3 : choV r' = .agg #[.int .u8 r'.key.kind, .int .i64 r'.key.a, .int .i64 r'.key.b, .int .i64 r'.key.n, .int .i64 r'.t, .int .i64 r'.d, .slice r'.p r'.n r'.c] := rfl
        rw [e3]
        have HO5 := Lib.hid (own_below HO4.out hb5)
        have HR5 := Lib.hid hr'
        have HGE := Lib.hid hge
        have HB5 := Lib.hid hb5
        have hs5 := hb5.size
        have hx0 := (hb5.block _ (by omega)).trans HX0.out
        have hx2 := (hb5.block _ (by omega)).trans HX2.out
        have s0 := cell_at hx0 0 _ rfl
        have HX2' := Lib.hid hx2
        clear hr' hge hb5 e3 a0 a1 a2 a3 a4 a5 a6 HX0 HX1 HX2 HCL hx0 hx2
        go_wp2_with (at_builtin; refine wpList_append_lie rfl _ _ 22 rfl (w.heap.size + 3) 42 i0 _ 7 72 Tryd.underlying22 hi0 hz0 hz1 hz2 rfl (by decide) _ _ _ rfl (HO5.out.alloc _) (w5.heap.size + 1) (some ⟨w5.heap.size, 0, none⟩) 1 1 r'.vs rfl ?c1 ?c2 ?c3 ?c4 ?c5 ?_)
        case c1 => exact ⟨rfl, fun _ => ⟨w5.heap.size, 0, rfl, by omega, fun j u hu => by
          rw [Nat.zero_add]
          exact cell_at (heap_alloc_new w5 _) j u (by simpa [Row.vs] using hu)⟩⟩
        case c2 => simp [Row.vs, Value.oneCell']
        case c3 => unfold maxLen; omega
        case c4 => omega
        case c5 => simp; omega
        intro v6 w6 hown6 hgrow6 hat6
        have hge4 := own_ge HO4.out
        have HB6 : Hid (Below (w.heap.size + 3) w5 w6) := Lib.hid (((Below.refl (w.heap.size + 3) w5).alloc (by omega) _).grown hgrow6 (by simp; omega) hge4)
        have HO6 := Lib.hid hown6
        have HG6 := Lib.hid hgrow6
        have HAT6 := Lib.hid hat6
        have hs6 := hgrow6.size
        rw [World.size_alloc] at hs6
        have s6 := (HB6.out.cell (p := ⟨w.heap.size, 0, none⟩) (by simp)).trans s0
        clear hown6 hgrow6 hat6 s0 hge4
        have hbw6 : Below w.heap.size w w6 := HBW4.out.trans ((HB5.out.mono (by omega)).trans (HB6.out.mono (by omega)))
        have HBW6 := Lib.hid hbw6
        have hlc : SliceIs w6 w.heap.size 7 (if c = pos then A else Option.map (fun x => x.add (pos * 7)) A) (ps.length - pos) (cellsP (ps.drop pos)) := by
          refine ⟨by rw [cellsP_len, List.length_drop], ?_⟩
          rw [(cellsP_split ps pos hpl).2]
          exact (H.out.lie.cut pos ps.length c (cellsP_len ps) hc).below hbw6 (Nat.le_refl _)
        have HLC := Lib.hid hlc
        clear hlc hbw6
        have hlen : (ps.take pos ++ (r', x) :: ps.drop pos).length = ps.length + 1 := by simp; omega
        have HLEN := Lib.hid hlen
        have hfin : ∀ (v7 : Value) (w7 : World), w7.ownsRow (w.heap.size + 3) 42 7 v7 (pos + 1 + (ps.length - pos)) (cellsP (ps.take pos) ++ (r'.vs ++ cellsP (ps.drop pos))) → w6.grownBy w7 v6.ownBlock → ∃ A7 c7, v7 = .slice A7 (ps.length + 1) c7 ∧ (∀ u, Chos (w7.setCell ⟨w.heap.size + 1 + 1, 0, none⟩ u) w7.heap.size A7 (ps.take pos ++ (r', x) :: ps.drop pos)) ∧ ps.length + 1 ≤ c7 ∧ c7 ≤ 9223372036854775807 ∧ Below w.heap.size w w7 ∧ w7.cell? ⟨w.heap.size + 1 + 1, 0, none⟩ = some (.slice none 0 0) ∧ w7.frozen? ⟨w.heap.size + 1 + 1, 0, none⟩ = false := by
          intro v7 w7 hown7 hgrow7
          have hb7 : Below (w.heap.size + 3) w6 w7 := (Below.refl (w.heap.size + 3) w6).grown hgrow7 (by omega) (own_ge HO6.out)
          have hs7 := hgrow7.size
          have hx6 := (HB6.out.block _ (by omega)).trans HX2'.out
          have hx7 := (hb7.block _ (by omega)).trans hx6
          have hbw7 : Below w.heap.size w w7 := HBW6.out.trans (hb7.mono (by omega))
          have hg5 : w5.grownBy w6 v4.ownBlock := ⟨HG6.out.os, HG6.out.tape, HG6.out.output, by omega, fun k hk hne => (HG6.out.block k (by simp; omega) hne).trans (Below.heap_alloc w5 _ k hk)⟩
          have hr6 : RowIs w6 w6.heap.size r' x := HR5.out.grown hg5 (Nat.le_refl _) (fun b o e _ e2 => by
            have h1 := HGE.out b o e
            have h2 := own_lt HO4.out b e2.symm
            omega)
          have hr6' : RowIs w6 w5.heap.size r' x := ⟨hr6.key, hr6.t, hr6.d, hr6.n, hr6.c, hr6.m, fun hx => by
            obtain ⟨b, o, e, hb, _⟩ := HR5.out.lie hx
            obtain ⟨b', o', e', _, hc'⟩ := hr6.lie hx
            rw [e] at e'
            injection e' with e'
            injection e' with e1 e2
            subst e1 e2
            exact ⟨b, o, e, hb, hc'⟩⟩
          have hr7 : RowIs w7 w7.heap.size r' x := hr6'.grown hgrow7 (by omega) (fun b o e hb e2 => by
            have h1 := HGE.out b o e
            rcases HAT6.out with h | h
            · rw [h] at e2
              have h2 := own_lt HO4.out b e2.symm
              omega
            · rw [h] at e2
              injection e2 with e2
              omega)
          obtain ⟨A7, c7, rfl, hc7, hc7', hl7⟩ := own_form hown7
          have ecs : cellsP (ps.take pos ++ (r', x) :: ps.drop pos) = cellsP (ps.take pos) ++ (r'.vs ++ cellsP (ps.drop pos)) := by
            rw [cellsP_append]
            rfl
          refine ⟨A7, c7, by rw [show pos + 1 + (ps.length - pos) = ps.length + 1 by omega], fun u => ⟨?_, fun q hq => ?_⟩, by omega, hc7', hbw7, cell_at hx7 0 _ rfl, frozen_at hx7 0⟩
          · rw [ecs]
            refine hl7.2.set _ _ (fun b o e => ?_)
            have := own_ge hown7 b (by rw [e]; rfl)
            simp
            omega
          · rcases List.mem_append.1 hq with hq | hq
            · exact (H.out.row q (List.mem_of_mem_take hq)).below (hbw7.setCell (by simp; omega) _) hbw7.size
            · rcases List.mem_cons.1 hq with rfl | hq
              · exact ⟨hr7.key, hr7.t, hr7.d, hr7.n, hr7.c, hr7.m, hr7.lie.set _ _ (fun b o e => by have := HGE.out b o e; simp; omega)⟩
              · exact (H.out.row q (List.mem_of_mem_drop hq)).below (hbw7.setCell (by simp; omega) _) hbw7.size
        have HFIN := Lib.hid hfin
        clear hfin hlen
        by_cases hcp : c = pos
        all_goals
          go_wp2_with (at_builtin; refine wpList_append_lie rfl _ _ 22 rfl (w.heap.size + 3) 42 i0 _ 7 72 Tryd.underlying22 hi0 hz0 hz1 hz2 rfl (by decide) _ _ _ rfl HO6.out w.heap.size _ (ps.length - pos) _ (cellsP (ps.drop pos)) rfl ?c1 (cellsP_one _) ?c3 ?c4 ?c5 ?_)
          case c1 => first | (have h := HLC.out; rw [if_pos hcp] at h; exact h) | (have h := HLC.out; rw [if_neg hcp] at h; exact h)
          case c3 => unfold maxLen; omega
          case c4 => omega
          case c5 => omega
          intro v7 w7 hown7 hgrow7 _
          obtain ⟨A7, c7, rfl, hch, hc7, hc7', hbw7, r0, r1⟩ := HFIN.out v7 w7 hown7 hgrow7
          have HCH := Lib.hid hch
          have HBW7 := Lib.hid hbw7
          clear hown7 hgrow7 hch hbw7
          go_wp2_with fail
          refine bodyPost_ret (v := .tuple #[.agg #[.slice A7 (ps.length + 1) c7], .int .i64 0]) (by simp [results, Tryd.results18, go_sem, r0]) rfl ⟨A7, ps.take pos ++ (r', x) :: ps.drop pos, c7, by rw [HE.out, HLEN.out], ?_, ?_, by rw [HLEN.out]; exact hc7, hc7', ?_⟩
          · rw [HST.out, cho, List.map_append, List.map_cons, List.map_take, List.map_drop]
            rfl
          · rw [World.size_setCell]
            exact HCH.out _
          · exact HBW7.out.setCell (by simp; omega) _
    · have herr := HERR.out
      rw [if_pos rfl] at herr
      have HE := Lib.hid herr
      clear herr
      go_wp2_with fail
      refine bodyPost_ret (v := .tuple #[.agg #[.slice none 0 0], .int .i64 5]) (by simp [results, Tryd.results18, go_sem, r0]) rfl ⟨none, [], 0, by rw [HE.out]; rfl, by rw [setL_err HE.out (by decide)]; rfl, chos_nil _ _ _, Nat.le_refl _, by omega, ?_⟩
      exact HB2.out.setCell (by simp; omega) _
  · rw [hE]
    have hbad := bad_of HR.out hE
    have herr : ChoP.errNew (cho ps ++ [x]) = 1 := by
      unfold ChoP.errNew
      rw [List.all_append]
      simp [hbad]
    have HE := Lib.hid herr
    clear hE hbad herr
    go_wp2_with fail
    refine bodyPost_ret (v := .tuple #[.agg #[.slice none 0 0], .int .i64 1]) (by simp [results, Tryd.results18, go_sem, r0]) rfl ⟨none, [], 0, by rw [HE.out]; rfl, by rw [setL_err HE.out (by decide)]; rfl, chos_nil _ _ _, Nat.le_refl _, by omega, ?_⟩
    exact HB.out.setCell (by simp; omega) _
end Go.Proofs.YtolfbnjmkgikdaaDoor
