/- The reference's With. -/
import Derived.Test.YtpniilgkceadeaaGreatDoorChoRefNew
namespace Go.Proofs.YtpniilgkceadeaaGreatDoor
open Go.RowKit Go.Sort
theorem with_fin {A : Option Addr} {ps : List Pair} {r : Row} {x : ChoP.Cho} {w w7 : World} {v7 : Value} (H : Chos w w.heap.size A ps) (HR : RowIs w w.heap.size r x)
    (hown : w7.ownsRow (w.heap.size + 1) 59 7 v7 (0 + ps.length + 1) ([] ++ cellsP ps ++ r.vs)) (hb : RowKit.Below w.heap.size w w7) :
    ∃ A7 c7, v7 = .slice A7 (ps.length + 1) c7 ∧ ps.length + 1 ≤ c7 ∧ c7 ≤ 9223372036854775807 ∧ Chos w7 w7.heap.size A7 (ps ++ [(r, x)]) := by
  have hlen : 0 + ps.length + 1 = (ps ++ [(r, x)]).length := by simp
  have ecs : [] ++ cellsP ps ++ r.vs = cellsP (ps ++ [(r, x)]) := by
    rw [cellsP_append, List.nil_append]
    simp [cellsP, encP]
  rw [hlen, ecs] at hown
  obtain ⟨A7, c7, rfl, h1, h2, h3⟩ := own_form hown
  have hl2 : (ps ++ [(r, x)]).length = ps.length + 1 := by simp
  rw [hl2] at h1
  refine ⟨A7, c7, by rw [hl2], h1, h2, h3.2, fun q hq => ?_⟩
  rcases List.mem_append.1 hq with hq | hq
  · exact (H.row q hq).below hb hb.size
  · simp at hq
    rw [hq]
    exact HR.below hb hb.size
set_option maxRecDepth 100000 in
set_option maxHeartbeats 4000000 in
theorem refWith_any (A : Option Addr) (ps : List Pair) (c : Nat) (r : Row) (x : ChoP.Cho) (w : World) (h : Chos w w.heap.size A ps) (hn : ps.length ≤ 60000) (hr : RowIs w w.heap.size r x) :
    Calls Tryz.prog 27 #[.slice A ps.length c, choV r] w (RNewPost (cho ps ++ [x]) w) := by
  obtain ⟨i0, hi0, hz0, hz1, hz2⟩ := info_parts info_cho
  have e1 : choV r = .agg #[.int .u8 r.key.kind, .int .i64 r.key.a, .int .i64 r.key.b, .int .i64 r.key.n, .int .i64 r.t, .int .i64 r.d, .slice r.p r.n r.c] := rfl
  rw [e1]
  have hs1 : ∀ W : World, RowKit.Below w.heap.size w W → SliceIs W w.heap.size 7 A ps.length (cellsP ps) := fun W hW => ⟨cellsP_len ps, h.lie.below hW (Nat.le_refl _)⟩
  have hlx : (ps ++ [(r, x)]).length = ps.length + 1 := by simp
  have HLX := Lib.hid hlx
  clear hlx
  have HS1 := Lib.hid hs1
  have H := Lib.hid h
  have HR := Lib.hid hr
  clear h hr e1 hs1
  go_enter Tryz.func27, Tryz.ntmps27
  go_wp2_with fail
  have hbx := heap_alloc_new w (.cells #[.int .u8 r.key.kind, .int .i64 r.key.a, .int .i64 r.key.b, .int .i64 r.key.n, .int .i64 r.t, .int .i64 r.d, .slice r.p r.n r.c] 59)
  have HB2 : Hid (RowKit.Below w.heap.size w (w.alloc (.cells #[.int .u8 r.key.kind, .int .i64 r.key.a, .int .i64 r.key.b, .int .i64 r.key.n, .int .i64 r.t, .int .i64 r.d, .slice r.p r.n r.c] 59))) := Lib.hid ((RowKit.Below.refl _ _).alloc (Nat.le_refl _) _)
  generalize w.alloc (.cells #[.int .u8 r.key.kind, .int .i64 r.key.a, .int .i64 r.key.b, .int .i64 r.key.n, .int .i64 r.t, .int .i64 r.d, .slice r.p r.n r.c] 59) = w2 at *
  obtain ⟨⟨a0, a1, a2, a3, a4, a5, a6⟩, _⟩ := blk7 hbx
  have hlt0 : w.heap.size < w2.heap.size := (Array.getElem?_eq_some_iff.1 hbx).1
  have hB0 : w.heap.size ≤ w2.heap.size := Nat.le_of_lt hlt0
  have hB1 : w.heap.size + 1 ≤ w2.heap.size := hlt0
  clear hbx
  go_region_held3 (fun w' => w'.cell? ⟨w.heap.size, 0, none⟩ = some (.int .u8 r.key.kind) ∧ w'.cell? ⟨w.heap.size, 1, none⟩ = some (.int .i64 r.key.a) ∧ w'.cell? ⟨w.heap.size, 2, none⟩ = some (.int .i64 r.key.b) ∧ w'.cell? ⟨w.heap.size, 3, none⟩ = some (.int .i64 r.key.n) ∧ w'.cell? ⟨w.heap.size, 4, none⟩ = some (.int .i64 r.t) ∧ w'.cell? ⟨w.heap.size, 5, none⟩ = some (.int .i64 r.d) ∧ w'.cell? ⟨w.heap.size, 6, none⟩ = some (.slice r.p r.n r.c))
    (first | go_keep | (go_split_ands; refine ⟨?_, ?_, ?_, ?_, ?_, ?_, ?_⟩ <;> (rw [hb9.cell (by show w.heap.size < _; omega)]; assumption)) | (go_split_ands; refine ⟨?_, ?_, ?_, ?_, ?_, ?_, ?_⟩ <;> (rw [hgrow7.cell_far _ (by show w.heap.size < _; first | omega | (rw [World.size_alloc]; omega)) (own_ne hown4 (by show w.heap.size < _; omega))]; assumption)) | (go_split_ands; refine ⟨?_, ?_, ?_, ?_, ?_, ?_, ?_⟩ <;> (rw [hgrow4.cell_far _ (by simp; omega) (by simp [Value.ownBlock]; omega)]; assumption)))
    (first | (go_at_call 51; have hnw := refNew_any A7 (ps ++ [(r, x)]) c7 w7 hch7 (by rw [HLX.out]; omega) (by rw [HLX.out]; omega) hc7'; rw [HLX.out] at hnw; refine Calls.mono hnw ?_; rintro e w9 ⟨A9, qs9, c9, rfl, hq9, hcq9, hqc9, hqc9', hna9, hb9⟩) | (refine step_append_lie (by rfl) (.tmp 6) (.tmp 7) _ (by rfl) (w.heap.size + 1) 59 i0 _ 7 72 Tryz.underlying22 hi0 hz0 hz1 hz2 rfl (by decide) (.slice (some ⟨w2.heap.size, 0, none⟩) 0 0) 0 [] (by rfl) ?_ w.heap.size A ps.length c (cellsP ps) (by rfl) ?_ (cellsP_one _) ?_ ?_ ?_ ?_; (exact (own_e1 w2 _ hB1).drew); (exact HS1.out _ ((HB2.out.alloc hB0 _).drew)); (unfold maxLen; omega); omega; (first | (show w.heap.size + 1 ≤ (World.alloc _ _).heap.size; rw [World.size_alloc]; omega) | (show w.heap.size + 1 ≤ (World.alloc (World.alloc _ _) _).heap.size; rw [World.size_alloc, World.size_alloc]; omega) | omega); intro v4 w4 hown4 hgrow4 hat4; have hz4 : w2.heap.size + 1 ≤ w4.heap.size := Nat.le_trans (by first | (show _ ≤ (World.alloc _ _).heap.size; rw [World.size_alloc]; omega) | (show _ ≤ (World.alloc (World.alloc _ _) _).heap.size; rw [World.size_alloc, World.size_alloc]; omega)) hgrow4.size; have hb4 : RowKit.Below w.heap.size w w4 := RowKit.Below.grown ((HB2.out.alloc hB0 _).drew) hgrow4 (Nat.le_trans hB0 (by first | (show _ ≤ (World.alloc _ _).heap.size; rw [World.size_alloc]; omega) | (show _ ≤ (World.alloc (World.alloc _ _) _).heap.size; rw [World.size_alloc, World.size_alloc]; omega))) (fun k e => by simp [Value.ownBlock] at e; omega)) | (refine step_append_lie (by rfl) (.tmp 6) (.tmp 7) _ (by rfl) (w.heap.size + 1) 59 i0 _ 7 72 Tryz.underlying22 hi0 hz0 hz1 hz2 rfl (by decide) (.slice (some ⟨w2.heap.size, 0, none⟩) 0 0) 0 [] (by rfl) ?_ w.heap.size A ps.length c (cellsP ps) (by rfl) ?_ (cellsP_one _) ?_ ?_ ?_ ?_; (exact ((own_e1 w2 _ hB1).alloc _).drew); (exact HS1.out _ (((HB2.out.alloc hB0 _).alloc (by rw [World.size_alloc]; omega) _).drew)); (unfold maxLen; omega); omega; (first | (show w.heap.size + 1 ≤ (World.alloc _ _).heap.size; rw [World.size_alloc]; omega) | (show w.heap.size + 1 ≤ (World.alloc (World.alloc _ _) _).heap.size; rw [World.size_alloc, World.size_alloc]; omega) | omega); intro v4 w4 hown4 hgrow4 hat4; have hz4 : w2.heap.size + 1 ≤ w4.heap.size := Nat.le_trans (by first | (show _ ≤ (World.alloc _ _).heap.size; rw [World.size_alloc]; omega) | (show _ ≤ (World.alloc (World.alloc _ _) _).heap.size; rw [World.size_alloc, World.size_alloc]; omega)) hgrow4.size; have hb4 : RowKit.Below w.heap.size w w4 := RowKit.Below.grown (((HB2.out.alloc hB0 _).alloc (by rw [World.size_alloc]; omega) _).drew) hgrow4 (Nat.le_trans hB0 (by first | (show _ ≤ (World.alloc _ _).heap.size; rw [World.size_alloc]; omega) | (show _ ≤ (World.alloc (World.alloc _ _) _).heap.size; rw [World.size_alloc, World.size_alloc]; omega))) (fun k e => by simp [Value.ownBlock] at e; omega)) | (refine step_append_lie (by rfl) (.tmp 6) (.tmp 7) _ (by rfl) (w.heap.size + 1) 59 i0 _ 7 72 Tryz.underlying22 hi0 hz0 hz1 hz2 rfl (by decide) (.slice (some ⟨w2.heap.size + 1, 0, none⟩) 0 0) 0 [] (by rfl) ?_ w.heap.size A ps.length c (cellsP ps) (by rfl) ?_ (cellsP_one _) ?_ ?_ ?_ ?_; (exact (own_e3 w2 _ _ hB1).drew); (exact HS1.out _ (((HB2.out.alloc hB0 _).alloc (by rw [World.size_alloc]; omega) _).drew)); (unfold maxLen; omega); omega; (first | (show w.heap.size + 1 ≤ (World.alloc _ _).heap.size; rw [World.size_alloc]; omega) | (show w.heap.size + 1 ≤ (World.alloc (World.alloc _ _) _).heap.size; rw [World.size_alloc, World.size_alloc]; omega) | omega); intro v4 w4 hown4 hgrow4 hat4; have hz4 : w2.heap.size + 1 ≤ w4.heap.size := Nat.le_trans (by first | (show _ ≤ (World.alloc _ _).heap.size; rw [World.size_alloc]; omega) | (show _ ≤ (World.alloc (World.alloc _ _) _).heap.size; rw [World.size_alloc, World.size_alloc]; omega)) hgrow4.size; have hb4 : RowKit.Below w.heap.size w w4 := RowKit.Below.grown (((HB2.out.alloc hB0 _).alloc (by rw [World.size_alloc]; omega) _).drew) hgrow4 (Nat.le_trans hB0 (by first | (show _ ≤ (World.alloc _ _).heap.size; rw [World.size_alloc]; omega) | (show _ ≤ (World.alloc (World.alloc _ _) _).heap.size; rw [World.size_alloc, World.size_alloc]; omega))) (fun k e => by simp [Value.ownBlock] at e; omega)) | (refine step_append_lie (by rfl) (.tmp 8) (.tmp 10) _ (by rfl) (w.heap.size + 1) 59 i0 _ 7 72 Tryz.underlying22 hi0 hz0 hz1 hz2 rfl (by decide) v4 (0 + ps.length) ([] ++ cellsP ps) (by rfl) ?_ (w4.heap.size + 1) (some ⟨w4.heap.size, 0, none⟩) 1 1 r.vs (by rfl) ?_ ?_ ?_ ?_ ?_ ?_; (exact hown4.alloc _); (exact newR w4 r); (simp [Row.vs, Value.oneCell']); (unfold maxLen; omega); omega; (rw [World.size_alloc]; omega); intro v7 w7 hown7 hgrow7 hat7; have hz7 : w4.heap.size ≤ w7.heap.size := Nat.le_trans (by rw [World.size_alloc]; omega) hgrow7.size; have hb7 : RowKit.Below w.heap.size w w7 := RowKit.Below.grown (hb4.alloc (by omega) _) hgrow7 (by rw [World.size_alloc]; omega) (fun k e => by have := own_ge hown4 k e; omega); obtain ⟨A7, c7, rfl, hc7, hc7', hch7⟩ := with_fin H.out HR.out hown7 hb7) | (refine step_append_lie (by rfl) (.tmp 8) (.tmp 10) _ (by rfl) (w.heap.size + 1) 59 i0 _ 7 72 Tryz.underlying22 hi0 hz0 hz1 hz2 rfl (by decide) v4 (0 + ps.length) ([] ++ cellsP ps) (by rfl) ?_ w4.heap.size (some ⟨w2.heap.size + 1, 0, none⟩) 1 1 r.vs (by rfl) ?_ ?_ ?_ ?_ ?_ ?_; (exact hown4); (exact (by have h := (newR (w2.alloc (.cells #[] 59)) r).drew; rw [World.size_alloc] at h; exact h.grown hgrow4 (by show _ ≤ (World.alloc (World.alloc _ _) _).heap.size; rw [World.size_alloc, World.size_alloc]; omega) (by simp [Value.ownBlock]))); (simp [Row.vs, Value.oneCell']); (unfold maxLen; omega); omega; omega; intro v7 w7 hown7 hgrow7 hat7; have hz7 : w4.heap.size ≤ w7.heap.size := Nat.le_trans (Nat.le_refl _) hgrow7.size; have hb7 : RowKit.Below w.heap.size w w7 := RowKit.Below.grown (hb4) hgrow7 (by omega) (fun k e => by have := own_ge hown4 k e; omega); obtain ⟨A7, c7, rfl, hc7, hc7', hch7⟩ := with_fin H.out HR.out hown7 hb7) | (refine step_append_lie (by rfl) (.tmp 8) (.tmp 10) _ (by rfl) (w.heap.size + 1) 59 i0 _ 7 72 Tryz.underlying22 hi0 hz0 hz1 hz2 rfl (by decide) v4 (0 + ps.length) ([] ++ cellsP ps) (by rfl) ?_ w4.heap.size (some ⟨w2.heap.size, 0, none⟩) 1 1 r.vs (by rfl) ?_ ?_ ?_ ?_ ?_ ?_; (exact hown4); (exact (((newR w2 r).alloc (by rw [World.size_alloc]; omega) _).drew.grown hgrow4 (by show _ ≤ (World.alloc (World.alloc _ _) _).heap.size; rw [World.size_alloc, World.size_alloc]; omega) (by simp [Value.ownBlock]))); (simp [Row.vs, Value.oneCell']); (unfold maxLen; omega); omega; omega; intro v7 w7 hown7 hgrow7 hat7; have hz7 : w4.heap.size ≤ w7.heap.size := Nat.le_trans (Nat.le_refl _) hgrow7.size; have hb7 : RowKit.Below w.heap.size w w7 := RowKit.Below.grown (hb4) hgrow7 (by omega) (fun k e => by have := own_ge hown4 k e; omega); obtain ⟨A7, c7, rfl, hc7, hc7', hch7⟩ := with_fin H.out HR.out hown7 hb7))
  all_goals
    have hf : RNewPost (cho ps ++ [x]) w (.returned (.tuple #[.slice A9 qs9.length c9, .int .i64 (ChoP.errNew (cho ps ++ [x]))])) w9 := by
      have e : cho (ps ++ [(r, x)]) = cho ps ++ [x] := by simp [cho]
      rw [e] at hq9
      exact ⟨A9, qs9, c9, rfl, hq9, hcq9, hqc9, hqc9', hna9.mono hb7.size, hb7.trans (hb9.mono hb7.size)⟩
    have e2 : ChoP.errNew (cho (ps ++ [(r, x)])) = ChoP.errNew (cho ps ++ [x]) := by simp [cho]
    rw [e2]
    have HF := Lib.hid hf
    clear hf hna9 e2 hown4 hown7 hgrow4 hgrow7 hat4 hat7 hb4 hb7 hb9 hq9 hcq9 hch7
    go_wp2_with fail
    go_ret2
    exact HF.out
end Go.Proofs.YtpniilgkceadeaaGreatDoor
