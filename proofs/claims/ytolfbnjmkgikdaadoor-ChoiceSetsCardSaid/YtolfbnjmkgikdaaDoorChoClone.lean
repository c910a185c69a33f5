/- clone: a choice with arguments of its own. -/
import Derived.Test.YtolfbnjmkgikdaaDoorChoApp
namespace Go.Proofs.YtolfbnjmkgikdaaDoor
open Go.RowKit
def ClonePost (x : ChoP.Cho) (w : World) (e : Ending) (w' : World) : Prop := ∃ r, e = .returned (choV r) ∧ RowIs w' w'.heap.size r x ∧ (∀ b o, r.p = some ⟨b, o, none⟩ → w.heap.size ≤ b) ∧ Below w.heap.size w w'
theorem info_i64 : (Tryd.prog.info? 2).map (fun i => (i.zero, i.size, i.bytes)) = some (some (.int .i64 0), 1, 8) := by kernel_rfl
theorem intV_one (l : List Int) : ∀ u ∈ intV l, u.oneCell' = true := by
  intro u hu
  simp only [intV, List.mem_map] at hu
  obtain ⟨z, _, rfl⟩ := hu
  rfl
set_option maxHeartbeats 1000000 in
theorem clone_any (r : Row) (x : ChoP.Cho) (w : World) (h : RowIs w w.heap.size r x) (hn : x.args.length ≤ 65536) : Calls Tryd.prog 32 #[choV r] w (ClonePost x w) := by
  obtain ⟨i0, hi0, hz0, hz1, hz2⟩ := info_parts info_i64
  have e1 : choV r = .agg #[.int .u8 r.key.kind, .int .i64 r.key.a, .int .i64 r.key.b, .int .i64 r.key.n, .int .i64 r.t, .int .i64 r.d, .slice r.p r.n r.c] := rfl
  rw [e1]
  clear e1
  have hsl : SliceIs w w.heap.size 1 r.p r.n (intV x.args) := ⟨by simp [intV, h.n], h.lie⟩
  have hrn : r.n ≤ 65536 := by rw [h.n]; exact hn
  have H := Lib.hid h
  have HS := Lib.hid hsl
  clear h hsl
  go_enter Tryd.func32, Tryd.ntmps32
  go_wp2_with (at_builtin; refine wpList_append_lie rfl _ _ 40 rfl (w.heap.size + 2) 2 i0 _ 1 8 Tryd.underlying40 hi0 hz0 hz1 hz2 rfl (by decide) (.slice none 0 0) 0 [] rfl (World.ownsRow_nil _ _ _ _) w.heap.size r.p r.n r.c (intV x.args) rfl ?c1 (intV_one _) ?c3 ?c4 ?c5 ?_)
  case c1 => exact ⟨HS.out.1, HS.out.2.below (((Below.refl _ _).alloc (Nat.le_refl _) _).alloc (by simp) _) (Nat.le_refl _)⟩
  case c3 => unfold maxLen; omega
  case c4 => omega
  case c5 => simp
  intro v1 w1 hown hgrow _
  obtain ⟨A, c, rfl, hc1, hc2, hsl⟩ := own_form hown
  have hb0 : w1.heap[w.heap.size]? = some (.cells #[.int .u8 r.key.kind, .int .i64 r.key.a, .int .i64 r.key.b, .int .i64 r.key.n, .int .i64 r.t, .int .i64 r.d, .slice r.p r.n r.c] 42 (0, 0)) :=
    (hgrow.block w.heap.size (by simp; omega) (by simp [Value.ownBlock])).trans ((Below.heap_alloc _ _ _ (by simp)).trans (heap_alloc_new w _))
  have hb1 : w1.heap[w.heap.size + 1]? = some (.cells #[.int .u8 0, .int .i64 0, .int .i64 0, .int .i64 0, .int .i64 0, .int .i64 0, .slice none 0 0] 42 (0, 0)) := by
    have h := heap_alloc_new (w.alloc (.cells #[.int .u8 r.key.kind, .int .i64 r.key.a, .int .i64 r.key.b, .int .i64 r.key.n, .int .i64 r.t, .int .i64 r.d, .slice r.p r.n r.c] 42)) (.cells #[.int .u8 0, .int .i64 0, .int .i64 0, .int .i64 0, .int .i64 0, .int .i64 0, .slice none 0 0] 42)
    rw [World.size_alloc] at h
    exact (hgrow.block (w.heap.size + 1) (by simp) (by simp [Value.ownBlock])).trans h
  obtain ⟨⟨a0, a1, a2, a3, a4, a5, a6⟩, ⟨_, _, _, _, _, _, f6⟩⟩ := blk7 hb0
  obtain ⟨⟨d0, d1, d2, d3, d4, d5, d6⟩, ⟨g0, g1, g2, g3, g4, g5, g6⟩⟩ := blk7 hb1
  have hB : Below w.heap.size w w1 := (((Below.refl _ _).alloc (Nat.le_refl _) _).alloc (by simp) _).grown hgrow (by simp; omega) (fun k e => by simp [Value.ownBlock] at e)
  have HB := Lib.hid hB
  have HSL := Lib.hid hsl
  have hne : ∀ b o, A = some ⟨b, o, none⟩ → w.heap.size + 2 ≤ b := fun b o e => own_ge hown b (by rw [e]; rfl)
  have HNE := Lib.hid hne
  have hsz : w.heap.size + 2 ≤ w1.heap.size := by have := hgrow.size; simp at this; omega
  clear hb0 hb1 hown hgrow hB hsl hne
  go_wp2_with fail
  refine bodyPost_ret (v := choV ⟨r.key, r.t, r.d, A, r.n, c⟩) (by simp [results, Tryd.results32, go_sem, choV, d0, d1, d2, d3, d4, d5, d6]) rfl ⟨_, rfl, ⟨H.out.key, H.out.t, H.out.d, H.out.n, hc1, hc2, ?_⟩, fun b o e => Nat.le_trans (by omega) (HNE.out b o e), ?_⟩
  · simp only [World.size_setCell]
    iterate 8 refine Lie.set ?_ _ _ (fun b o e => by have := HNE.out b o e; simp; omega)
    exact HSL.out.2
  · iterate 8 refine Below.setCell ?_ (by simp) _
    exact HB.out
end Go.Proofs.YtolfbnjmkgikdaaDoor
