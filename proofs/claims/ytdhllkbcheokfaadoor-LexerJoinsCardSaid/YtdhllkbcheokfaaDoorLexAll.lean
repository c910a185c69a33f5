/- The law's own helper 'all': it returns a slice of the tokens that the lexer yields. -/
import Derived.Test.YtdhllkbcheokfaaDoorLexIter
import Derived.Maps.AppendAt
import Derived.RangeFuncBox
namespace Go.Proofs.YtdhllkbcheokfaaDoor
open Go.RowKit Go.Shelf
attribute [local go_sem] Oper.semAt_some
/-- a token's cells -/
def tokC (x : LexP.Tok) : List Value := [.int .u8 (x.kind : Nat), .string x.text, .int .i64 (x.off : Nat)]
def rowT (l : List LexP.Tok) : List Value := l.flatMap tokC
theorem rowT_snoc (l : List LexP.Tok) (x : LexP.Tok) : rowT (l ++ [x]) = rowT l ++ tokC x := by simp [rowT]
theorem rowT_length (l : List LexP.Tok) : (rowT l).length = l.length * 3 := by
  induction l with
  | nil => rfl
  | cons x l ih => simp only [rowT, List.flatMap_cons, List.length_append, List.length_cons] at *; rw [ih]; simp [tokC]; omega
def AllPost (s : ByteArray) (w : World) (e : Ending) (w' : World) : Prop :=
  ∃ v, e = .returned v ∧ w'.ownsRow w.heap.size 31 3 v (LexP.lexB s).length (rowT (LexP.lexB s)) ∧ Below w.heap.size w w'
theorem info_tok : (Tryd.prog.info? 31).map (fun i => (i.zero, i.size, i.bytes)) = some (some (.agg #[.int .u8 0, .string ⟨#[]⟩, .int .i64 0]), 3, 32) := by kernel_rfl
theorem cell_at {w : World} {b : Nat} {cs : Array Value} {t : TypeId} {fr : Nat × Nat} (h : w.heap[b]? = some (.cells cs t fr)) (j : Nat) (v : Value) (hv : cs[j]? = some v) : w.cell? ⟨b, j, none⟩ = some v := by
  simp [World.cell?, h, hv]
theorem cells_new (w : World) (cs : List Value) (t : TypeId) : ∀ (j : Nat) (u : Value), cs[j]? = some u → (w.alloc (.cells cs.toArray t)).cell? ((⟨w.heap.size, 0, none⟩ : Addr).add j) = some u := by
  intro j u hj
  have h1 : (w.alloc (.cells cs.toArray t)).heap[w.heap.size]? = some (.cells cs.toArray t (0, 0)) := World.alloc_heap_new w _
  have h2 := cell_at h1 j u (by simpa using hj)
  unfold Addr.add
  split
  · rename_i h; subst h; exact h2
  · simpa using h2
theorem seq_nil (b : Nat) (w : World) : Sem.run Tryd.prog (binOp BinOp.eql 36 (.func (.func 26) #[] #[.pointer (some ⟨b, 0, none⟩)]) .nilFunc) w = .ok (.bool false) w := by kernel_rfl
set_option maxRecDepth 100000 in
set_option maxHeartbeats 2000000 in
theorem all_any (s : ByteArray) (hs : s.size ≤ 4194304) (w : World) (hL : Laid w) (h2 : 2 ≤ w.heap.size) : Calls Tryd.prog 12 #[.string s] w (AllPost s w) := by
  obtain ⟨i0, hi, hz0, hz1, hz2⟩ := info_parts info_tok
  have hsn := seq_nil
  have hlen := LexP.lexB_length s
  refine (callsIn_wide (n := 3)).1 ?_
  have hro : Fence.wide.round = none := rfl
  refine callsIn_of_wp_marks Tryd.func12 rfl trivial ?_ hro
  simp only [Tryd.ntmps12, List.size_toArray, List.length_cons, List.length_nil, Nat.reduceAdd, Nat.reduceSub, Array.replicate_succ, Array.replicate_zero, List.push_toArray, List.append_toArray, List.nil_append, List.cons_append]
  gi_wp2_with (refine ⟨trivial, ?_⟩; gi_at_call 15; refine (callsIn_wide.2 (lex_any _ _)).mono ?_; rintro e w' ⟨rfl, rfl⟩)
  have bL := (Boxed.new w 24 (.slice none 0 0)).alloc (.cells #[.string s] 9)
  have bS := Boxed.new (w.alloc (.cells #[.slice none 0 0] 24)) 9 (.string s)
  simp only [World.size_alloc] at bS
  have hB0 : Below w.heap.size w ((w.alloc (.cells #[.slice none 0 0] 24)).alloc (.cells #[.string s] 9)) := ((Below.refl _ w).alloc (Nat.le_refl _) _).alloc (by simp) _
  have hsz : ((w.alloc (.cells #[.slice none 0 0] 24)).alloc (.cells #[.string s] 9)).heap.size = w.heap.size + 2 := by simp
  obtain ⟨W0, hW0⟩ : ∃ W0, (w.alloc (.cells #[.slice none 0 0] 24)).alloc (.cells #[.string s] 9) = W0 := ⟨_, rfl⟩
  rw [hW0] at bL bS hB0 hsz ⊢
  clear hW0
  refine wpIn_rangeFunc_ownH hro (by omega) (gf := 26) (lb := #[.pointer (some ⟨w.heap.size + 1, 0, none⟩)]) rfl trivial (enters_of Tryd.func26 (by kernel_rfl) rfl)
    (lex1_stops (3 - 1) (by omega) (w.heap.size + 1) w.heap.size s (by unfold maxLen; omega) h2 W0 (by omega) (by omega) bS (hL.below hB0 h2)) (kp_t _ _) (kp_b (by omega) (by omega)) (Below.refl _ _) (fun _ => rfl)
    (fun pre W => ((∃ v, Boxed W w.heap.size 24 v ∧ W.ownsRow w.heap.size 31 3 v pre.length (rowT pre) ∧ True) ∧ Boxed W (w.heap.size + 1) 9 (.string s)) ∧ Below w.heap.size w W)
    (fun _ _ _ => False)
    (OwnFrom.and (OwnFrom.and (Own.from (holdsRow_own w.heap.size w.heap.size 24 31 3 (fun pre => pre.length) (fun pre => rowT pre) (fun _ _ => True)) _) (Own.from (boxed_own _ _ _) _)) (ownFrom_below (Nat.le_refl _) (by omega)))
    (fun _ _ _ _ _ hs _ _ => hs)
    ⟨⟨⟨_, bL, World.ownsRow_nil _ _ _ _, trivial⟩, bS⟩, hB0⟩
    (fun x a' W => ∃ Bx, w.heap.size + 1 < Bx ∧ W.heap[Bx]? = some (.cells #[.int .u8 (x.kind : Nat), .string x.text, .int .i64 (x.off : Nat)] 31 (0, 0)) ∧ a' = { tmps := #[.string s, undef, .slice none 0 0, .pointer (some ⟨w.heap.size, 0, none⟩), .func (.func 26) #[] #[.pointer (some ⟨w.heap.size + 1, 0, none⟩)], .pointer (some ⟨Bx, 0, none⟩), .string s, .func (.func 26) #[] #[.pointer (some ⟨w.heap.size + 1, 0, none⟩)], .func (.func 26) #[] #[.pointer (some ⟨w.heap.size + 1, 0, none⟩)], .bool false, .func (.func 26) #[] #[.pointer (some ⟨w.heap.size + 1, 0, none⟩)], tokV x, undef, undef, undef, undef, undef], defers := [] })
    (fun x a' _ X Y row hs hg hr => by
      obtain ⟨Bx, h1, h2, h3⟩ := hs
      refine ⟨Bx, h1, ?_, h3⟩
      refine (hg.block Bx (Array.getElem?_eq_some_iff.1 h2).1 (fun e => ?_)).trans h2
      obtain ⟨_, o, ho, hc⟩ := hr Bx e.symm
      rw [h2] at ho; cases ho; cases hc)
    ?assign ?body ?done ?stop
  case assign =>
    rintro l pre x W K ⟨⟨⟨v, bv, hrow, -⟩, bS1⟩, hB1⟩ hK
    simp only [tokV]
    gi_wp2
    have hW := hB1.size
    refine hK _ _ ((KeepsOthers.alloc _ _).from _) ⟨(Below.refl _ W).alloc hW _, Below.heap_alloc W _ _ bS1.lt⟩ ⟨⟨⟨v, bv.alloc _, hrow.alloc _, trivial⟩, bS1.alloc _⟩, hB1.alloc hW _⟩ ⟨W.heap.size, bS1.lt, World.alloc_heap_new W _, rfl⟩
  case body =>
    rintro l pre x a' W hl - ⟨⟨⟨v, bv, hrow, -⟩, bS1⟩, hB1⟩ ⟨Bx, hBx, bX, rfl⟩ hlt
    have hc := bv.cell
    have hf := bv.frozen
    have c0 := cell_at bX 0 _ rfl
    have c1 := cell_at bX 1 _ rfl
    have c2 := cell_at bX 2 _ rfl
    simp only [tokV]
    have hW := hB1.size
    clear hL hB0 bL bS hl
    gi_wp2_with (gi_at_builtin; refine wpListIn_append_own _ rfl _ _ 24 rfl w.heap.size 31 i0 _ 3 32 Tryd.underlying24 hi hz0 hz1 hz2 rfl (by decide) _ _ _ rfl (hrow.alloc _) ⟨W.heap.size, 0, none⟩ 1 1 (tokC x) rfl rfl (cells_new _ _ _) (by simp [tokC, Value.oneCell']) (by unfold maxLen; omega) (by omega) (by simp; omega) ?_; intro v' w1 hown' hgrow _; obtain ⟨g', cap', rfl⟩ := ownsRow_succ hown'; obtain ⟨hv1, hv2, hr2, hk2, hb2⟩ := bv.appended (by decide) hrow hW (Nat.le_refl _) hown' hgrow; have hc1 := hv1.cell; have hf1 := hv1.frozen)
    have bS2 := ((bS1.alloc _).kept hgrow (bS1.not_row (by decide) hrow)).other (B' := w.heap.size) (by omega) (.slice (some ⟨g', 0, none⟩) (pre.length + 1) cap')
    exact ⟨hk2.from _, ⟨hb2, bS2.trans bS1.symm⟩, ⟨⟨⟨_, hv2, by rw [rowT_snoc]; simpa using hr2, trivial⟩, bS2⟩, hB1.trans hb2⟩⟩
  case done =>
    rintro D ys W hD rfl ⟨⟨⟨v, bv, hrow, -⟩, bS1⟩, hB1⟩ hK
    have hc := bv.cell
    gi_wp2
    refine ⟨by simp, .inl ⟨_, _, rfl, run_takeDeferred hK, ?_⟩⟩
    exact ⟨_, results_tmp rfl _ _ _, v, rfl, ownsRow_putObj hrow _ hK rfl, hB1.trans (belowK_b (w := w) (Nat.le_refl _) W D _ _ (by omega) hK rfl rfl)⟩
  case stop =>
    rintro D c pre W _ _ h _
    exact h.elim
end Go.Proofs.YtdhllkbcheokfaaDoor
