/- The law's own helper 'awake': it returns true. -/
import Derived.Test.YtdhllkbcheokfaaDoorLexAll
import Derived.Test.YtdhllkbcheokfaaDoorLexLine
import Derived.KernelRfl
namespace Go.Proofs.YtdhllkbcheokfaaDoor
open Go.RowKit Go.Shelf
/-- a world in which the tables lie, and nothing that lay has changed since w -/
theorem bcell {W w1 : World} (hb : Below W.heap.size W w1) : (∀ b o, b < W.heap.size → w1.cell? ⟨b, o, none⟩ = W.cell? ⟨b, o, none⟩) :=
  fun b o h => hb.cell (p := ⟨b, o, none⟩) h
/-- the cells of a slice of tokens that is not empty -/
theorem row_cells {w : World} {base e size : Nat} {v : Value} {n : Nat} {xs : List Value} (h : w.ownsRow base e size v n xs) (hn : 0 < n) :
    ∃ g cap, v = .slice (some ⟨g, 0, none⟩) n cap ∧ base ≤ g ∧ g < w.heap.size ∧ n ≤ cap ∧ ∀ (j : Nat) (u : Value), xs[j]? = some u → w.cell? ⟨g, j, none⟩ = some u := by
  obtain ⟨hl, h⟩ := h
  rcases h with ⟨_, h0⟩ | ⟨g, cap, cur, rfl, hb, hg, hc, _, hsz, ht⟩
  · omega
  · refine ⟨g, cap, rfl, hb, (Array.getElem?_eq_some_iff.1 hg).1, hc, fun j u hj => cell_at hg j u ?_⟩
    rw [← ht, List.getElem?_take] at hj
    split at hj
    · simpa using hj
    · cases hj
def ex1 : ByteArray := ⟨#[108, 105, 110, 107, 32, 97, 32, 45, 62, 32, 98, 46, 46, 53, 32, 47, 47, 32, 120]⟩
def ex2 : ByteArray := ⟨#[120, 49, 32, 61, 32, 48, 55]⟩
theorem ex1_len : (LexP.lexB ex1).length = 6 := by kernel_rfl
theorem ex1_row : rowT (LexP.lexB ex1) = [.int .u8 2, .string ⟨#[108, 105, 110, 107]⟩, .int .i64 0, .int .u8 1, .string ⟨#[97]⟩, .int .i64 5, .int .u8 4, .string ⟨#[45, 62]⟩, .int .i64 7, .int .u8 1, .string ⟨#[98]⟩, .int .i64 10, .int .u8 4, .string ⟨#[46, 46]⟩, .int .i64 11, .int .u8 3, .string ⟨#[53]⟩, .int .i64 13] := by kernel_rfl
theorem ex2_len : (LexP.lexB ex2).length = 3 := by kernel_rfl
theorem ex2_row : rowT (LexP.lexB ex2) = [.int .u8 1, .string ⟨#[120, 49]⟩, .int .i64 0, .int .u8 4, .string ⟨#[61]⟩, .int .i64 3, .int .u8 5, .string ⟨#[48, 55]⟩, .int .i64 5] := by kernel_rfl
theorem ex3_line : lineV ⟨#[97]⟩ 9 = .tuple #[.int .i64 1, .int .i64 2] := by kernel_rfl
def TruePost (w : World) (e : Ending) (w' : World) : Prop := e = .returned (.bool true) ∧ Below w.heap.size w w'
set_option maxRecDepth 100000 in
set_option maxHeartbeats 1000000 in
theorem awake_any (w : World) (hL : Laid w) (h2 : 2 ≤ w.heap.size) : Calls Tryd.prog 10 #[] w (TruePost w) := by
  have HL := Lib.hid hL
  clear hL
  go_enter Tryd.func10, Tryd.ntmps10
  go_wp2_with fail
  refine (all_any ex1 (by decide) w HL.out h2).mono ?_
  rintro e w1 ⟨v1, rfl, hr1, hb1⟩
  rw [ex1_len, ex1_row] at hr1
  obtain ⟨g1, cap1, rfl, hg1, hg1', hcap1, hc1⟩ := row_cells hr1 (by decide)
  have HB1 := Lib.hid hb1
  have hz1 := hb1.size
  clear hb1 hr1
  go_wp2_with fail
  refine (all_any ex2 (by decide) w1 (HL.out.below HB1.out h2) (by omega)).mono ?_
  rintro e w2 ⟨v2, rfl, hr2, hb2⟩
  rw [ex2_len, ex2_row] at hr2
  obtain ⟨g2, cap2, rfl, hg2, hg2', hcap2, hc2⟩ := row_cells hr2 (by decide)
  have HB2 := Lib.hid hb2
  have hk : ∀ o, w2.cell? ⟨g1, o, none⟩ = w1.cell? ⟨g1, o, none⟩ := fun o => hb2.cell (p := ⟨g1, o, none⟩) hg1'
  have c0 := (hk 0).trans (hc1 0 _ rfl)
  have c6 := (hk 6).trans (hc1 6 _ rfl)
  have c7 := (hk 7).trans (hc1 7 _ rfl)
  have c8 := (hk 8).trans (hc1 8 _ rfl)
  have c13 := (hk 13).trans (hc1 13 _ rfl)
  have d6 := hc2 6 _ rfl
  clear hb2 hr2 hc1 hc2 hk
  go_wp2_with fail
  refine (line_any _ _ _ (by decide) (by decide) (by decide)).mono ?_
  rintro e w' ⟨rfl, rfl⟩
  rw [ex3_line]
  go_wp2_with fail
  go_ret
  exact ⟨rfl, HB1.out.trans (HB2.out.mono hz1)⟩
end Go.Proofs.YtdhllkbcheokfaaDoor
