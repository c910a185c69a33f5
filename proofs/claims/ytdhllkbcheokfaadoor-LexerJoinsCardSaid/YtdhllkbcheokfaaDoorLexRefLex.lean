/- The reference's Lex returns a slice of the tokens of the text. -/
import Derived.Test.YtdhllkbcheokfaaDoorLexRefNextB
import Derived.OwnWalk
namespace Go.Proofs.YtdhllkbcheokfaaDoor
open Go.RowKit Go.Shelf
def rtokC (x : LexP.Tok) : List Value := [.int .i64 (x.kind : Nat), .string x.text, .int .i64 (x.off : Nat)]
def rowR (l : List LexP.Tok) : List Value := l.flatMap rtokC
theorem rowR_snoc (l : List LexP.Tok) (x : LexP.Tok) : rowR (l ++ [x]) = rowR l ++ rtokC x := by simp [rowR]
def RefPost (s : ByteArray) (w : World) (e : Ending) (w' : World) : Prop :=
  ∃ v, e = .returned v ∧ w'.ownsRow w.heap.size 33 3 v (LexP.lexB s).length (rowR (LexP.lexB s)) ∧ Below w.heap.size w w'
theorem info_rtok : (Tryd.prog.info? 33).map (fun i => (i.zero, i.size, i.bytes)) = some (some (.agg #[.int .i64 0, .string ⟨#[]⟩, .int .i64 0]), 3, 32) := by kernel_rfl
theorem below_grownBy {W W' : World} (h : Below W.heap.size W W') : W.grownBy W' none := ⟨h.os, h.tape, h.output, h.size, fun k hk _ => h.block k hk⟩
theorem ownsRow_below {W W' : World} {base e size : Nat} {v : Value} {n : Nat} {xs : List Value} (h : W.ownsRow base e size v n xs) (hb : Below W.heap.size W W') : W'.ownsRow base e size v n xs := by
  refine h.kept (below_grownBy hb) ?_
  cases hv : v.ownBlock with
  | none => exact .inl rfl
  | some g => exact .inr (by simp)
theorem ownsRow_lt {W : World} {base e size : Nat} {v : Value} {n : Nat} {xs : List Value} (h : W.ownsRow base e size v n xs) {B : Nat} (hB : W.heap.size ≤ B) : some B ≠ v.ownBlock := by
  rcases h.2 with ⟨rfl, _⟩ | ⟨g, cap, cur, rfl, _, hgb, _⟩
  · simp [Value.ownBlock]
  · intro e'
    obtain rfl : B = g := by simpa [Value.ownBlock] using e'
    have := (Array.getElem?_eq_some_iff.1 hgb).1
    omega
theorem ownsRow_ge {W : World} {base e size : Nat} {v : Value} {n : Nat} {xs : List Value} (h : W.ownsRow base e size v n xs) : ∀ k, v.ownBlock = some k → base ≤ k := by
  rcases h.2 with ⟨rfl, _⟩ | ⟨g, cap, cur, rfl, hb, _⟩
  · intro k e; simp [Value.ownBlock] at e
  · intro k e
    obtain rfl : g = k := by simpa [Value.ownBlock] using e
    exact hb
set_option maxRecDepth 100000 in
set_option maxHeartbeats 2000000 in
theorem reflex_any (s : ByteArray) (w : World) (hs : s.size ≤ 4194304) :
    Calls Tryd.prog 13 #[.string s] w (RefPost s w) := by
  obtain ⟨i0, hi, hz0, hz1, hz2⟩ := info_parts info_rtok
  have hlen := LexP.lexB_length s
  have hsk : LexP.skipAt s 0 ≤ s.size := by have := LexP.skipAt_le s 0 (Nat.zero_le _); omega
  go_enter Tryd.func13, Tryd.ntmps13
  go_wp2_with fail
  refine (refskip_any s 0 _ (by omega) (Nat.zero_le _)).mono ?_
  rintro e w' ⟨rfl, rfl⟩
  rw [Nat.zero_add]
  go_wp2_with fail
  go_loopw [3, 4, 5] (fun v i _ wr => ∃ (pre : List LexP.Tok) (off : Nat), i = .int .i64 off ∧ off ≤ s.size ∧ pre ++ LexP.toksFrom s off = LexP.lexB s ∧ wr.ownsRow w.heap.size 33 3 v pre.length (rowR pre) ∧ Below w.heap.size w wr) (fun _ i _ _ => s.size - (intOf i).toNat)
  case atStart => exact ⟨[], _, rfl, hsk, rfl, World.ownsRow_nil _ _ _ _, Below.refl _ _⟩
  case round =>
    obtain ⟨pre, off, rfl, hoff, hx, hown, hb⟩ := hrel
    have HX := Lib.hid hx
    have HB := Lib.hid hb
    have HO := Lib.hid hown
    have hwz := hb.size
    clear hx hb hown
    by_cases hlt : off < s.size
    · have hrd := LexP.readAt_bounds s off hlt
      have hst := LexP.toksFrom_step s off hlt
      have hpl : pre.length < (LexP.lexB s).length := by rw [← HX.out, hst]; simp
      have HS := Lib.hid hst
      clear hst
      go_wp2_with fail
      refine (refnext_any s off _ (by omega) hlt).mono ?_
      rintro e w1 ⟨rfl, hb1⟩
      have ev : rtokV (LexP.tokAt s off) = .agg #[.int .i64 ((LexP.readAt s off).1 : Nat), .string (s.extract off (off + (LexP.readAt s off).2)), .int .i64 (off : Nat)] := rfl
      rw [ev]
      clear ev
      have hnx : LexP.nextAt s off = off + (LexP.readAt s off).2 + LexP.skipAt s (off + (LexP.readAt s off).2) := rfl
      have HN := Lib.hid hnx
      clear hnx
      have hrc : rtokC (LexP.tokAt s off) = [.int .i64 ((LexP.readAt s off).1 : Nat), .string (s.extract off (off + (LexP.readAt s off).2)), .int .i64 (off : Nat)] := rfl
      have HRC := Lib.hid hrc
      clear hrc
      generalize (LexP.readAt s off).1 = kd at *
      generalize (LexP.readAt s off).2 = n1 at *
      obtain ⟨hn1, hn2⟩ := hrd
      have hsz1 := hb1.size
      have HO1 := Lib.hid (ownsRow_below HO.out hb1)
      have HB1 := Lib.hid (HB.out.trans (hb1.mono hwz))
      have hne := Lib.hid (ownsRow_lt HO.out hsz1)
      clear hb1
      go_wp2_with (at_builtin; refine wpList_append_own _ rfl _ _ 26 rfl w.heap.size 33 i0 _ 3 32 Tryd.underlying26 hi hz0 hz1 hz2 rfl (by decide) _ _ _ rfl ((HO1.out.alloc _).alloc _) ⟨w1.heap.size + 1, 0, none⟩ 1 1 [.int .i64 (kd : Nat), .string (s.extract off (off + n1)), .int .i64 (off : Nat)] rfl rfl ?c1 ?c2 ?c3 ?c4 ?c5 ?_)
      case c1 => have := cells_new (w1.alloc (.cells #[.int .i64 (kd : Nat), .string (s.extract off (off + n1)), .int .i64 (off : Nat)] 33)) [.int .i64 (kd : Nat), .string (s.extract off (off + n1)), .int .i64 (off : Nat)] 33; rwa [World.size_alloc] at this
      case c2 => simp [Value.oneCell']
      case c3 => unfold maxLen; omega
      case c4 => omega
      case c5 => simp; omega
      intro v' w3 hown' hgrow _
      have hcell : w3.cell? ⟨w1.heap.size, 1, none⟩ = some (.string (s.extract off (off + n1))) := by
        refine hgrow.cell ?_ hne.out
        have h1 := cell_at (World.alloc_heap_new w1 (.cells #[.int .i64 (kd : Nat), .string (s.extract off (off + n1)), .int .i64 (off : Nat)] 33)) 1 _ rfl
        exact ((Below.refl _ _).alloc (Nat.le_refl _) _).cell (p := ⟨w1.heap.size, 1, none⟩) (by simp) |>.trans h1
      have HO3 : Hid (w3.ownsRow w.heap.size 33 3 v' (pre ++ [LexP.tokAt s off]).length (rowR (pre ++ [LexP.tokAt s off]))) := Lib.hid (by rw [rowR_snoc, HRC.out]; simpa using hown')
      have HB3 : Hid (Below w.heap.size w w3) := Lib.hid ((((HB1.out.alloc (by omega) _).alloc (by simp; omega) _).grown hgrow (by simp; omega) (fun k e => ownsRow_ge HO.out k e)))
      have hxs : (s.extract off (off + n1)).size = n1 := by simp; omega
      clear hown' hgrow
      go_wp2_with fail
      refine (refskip_any s (off + n1) _ (by omega) hn2).mono ?_
      rintro e w' ⟨rfl, rfl⟩
      have hsk2 := LexP.skipAt_le s (off + n1) hn2
      generalize LexP.skipAt s (off + n1) = n2 at *
      go_wp2_with fail
      go_roundw
      case rel => exact ⟨pre ++ [LexP.tokAt s off], off + n1 + n2, by go_num, hsk2, by rw [← HN.out, List.append_assoc, List.singleton_append, ← HS.out, HX.out], HO3.out, HB3.out⟩
      case measure => simp [intOf]; omega
    · go_wp2_with fail
      go_ret
      refine ⟨_, rfl, ?_, HB.out⟩
      have := HX.out
      rw [LexP.toksFrom_end s off hlt, List.append_nil] at this
      rw [← this]
      exact HO.out
end Go.Proofs.YtdhllkbcheokfaaDoor
