/- The lexer's iterator: Lex hands back a function that yields the tokens of the text, in order, until a round says no. -/
import Derived.Test.YtdhllkbcheokfaaDoorLexToks
import Derived.Test.YtdhllkbcheokfaaDoorLexRead
import Derived.RangeFuncNested
import Derived.RangeFuncBound
import Derived.RangeFuncCalls
import Derived.RangeFuncLeaves
import Derived.Shelf.Abstract
import Derived.Shelf.RegionOpen
import Derived.WalkKit
import Derived.OwnWalkIn
import Derived.TacticsInMore
import Derived.LoopNIn
import Derived.LoopIn
import Derived.Outline
namespace Go.Proofs.YtdhllkbcheokfaaDoor
open Go.RowKit Go.Shelf
attribute [local go_sem] Oper.semAt_some
/-- a token of the lexer as a value -/
def tokV (x : LexP.Tok) : Value := .agg #[.int .u8 (x.kind : Nat), .string x.text, .int .i64 (x.off : Nat)]
/-- what a round that goes on keeps: what lay below n₀, and the box of the text -/
def Kp (n₀ Bn : Nat) (W W' : World) : Prop := Below n₀ W W' ∧ W'.heap[Bn]? = W.heap[Bn]?
theorem Laid.below {n : Nat} {A B : World} (h : Below n A B) (hn : 2 ≤ n) (hl : Laid A) : Laid B := by
  obtain ⟨⟨t1, f1, h1⟩, ⟨t2, f2, h2⟩⟩ := hl
  exact ⟨⟨t1, f1, (h.block _ (by omega)).trans h1⟩, ⟨t2, f2, (h.block _ (by omega)).trans h2⟩⟩
theorem lex_any (s : ByteArray) (w : World) :
    Calls Tryd.prog 15 #[.string s] w fun e w' => e = .returned (.func (.func 26) #[] #[.pointer (some ⟨w.heap.size, 0, none⟩)]) ∧ w.alloc (.cells #[.string s] 9) = w' := by
  go_enter Tryd.func15, Tryd.ntmps15
  go_wp2
  go_ret
  exact ⟨rfl, rfl⟩
set_option maxRecDepth 100000 in
set_option maxHeartbeats 1000000 in
theorem lex1_in (n : Nat) (hn : 1 ≤ n) (l Bn n₀ : Nat) (s : ByteArray) (hs : s.size ≤ maxLen) (h2 : 2 ≤ n₀) (J Jx : List LexP.Tok → World → Prop)
    (hY : ∀ pre x W, J pre W → pre.length < (LexP.lexB s).length → YieldAt Fence.wide (n - 1) Tryd.prog l #[tokV x] W fun e W' =>
      (e = .returned (.bool true) ∧ J (pre ++ [x]) W' ∧ Kp n₀ Bn W W') ∨ (e = .returned (.bool false) ∧ Jx (pre ++ [x]) W'))
    (W : World) (hBn : W.heap[Bn]? = some (.cells #[.string s] 9)) (hL : Laid W) (h0 : J [] W) :
    CallsIn Fence.wide n Tryd.prog 26 #[.func (.yield l) #[] #[], .pointer (some ⟨Bn, 0, none⟩)] W fun e W' => (∃ v, e = .returned v) ∧
      ((∃ ys, ys = LexP.lexB s ∧ J ys W') ∨ (∃ pre, pre <+: LexP.lexB s ∧ Jx pre W')) := by
  have hc := cell_of_one hBn
  have HY := Lib.hid hY
  clear hY
  have hs' := hs
  unfold maxLen at hs'
  refine callsIn_of_wp Tryd.func26 rfl trivial ?_ rfl
  simp only [Tryd.ntmps26, List.size_toArray, List.length_cons, List.length_nil, Nat.reduceAdd, Nat.reduceSub, Array.replicate_succ, Array.replicate_zero, List.push_toArray, List.append_toArray, List.nil_append, List.cons_append]
  gi_wp2_with (refine ⟨trivial, ?_⟩; gi_at_call 27; refine (callsIn_wide.2 (skip_any _ _ (by assumption))).mono ?_; rintro e w' ⟨rfl, rfl⟩)
  have hsk : LexP.skipAt s 0 ≤ s.size := by have := LexP.skipAt_le s 0 (Nat.zero_le _); omega
  have e0 : LexP.skipL false s.data.toList = LexP.skipAt s 0 := by unfold LexP.skipAt; simp
  rw [e0]
  clear e0
  gi_loopw [3, 4, 5] (fun o _ _ wr => ∃ (pre : List LexP.Tok) (off : Nat), o = .int .i64 off ∧ off ≤ s.size ∧ pre ++ LexP.toksFrom s off = LexP.lexB s ∧ wr.heap[Bn]? = some (.cells #[.string s] 9) ∧ Laid wr ∧ J pre wr)
    (fun o _ _ _ => s.size - (intOf o).toNat)
  case atStart =>
    exact ⟨[], _, rfl, hsk, rfl, hBn, hL, h0⟩
  case round =>
    obtain ⟨pre, off, rfl, hoff, hx, hbox, hlaid, hJs⟩ := hrel
    clear hc hL hBn h0
    have HX := Lib.hid hx
    have HL := Lib.hid hlaid
    have HB := Lib.hid hbox
    have hc := cell_of_one hbox
    clear hx hlaid hbox
    by_cases hlt : off < s.size
    · have hrd := LexP.readAt_bounds s off hlt
      have hst := LexP.toksFrom_step s off hlt
      obtain ⟨fn, tmps, assign, body, hy, hR⟩ := HY.out pre (LexP.tokAt s off) wr hJs (by rw [← HX.out, hst]; simp)
      have HS := Lib.hid hst
      clear hst
      gi_wp2_with fail
      refine ⟨trivial, ?_⟩
      refine (callsIn_wide.2 (read_any _ _ HL.out (by simp [maxLen]; omega) (by simp; omega))).mono ?_
      rintro e w' ⟨rfl, rfl⟩
      rw [LexP.data_drop]
      have ev : readV (s.data.toList.drop off) = .tuple #[.int .u8 ((LexP.readAt s off).1 : Nat), .int .i64 ((LexP.readAt s off).2 : Nat)] := rfl
      rw [ev]
      clear ev
      have hy2 : Sem.run Tryd.prog (Instr.yield l #[.agg #[.int .u8 ((LexP.readAt s off).1 : Nat), .string (s.extract off (off + (LexP.readAt s off).2)), .int .i64 (off : Nat)]]) wr = Result.ok (Next.round l fn tmps assign body) wr := hy
      clear hy
      have hnx : LexP.nextAt s off = off + (LexP.readAt s off).2 + LexP.skipAt s (off + (LexP.readAt s off).2) := rfl
      have HN := Lib.hid hnx
      clear hnx
      generalize (LexP.readAt s off).1 = kd at *
      generalize (LexP.readAt s off).2 = n1 at *
      obtain ⟨hn1, hn2⟩ := hrd
      gi_wp2_with fail
      refine hR.mono ?_
      rintro e W3 (⟨rfl, hJ3, hk3, hk4⟩ | ⟨rfl, hJx3⟩)
      · have hbox3 := hk4.trans HB.out
        have hc3 := cell_of_one hbox3
        have HL3 := Lib.hid (HL.out.below hk3 h2)
        have hsk2 := LexP.skipAt_le s (off + n1) hn2
        have HB3 := Lib.hid hbox3
        have HJ3 := Lib.hid hJ3
        clear hbox3 hk3 hk4 hJs hc hJ3
        gi_wp2_with fail
        refine ⟨trivial, ?_⟩
        refine (callsIn_wide.2 (skip_any _ _ (by simp [maxLen]; omega))).mono ?_
        rintro e w' ⟨rfl, rfl⟩
        rw [LexP.data_drop]
        have es : LexP.skipL false (s.data.toList.drop (off + n1)) = LexP.skipAt s (off + n1) := rfl
        rw [es]
        clear es
        generalize LexP.skipAt s (off + n1) = n2 at *
        gi_wp2_with fail
        go_roundw
        case rel => exact ⟨pre ++ [LexP.tokAt s off], off + n1 + n2, by go_num, hsk2, by rw [← HN.out, List.append_assoc, List.singleton_append, ← HS.out, HX.out], HB3.out, HL3.out, HJ3.out⟩
        case measure => simp [intOf]; omega
      · gi_wp2_with fail
        refine bodyPost_ret (results_none rfl _ _ _) rfl ?_
        exact ⟨⟨_, rfl⟩, .inr ⟨pre ++ [LexP.tokAt s off], ⟨LexP.toksFrom s (LexP.nextAt s off), by rw [List.append_assoc, List.singleton_append, ← HS.out, HX.out]⟩, hJx3⟩⟩
    · gi_wp2_with fail
      go_end0
      exact ⟨⟨_, rfl⟩, .inl ⟨pre, by have := HX.out; rw [LexP.toksFrom_end s off hlt] at this; simpa using this, hJs⟩⟩
theorem kp_t (n₀ Bn : Nat) {A B C : World} (h1 : Kp n₀ Bn A B) (h2 : Kp n₀ Bn B C) : Kp n₀ Bn A C := ⟨h1.1.trans h2.1, h2.2.trans h1.2⟩
theorem kp_b {n₀ Bn : Nat} {w : World} (hn : n₀ ≤ w.heap.size) (hB : Bn < w.heap.size) (W : World) (l : Nat) (o o' : Obj) (h : w.heap.size ≤ l) (h1 : W.heap[l]? = some o) (h2 : o.isCells = false) (h3 : o.isWalk = false) : Kp n₀ Bn W (W.putObj l o') :=
  ⟨belowK_b hn W l o o' h h1 h2 h3, (belowK_b (n₀ := Bn + 1) (w := w) (by omega) W l o o' h h1 h2 h3).block Bn (by omega)⟩
theorem lex1_stops (n : Nat) (hn : 1 ≤ n) (Bn n₀ : Nat) (s : ByteArray) (hs : s.size ≤ maxLen) (h2 : 2 ≤ n₀) (w : World) (hn₀ : n₀ ≤ w.heap.size) (hB : Bn < w.heap.size)
    (hBn : w.heap[Bn]? = some (.cells #[.string s] 9)) (hL : Laid w) :
    SeqStopsK Fence.wide n Tryd.prog 26 #[.pointer (some ⟨Bn, 0, none⟩)] (fun x => #[tokV x]) (Kp n₀ Bn) (fun ys => ys = LexP.lexB s) (fun pre => pre <+: LexP.lexB s) (LexP.lexB s).length w := fun l J Jx W hW _ _ hY h0 =>
  lex1_in n hn l Bn n₀ s hs h2 J Jx hY W ((hW.block Bn hB).trans hBn) (hL.below (hW.mono hn₀) h2) h0
end Go.Proofs.YtdhllkbcheokfaaDoor
