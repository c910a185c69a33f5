/- The law's own helper 'same': a token of the lexer and one of the reference are compared. -/
import Derived.Test.YtdhllkbcheokfaaDoorLexRefLex
namespace Go.Proofs.YtdhllkbcheokfaaDoor
open Go.RowKit Go.Shelf
set_option maxRecDepth 100000 in
set_option maxHeartbeats 1000000 in
theorem same_true (x : LexP.Tok) (w : World) (hk : x.kind ≤ 5) : Calls Tryd.prog 14 #[tokV x, rtokV x] w (TruePost w) := by
  have e1 : tokV x = .agg #[.int .u8 (x.kind : Nat), .string x.text, .int .i64 (x.off : Nat)] := rfl
  have e2 : rtokV x = .agg #[.int .i64 (x.kind : Nat), .string x.text, .int .i64 (x.off : Nat)] := rfl
  rw [e1, e2]
  clear e1 e2
  generalize x.kind = kd at *
  generalize x.text = tx at *
  generalize x.off = of at *
  go_enter Tryd.func14, Tryd.ntmps14
  go_wp2
  go_ret
  exact ⟨rfl, ((Below.refl _ _).alloc (Nat.le_refl _) _).alloc (by simp) _⟩
/-- a slice that owns a row, written out -/
theorem row_form {w : World} {base e size : Nat} {v : Value} {n : Nat} {xs : List Value} (h : w.ownsRow base e size v n xs) :
    ∃ a cap, v = .slice a n cap ∧ n ≤ cap := by
  rcases h.2 with ⟨rfl, rfl⟩ | ⟨g, cap, cur, rfl, _, _, hc, _⟩
  · exact ⟨none, 0, rfl, Nat.le_refl _⟩
  · exact ⟨_, _, rfl, hc⟩
theorem rowT_at (l : List LexP.Tok) (k : Nat) (x : LexP.Tok) (h : l[k]? = some x) : (rowT l)[k * 3]? = some (.int .u8 (x.kind : Nat)) ∧ (rowT l)[k * 3 + 1]? = some (.string x.text) ∧ (rowT l)[k * 3 + 2]? = some (.int .i64 (x.off : Nat)) := by
  induction l generalizing k with
  | nil => simp at h
  | cons y l ih =>
    cases k with
    | zero =>
      simp at h
      subst h
      simp [rowT, tokC]
    | succ k =>
      have e : rowT (y :: l) = tokC y ++ rowT l := by simp [rowT]
      have := ih k (by simpa using h)
      rw [e, show (k + 1) * 3 = 3 + k * 3 by omega]
      simpa [tokC, Nat.add_comm 3, Nat.add_assoc] using this
theorem rowR_at (l : List LexP.Tok) (k : Nat) (x : LexP.Tok) (h : l[k]? = some x) : (rowR l)[k * 3]? = some (.int .i64 (x.kind : Nat)) ∧ (rowR l)[k * 3 + 1]? = some (.string x.text) ∧ (rowR l)[k * 3 + 2]? = some (.int .i64 (x.off : Nat)) := by
  induction l generalizing k with
  | nil => simp at h
  | cons y l ih =>
    cases k with
    | zero =>
      simp at h
      subst h
      simp [rowR, rtokC]
    | succ k =>
      have e : rowR (y :: l) = rtokC y ++ rowR l := by simp [rowR]
      have := ih k (by simpa using h)
      rw [e, show (k + 1) * 3 = 3 + k * 3 by omega]
      simpa [rtokC, Nat.add_comm 3, Nat.add_assoc] using this
end Go.Proofs.YtdhllkbcheokfaaDoor
