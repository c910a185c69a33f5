/- The law's own helper 'same', at any two tokens. -/
import Derived.Test.YtdhllkbcheokfaaDoorLexSame
namespace Go.Proofs.YtdhllkbcheokfaaDoor
open Go.RowKit Go.Shelf
def sameB (x y : LexP.Tok) : Bool := (wrap64 (x.kind : Int) == (y.kind : Int)) && (x.text.toList == y.text.toList) && ((x.off : Int) == (y.off : Int))
theorem sameB_self (x : LexP.Tok) (h : x.kind ≤ 5) : sameB x x = true := by
  unfold sameB
  rw [IntWalk.wrap64_in _ ⟨by omega, by omega⟩]
  simp
def BoolPost (b : Bool) (w : World) (e : Ending) (w' : World) : Prop := e = .returned (.bool b) ∧ Below w.heap.size w w'
set_option maxRecDepth 100000 in
set_option maxHeartbeats 1000000 in
theorem same_any (x y : LexP.Tok) (w : World) : Calls Tryd.prog 14 #[tokV x, rtokV y] w (BoolPost (sameB x y) w) := by
  have e1 : tokV x = .agg #[.int .u8 (x.kind : Nat), .string x.text, .int .i64 (x.off : Nat)] := rfl
  have e2 : rtokV y = .agg #[.int .i64 (y.kind : Nat), .string y.text, .int .i64 (y.off : Nat)] := rfl
  rw [e1, e2]
  have e3 : sameB x y = ((wrap64 (x.kind : Int) == (y.kind : Int)) && (x.text.toList == y.text.toList) && ((x.off : Int) == (y.off : Int))) := rfl
  have H3 := Lib.hid e3
  clear e1 e2 e3
  generalize x.kind = kd at *
  generalize x.text = tx at *
  generalize x.off = of at *
  generalize y.kind = kd' at *
  generalize y.text = tx' at *
  generalize y.off = of' at *
  cases h1 : (wrap64 (kd : Int) == (kd' : Int)) <;> cases h2 : (tx.toList == tx'.toList) <;> cases h3 : ((of : Int) == (of' : Int))
  all_goals
    have HF := H3.out
    rw [h1, h2, h3] at HF
    have HF2 := Lib.hid HF
    clear HF
    go_enter Tryd.func14, Tryd.ntmps14
    go_wp2
    go_ret
    exact ⟨by rw [HF2.out]; rfl, ((Below.refl _ _).alloc (Nat.le_refl _) _).alloc (by simp) _⟩
end Go.Proofs.YtdhllkbcheokfaaDoor
