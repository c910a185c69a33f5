/- The walk of the law on lines. -/
import Derived.Test.YtdhllkbcheokfaaDoorLexAwake
namespace Go.Proofs.YtdhllkbcheokfaaDoor
open Go.RowKit Go.Shelf
set_option maxRecDepth 100000 in
set_option maxHeartbeats 1000000 in
theorem lexerLines_walk (s : ByteArray) (off : Int) (w : World) (hL : Laid w) (hs : s.size ≤ 140737488351232) (h1 : -9223372036854775808 ≤ off) (h2 : off ≤ 9223372036854775807) :
    Calls Tryd.prog 5 #[.string s, .int .i64 off] w (TruePost w) := by
  have h2' : 2 ≤ w.heap.size := by
    obtain ⟨_, t, fr, e⟩ := hL
    have := (Array.getElem?_eq_some_iff.1 e).1
    omega
  have HL := Lib.hid hL
  clear hL
  go_enter Tryd.func5, Tryd.ntmps5
  go_wp2_with fail
  refine (awake_any w HL.out h2').mono ?_
  rintro e w1 ⟨rfl, hb⟩
  have HB := Lib.hid hb
  clear hb
  go_wp2_with fail
  refine (line_any _ _ _ hs h1 h2).mono ?_
  rintro e w' ⟨rfl, rfl⟩
  have hv : lineV s off = .tuple #[.int .i64 ((LexP.posK s.data.toList (LexP.cutAt s off)).1 : Nat), .int .i64 ((LexP.posK s.data.toList (LexP.cutAt s off)).2 : Nat)] := rfl
  have HV := Lib.hid hv
  clear hv
  rw [HV.out]
  go_wp2_with fail
  refine (refline_any _ _ _ hs).mono ?_
  rintro e w' ⟨rfl, rfl⟩
  rw [HV.out]
  go_wp2_with fail
  go_ret
  exact ⟨rfl, HB.out⟩
end Go.Proofs.YtdhllkbcheokfaaDoor
