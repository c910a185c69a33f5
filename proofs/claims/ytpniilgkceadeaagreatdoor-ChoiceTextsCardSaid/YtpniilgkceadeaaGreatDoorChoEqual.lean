/- slices.Equal at bytes and at int64. -/
import Derived.Test.YtpniilgkceadeaaGreatDoorChoMem
import Derived.Deep.QuietTactic
import Derived.BigQuiet
namespace Go.Proofs.YtpniilgkceadeaaGreatDoor
open Go.RowKit
def EqPost (b : Bool) (w : World) (e : Ending) (w' : World) : Prop := e = .returned (.bool b) ∧ ∃ q, w' = w.drewN q
theorem EqPost.below {b : Bool} {w w' : World} {e : Ending} (h : EqPost b w e w') : e = .returned (.bool b) ∧ Below w.heap.size w w' := by
  obtain ⟨h1, q, rfl⟩ := h
  exact ⟨h1, ⟨rfl, rfl, rfl, Nat.le_refl _, fun _ _ => rfl⟩⟩
theorem take_eq_of {l m : List Int} {k : Nat} (h : l.take k = m.take k) {x : Int} (hx : l[k]? = some x) (hy : m[k]? = some x) : l.take (k + 1) = m.take (k + 1) := by
  rw [List.take_add_one, List.take_add_one, h, hx, hy]
set_option maxRecDepth 100000 in
set_option maxHeartbeats 1000000 in
theorem eqU8_any (A B : Option Addr) (c d : Nat) (l m : List Int) (w : World) (h1 : Lie w w.heap.size A (l.map (Value.int .u8))) (h2 : Lie w w.heap.size B (m.map (Value.int .u8))) (hl : l.length ≤ 9223372036854775806) (hm : m.length ≤ 9223372036854775806) :
    Calls Tryz.prog 10 #[.slice A l.length c, .slice B m.length d] w (EqPost (decide (l = m)) w) := by
  by_cases hlen : l.length = m.length
  · have hlen2 : ((l.length : Int) == (m.length : Int)) = true := by simp [hlen]
    have H1 := Lib.hid h1
    have H2 := Lib.hid h2
    have HLEN := Lib.hid hlen
    rw [← hlen]
    clear h1 h2 hlen hm hlen2
    go_enter Tryz.func10, Tryz.ntmps10
    go_wp2_with fail
    go_loopw [13] (fun i wr => ∃ k q : Nat, k ≤ l.length ∧ i = .int .i64 k ∧ l.take k = m.take k ∧ wr = w.drewN q) (fun i _ => l.length - (intOf i).toNat)
    case atStart => exact ⟨0, 0, Nat.zero_le _, rfl, rfl, rfl⟩
    case round =>
      obtain ⟨k, q0, hk, rfl, ht, rfl⟩ := hrel
      have HT := Lib.hid ht
      clear ht
      by_cases hlt : k < l.length
      · obtain ⟨x, hx⟩ : ∃ x, l[k]? = some x := ⟨_, List.getElem?_eq_getElem hlt⟩
        obtain ⟨y, hy⟩ : ∃ y, m[k]? = some y := ⟨_, List.getElem?_eq_getElem (by rw [← HLEN.out]; exact hlt)⟩
        obtain ⟨b1, o1, rfl, _, c1⟩ := H1.out.at_ k (.int .u8 x) (by simp [hx])
        obtain ⟨b2, o2, rfl, _, c2⟩ := H2.out.at_ k (.int .u8 y) (by simp [hy])
        have hi1 : (0 : Int) ≤ (k : Int) := by omega
        have hi2 : (k : Int) < (l.length : Int) := by omega
        have HX := Lib.hid hx
        have HY := Lib.hid hy
        clear hx hy
        by_cases hxy : x = y
        · subst hxy
          have hb : (x != x) = false := by simp
          have hb2 : (x == x) = true := by simp
          go_wp2_with fail
          go_quiet (fail)
          clear c1 c2
          go_wp2_with fail
          go_roundw
          case rel => exact ⟨k + 1, q0 + nq, by omega, by go_num, take_eq_of HT.out HX.out HY.out, rfl⟩
          case measure => simp [intOf]; omega
        · have hb : (x != y) = true := by simp [hxy]
          have hb2 : (x == y) = false := by simp [hxy]
          have hne : decide (l = m) = false := by
            rw [decide_eq_false_iff_not]
            intro e
            subst e
            have := HX.out.symm.trans HY.out
            injection this with this
            exact hxy this
          have HNE := Lib.hid hne
          clear hxy hne
          go_wp2_with fail
          go_quiet (fail)
          clear c1 c2
          go_wp2_with fail
          go_ret
          exact ⟨by rw [HNE.out]; rfl, q0 + nq, by rw [World.drewN_drewN]⟩
      · have he : decide (l = m) = true := by
          have := HT.out
          rw [List.take_of_length_le (by omega), List.take_of_length_le (by have := HLEN.out; omega)] at this
          simpa using this
        have HE := Lib.hid he
        clear he
        go_wp2_with fail
        go_ret
        exact ⟨by rw [HE.out]; rfl, q0, rfl⟩
  · have hne : decide (l = m) = false := by
      rw [decide_eq_false_iff_not]
      rintro rfl
      exact hlen rfl
    rw [hne]
    have hb1 : ((l.length : Int) == (m.length : Int)) = false := by simp; omega
    have hb2 : (l.length == m.length) = false := by simpa using hlen
    have hb3 : decide (l.length = m.length) = false := by simpa using hlen
    clear hne h1 h2
    go_enter Tryz.func10, Tryz.ntmps10
    go_wp2_with fail
    go_ret
    exact ⟨rfl, 0, rfl⟩
set_option maxRecDepth 100000 in
set_option maxHeartbeats 1000000 in
theorem eqI64_any (A B : Option Addr) (c d : Nat) (l m : List Int) (w : World) (h1 : Lie w w.heap.size A (l.map (Value.int .i64))) (h2 : Lie w w.heap.size B (m.map (Value.int .i64))) (hl : l.length ≤ 9223372036854775806) (hm : m.length ≤ 9223372036854775806) :
    Calls Tryz.prog 81 #[.slice A l.length c, .slice B m.length d] w (EqPost (decide (l = m)) w) := by
  by_cases hlen : l.length = m.length
  · have hlen2 : ((l.length : Int) == (m.length : Int)) = true := by simp [hlen]
    have H1 := Lib.hid h1
    have H2 := Lib.hid h2
    have HLEN := Lib.hid hlen
    rw [← hlen]
    clear h1 h2 hlen hm hlen2
    go_enter Tryz.func81, Tryz.ntmps81
    go_wp2_with fail
    go_loopw [13] (fun i wr => ∃ k q : Nat, k ≤ l.length ∧ i = .int .i64 k ∧ l.take k = m.take k ∧ wr = w.drewN q) (fun i _ => l.length - (intOf i).toNat)
    case atStart => exact ⟨0, 0, Nat.zero_le _, rfl, rfl, rfl⟩
    case round =>
      obtain ⟨k, q0, hk, rfl, ht, rfl⟩ := hrel
      have HT := Lib.hid ht
      clear ht
      by_cases hlt : k < l.length
      · obtain ⟨x, hx⟩ : ∃ x, l[k]? = some x := ⟨_, List.getElem?_eq_getElem hlt⟩
        obtain ⟨y, hy⟩ : ∃ y, m[k]? = some y := ⟨_, List.getElem?_eq_getElem (by rw [← HLEN.out]; exact hlt)⟩
        obtain ⟨b1, o1, rfl, _, c1⟩ := H1.out.at_ k (.int .i64 x) (by simp [hx])
        obtain ⟨b2, o2, rfl, _, c2⟩ := H2.out.at_ k (.int .i64 y) (by simp [hy])
        have hi1 : (0 : Int) ≤ (k : Int) := by omega
        have hi2 : (k : Int) < (l.length : Int) := by omega
        have HX := Lib.hid hx
        have HY := Lib.hid hy
        clear hx hy
        by_cases hxy : x = y
        · subst hxy
          have hb : (x != x) = false := by simp
          have hb2 : (x == x) = true := by simp
          go_wp2_with fail
          go_quiet (fail)
          clear c1 c2
          go_wp2_with fail
          go_roundw
          case rel => exact ⟨k + 1, q0 + nq, by omega, by go_num, take_eq_of HT.out HX.out HY.out, rfl⟩
          case measure => simp [intOf]; omega
        · have hb : (x != y) = true := by simp [hxy]
          have hb2 : (x == y) = false := by simp [hxy]
          have hne : decide (l = m) = false := by
            rw [decide_eq_false_iff_not]
            intro e
            subst e
            have := HX.out.symm.trans HY.out
            injection this with this
            exact hxy this
          have HNE := Lib.hid hne
          clear hxy hne
          go_wp2_with fail
          go_quiet (fail)
          clear c1 c2
          go_wp2_with fail
          go_ret
          exact ⟨by rw [HNE.out]; rfl, q0 + nq, by rw [World.drewN_drewN]⟩
      · have he : decide (l = m) = true := by
          have := HT.out
          rw [List.take_of_length_le (by omega), List.take_of_length_le (by have := HLEN.out; omega)] at this
          simpa using this
        have HE := Lib.hid he
        clear he
        go_wp2_with fail
        go_ret
        exact ⟨by rw [HE.out]; rfl, q0, rfl⟩
  · have hne : decide (l = m) = false := by
      rw [decide_eq_false_iff_not]
      rintro rfl
      exact hlen rfl
    rw [hne]
    have hb1 : ((l.length : Int) == (m.length : Int)) = false := by simp; omega
    have hb2 : (l.length == m.length) = false := by simpa using hlen
    have hb3 : decide (l.length = m.length) = false := by simpa using hlen
    clear hne h1 h2
    go_enter Tryz.func81, Tryz.ntmps81
    go_wp2_with fail
    go_ret
    exact ⟨rfl, 0, rfl⟩
end Go.Proofs.YtpniilgkceadeaaGreatDoor
