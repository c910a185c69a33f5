/- num.put, PutUint, Zigzag, PutInt: numbers, seven bits to a byte. -/
import Derived.Test.YtpniilgkceadeaaGreatDoorChoMem
import Derived.Test.YtpniilgkceadeaaGreatDoorChoPlain
import Derived.Laws.BitsAllLaws
namespace Go.Proofs.YtpniilgkceadeaaGreatDoor
open Go.RowKit
def natC (l : List Nat) : List Value := l.map fun (n : Nat) => Value.int .u8 (n : Int)
theorem natC_one (l : List Nat) : ∀ u ∈ natC l, u.oneCell' = true := by
  intro u hu
  simp only [natC, List.mem_map] at hu
  obtain ⟨z, _, rfl⟩ := hu
  rfl
theorem info_u8 : (Tryz.prog.info? 5).map (fun i => (i.zero, i.size, i.bytes)) = some (some (.int .u8 0), 1, 1) := by kernel_rfl
def PutPost (base n : Nat) (xs : List Value) (l : List Nat) (w : World) (e : Ending) (w' : World) : Prop := ∃ v, e = .returned v ∧ w'.ownsRow base 5 1 v (n + l.length) (xs ++ natC l) ∧ Below base w w'
theorem or128_fin : ∀ a : Fin 256, a.val ||| 128 = a.val % 128 + 128 := by decide +kernel
theorem or128 (z : Nat) : bits .or .u8 ((z : Int) % 256) 128 = ((z % 128 + 128 : Nat) : Int) := by
  have h := or128_fin ⟨z % 256, by omega⟩
  simp only at h
  rw [show ((z : Int) % 256) = ((z % 256 : Nat) : Int) by omega, show (128 : Int) = ((128 : Nat) : Int) from rfl, u8_or_nat _ _ (by omega) (by omega), h, Nat.mod_mod_of_dvd _ (by decide)]
theorem own_snoc {w : World} {base n : Nat} {v : Value} {xs : List Value} {pre : List Nat} {c : Nat} (h : w.ownsRow base 5 1 v (n + pre.length + 1) (xs ++ (natC pre ++ [.int .u8 (c : Int)]))) : w.ownsRow base 5 1 v (n + (pre ++ [c]).length) (xs ++ natC (pre ++ [c])) := by
  have e1 : n + (pre ++ [c]).length = n + pre.length + 1 := by simp; omega
  have e2 : xs ++ natC (pre ++ [c]) = xs ++ (natC pre ++ [.int .u8 (c : Int)]) := by simp [natC]
  rw [e1, e2]
  exact h
/-- a number of 64 bits -/
def U64 (z : Nat) : Prop := z < 18446744073709551616
set_option maxRecDepth 100000 in
set_option maxHeartbeats 1000000 in
theorem put_any (base n : Nat) (v : Value) (xs : List Value) (x : Nat) (w : World) (hx : x < 18446744073709551616) (hown : w.ownsRow base 5 1 v n xs) (hn : n ≤ 1048576) (hb : base ≤ w.heap.size) :
    Calls Tryz.prog 74 #[v, .int .u64 (x : Int)] w (PutPost base n xs (ChoP.putL x) w) := by
  obtain ⟨i0, hi0, hz0, hz1, hz2⟩ := info_parts info_u8
  have HO := Lib.hid hown
  have HX := Lib.hid hx
  clear hown hx
  go_enter Tryz.func74, Tryz.ntmps74
  go_wp2_with fail
  go_loopw [0, 1] (fun p y wr => ∃ (f : Nat) (z : Nat) (pre : List Nat), y = .int .u64 (z : Int) ∧ z < 128 ^ (f + 1) ∧ U64 z ∧ f ≤ 10 ∧ pre ++ ChoP.putF f z = ChoP.putL x ∧ wr.ownsRow base 5 1 p (n + pre.length) (xs ++ natC pre) ∧ Below base w wr) (fun _ y _ => (intOf y).toNat)
  case atStart => exact ⟨10, x, [], rfl, by have := HX.out; omega, HX.out, by omega, rfl, by simpa [natC] using HO.out, Below.refl _ _⟩
  case round =>
    obtain ⟨f, z, pre, rfl, hz, hz64, hf, hpre, hown, hbr⟩ := hrel
    have HO1 := Lib.hid hown
    have HB1 := Lib.hid hbr
    have HP := Lib.hid hpre
    have hwz := Nat.le_trans hb hbr.size
    have hpl : pre.length ≤ 11 := by
      have h1 := congrArg List.length hpre
      have h2 := ChoP.putL_len x
      rw [List.length_append] at h1
      omega
    have HZ := Lib.hid hz
    have HZ64 := Lib.hid hz64
    clear hown hbr hpre hz hz64
    by_cases hlt : 128 ≤ z
    · have hfs : ∃ g, f = g + 1 := by
        cases f with
        | zero => have := HZ.out; simp at this; omega
        | succ g => exact ⟨g, rfl⟩
      obtain ⟨g, rfl⟩ := hfs
      obtain ⟨c, hcb, hor⟩ : ∃ c : Nat, c = z % 128 + 128 ∧ bits .or .u8 ((z : Int) % 256) 128 = (c : Int) := ⟨_, rfl, or128 z⟩
      have HCB := Lib.hid hcb
      clear hcb
      go_wp2_with (at_builtin; refine wpList_append_own _ rfl _ _ 32 rfl base 5 i0 _ 1 1 Tryz.underlying32 hi0 hz0 hz1 hz2 rfl (by decide) _ _ _ rfl (HO1.out.alloc _) ⟨wr.heap.size, 0, none⟩ 1 1 [.int .u8 (c : Int)] rfl rfl ?c1 ?c2 ?c3 ?c4 ?c5 ?_)
      case c1 => exact cells_new wr [.int .u8 (c : Int)] 5
      case c2 => simp [Value.oneCell']
      case c3 => unfold maxLen; omega
      case c4 => omega
      case c5 => simp; omega
      intro v1 w1 hown hgrow _
      have HO2 := Lib.hid (own_snoc hown)
      have HB2 := Lib.hid ((HB1.out.alloc hwz _).grown hgrow (by simp; omega) (own_ge HO1.out))
      clear hown hgrow hor
      go_wp2_with fail
      refine ⟨⟨g, z / 128, pre ++ [c], by go_num, ?_, ?_, by omega, ?_, HO2.out, HB2.out⟩, ?_⟩
      · have h1 := HZ.out
        rw [Nat.pow_succ] at h1
        exact Nat.div_lt_of_lt_mul (by rw [Nat.mul_comm]; exact h1)
      · have h1 : z < 18446744073709551616 := HZ64.out
        show z / 128 < 18446744073709551616
        omega
      · rw [← HP.out, ChoP.putF, if_neg (by omega), HCB.out]
        simp
      · simp [intOf]
        omega
    · have hfin : ChoP.putF f z = [z] := by
        cases f with
        | zero => rfl
        | succ g => rw [ChoP.putF, if_pos (by omega)]
      have HF := Lib.hid hfin
      clear hfin
      go_wp2_with (at_builtin; refine wpList_append_own _ rfl _ _ 32 rfl base 5 i0 _ 1 1 Tryz.underlying32 hi0 hz0 hz1 hz2 rfl (by decide) _ _ _ rfl (HO1.out.alloc _) ⟨wr.heap.size, 0, none⟩ 1 1 [.int .u8 (z : Int)] rfl rfl ?c1 ?c2 ?c3 ?c4 ?c5 ?_)
      case c1 => exact cells_new wr [.int .u8 (z : Int)] 5
      case c2 => simp [Value.oneCell']
      case c3 => unfold maxLen; omega
      case c4 => omega
      case c5 => simp; omega
      intro v1 w1 hown hgrow _
      have hfo : w1.ownsRow base 5 1 v1 (n + (ChoP.putL x).length) (xs ++ natC (ChoP.putL x)) := by
        rw [← HP.out, HF.out]
        exact own_snoc hown
      have HFO := Lib.hid hfo
      have HB2 := Lib.hid ((HB1.out.alloc hwz _).grown hgrow (by simp; omega) (own_ge HO1.out))
      clear hown hgrow hfo
      go_wp2_with fail
      go_ret
      exact ⟨_, rfl, HFO.out, HB2.out⟩
/-- a slice of bytes that lies, and what PutUint returns: a row of its own -/
def PutUPost (xs : List Value) (l : List Nat) (w : World) (e : Ending) (w' : World) : Prop := ∃ v, e = .returned v ∧ w'.ownsRow w.heap.size 5 1 v (xs.length + l.length) (xs ++ natC l) ∧ Below w.heap.size w w'
set_option maxRecDepth 100000 in
set_option maxHeartbeats 1000000 in
theorem putUint_any (A : Option Addr) (c : Nat) (xs : List Value) (x : Nat) (w : World) (hx : x < 18446744073709551616) (hl : Lie w w.heap.size A xs) (h1 : ∀ u ∈ xs, u.oneCell' = true) (hn : xs.length ≤ 1000000) :
    Calls Tryz.prog 33 #[.slice A xs.length c, .int .u64 (x : Int)] w (PutUPost xs (ChoP.putL x) w) := by
  obtain ⟨i0, hi0, hz0, hz1, hz2⟩ := info_parts info_u8
  have HX := Lib.hid hx
  have HL := Lib.hid hl
  have H1 := Lib.hid h1
  clear hx hl h1
  go_enter Tryz.func33, Tryz.ntmps33
  go_wp2_with (first
    | (at_make; refine wpList_make_own _ rfl _ _ 32 rfl w.heap.size 5 i0 _ 1 Tryz.underlying32 hi0 hz0 hz1 .i64 .i64 _ (xs.length + 10) rfl rfl (by simp) (by rw [hz2]; omega) (by unfold maxLen; omega) (Nat.le_refl _) ?_; intro w0 hown0 hgrow0; have HB0 := Lib.hid ((Below.refl w.heap.size w).grown hgrow0 (Nat.le_refl _) (fun k e => by cases e)); have HO0 := Lib.hid hown0; have hs0 := hgrow0.size; clear hown0 hgrow0)
    | (at_builtin; refine wpList_append_lie rfl _ _ 32 rfl w.heap.size 5 i0 _ 1 1 Tryz.underlying32 hi0 hz0 hz1 hz2 rfl (by decide) _ 0 [] rfl HO0.out w.heap.size A xs.length c xs rfl ?c1 H1.out ?c3 ?c4 hs0 ?_))
  case c1 => exact ⟨by simp, HL.out.below HB0.out (Nat.le_refl _)⟩
  case c3 => unfold maxLen; omega
  case c4 => omega
  intro v1 w1 hown1 hgrow1 _
  have HB1 := Lib.hid (HB0.out.grown hgrow1 hs0 (own_ge HO0.out))
  have HO1 : Hid (w1.ownsRow w.heap.size 5 1 v1 xs.length xs) := Lib.hid (by simpa using hown1)
  have hs1 := hgrow1.size
  clear hown1 hgrow1
  go_wp2_with fail
  refine (put_any w.heap.size xs.length v1 xs x _ HX.out HO1.out (by omega) (by omega)).mono ?_
  rintro e w2 ⟨v2, rfl, hown2, hb2⟩
  have HO2 := Lib.hid hown2
  have HB2 := Lib.hid (HB1.out.trans hb2)
  clear hown2 hb2
  go_wp2_with fail
  go_ret
  exact ⟨_, rfl, HO2.out, HB2.out⟩
theorem xor_max (y : Nat) (h : y < 18446744073709551616) : bits .xor .u64 IntKind.u64.max (y : Int) = ((18446744073709551615 - y : Nat) : Int) := by
  rw [show IntKind.u64.max = ((18446744073709551615 : Nat) : Int) from by decide +kernel, u64_xor_nat _ _ (by omega) h]
  congr 1
  have h1 : (BitVec.allOnes 64 ^^^ BitVec.ofNat 64 y).toNat = 18446744073709551615 - y := by
    rw [BitVec.xor_comm, BitVec.xor_allOnes, BitVec.toNat_not, BitVec.toNat_ofNat, Nat.mod_eq_of_lt (by omega)]
  rw [← h1, BitVec.toNat_xor, BitVec.toNat_ofNat, Nat.mod_eq_of_lt (by omega)]
  rfl
theorem zig_lt (x : Int) (h0 : -9223372036854775808 ≤ x) (h1 : x ≤ 9223372036854775807) : ChoP.zig x < 18446744073709551616 := by
  unfold ChoP.zig
  split <;> omega
set_option maxRecDepth 100000 in
theorem zigzag_any (x : Int) (w : World) (h0 : -9223372036854775808 ≤ x) (h1 : x ≤ 9223372036854775807) : Calls Tryz.prog 75 #[.int .i64 x] w fun e w' => e = .returned (.int .u64 (ChoP.zig x : Int)) ∧ w = w' := by
  by_cases hneg : x < 0
  · go_enter Tryz.func75, Tryz.ntmps75
    go_wp2
    go_ret
    have e1 : IntKind.u64.wrap (IntKind.u64.wrap x * 2) = ((2 * x + 18446744073709551616).toNat : Int) := by simp [IntKind.wrap, IntKind.bits, IntKind.signed]; omega
    have e2 : bits .xor .u64 IntKind.u64.max (IntKind.u64.wrap (IntKind.u64.wrap x * 2)) = (ChoP.zig x : Int) := by
      rw [e1, xor_max _ (by omega)]
      unfold ChoP.zig
      rw [if_pos hneg]
      omega
    exact ⟨by show Ending.returned (.int .u64 (bits .xor .u64 IntKind.u64.max (IntKind.u64.wrap (IntKind.u64.wrap x * 2)))) = _; rw [e2], rfl⟩
  · go_enter Tryz.func75, Tryz.ntmps75
    go_wp2
    go_ret
    have e2 : x * 2 = (ChoP.zig x : Int) := by
      unfold ChoP.zig
      rw [if_neg (by omega)]
      omega
    exact ⟨by show Ending.returned (.int .u64 (x * 2)) = _; rw [e2], rfl⟩
set_option maxRecDepth 100000 in
theorem putInt_any (A : Option Addr) (c : Nat) (xs : List Value) (x : Int) (w : World) (h0 : -9223372036854775808 ≤ x) (h1 : x ≤ 9223372036854775807) (hl : Lie w w.heap.size A xs) (ho : ∀ u ∈ xs, u.oneCell' = true) (hn : xs.length ≤ 1000000) :
    Calls Tryz.prog 34 #[.slice A xs.length c, .int .i64 x] w (PutUPost xs (ChoP.putL (ChoP.zig x)) w) := by
  have hp := putUint_any A c xs (ChoP.zig x) w (zig_lt x h0 h1) hl ho hn
  have HP := Lib.hid hp
  have HZ := Lib.hid (zigzag_any x w h0 h1)
  clear hp hl ho h0 h1
  go_enter Tryz.func34, Tryz.ntmps34
  go_wp2_with fail
  refine HZ.out.mono ?_
  rintro e w' ⟨rfl, rfl⟩
  go_wp2_with fail
  refine HP.out.mono ?_
  rintro e w1 ⟨v, rfl, ho, hb⟩
  have HO := Lib.hid ho
  have HB := Lib.hid hb
  clear ho hb
  go_wp2_with fail
  go_ret
  exact ⟨_, rfl, HO.out, HB.out⟩
end Go.Proofs.YtpniilgkceadeaaGreatDoor
