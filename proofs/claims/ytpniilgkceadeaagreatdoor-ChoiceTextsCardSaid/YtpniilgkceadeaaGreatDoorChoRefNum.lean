/- The reference's numbers: Number. -/
import Derived.Test.YtpniilgkceadeaaGreatDoorChoWords
import Derived.Test.YtpniilgkceadeaaGreatDoorChoParseP
import Derived.Test.YtpniilgkceadeaaGreatDoorChoMem2
import Derived.Deep.LoopGhost
import Derived.Laws.IdiomStrings
namespace ChoP
open Go
/-- while a numeral is made: what is still to be written, what is written -/
def NumR (m k : Nat) (l : List UInt8) : Prop := (l = [] ∧ k = m) ∨ (l ≠ [] ∧ Lib.decDigits m = (if k = 0 then [] else Lib.decDigits k) ++ l)
theorem dec_step (k : Nat) : Lib.decDigits k = (if k / 10 = 0 then [] else Lib.decDigits (k / 10)) ++ [UInt8.ofNat (48 + k % 10)] := by
  by_cases h : k < 10
  · rw [Lib.decDigits, dif_pos h, if_pos (by omega), Nat.mod_eq_of_lt h]
    rfl
  · rw [if_neg (by omega)]
    conv => lhs; rw [Lib.decDigits, dif_neg h]
theorem NumR.step {m k : Nat} {l : List UInt8} (h : NumR m k l) (hk : l = [] ∨ 0 < k) : NumR m (k / 10) (UInt8.ofNat (48 + k % 10) :: l) := by
  refine .inr ⟨by simp, ?_⟩
  rcases h with ⟨rfl, rfl⟩ | ⟨h1, h2⟩
  · exact dec_step k
  · rcases hk with hk | hk
    · exact absurd hk h1
    · rw [h2, if_neg (by omega)]
      conv => lhs; rw [dec_step k]
      simp
theorem NumR.len {m k : Nat} {l : List UInt8} (h : NumR m k l) (hm : m < 18446744073709551616) : l.length ≤ 20 := by
  have hd : (Lib.decDigits m).length ≤ 20 := by
    rw [Lib.decDigits_length]
    exact nDigits_le 19 _ (by simp; omega)
  rcases h with ⟨rfl, _⟩ | ⟨_, h2⟩
  · simp
  · rw [h2, List.length_append] at hd
    omega
theorem NumR.fin {m : Nat} {l : List UInt8} (h : NumR m 0 l) (hl : l ≠ []) : l = Lib.decDigits m := by
  rcases h with ⟨h1, _⟩ | ⟨_, h2⟩
  · exact absurd h1 hl
  · rw [h2]; rfl
end ChoP
namespace Go.Proofs.YtpniilgkceadeaaGreatDoor
open Go.RowKit
theorem cat_str (a b : List UInt8) : (⟨a.toArray⟩ ++ ⟨b.toArray⟩ : ByteArray) = ⟨(a ++ b).toArray⟩ := by
  refine ByteArray.ext ?_
  simp [ByteArray.data_append]
theorem conv_zero (W : World) : (convert 32 9 (.slice (some ⟨W.heap.size, 0, none⟩) 1 1)).run Tryz.prog (W.alloc (.cells #[.int .u8 48] 5)) = .ok (strV [48]) (W.alloc (.cells #[.int .u8 48] 5)) := by
  have := run_convert_bytes_back (P := Tryz.prog) (W.alloc (.cells #[.int .u8 48] 5)) 32 9 5 ⟨W.heap.size, 0, none⟩ 1 [48] Tryz.underlying32 Tryz.underlying5 Tryz.underlying9 (fun j hj => by
    have hj0 : j = 0 := by simpa using hj
    subst hj0
    exact cell_at (heap_alloc_new W _) 0 _ rfl)
  exact this
theorem conv_digit (W : World) (d : Nat) (hd : d < 10) : (convert 32 9 (.slice (some ⟨W.heap.size, 0, none⟩) 1 1)).run Tryz.prog (W.alloc (.cells #[.int .u8 (48 + (d : Int))] 5)) = .ok (strV [UInt8.ofNat (48 + d)]) (W.alloc (.cells #[.int .u8 (48 + (d : Int))] 5)) := by
  have := run_convert_bytes_back (P := Tryz.prog) (W.alloc (.cells #[.int .u8 (48 + (d : Int))] 5)) 32 9 5 ⟨W.heap.size, 0, none⟩ 1 [UInt8.ofNat (48 + d)] Tryz.underlying32 Tryz.underlying5 Tryz.underlying9 (fun j hj => by
    have hj0 : j = 0 := by simpa using hj
    subst hj0
    rw [List.getElem_cons_zero, ChoP.dec_toNat hd]
    have h1 : (⟨W.heap.size, 0, none⟩ : Addr).add 0 = ⟨W.heap.size, 0, none⟩ := rfl
    rw [h1]
    exact cell_at (heap_alloc_new W _) 0 _ (by simp))
  exact this
set_option maxRecDepth 100000 in
set_option maxHeartbeats 4000000 in
theorem refNumber_any (n : Int) (w : World) (hn : ChoP.InI n) : Calls Tryz.prog 65 #[.int .i64 n] w (StrPost (Lib.itoa n) w) := by
  obtain ⟨h0, h1⟩ := hn
  by_cases hneg : n < 0
  · obtain ⟨m, hm⟩ : ∃ m, n.natAbs = m := ⟨_, rfl⟩
    have hI : Lib.itoa n = 45 :: Lib.decDigits m := by unfold Lib.itoa; rw [if_pos hneg, hm]
    rw [hI]
    have hm1 : m < 18446744073709551616 := by omega
    have e1 : IntKind.u64.wrap n = n + 18446744073709551616 := by simp [IntKind.wrap, IntKind.bits, IntKind.signed]; omega
    have e2 : IntKind.u64.wrap (-(n + 18446744073709551616)) = (m : Int) := by simp [IntKind.wrap, IntKind.bits, IntKind.signed]; omega
    have HR := Lib.hid (show ChoP.NumR m m [] from .inl ⟨rfl, rfl⟩)
    clear hI hm
    go_enter Tryz.func65, Tryz.ntmps65
    go_wp2_with fail
    go_loopg [3, 4] (2 * m + 1) (fun g sv u wr => ∃ (k : Nat) (l : List UInt8), u = .int .u64 (k : Int) ∧ sv = strV l ∧ k ≤ m ∧ ChoP.NumR m k l ∧ g = 2 * k + (if l = [] then 1 else 0) ∧ Below w.heap.size w wr)
    case atStart => exact ⟨m, [], rfl, rfl, Nat.le_refl _, HR.out, by simp, Below.refl _ _⟩
    case round =>
      obtain ⟨k, l, rfl, rfl, hk, hr, hg, hb⟩ := hrel
      have HR2 := Lib.hid hr
      have HB := Lib.hid hb
      have HG := Lib.hid hg
      have hsz := hb.size
      clear hr hb hg HR
      rcases Nat.eq_zero_or_pos k with hk0 | hk0
      · cases l with
        | nil =>
          have hkz : (k : Int) = 0 := by omega
          have hcv := conv_zero wr
          have hst : ChoP.NumR m 0 [48] := by
            have := HR2.out.step (.inl rfl)
            rw [hk0] at this
            exact this
          have hgk : 0 < gk := by rw [HG.out]; simp
          have HST := Lib.hid hst
          clear hst hk0
          go_wp2_with fail
          go_roundg 0
          case measure => exact hgk
          case rel => exact ⟨0, [48], rfl, rfl, by omega, HST.out, by simp, HB.out.alloc hsz _⟩
        | cons x r =>
          have hkz : (k : Int) = 0 := by omega
          have hfin : x :: r = Lib.decDigits m := by
            have := HR2.out
            rw [hk0] at this
            exact this.fin (by simp)
          have hll := HR2.out.len (by omega)
          have HF := Lib.hid hfin
          have hl2 : ¬ 9223372036854775807 < 1 + (r.length + 1) := by simp at hll; omega
          have hl3 : 1 + (r.length + 1) ≤ 9223372036854775807 := by omega
          clear hfin hk0
          go_wp2_with fail
          go_ret
          exact ⟨by rw [← HF.out]; exact congrArg (fun z => Ending.returned (Value.string z)) (cat_str [45] (x :: r)), HB.out⟩
      · obtain ⟨d, hd⟩ : ∃ d, d = k % 10 := ⟨_, rfl⟩
        have hm : (k : Int) % 10 = (d : Int) := by omega
        have hd10 : d < 10 := by omega
        have HD := Lib.hid hd
        clear hd
        have hcv := conv_digit wr d hd10
        obtain ⟨dg, hdg⟩ : ∃ dg, UInt8.ofNat (48 + d) = dg := ⟨_, rfl⟩
        rw [hdg] at hcv
        have hll := HR2.out.len (by omega)
        have hst : ChoP.NumR m (k / 10) (dg :: l) := by
          have := HR2.out.step (.inr hk0)
          rwa [← HD.out, hdg] at this
        have HST := Lib.hid hst
        clear hst hdg
        go_wp2_with fail
        go_roundg (2 * (k / 10))
        case measure => rw [HG.out]; omega
        case rel => exact ⟨k / 10, dg :: l, by go_num, congrArg Value.string (cat_str [dg] l), by omega, HST.out, by simp, HB.out.alloc hsz _⟩
  · obtain ⟨m, rfl⟩ := Int.eq_ofNat_of_zero_le (show 0 ≤ n by omega)
    have hI : Lib.itoa (m : Int) = Lib.decDigits m := by unfold Lib.itoa; rw [if_neg (by omega), Int.toNat_natCast]
    rw [hI]
    have HR := Lib.hid (show ChoP.NumR m m [] from .inl ⟨rfl, rfl⟩)
    clear hI
    go_enter Tryz.func65, Tryz.ntmps65
    go_wp2_with fail
    go_loopg [3, 4] (2 * m + 1) (fun g sv u wr => ∃ (k : Nat) (l : List UInt8), u = .int .u64 (k : Int) ∧ sv = strV l ∧ k ≤ m ∧ ChoP.NumR m k l ∧ g = 2 * k + (if l = [] then 1 else 0) ∧ Below w.heap.size w wr)
    case atStart => exact ⟨m, [], rfl, rfl, Nat.le_refl _, HR.out, by simp, Below.refl _ _⟩
    case round =>
      obtain ⟨k, l, rfl, rfl, hk, hr, hg, hb⟩ := hrel
      have HR2 := Lib.hid hr
      have HB := Lib.hid hb
      have HG := Lib.hid hg
      have hsz := hb.size
      clear hr hb hg HR
      rcases Nat.eq_zero_or_pos k with hk0 | hk0
      · cases l with
        | nil =>
          have hkz : (k : Int) = 0 := by omega
          have hcv := conv_zero wr
          have hst : ChoP.NumR m 0 [48] := by
            have := HR2.out.step (.inl rfl)
            rw [hk0] at this
            exact this
          have hgk : 0 < gk := by rw [HG.out]; simp
          have HST := Lib.hid hst
          clear hst hk0
          go_wp2_with fail
          go_roundg 0
          case measure => exact hgk
          case rel => exact ⟨0, [48], rfl, rfl, by omega, HST.out, by simp, HB.out.alloc hsz _⟩
        | cons x r =>
          have hkz : (k : Int) = 0 := by omega
          have hfin : x :: r = Lib.decDigits m := by
            have := HR2.out
            rw [hk0] at this
            exact this.fin (by simp)
          have hll := HR2.out.len (by omega)
          have HF := Lib.hid hfin
          clear hfin hk0
          go_wp2_with fail
          go_ret
          exact ⟨by rw [← HF.out]; rfl, HB.out⟩
      · obtain ⟨d, hd⟩ : ∃ d, d = k % 10 := ⟨_, rfl⟩
        have hm : (k : Int) % 10 = (d : Int) := by omega
        have hd10 : d < 10 := by omega
        have HD := Lib.hid hd
        clear hd
        have hcv := conv_digit wr d hd10
        obtain ⟨dg, hdg⟩ : ∃ dg, UInt8.ofNat (48 + d) = dg := ⟨_, rfl⟩
        rw [hdg] at hcv
        have hll := HR2.out.len (by omega)
        have hst : ChoP.NumR m (k / 10) (dg :: l) := by
          have := HR2.out.step (.inr hk0)
          rwa [← HD.out, hdg] at this
        have HST := Lib.hid hst
        clear hst hdg
        go_wp2_with fail
        go_roundg (2 * (k / 10))
        case measure => rw [HG.out]; omega
        case rel => exact ⟨k / 10, dg :: l, by go_num, congrArg Value.string (cat_str [dg] l), by omega, HST.out, by simp, HB.out.alloc hsz _⟩
end Go.Proofs.YtpniilgkceadeaaGreatDoor
