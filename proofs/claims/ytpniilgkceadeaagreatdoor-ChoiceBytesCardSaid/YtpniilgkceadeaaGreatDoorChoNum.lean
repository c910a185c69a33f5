/- num.Uint: a number of seven bits to a byte. -/
import Derived.Test.YtpniilgkceadeaaGreatDoorChoPut
import Derived.Test.YtpniilgkceadeaaGreatDoorChoReadP
namespace Go.Proofs.YtpniilgkceadeaaGreatDoor
open Go.RowKit
theorem and127_fin : ∀ a : Fin 256, a.val &&& 127 = a.val % 128 := by decide +kernel
theorem and127 (b : Nat) (h : b < 256) : bits .and .u8 (b : Int) 127 = ((b % 128 : Nat) : Int) := by
  have h1 := and127_fin ⟨b, h⟩
  simp only at h1
  rw [show (127 : Int) = ((127 : Nat) : Int) from rfl, u8_and_nat _ _ h (by omega), h1]
theorem or_shl (acc b k : Nat) (ha : acc < 2 ^ (7 * k)) (hk : k ≤ 9) (hb : b < 256) (h9 : k = 9 → b ≤ 1) : bits .or .u64 (acc : Int) (IntKind.u64.wrap (IntKind.u64.wrap (bits .and .u8 (b : Int) 127) * 2 ^ (7 * k))) = ((acc + 2 ^ (7 * k) * (b % 128) : Nat) : Int) := by
  have hlt : 2 ^ (7 * k) * (b % 128) < 18446744073709551616 ∧ 2 ^ (7 * k) ≤ 9223372036854775808 := by
    have : k = 0 ∨ k = 1 ∨ k = 2 ∨ k = 3 ∨ k = 4 ∨ k = 5 ∨ k = 6 ∨ k = 7 ∨ k = 8 ∨ k = 9 := by omega
    rcases this with rfl | rfl | rfl | rfl | rfl | rfl | rfl | rfl | rfl | rfl <;> simp <;> omega
  rw [and127 b hb]
  have e1 : IntKind.u64.wrap ((b % 128 : Nat) : Int) = ((b % 128 : Nat) : Int) := IntWalk.u64_in _ ⟨by omega, by omega⟩
  rw [e1]
  have e2 : ((b % 128 : Nat) : Int) * 2 ^ (7 * k) = ((2 ^ (7 * k) * (b % 128) : Nat) : Int) := by
    rw [Int.natCast_mul, Int.mul_comm]
    simp
  rw [e2]
  have e3 : IntKind.u64.wrap ((2 ^ (7 * k) * (b % 128) : Nat) : Int) = ((2 ^ (7 * k) * (b % 128) : Nat) : Int) := IntWalk.u64_in _ ⟨by omega, by omega⟩
  rw [e3, u64_or_nat _ _ (by omega) (by omega), Nat.or_comm, ← Nat.two_pow_add_eq_or_of_lt ha, Nat.add_comm]
set_option maxRecDepth 100000 in
set_option maxHeartbeats 1000000 in
theorem numUint_any (A : Option Addr) (p : List Nat) (c : Nat) (w : World) (h : Lie w w.heap.size A (natC p)) (hb : ∀ x ∈ p, x < 256) (hl : p.length ≤ 9223372036854775807) : Calls Tryz.prog 77 #[.slice A p.length c] w fun e w' => e = .returned (.tuple #[.int .u64 ((ChoP.uintR p).1 : Int), .int .i64 ((ChoP.uintR p).2.1 : Int), .int .i64 (ChoP.uintR p).2.2]) ∧ w = w' := by
  have H := Lib.hid h
  have HBB := Lib.hid hb
  clear h hb
  go_enter Tryz.func77, Tryz.ntmps77
  go_wp2_with fail
  go_loop [2, 9] (fun v i => ∃ k acc : Nat, k ≤ 9 ∧ k ≤ p.length ∧ v = .int .u64 acc ∧ i = .int .i64 k ∧ acc < 2 ^ (7 * k) ∧ ChoP.uintF p = (ChoP.uintG k (p.drop k)).map (fun x => (acc + 2 ^ (7 * k) * x.1, k + x.2))) (fun _ i => p.length - (intOf i).toNat)
  case atStart => exact ⟨0, 0, by omega, by omega, rfl, rfl, by simp, by simp [ChoP.uintF]⟩
  case round =>
    obtain ⟨k, acc, hk9, hk, rfl, rfl, hacc, hu⟩ := hrel
    by_cases hlt : k < p.length
    · obtain ⟨b, hbk⟩ : ∃ b, p[k]? = some b := ⟨_, List.getElem?_eq_getElem hlt⟩
      have hb256 := HBB.out b (List.mem_of_getElem? hbk)
      obtain ⟨bb, o, rfl, hb0, hcb⟩ := H.out.at_ k (.int .u8 (b : Int)) (by simp [natC, hbk])
      have HBK := Lib.hid hbk
      have HU := Lib.hid hu
      have HACC := Lib.hid hacc
      clear hbk hu hacc
      have hdr : p.drop k = b :: p.drop (k + 1) := by
        obtain ⟨h1, h2⟩ := List.getElem?_eq_some_iff.1 HBK.out
        rw [List.drop_eq_getElem_cons h1, h2]
      have hug : ChoP.uintG k (p.drop k) = if k = 9 ∧ 1 < b then none else if b < 128 then (if b = 0 ∧ 0 < k then none else some (b, 1)) else (ChoP.uintG (k + 1) (p.drop (k + 1))).map fun x => (b % 128 + 128 * x.1, x.2 + 1) := by rw [hdr, ChoP.uintG]
      have HUG := Lib.hid hug
      clear hdr hug
      by_cases h9 : k = 9 ∧ 1 < b
      · have hr : ChoP.uintR p = (0, 0, 6) := ChoP.uintR_none' (by rw [HU.out, HUG.out, if_pos h9]; rfl)
        have HR := Lib.hid hr
        obtain ⟨rfl, h1b⟩ := h9
        have f1 : (1 : Int) < (b : Int) := by omega
        clear hr
        go_wp2_with fail
        go_ret3
        exact ⟨by rw [HR.out]; rfl, rfl⟩
      · have hshl := or_shl acc b k HACC.out hk9 hb256 (by omega)
        have f0 : ¬ (((k : Int) = 9) ∧ (1 : Int) < b) := by omega
        by_cases h128 : b < 128
        · by_cases hz : b = 0 ∧ 0 < k
          · have hr : ChoP.uintR p = (0, 0, 6) := ChoP.uintR_none' (by rw [HU.out, HUG.out, if_neg h9, if_pos h128, if_pos hz]; rfl)
            have HR := Lib.hid hr
            obtain ⟨rfl, h0k⟩ := hz
            have f1 : (0 : Int) < (k : Int) := by omega
            clear hr h9
            by_cases k9 : k = 9
            · subst k9
              clear hshl f0
              go_wp2_with fail
              go_ret3
              exact ⟨by rw [HR.out]; rfl, rfl⟩
            · have f2 : ¬ ((k : Int) = 9) := by omega
              clear f0 hshl
              go_wp2_with fail
              go_ret3
              exact ⟨by rw [HR.out]; rfl, rfl⟩
          · have hr : ChoP.uintR p = (acc + 2 ^ (7 * k) * (b % 128), k + 1, 0) := ChoP.uintR_some' (by rw [HU.out, HUG.out, if_neg h9, if_pos h128, if_neg hz, Nat.mod_eq_of_lt h128]; rfl)
            have HR := Lib.hid hr
            have f3 : (b : Int) / 128 = 0 := by omega
            clear hr
            by_cases k9 : k = 9
            · have f1 : ((k : Int) == 9) = true := by simp; omega
              have f2 : ¬ ((1 : Int) < (b : Int)) := by omega
              have f4 : ((b : Int) == 0) = false := by simp; omega
              clear f0 h9 hz k9
              go_wp2_with fail
              go_ret3
              exact ⟨by rw [HR.out]; rfl, rfl⟩
            · have f2 : ¬ ((k : Int) = 9) := by omega
              clear f0 h9
              by_cases b0 : b = 0
              · have f4 : ((b : Int) == 0) = true := by simp; omega
                have f5 : ¬ ((0 : Int) < (k : Int)) := by omega
                clear hz b0
                go_wp2_with fail
                go_ret3
                exact ⟨by rw [HR.out]; rfl, rfl⟩
              · have f4 : ¬ ((b : Int) = 0) := by omega
                go_wp2_with fail
                go_ret3
                exact ⟨by rw [HR.out]; rfl, rfl⟩
        · have hk8 : k < 9 := by omega
          have hnew : ChoP.uintF p = (ChoP.uintG (k + 1) (p.drop (k + 1))).map (fun x => (acc + 2 ^ (7 * k) * (b % 128) + 2 ^ (7 * (k + 1)) * x.1, k + 1 + x.2)) := by
            rw [HU.out, HUG.out, if_neg h9, if_neg h128]
            cases ChoP.uintG (k + 1) (p.drop (k + 1)) with
            | none => rfl
            | some x =>
              simp only [Option.map_some, Option.some.injEq, Prod.mk.injEq]
              rw [show 7 * (k + 1) = 7 * k + 7 by omega, Nat.pow_add]
              refine ⟨?_, by omega⟩
              rw [Nat.mul_add, Nat.add_assoc]
              congr 2
              rw [← Nat.mul_assoc]
          have hacc2 : acc + 2 ^ (7 * k) * (b % 128) < 2 ^ (7 * (k + 1)) := by
            rw [show 7 * (k + 1) = 7 * k + 7 by omega, Nat.pow_add]
            have h1 := HACC.out
            have h2 : 2 ^ (7 * k) * (b % 128) ≤ 2 ^ (7 * k) * 127 := Nat.mul_le_mul_left _ (by omega)
            omega
          have HN := Lib.hid hnew
          have HA2 := Lib.hid hacc2
          have f1 : ¬ ((k : Int) = 9) := by omega
          have f2 : ¬ ((b : Int) / 128 = 0) := by omega
          clear hnew hacc2 h9 f0
          go_wp2_with fail
          go_round
          case rel => exact ⟨k + 1, _, by omega, by omega, rfl, by go_num, HA2.out, HN.out⟩
          case measure => simp [intOf]; omega
    · have hr : ChoP.uintR p = (0, 0, 6) := ChoP.uintR_none' (by rw [hu, List.drop_eq_nil_of_le (by omega)]; rfl)
      have HR := Lib.hid hr
      clear hr hu hacc
      go_wp2_with fail
      go_ret3
      exact ⟨by rw [HR.out]; rfl, rfl⟩
end Go.Proofs.YtpniilgkceadeaaGreatDoor
