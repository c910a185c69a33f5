/- Lines and columns: the lexer's Line and the reference's Line return the same two numbers. -/
import Derived.Test.YtdhllkbcheokfaaDoorLexRead
import Derived.Lib.LastIndexByte
namespace LexP
/-- the line and the column behind the first k bytes -/
def posK (l : List UInt8) : Nat → Nat × Nat
  | 0 => (1, 1)
  | k + 1 => if (((l[k]?.getD 0).toNat : Int) == 10) = true then ((posK l k).1 + 1, 1) else ((posK l k).1, (posK l k).2 + 1)
theorem posK_take (l : List UInt8) (m : Nat) : ∀ k, k ≤ m → posK (l.take m) k = posK l k
  | 0, _ => rfl
  | k + 1, h => by
    have e : (l.take m)[k]? = l[k]? := by rw [List.getElem?_take, if_pos (by omega)]
    rw [posK, posK, e, posK_take l m k (by omega)]
theorem posK_le (l : List UInt8) : ∀ k, 1 ≤ (posK l k).1 ∧ (posK l k).1 ≤ k + 1 ∧ 1 ≤ (posK l k).2 ∧ (posK l k).2 ≤ k + 1
  | 0 => by simp [posK]
  | k + 1 => by
    have := posK_le l k
    rw [posK]
    split <;> simp <;> omega
theorem posK_line (l : List UInt8) : ∀ k, k ≤ l.length → (posK l k).1 = 1 + (l.take k).count 10
  | 0, _ => by simp [posK]
  | k + 1, h => by
    have ih := posK_line l k (by omega)
    rw [posK, List.take_succ_eq_append_getElem (by omega), List.count_append, List.getElem?_eq_getElem (by omega), Option.getD_some]
    by_cases hc : l[k] = 10
    · rw [hc]; simp; omega
    · have h1 : (((l[k]).toNat : Int) == 10) = false := by
        rw [beq_eq_false_iff_ne]; intro e; apply hc; apply UInt8.toNat.inj; exact Int.ofNat.inj e
      have h2 : [l[k]].count 10 = 0 := by rw [List.count_singleton]; simp [hc]
      rw [h1, h2]; simp; omega
theorem posK_col (s : ByteArray) : ∀ k, ((posK s.data.toList k).2 : Int) = k - Go.Lib.lastIdx s 10 k
  | 0 => by simp [posK, Go.Lib.lastIdx]
  | k + 1 => by
    have ih := posK_col s k
    have e : (s.data.toList[k]?.getD 0) = s.data[k]! := by rw [getElem!_def, Array.getElem?_toList]; cases s.data[k]? <;> rfl
    rw [posK, Go.Lib.lastIdx, e]
    by_cases h : ((s.data[k]!).toNat : Int) = 10
    · rw [if_pos h, if_pos (by rw [h]; rfl)]; simp; omega
    · rw [if_neg h, if_neg (by simpa using h)]; simp; omega
/-- how far Line looks -/
def cutAt (s : ByteArray) (off : Int) : Nat := min off.toNat s.size
theorem cutAt_le (s : ByteArray) (off : Int) : cutAt s off ≤ s.size := Nat.min_le_right _ _
theorem line_eq (s : ByteArray) (m : Nat) (h : m ≤ s.size) : 1 + Go.Lib.countByte (s.extract 0 m).data.toList 10 = (posK s.data.toList m).1 := by
  rw [data_take, posK_line _ _ (by simpa using h)]; rfl
theorem col_eq (s : ByteArray) (m : Nat) (h : m ≤ s.size) : (m : Int) - Go.Lib.lastIndexByte (s.extract 0 m) 10 = (posK s.data.toList m).2 := by
  have h2 : (s.extract 0 m).size = m := by simp; omega
  unfold Go.Lib.lastIndexByte
  rw [h2, ← posK_col, data_take, posK_take _ _ _ (Nat.le_refl _)]
end LexP
namespace Go.Proofs.YtdhllkbcheokfaaDoor
open Go.RowKit
set_option maxHeartbeats 400000
def lineV (s : ByteArray) (off : Int) : Value := .tuple #[.int .i64 ((LexP.posK s.data.toList (LexP.cutAt s off)).1 : Nat), .int .i64 ((LexP.posK s.data.toList (LexP.cutAt s off)).2 : Nat)]
theorem line_any (s : ByteArray) (off : Int) (w : World) (hs : s.size ≤ 140737488351232) (h1 : -9223372036854775808 ≤ off) (h2 : off ≤ 9223372036854775807) :
    Calls Tryd.prog 16 #[.string s, .int .i64 off] w fun e w' => e = .returned (lineV s off) ∧ w = w' := by
  go_enter Tryd.func16, Tryd.ntmps16
  go_wp2_with fail
  rw [show (min (max off 0) (s.size : Int)).toNat = LexP.cutAt s off from by unfold LexP.cutAt; omega]
  have hm := LexP.cutAt_le s off
  have e1 := LexP.line_eq s _ hm
  have e2 := LexP.col_eq s _ hm
  have hp := LexP.posK_le s.data.toList (LexP.cutAt s off)
  have hv : lineV s off = .tuple #[.int .i64 ((LexP.posK s.data.toList (LexP.cutAt s off)).1 : Nat), .int .i64 ((LexP.posK s.data.toList (LexP.cutAt s off)).2 : Nat)] := rfl
  have HV := Lib.hid hv
  clear hv
  generalize LexP.cutAt s off = m at *
  generalize (LexP.posK s.data.toList m).1 = A at *
  generalize (LexP.posK s.data.toList m).2 = B at *
  refine (Tryd.strings_Count_one _ _ _).mono ?_
  rintro e w' ⟨rfl, rfl⟩
  generalize Lib.countByte (s.extract 0 m).data.toList 10 = cA at *
  have E1 := Lib.hid e1
  have E2 := Lib.hid e2
  have hA : cA ≤ m := by omega
  clear e1 e2
  go_wp2_with fail
  refine (Tryd.strings_LastIndexByte _ _ (by simp; omega) _).mono ?_
  rintro e w' ⟨rfl, rfl⟩
  generalize hb : Lib.lastIndexByte (s.extract 0 m) 10 = cB at *
  have e2 := E2.out
  have hB1 : cB ≤ m := by omega
  have hB2 : -1 ≤ cB := by omega
  clear e2
  go_wp2_with fail
  go_ret2
  exact ⟨by rw [HV.out, ← E2.out, ← E1.out]; simp, rfl⟩
theorem refline_any (s : ByteArray) (off : Int) (w : World) (hs : s.size ≤ 140737488351232) :
    Calls Tryd.prog 17 #[.string s, .int .i64 off] w fun e w' => e = .returned (lineV s off) ∧ w = w' := by
  go_enter Tryd.func17, Tryd.ntmps17
  go_wp2_with fail
  go_loop [6, 7, 8] (fun a b i => ∃ k : Nat, k ≤ LexP.cutAt s off ∧ i = .int .i64 k ∧ a = .int .i64 ((LexP.posK s.data.toList k).1 : Nat) ∧ b = .int .i64 ((LexP.posK s.data.toList k).2 : Nat)) (fun _ _ i => s.size - (intOf i).toNat)
  case atStart => exact ⟨0, Nat.zero_le _, rfl, rfl, rfl⟩
  case round =>
    obtain ⟨k, hk, rfl, rfl, rfl⟩ := hrel
    have hc := LexP.cutAt_le s off
    have hp := LexP.posK_le s.data.toList k
    by_cases hlt : k < LexP.cutAt s off
    · have hks : k < s.size := by omega
      have hko : (k : Int) < off := by unfold LexP.cutAt at hlt; omega
      have hst : LexP.posK s.data.toList (k + 1) = if (((s.data.toList[k]?.getD 0).toNat : Int) == 10) = true then ((LexP.posK s.data.toList k).1 + 1, 1) else ((LexP.posK s.data.toList k).1, (LexP.posK s.data.toList k).2 + 1) := rfl
      have eg : s.data.toList[k]?.getD 0 = s[k] := by
        rw [List.getElem?_eq_getElem (by simpa using hks), Option.getD_some]; rfl
      rw [eg] at hst
      clear eg
      have HS := Lib.hid hst
      clear hst
      generalize (LexP.posK s.data.toList k).1 = A at *
      generalize (LexP.posK s.data.toList k).2 = B at *
      obtain ⟨hp1, hp2, hp3, hp4⟩ := hp
      cases hq : ((s[k].toNat : Int) == 10)
      · have hst := HS.out
        rw [hq] at hst
        have H2 := Lib.hid hst
        clear hst
        go_wp2_with fail
        go_round
        case rel => exact ⟨k + 1, by omega, by go_num, by rw [H2.out]; rfl, by rw [H2.out]; simp⟩
        case measure => simp [intOf]; omega
      · have hst := HS.out
        rw [hq] at hst
        have H2 := Lib.hid hst
        clear hst
        go_wp2_with fail
        go_round
        case rel => exact ⟨k + 1, by omega, by go_num, by rw [H2.out]; simp, by rw [H2.out]; rfl⟩
        case measure => simp [intOf]; omega
    · have hv : lineV s off = .tuple #[.int .i64 ((LexP.posK s.data.toList (LexP.cutAt s off)).1 : Nat), .int .i64 ((LexP.posK s.data.toList (LexP.cutAt s off)).2 : Nat)] := rfl
      rw [show LexP.cutAt s off = k by omega] at hv
      have HV := Lib.hid hv
      clear hv
      generalize (LexP.posK s.data.toList k).1 = A at *
      generalize (LexP.posK s.data.toList k).2 = B at *
      have hor : ¬ k < s.size ∨ (k < s.size ∧ ¬ (k : Int) < off) := by unfold LexP.cutAt at hlt; omega
      clear hlt hk hc
      rcases hor with hk | ⟨hk, ho⟩
      all_goals
        go_wp2_with fail
        go_ret2
        exact ⟨by rw [HV.out]; rfl, rfl⟩
end Go.Proofs.YtdhllkbcheokfaaDoor
