/- The value of a token: the lexer's Value. -/
import Derived.Test.YtdhllkbcheokfaaDoorLexRefLex
import Derived.Deep.QuietTactic
import Derived.BigQuiet
namespace LexP
/-- the value of the first k digits; none: above the greatest -/
def valK (l : List UInt8) : Nat → Option Nat
  | 0 => some 0
  | k + 1 => match valK l k with
    | none => none
    | some v => if (9223372036854775807 - ((l[k]?.getD 0).toNat - 48)) / 10 < v then none else some (10 * v + ((l[k]?.getD 0).toNat - 48))
/-- the value of a number, and the error -/
def valOf (kd : Int) (l : List UInt8) : Nat × Nat :=
  if kd == 3 && !l.isEmpty && pre digitI l == l.length then
    match valK l l.length with
    | none => (0, 2)
    | some v => (v, 0)
  else (0, 1)
theorem pre_all (p : Int → Bool) : ∀ (l : List UInt8), pre p l = l.length → ∀ (k : Nat) (h : k < l.length), p (l[k]).toNat = true
  | [], _, _, h => absurd h (by simp)
  | c :: l, e, k, h => by
    rw [pre_cons] at e
    split at e
    · rename_i hc
      cases k with
      | zero => simpa using hc
      | succ k => simpa using pre_all p l (by simpa using e) k (by simpa using h)
    · simp at e
theorem digit_at (s : ByteArray) (hp : pre digitI s.data.toList = s.size) (k : Nat) (h : k < s.size) : digitI (s[k]).toNat = true :=
  pre_all digitI s.data.toList (by simpa using hp) k (by simpa using h)
theorem digit_bounds (n : Int) (h : digitI n = true) : 48 ≤ n ∧ n ≤ 57 := by
  unfold digitI at h
  simpa using h
theorem get_at (s : ByteArray) (k : Nat) (h : k < s.size) : s.data.toList[k]?.getD 0 = s[k] := by
  rw [List.getElem?_eq_getElem (by simpa using h), Option.getD_some]; rfl
theorem valK_big (s : ByteArray) (k v : Nat) (h : k < s.size) (e : valK s.data.toList k = some v) (hb : (9223372036854775807 - ((s[k]).toNat - 48)) / 10 < v) : valK s.data.toList (k + 1) = none := by
  rw [valK, e]
  simp only
  rw [get_at s k h, if_pos hb]
theorem valK_ok (s : ByteArray) (k v : Nat) (h : k < s.size) (e : valK s.data.toList k = some v) (hb : ¬ (9223372036854775807 - ((s[k]).toNat - 48)) / 10 < v) : valK s.data.toList (k + 1) = some (10 * v + ((s[k]).toNat - 48)) := by
  rw [valK, e]
  simp only
  rw [get_at s k h, if_neg hb]
theorem valK_none (l : List UInt8) (k : Nat) (e : valK l k = none) : valK l (k + 1) = none := by
  rw [valK, e]
theorem valK_none_le (l : List UInt8) (k m : Nat) (e : valK l k = none) (h : k ≤ m) : valK l m = none := by
  induction h with
  | refl => exact e
  | step _ ih => exact valK_none _ _ ih
theorem valK_le (l : List UInt8) : ∀ k v, valK l k = some v → v ≤ 9223372036854775807
  | 0, v, h => by simp [valK] at h; omega
  | k + 1, v, h => by
    rw [valK] at h
    split at h
    · cases h
    · rename_i v' e
      split at h
      · cases h
      · have := Option.some.inj h
        have h8 := (l[k]?.getD 0).toNat_lt
        omega
end LexP
namespace Go.Proofs.YtdhllkbcheokfaaDoor
open Go.RowKit Go.Shelf
theorem quiet_same {P : Program} {f : FuncId} {args : Array Value} {w : World} {n : Nat} {v : Value}
    (h : Calls P f args (w.drewN n) fun e w' => e = .returned v ∧ w.drewN n = w') : Calls P f args (w.drewN n) fun e w'' => e = .returned v ∧ ∃ m, w'' = w.drewN m :=
  h.mono fun _ _ ⟨he, hm⟩ => ⟨he, n, hm.symm⟩
def valV (kd : Int) (s : ByteArray) : Value := .tuple #[.int .i64 ((LexP.valOf kd s.data.toList).1 : Nat), .int .i64 ((LexP.valOf kd s.data.toList).2 : Nat)]
theorem valV_of {kd : Int} {s : ByteArray} {a b : Nat} (h : LexP.valOf kd s.data.toList = (a, b)) : valV kd s = .tuple #[.int .i64 (a : Nat), .int .i64 (b : Nat)] := by unfold valV; rw [h]
def ValPost (kd : Int) (s : ByteArray) (w : World) (e : Ending) (w' : World) : Prop := e = .returned (valV kd s) ∧ Below w.heap.size w w'
theorem below_dr (w w2 : World) (n : Nat) (h : Below w.heap.size w w2) : Below w.heap.size w (w2.drewN n) := h.trans ⟨rfl, rfl, rfl, Nat.le_refl _, fun _ _ => rfl⟩
theorem empty_iff (s : ByteArray) : s.data.toList.isEmpty = s.toList.isEmpty := by rw [ByteArray.toList_eq]
set_option maxRecDepth 100000 in
set_option maxHeartbeats 1000000 in
theorem value_kind (kd : Int) (s : ByteArray) (w : World) (hk : (kd != 3) = true) :
    Calls Tryd.prog 22 #[.agg #[.int .u8 kd, .string s, .int .i64 0]] w (ValPost kd s w) := by
  have hv : LexP.valOf kd s.data.toList = (0, 1) := by
    unfold LexP.valOf
    rw [if_neg]
    have : (kd == 3) = false := by simpa [bne] using hk
    rw [this]; simp
  have HV := Lib.hid (valV_of hv)
  clear hv
  go_enter Tryd.func22, Tryd.ntmps22
  go_wp2_with fail
  go_quiet (fail)
  go_wp2_with fail
  go_ret2
  exact ⟨by rw [HV.out]; rfl, below_dr _ _ _ ((Below.refl _ _).alloc (Nat.le_refl _) _)⟩
set_option maxRecDepth 100000 in
set_option maxHeartbeats 1000000 in
theorem value_empty (s : ByteArray) (w : World) (he : s.toList = []) (he2 : s.toList.isEmpty = true) :
    Calls Tryd.prog 22 #[.agg #[.int .u8 3, .string s, .int .i64 0]] w (ValPost 3 s w) := by
  have hv : LexP.valOf 3 s.data.toList = (0, 1) := by
    unfold LexP.valOf
    rw [if_neg]
    rw [empty_iff, he2]; simp
  have HV := Lib.hid (valV_of hv)
  clear hv
  go_enter Tryd.func22, Tryd.ntmps22
  go_wp2_with fail
  go_quiet (fail)
  go_wp2_with fail
  go_ret2
  exact ⟨by rw [HV.out]; rfl, below_dr _ _ _ ((Below.refl _ _).alloc (Nat.le_refl _) _)⟩
theorem nonempty_of (s : ByteArray) (h : s.toList.isEmpty = false) : 0 < s.size := by
  rw [← empty_iff] at h
  have : s.data.toList ≠ [] := by intro e; rw [e] at h; cases h
  have := List.length_pos_iff.2 this
  simpa using this
set_option maxRecDepth 100000 in
set_option maxHeartbeats 1000000 in
theorem value_other (s : ByteArray) (w : World) (hs : s.size ≤ 140737488351232) (he : s.toList.isEmpty = false) (hp : LexP.pre LexP.digitI s.data.toList ≠ s.size) :
    Calls Tryd.prog 22 #[.agg #[.int .u8 3, .string s, .int .i64 0]] w (ValPost 3 s w) := by
  have hv : LexP.valOf 3 s.data.toList = (0, 1) := by
    unfold LexP.valOf
    rw [if_neg]
    intro hc
    simp at hc
    exact hp hc.2
  have HV := Lib.hid (valV_of hv)
  have hne : s.toList ≠ [] := by intro e; rw [e] at he; cases he
  clear hv
  have hm : s.size ≤ maxLen := by unfold maxLen; omega
  have hq : ((LexP.pre LexP.digitI s.data.toList : Nat) : Int) ≠ s.size := by omega
  have hq2 : (((LexP.pre LexP.digitI s.data.toList : Nat) : Int) != s.size) = true := by rw [bne_iff_ne]; exact hq
  have hcon := fun (W : World) => prefix_digit s W hm
  generalize LexP.pre LexP.digitI s.data.toList = n at *
  have HC := Lib.hid hcon
  clear hcon
  go_enter Tryd.func22, Tryd.ntmps22
  go_wp2_with fail
  go_quiet ((go_at_call 31; exact quiet_same (HC.out _)))
  go_wp2_with fail
  go_ret2
  exact ⟨by rw [HV.out]; rfl, below_dr _ _ _ ((Below.refl _ _).alloc (Nat.le_refl _) _)⟩
set_option maxRecDepth 100000 in
set_option maxHeartbeats 1000000 in
theorem value_digits (s : ByteArray) (w : World) (hs : s.size ≤ 140737488351232) (he : s.toList.isEmpty = false) (hp : LexP.pre LexP.digitI s.data.toList = s.size) :
    Calls Tryd.prog 22 #[.agg #[.int .u8 3, .string s, .int .i64 0]] w (ValPost 3 s w) := by
  have hv : LexP.valOf 3 s.data.toList = match LexP.valK s.data.toList s.size with | none => (0, 2) | some v => (v, 0) := by
    unfold LexP.valOf
    rw [if_pos]
    · simp
    · rw [empty_iff, he, hp]; simp
  have HV := Lib.hid hv
  have hne : s.toList ≠ [] := by intro e; rw [e] at he; cases he
  clear hv
  have hm : s.size ≤ maxLen := by unfold maxLen; omega
  have hcon := fun (W : World) => prefix_digit s W hm
  rw [hp] at hcon
  have HC := Lib.hid hcon
  have HP := Lib.hid hp
  clear hcon hp
  go_enter Tryd.func22, Tryd.ntmps22
  go_wp2_with fail
  go_quiet ((go_at_call 31; exact quiet_same (HC.out _)))
  go_wp2_with fail
  go_loopw [4, 5, 6, 27] (fun a _ _ i wr => ∃ k v : Nat, k ≤ s.size ∧ i = .int .i64 k ∧ a = .int .i64 v ∧ LexP.valK s.data.toList k = some v ∧ wr = (w.alloc (Obj.cells #[Value.int IntKind.u8 3, Value.string s, Value.int IntKind.i64 0] 31)).drewN nq) (fun _ _ _ i _ => s.size - (intOf i).toNat)
  case atStart => exact ⟨0, 0, Nat.zero_le _, rfl, rfl, rfl, rfl⟩
  case round =>
    obtain ⟨k, v, hk, rfl, rfl, hval, rfl⟩ := hrel
    have hvle := LexP.valK_le _ _ _ hval
    have HVK := Lib.hid hval
    clear hval
    by_cases hlt : k < s.size
    · have hdg := LexP.digit_bounds _ (LexP.digit_at s HP.out k hlt)
      by_cases hbig : (9223372036854775807 - ((s[k]).toNat - 48)) / 10 < v
      · have hnone := LexP.valK_none_le _ _ _ (LexP.valK_big s k v hlt HVK.out hbig) (show k + 1 ≤ s.size by omega)
        have HF : Hid (valV 3 s = .tuple #[.int .i64 (0 : Nat), .int .i64 (2 : Nat)]) := Lib.hid (valV_of (by rw [HV.out, hnone]))
        clear hnone
        generalize hc : (s[k]).toNat = c at *
        go_wp2_with fail
        go_ret2
        exact ⟨by rw [HF.out]; rfl, below_dr _ _ _ ((Below.refl _ _).alloc (Nat.le_refl _) _)⟩
      · have hsome := LexP.valK_ok s k v hlt HVK.out hbig
        have HSO := Lib.hid hsome
        clear hsome
        generalize hc : (s[k]).toNat = c at *
        go_wp2_with fail
        go_roundw
        case rel => exact ⟨k + 1, 10 * v + (c - 48), by omega, by go_num, by go_num, HSO.out, trivial⟩
        case measure => simp [intOf]; omega
    · have hks : k = s.size := by omega
      have HF : Hid (valV 3 s = .tuple #[.int .i64 (v : Nat), .int .i64 (0 : Nat)]) := Lib.hid (valV_of (by rw [HV.out, ← hks, HVK.out]))
      clear hks
      go_wp2_with fail
      go_ret2
      exact ⟨by rw [HF.out]; rfl, below_dr _ _ _ ((Below.refl _ _).alloc (Nat.le_refl _) _)⟩
theorem value_any (kd : Int) (s : ByteArray) (w : World) (hs : s.size ≤ 140737488351232) :
    Calls Tryd.prog 22 #[.agg #[.int .u8 kd, .string s, .int .i64 0]] w (ValPost kd s w) := by
  cases hk : (kd != 3)
  · obtain rfl : kd = 3 := by simpa [bne] using hk
    cases he : s.toList.isEmpty
    · by_cases hp : LexP.pre LexP.digitI s.data.toList = s.size
      · exact value_digits s w hs he hp
      · exact value_other s w hs he hp
    · exact value_empty s w (List.isEmpty_iff.1 he) he
  · exact value_kind kd s w hk
end Go.Proofs.YtdhllkbcheokfaaDoor
