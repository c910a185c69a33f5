/- Plain mathematics of texts: words between blanks, numbers out of words. No program here. -/
import Derived.Test.YtpniilgkceadeaaGreatDoorChoPlain
import Derived.Lib.Split
import Derived.Lib.ParseIntBTie
namespace ChoP
open Go
/-- the pieces between the bytes c -/
def splitC (c : UInt8) : List UInt8 → List (List UInt8)
  | [] => [[]]
  | x :: r => if x = c then [] :: splitC c r else
    match splitC c r with
    | [] => [[x]]
    | w :: t => (x :: w) :: t
theorem splitC_eq (c x : UInt8) (r : List UInt8) : splitC c (x :: r) = if x = c then [] :: splitC c r else
    match splitC c r with
    | [] => [[x]]
    | w :: t => (x :: w) :: t := rfl
theorem splitC_ne (c : UInt8) (l : List UInt8) : splitC c l ≠ [] := by
  cases l with
  | nil => simp [splitC]
  | cons x r =>
    rw [splitC_eq]
    split
    · simp
    · split <;> simp
theorem splitC_snoc (c x : UInt8) (l : List UInt8) : splitC c (l ++ [x]) = if x = c then splitC c l ++ [[]] else (splitC c l).dropLast ++ [(splitC c l).getLastD [] ++ [x]] := by
  induction l with
  | nil => by_cases h : x = c <;> simp [splitC, h]
  | cons y r ih =>
    rw [List.cons_append, splitC_eq, splitC_eq, ih]
    obtain ⟨w, t, hs⟩ : ∃ w t, splitC c r = w :: t := by
      cases h : splitC c r with
      | nil => exact absurd h (splitC_ne c r)
      | cons w t => exact ⟨w, t, rfl⟩
    rw [hs]
    by_cases hy : y = c
    · by_cases h : x = c <;> simp [hy, h]
    · by_cases h : x = c
      · simp [hy, h]
      · cases t with
        | nil => simp [hy, h]
        | cons z u => simp [hy, h]
theorem split_index (c : UInt8) : ∀ s : List UInt8, (Lib.index s [c] = -1 ∧ splitC c s = [s]) ∨ ∃ i : Nat, Lib.index s [c] = i ∧ splitC c s = s.take i :: splitC c (s.drop (i + 1))
  | [] => .inl ⟨rfl, rfl⟩
  | b :: l => by
    by_cases hb : c = b
    · subst hb
      refine .inr ⟨0, ?_, ?_⟩
      · unfold Lib.index
        rw [if_pos (by simp)]
        rfl
      · rw [splitC_eq, if_pos rfl]; rfl
    · have hp : [c].isPrefixOf (b :: l) = false := by
        show ((c == b) && List.isPrefixOf [] l) = false
        rw [beq_false_of_ne hb]
        rfl
      have hb' : b ≠ c := fun e => hb e.symm
      rcases split_index c l with ⟨h1, h2⟩ | ⟨i, h1, h2⟩
      · refine .inl ⟨?_, ?_⟩
        · unfold Lib.index
          rw [hp, h1]
          rfl
        · rw [splitC_eq, if_neg hb', h2]
      · refine .inr ⟨i + 1, ?_, ?_⟩
        · unfold Lib.index
          rw [hp, h1]
          have : ((i : Int) == -1) = false := by rw [beq_eq_false_iff_ne]; omega
          simp [this]
        · rw [splitC_eq, if_neg hb', h2]; rfl
theorem splitK_eq (c : UInt8) : ∀ (k : Nat) (s : List UInt8), Lib.count s [c] = k → Lib.splitK [c] 0 k s = splitC c s
  | 0, s, h => by
    rcases split_index c s with ⟨_, h2⟩ | ⟨i, h1, _⟩
    · rw [h2]; rfl
    · have := Lib.count_hit (sub := [c]) (by simp) h1
      omega
  | k + 1, s, h => by
    rcases split_index c s with ⟨h1, _⟩ | ⟨i, h1, h2⟩
    · have := Lib.count_miss h1
      omega
    · have hc := Lib.count_hit (sub := [c]) (by simp) h1
      have e : ((i : Int) == -1) = false := by rw [beq_eq_false_iff_ne]; omega
      unfold Lib.splitK
      rw [h1, e, h2]
      simp only [Bool.false_eq_true, if_false, Int.toNat_natCast, Nat.add_zero, List.length_cons, List.length_nil, Nat.zero_add]
      simp only [List.length_cons, List.length_nil, Nat.zero_add] at hc
      rw [splitK_eq c k _ (by omega)]
/-- strings.Split at one byte -/
theorem split_eq (c : UInt8) (s : List UInt8) : Lib.split s [c] = splitC c s := splitK_eq c _ s rfl
theorem splitC_app (c : UInt8) (x y : List UInt8) (h : c ∉ x) : splitC c (x ++ y) = (x ++ (splitC c y).headD []) :: (splitC c y).tail := by
  induction x with
  | nil =>
    cases hs : splitC c y with
    | nil => exact absurd hs (splitC_ne c y)
    | cons w t => simp [hs]
  | cons a r ih =>
    have ha : a ≠ c := fun e => h (by simp [e])
    rw [List.cons_append, splitC_eq, if_neg ha, ih (fun e => h (List.mem_cons_of_mem _ e))]
    rfl
theorem splitC_tail (c : UInt8) : ∀ (r : List (List UInt8)), (∀ x ∈ r, c ∉ x) → splitC c (Lib.joinTail [c] r) = [] :: r
  | [], _ => rfl
  | y :: r, h => by
    have e : Lib.joinTail [c] (y :: r) = c :: (y ++ Lib.joinTail [c] r) := by simp [Lib.joinTail]
    rw [e, splitC_eq, if_pos rfl, splitC_app c y _ (h y (by simp)), splitC_tail c r (fun x hx => h x (List.mem_cons_of_mem _ hx))]
    simp
/-- joined words come apart again -/
theorem splitC_join (c : UInt8) (x : List UInt8) (r : List (List UInt8)) (h : ∀ y ∈ x :: r, c ∉ y) : splitC c (Lib.join (x :: r) [c]) = x :: r := by
  rw [Lib.join_cons, splitC_app c x _ (h x (by simp)), splitC_tail c r (fun y hy => h y (List.mem_cons_of_mem _ hy))]
  simp
theorem joinTail_app (sep : List UInt8) (a b : List (List UInt8)) : Lib.joinTail sep (a ++ b) = Lib.joinTail sep a ++ Lib.joinTail sep b := by simp [Lib.joinTail]
theorem join_join (sep x : List UInt8) (a b : List (List UInt8)) : Lib.join (Lib.join (x :: a) sep :: b) sep = Lib.join (x :: (a ++ b)) sep := by
  rw [Lib.join_cons, Lib.join_cons, Lib.join_cons, joinTail_app, List.append_assoc]
/-- a number of 64 bits with a sign -/
def InI (x : Int) : Prop := -9223372036854775808 ≤ x ∧ x ≤ 9223372036854775807
def numV (w : List UInt8) : Int := match Lib.parseIntB 64 w with | .ok v => v | .range => Lib.intSat 64 w | _ => 0
def numOk (w : List UInt8) : Bool := match Lib.parseIntB 64 w with | .ok v => decide (Lib.itoa v = w) | _ => false
theorem dec_digit : ∀ d : Fin 10, (UInt8.ofNat (48 + d.val)).toNat = 48 + d.val := by decide
theorem dec_toNat {d : Nat} (h : d < 10) : (UInt8.ofNat (48 + d)).toNat = 48 + d := dec_digit ⟨d, h⟩
theorem parse_dec : ∀ (u : Nat), u < 18446744073709551616 → ∀ r, Lib.parseUint10 0 (Lib.decDigits u ++ r) = Lib.parseUint10 u r := by
  intro u
  induction u using Nat.strongRecOn with
  | _ u ih =>
    intro hu r
    by_cases h : u < 10
    · rw [Lib.decDigits, dif_pos h, List.singleton_append, Lib.parseUint10, dec_toNat h, if_pos (by omega), if_neg (by omega), if_neg (by omega)]
      congr 1
      omega
    · rw [Lib.decDigits, dif_neg h, List.append_assoc, ih (u / 10) (by omega) (by omega), List.singleton_append, Lib.parseUint10, dec_toNat (Nat.mod_lt _ (by decide)), if_pos (by omega), if_neg (by omega), if_neg (by omega)]
      congr 1
      omega
theorem dec_cons (u : Nat) : ∃ d r, Lib.decDigits u = d :: r ∧ 48 ≤ d.toNat ∧ d.toNat ≤ 57 ∧ (d.toNat = 48 → u = 0) := by
  induction u using Nat.strongRecOn with
  | _ u ih =>
    by_cases h : u < 10
    · refine ⟨_, [], by rw [Lib.decDigits, dif_pos h], ?_, ?_, ?_⟩ <;> rw [dec_toNat h] <;> omega
    · obtain ⟨d, r, e, h1, h2, h3⟩ := ih (u / 10) (by omega)
      exact ⟨d, r ++ [UInt8.ofNat (48 + u % 10)], by rw [Lib.decDigits, dif_neg h, e]; rfl, h1, h2, fun e => by have := h3 e; omega⟩
theorem dec_all (u : Nat) : ∀ c ∈ Lib.decDigits u, 48 ≤ c.toNat ∧ c.toNat ≤ 57 := by
  induction u using Nat.strongRecOn with
  | _ u ih =>
    intro c hc
    by_cases h : u < 10
    · rw [Lib.decDigits, dif_pos h, List.mem_singleton] at hc
      subst hc
      rw [dec_toNat h]
      omega
    · rw [Lib.decDigits, dif_neg h, List.mem_append, List.mem_singleton] at hc
      rcases hc with hc | rfl
      · exact ih (u / 10) (by omega) c hc
      · rw [dec_toNat (Nat.mod_lt _ (by decide))]
        omega
theorem parseMag_dec (u : Nat) (h : u < 18446744073709551616) : Lib.parseMag (Lib.decDigits u) = .ok u := by
  obtain ⟨d, r, e, _⟩ := dec_cons u
  unfold Lib.parseMag
  rw [if_neg (by rw [e]; simp)]
  have := parse_dec u h []
  rw [List.append_nil] at this
  rw [this]
  rfl
theorem parse_itoa (v : Int) (h : InI v) : Lib.parseIntB 64 (Lib.itoa v) = .ok v := by
  obtain ⟨h0, h1⟩ := h
  rw [Lib.parseIntB_64]
  unfold Lib.itoa
  by_cases hn : v < 0
  · rw [if_pos hn]
    unfold Lib.atoiAll
    have e : (45 : UInt8).toNat = 45 := rfl
    simp only [e, or_true, if_true, parseMag_dec v.natAbs (by omega), not_true, false_and, if_false, true_and]
    rw [if_neg (by omega)]
    congr 1
    omega
  · rw [if_neg hn]
    obtain ⟨d, r, e, k1, k2, _⟩ := dec_cons v.toNat
    have hm := parseMag_dec v.toNat (by omega)
    rw [e] at hm ⊢
    unfold Lib.atoiAll
    have n43 : ¬ d.toNat = 43 := by omega
    have n45 : ¬ d.toNat = 45 := by omega
    simp only [n43, n45, or_self, if_false, hm, not_false_eq_true, true_and, false_and]
    rw [if_neg (by omega)]
    congr 1
    omega
theorem num_itoa (v : Int) (h : InI v) : numV (Lib.itoa v) = v ∧ numOk (Lib.itoa v) = true := by
  unfold numV numOk
  rw [parse_itoa v h]
  exact ⟨rfl, decide_eq_true rfl⟩
theorem numOk_itoa {w : List UInt8} (h : numOk w = true) : Lib.itoa (numV w) = w ∧ InI (numV w) := by
  unfold numOk numV at *
  rcases hp : Lib.parseIntB 64 w with v | _ | _
  · rw [hp] at h
    simp only [decide_eq_true_eq] at h
    have hb := Lib.parseIntB_bounds hp
    refine ⟨h, ?_⟩
    show InI v
    have h1 := hb.1
    have h2 := hb.2
    simp at h1 h2
    unfold InI
    omega
  · rw [hp] at h; cases h
  · rw [hp] at h; cases h
theorem numV_in (w : List UInt8) : InI (numV w) := by
  unfold numV
  split
  · rename_i v hp
    have hb := Lib.parseIntB_bounds hp
    have h1 := hb.1; have h2 := hb.2; simp at h1 h2
    unfold InI
    omega
  · unfold Lib.intSat InI
    split <;> simp
  · unfold InI; omega
/-- how the reference reads a number -/
def digs (w : List UInt8) : List UInt8 := if w.head? = some 45 then w.tail else w
def digB (c : UInt8) : Bool := decide (48 ≤ c.toNat) && decide (c.toNat ≤ 57)
def foldN (l : List UInt8) : Nat := l.foldl (fun n c => 10 * n + (c.toNat - 48)) 0
def wrapI (x : Int) : Int := (x + 9223372036854775808) % 18446744073709551616 - 9223372036854775808
/-- no number by its form -/
def noB (w : List UInt8) : Bool := decide (digs w = []) || decide (19 < (digs w).length) || (decide ((digs w).head? = some 48) && decide (w ≠ [48]))
def refV (w : List UInt8) : Int := if (digs w).length < w.length then wrapI (-wrapI (foldN (digs w))) else wrapI (foldN (digs w))
def refOk (w : List UInt8) : Bool := !noB w && (digs w).all digB && decide (Lib.itoa (refV w) = w)
theorem wrapI_in (x : Int) : InI (wrapI x) := by unfold wrapI InI; omega
theorem wrapI_self {x : Int} (h : InI x) : wrapI x = x := by unfold wrapI; unfold InI at h; omega
theorem refV_in (w : List UInt8) : InI (refV w) := by unfold refV; split <;> exact wrapI_in _
theorem fold_snoc (l : List UInt8) (c : UInt8) : foldN (l ++ [c]) = 10 * foldN l + (c.toNat - 48) := by simp [foldN]
theorem fold_dec (u : Nat) : foldN (Lib.decDigits u) = u := by
  induction u using Nat.strongRecOn with
  | _ u ih =>
    by_cases h : u < 10
    · rw [Lib.decDigits, dif_pos h]
      have := dec_toNat h
      simp only [foldN, List.foldl_cons, List.foldl_nil, this]
      omega
    · rw [Lib.decDigits, dif_neg h, fold_snoc, ih (u / 10) (by omega), dec_toNat (Nat.mod_lt _ (by decide))]
      omega
theorem nDigits_le : ∀ (k u : Nat), u < 10 ^ (k + 1) → Lib.nDigits u ≤ k + 1
  | 0, u, h => by rw [Lib.nDigits_small (by simpa using h)]; omega
  | k + 1, u, h => by
    by_cases hs : u < 10
    · rw [Lib.nDigits_small hs]; omega
    · rw [Lib.nDigits_big hs]
      have := nDigits_le k (u / 10) (by rw [Nat.pow_succ] at h; omega)
      omega
theorem digs_itoa (v : Int) : digs (Lib.itoa v) = Lib.decDigits v.natAbs := by
  unfold Lib.itoa
  by_cases hn : v < 0
  · rw [if_pos hn]; rfl
  · rw [if_neg hn]
    obtain ⟨d, r, e, k1, k2, _⟩ := dec_cons v.toNat
    have en : v.natAbs = v.toNat := by omega
    rw [en, e]
    unfold digs
    rw [if_neg]
    intro h
    simp only [List.head?_cons, Option.some.injEq] at h
    rw [h] at k1
    simp at k1
theorem itoa_len (v : Int) : (Lib.itoa v).length = (Lib.decDigits v.natAbs).length + (if v < 0 then 1 else 0) := by
  unfold Lib.itoa
  by_cases hn : v < 0
  · rw [if_pos hn, if_pos hn]; rfl
  · rw [if_neg hn, if_neg hn]
    have en : v.natAbs = v.toNat := by omega
    rw [en]; rfl
theorem ref_itoa (v : Int) (h : InI v) : refV (Lib.itoa v) = v ∧ refOk (Lib.itoa v) = true := by
  have hv := h
  unfold InI at hv
  have e1 : refV (Lib.itoa v) = v := by
    unfold refV
    rw [digs_itoa, itoa_len, fold_dec]
    by_cases hn : v < 0
    · rw [if_pos (by rw [if_pos hn]; omega)]
      unfold wrapI
      omega
    · rw [if_neg (by rw [if_neg hn]; omega)]
      unfold wrapI
      omega
  refine ⟨e1, ?_⟩
  unfold refOk
  rw [e1]
  have hall : (digs (Lib.itoa v)).all digB = true := by
    rw [digs_itoa, List.all_eq_true]
    intro c hc
    have := dec_all _ c hc
    simp [digB, this.1, this.2]
  have hno : noB (Lib.itoa v) = false := by
    obtain ⟨d, r, e, k1, k2, k3⟩ := dec_cons v.natAbs
    have hl : (Lib.decDigits v.natAbs).length ≤ 19 := by
      rw [Lib.decDigits_length]
      exact nDigits_le 18 _ (by simp; omega)
    unfold noB
    rw [digs_itoa]
    have h1 : Lib.decDigits v.natAbs ≠ [] := by rw [e]; simp
    have h2 : ¬ 19 < (Lib.decDigits v.natAbs).length := by omega
    simp only [h1, h2, decide_false, Bool.false_or, Bool.and_eq_false_iff, decide_eq_false_iff_not, Decidable.not_not]
    by_cases hd : d = 48
    · right
      have h0 : v.natAbs = 0 := k3 (by rw [hd]; rfl)
      obtain rfl : v = 0 := by omega
      unfold Lib.itoa
      rw [if_neg (by decide), show (0 : Int).toNat = 0 from rfl, Lib.decDigits, dif_pos (by decide)]
      rfl
    · left
      rw [e, List.head?_cons, Option.some.injEq]
      exact hd
  rw [hall, hno, decide_eq_true rfl]
  rfl
/-- the reference reads the same numbers -/
theorem ref_num (w : List UInt8) : refOk w = numOk w ∧ (numOk w = true → refV w = numV w) := by
  have h1 : numOk w = true → refOk w = true ∧ refV w = numV w := fun h => by
    obtain ⟨e, hi⟩ := numOk_itoa h
    have := ref_itoa (numV w) hi
    rw [e] at this
    exact ⟨this.2, this.1⟩
  refine ⟨?_, fun h => (h1 h).2⟩
  cases hn : numOk w
  · cases hr : refOk w
    · rfl
    · unfold refOk at hr
      simp only [Bool.and_eq_true, decide_eq_true_eq] at hr
      have := (num_itoa (refV w) (refV_in w)).2
      rw [hr.2, hn] at this
      cases this
  · exact (h1 hn).1
end ChoP
/- Plain mathematics of texts: keys, choices and sets out of texts; the text of a set is parsed to it. No program here. -/
namespace ChoP
open Go
/-- the words that are left; one was of another form -/
structure PS where
  ws : List (List UInt8)
  bad : Bool
def wordS (s : PS) : List UInt8 × PS := match s.ws with
  | [] => ([], ⟨[], true⟩)
  | w :: r => (w, ⟨r, s.bad⟩)
def numS (s : PS) : Int × PS := (numV (wordS s).1, ⟨(wordS s).2.ws, (wordS s).2.bad || !numOk (wordS s).1⟩)
/-- the kind whose word it is, of the first n; 0: none -/
def kindTo : Nat → List UInt8 → Nat
  | 0, _ => 0
  | n + 1, w => if 0 < n ∧ words.getD n [] = w then n else kindTo n w
def kindOf (w : List UInt8) : Nat := kindTo 10 w
def keyA (s : PS) : Int × PS := numS (wordS s).2
def keyB (s : PS) : Int × PS := if pairB (kindOf (wordS s).1 : Int) = true then numS (keyA s).2 else (0, (keyA s).2)
def keyN (s : PS) : Int × PS := numS (keyB s).2
def keyS (s : PS) : Key × PS :=
  if kindOf (wordS s).1 = 0 then (⟨0, 0, 0, 0⟩, ⟨(wordS s).2.ws, true⟩) else (⟨(kindOf (wordS s).1 : Int), (keyA s).1, (keyB s).1, (keyN s).1⟩, (keyN s).2)
def atW (s : PS) : PS := ⟨(wordS s).2.ws, decide ((wordS s).1 ≠ [97, 116]) || (wordS s).2.bad⟩
def choT (s : PS) : Int × PS := if timedB (keyS s).1.kind = true then numS (atW (keyS s).2) else (0, (keyS s).2)
def choD (s : PS) : Int × PS := if measuredB (keyS s).1.kind = true then numS (choT s).2 else (0, (choT s).2)
/-- the numbers of the words that are left -/
def argF (s : PS) (k : Nat) : List Int × PS := ((s.ws.take k).map numV, ⟨s.ws.drop k, s.bad || !(s.ws.take k).all numOk⟩)
def choA (s : PS) : List Int × PS := if (keyS s).1.kind = 1 then argF (choD s).2 (choD s).2.ws.length else ([], (choD s).2)
def choS (s : PS) : Cho × PS := (⟨(keyS s).1, (choT s).1, (choD s).1, (choA s).1⟩, ⟨(choA s).2.ws, (choA s).2.bad || decide ((choA s).2.ws ≠ [])⟩)
theorem argF_succ (s : PS) (k : Nat) (w : List UInt8) (h : s.ws[k]? = some w) : argF s (k + 1) = ((argF s k).1 ++ [(numS (argF s k).2).1], (numS (argF s k).2).2) := by
  have hd : s.ws.drop k = w :: s.ws.drop (k + 1) := by
    obtain ⟨h1, rfl⟩ := List.getElem?_eq_some_iff.1 h
    exact List.drop_eq_getElem_cons h1
  have ht : s.ws.take (k + 1) = s.ws.take k ++ [w] := by rw [List.take_add_one, h]; rfl
  unfold argF numS wordS
  simp only [hd, ht, List.map_append, List.map_cons, List.map_nil, List.all_append, List.all_cons, List.all_nil, Bool.and_true, Bool.not_and, Bool.or_assoc]
/-- bad stays bad -/
theorem wordS_bad {s : PS} (h : s.bad = true) : (wordS s).2.bad = true := by
  unfold wordS
  split
  · rfl
  · exact h
theorem numS_bad {s : PS} (h : s.bad = true) : (numS s).2.bad = true := by simp [numS, wordS_bad h]
/-- how the reference parses: keys, choices -/
def fix2 (w : List (List UInt8)) : Option (List Int × List (List UInt8)) := match w with
  | a :: n :: r => if numOk a && numOk n then some ([numV a, numV n], r) else none
  | _ => none
def fix3 (w : List (List UInt8)) : Option (List Int × List (List UInt8)) := match w with
  | a :: b :: n :: r => if numOk a && numOk b && numOk n then some ([numV a, numV b, numV n], r) else none
  | _ => none
/-- a text's line by the scanner -/
def lineC (l : List UInt8) : Option Cho := if (choS ⟨splitC 32 l, false⟩).2.bad = true then none else some (choS ⟨splitC 32 l, false⟩).1
def keyC (l : List UInt8) : Option Key := if ((keyS ⟨splitC 32 l, false⟩).2.bad = true ∨ (keyS ⟨splitC 32 l, false⟩).2.ws ≠ []) then none else some (keyS ⟨splitC 32 l, false⟩).1
/-- the error of a line -/
def errLine (acc : List Cho) (l : List UInt8) : Int := match lineC l with
  | none => 6
  | some c => if okC c = false then 1 else if (acc.any fun x => eqB x.key c.key) = true then 5 else if 96 ≤ acc.length then 3 else 0
/-- what is parsed so far: the choices; the offset and the error, where there is one -/
structure TS where
  l : List Cho
  at_ : Nat
  err : Int
/-- the line at an offset -/
def lineAt (s : List UInt8) (k : Nat) : List UInt8 := (s.drop k).takeWhile (· != 10)
def stepT (s : List UInt8) (x : List Cho × Nat) : Option TS ⊕ (List Cho × Nat) :=
  if s.length ≤ x.2 then .inl none
  else if s.length ≤ x.2 + (lineAt s x.2).length then .inl (some ⟨[], x.2, 6⟩)
  else if errLine x.1 (lineAt s x.2) ≠ 0 then .inl (some ⟨[], x.2, errLine x.1 (lineAt s x.2)⟩)
  else .inr (x.1 ++ (lineC (lineAt s x.2)).toList, x.2 + (lineAt s x.2).length + 1)
def parseF : Nat → List UInt8 → List Cho × Nat → TS
  | 0, _, x => ⟨x.1, 0, 0⟩
  | f + 1, s, x => match stepT s x with
    | .inl none => ⟨setL x.1, 0, 0⟩
    | .inl (some t) => t
    | .inr y => parseF f s y
def parseT (s : List UInt8) : TS := parseF (s.length + 1) s ([], 0)
end ChoP
/- Plain mathematics of texts: how the reference parses a line, and that the scanner parses the same. No program here. -/
namespace ChoP
open Go
/-- a number out of the next word -/
def takeN (w : List (List UInt8)) : Option (Int × List (List UInt8)) := match w with
  | [] => none
  | x :: r => if numOk x = true then some (numV x, r) else none
/-- the first n numbers -/
def fixS : Nat → List (List UInt8) → Option (List Int × List (List UInt8))
  | 0, r => some ([], r)
  | n + 1, r => (fixS n r).bind fun p => (takeN p.2).map fun q => (p.1 ++ [q.1], q.2)
def needK (k : Int) : Nat := if pairB k = true then 3 else 2
def keyOfFix (k : Nat) (f : List Int) : Key := ⟨(k : Int), f.getD 0 0, if pairB (k : Int) = true then f.getD 1 0 else 0, f.getD (needK (k : Int) - 1) 0⟩
def refKey (w : List (List UInt8)) : Option (Key × List (List UInt8)) := match w with
  | [] => none
  | x :: r => if kindOf x = 0 then none else (fixS (needK (kindOf x : Int)) r).map fun p => (keyOfFix (kindOf x) p.1, p.2)
def refT (k : Int) (w : List (List UInt8)) : Option (Int × List (List UInt8)) := if timedB k = true then (match w with
  | [] => none
  | x :: r => if x = [97, 116] then takeN r else none) else some (0, w)
def refD (k : Int) (w : List (List UInt8)) : Option (Int × List (List UInt8)) := if measuredB k = true then takeN w else some (0, w)
def refA (k : Int) (w : List (List UInt8)) : Option (List Int) := if k = 1 then (if w.all numOk = true then some (w.map numV) else none) else (if w = [] then some [] else none)
def refC (w : List (List UInt8)) : Option Cho := (refKey w).bind fun p => (refT p.1.kind p.2).bind fun t => (refD p.1.kind t.2).bind fun d => (refA p.1.kind d.2).map fun a => ⟨p.1, t.1, d.1, a⟩
def refK (w : List (List UInt8)) : Option Key := (refKey w).bind fun p => if p.2 = [] then some p.1 else none
theorem takeN_ok {x : List UInt8} (h : numOk x = true) (r : List (List UInt8)) : takeN (x :: r) = some (numV x, r) := by
  show (if numOk x = true then some (numV x, r) else none) = _
  rw [if_pos h]
theorem takeN_no {x : List UInt8} (h : numOk x = false) (r : List (List UInt8)) : takeN (x :: r) = none := by
  show (if numOk x = true then some (numV x, r) else none) = _
  rw [if_neg (by rw [h]; simp)]
theorem numS_take (w : List (List UInt8)) : (takeN w = none → (numS ⟨w, false⟩).2.bad = true) ∧ ∀ v r, takeN w = some (v, r) → numS ⟨w, false⟩ = (v, ⟨r, false⟩) := by
  cases w with
  | nil => exact ⟨fun _ => rfl, fun v r h => by cases h⟩
  | cons x r =>
    cases h : numOk x
    · rw [takeN_no h]
      exact ⟨fun _ => by simp [numS, wordS, h], fun v r' e => by cases e⟩
    · rw [takeN_ok h]
      refine ⟨fun e => (by cases e), fun v r' e => ?_⟩
      simp only [Option.some.injEq, Prod.mk.injEq] at e
      obtain ⟨rfl, rfl⟩ := e
      simp [numS, wordS, h]
theorem keyN_bad {s : PS} (h : (keyA s).2.bad = true) : (keyN s).2.bad = true := by
  unfold keyN
  refine numS_bad ?_
  unfold keyB
  split
  · exact numS_bad h
  · exact h
theorem keyS_ref (w : List (List UInt8)) : (refKey w = none → (keyS ⟨w, false⟩).2.bad = true) ∧ ∀ k r, refKey w = some (k, r) → keyS ⟨w, false⟩ = (k, ⟨r, false⟩) := by
  cases w with
  | nil => exact ⟨fun _ => by unfold keyS; split <;> rfl, fun k r h => by cases h⟩
  | cons x rest =>
    by_cases h0 : kindOf x = 0
    · have e : refKey (x :: rest) = none := by simp [refKey, h0]
      rw [e]
      refine ⟨fun _ => ?_, fun k r h => by cases h⟩
      have : keyS ⟨x :: rest, false⟩ = (⟨0, 0, 0, 0⟩, ⟨rest, true⟩) := by
        unfold keyS
        rw [if_pos (show kindOf (wordS ⟨x :: rest, false⟩).1 = 0 from h0)]
        rfl
      rw [this]
    · have eK : keyS ⟨x :: rest, false⟩ = (⟨(kindOf x : Int), (keyA ⟨x :: rest, false⟩).1, (keyB ⟨x :: rest, false⟩).1, (keyN ⟨x :: rest, false⟩).1⟩, (keyN ⟨x :: rest, false⟩).2) := by
        unfold keyS
        rw [if_neg (show ¬ kindOf (wordS ⟨x :: rest, false⟩).1 = 0 from h0)]
        rfl
      have eA : keyA ⟨x :: rest, false⟩ = numS ⟨rest, false⟩ := rfl
      have eR : refKey (x :: rest) = (fixS (needK (kindOf x : Int)) rest).map fun p => (keyOfFix (kindOf x) p.1, p.2) := by simp [refKey, h0]
      rw [eK, eR]
      obtain ⟨a1, a2⟩ := numS_take rest
      cases hA : takeN rest with
      | none =>
        have hf : ∀ n, fixS (n + 1) rest = none := by
          intro n
          induction n with
          | zero => simp [fixS, hA]
          | succ n ih => rw [fixS, ih]; rfl
        have hn : fixS (needK (kindOf x : Int)) rest = none := by unfold needK; split <;> exact hf _
        rw [hn]
        exact ⟨fun _ => keyN_bad (by rw [eA]; exact a1 hA), fun k r h => by cases h⟩
      | some p =>
        obtain ⟨a, r1⟩ := p
        have eA1 := a2 a r1 hA
        have f1 : fixS 1 rest = some ([a], r1) := by simp [fixS, hA]
        by_cases hp : pairB (kindOf x : Int) = true
        · have hneed : needK (kindOf x : Int) = 3 := by simp [needK, hp]
          have eB : keyB ⟨x :: rest, false⟩ = numS ⟨r1, false⟩ := by
            unfold keyB
            rw [if_pos (show pairB (kindOf (wordS ⟨x :: rest, false⟩).1 : Int) = true from hp), eA, eA1]
          obtain ⟨b1, b2⟩ := numS_take r1
          cases hB : takeN r1 with
          | none =>
            have f3 : fixS 3 rest = none := by
              rw [fixS, fixS, f1]
              simp [hB]
            rw [hneed, f3]
            exact ⟨fun _ => numS_bad (by rw [eB]; exact b1 hB), fun k r h => by cases h⟩
          | some p =>
            obtain ⟨b, r2⟩ := p
            have eB1 := b2 b r2 hB
            obtain ⟨c1, c2⟩ := numS_take r2
            have eN : keyN ⟨x :: rest, false⟩ = numS ⟨r2, false⟩ := by unfold keyN; rw [eB, eB1]
            have f2 : fixS 2 rest = some ([a, b], r2) := by rw [fixS, f1]; simp [hB]
            cases hN : takeN r2 with
            | none =>
              have f3 : fixS 3 rest = none := by rw [fixS, f2]; simp [hN]
              rw [hneed, f3]
              exact ⟨fun _ => by rw [eN]; exact c1 hN, fun k r h => by cases h⟩
            | some p =>
              obtain ⟨n, r3⟩ := p
              have f3 : fixS 3 rest = some ([a, b, n], r3) := by rw [fixS, f2]; simp [hN]
              rw [hneed, f3]
              refine ⟨fun h => (by cases h), fun k r h => ?_⟩
              simp only [Option.map_some, Option.some.injEq, Prod.mk.injEq] at h
              obtain ⟨rfl, rfl⟩ := h
              rw [eN, c2 n _ hN, eB, eB1, eA, eA1]
              simp [keyOfFix, hp, hneed]
        · have hp' : pairB (kindOf x : Int) = false := by simpa using hp
          have hneed : needK (kindOf x : Int) = 2 := by simp [needK, hp']
          have eB : keyB ⟨x :: rest, false⟩ = (0, ⟨r1, false⟩) := by
            unfold keyB
            rw [if_neg (show ¬ pairB (kindOf (wordS ⟨x :: rest, false⟩).1 : Int) = true from hp), eA, eA1]
          obtain ⟨c1, c2⟩ := numS_take r1
          have eN : keyN ⟨x :: rest, false⟩ = numS ⟨r1, false⟩ := by unfold keyN; rw [eB]
          cases hN : takeN r1 with
          | none =>
            have f2 : fixS 2 rest = none := by rw [fixS, f1]; simp [hN]
            rw [hneed, f2]
            exact ⟨fun _ => by rw [eN]; exact c1 hN, fun k r h => by cases h⟩
          | some p =>
            obtain ⟨n, r3⟩ := p
            have f2 : fixS 2 rest = some ([a, n], r3) := by rw [fixS, f1]; simp [hN]
            rw [hneed, f2]
            refine ⟨fun h => (by cases h), fun k r h => ?_⟩
            simp only [Option.map_some, Option.some.injEq, Prod.mk.injEq] at h
            obtain ⟨rfl, rfl⟩ := h
            rw [eN, c2 n _ hN, eB, eA, eA1]
            simp [keyOfFix, hp', hneed]
theorem choT_bad {s : PS} (h : (keyS s).2.bad = true) : (choT s).2.bad = true := by
  unfold choT
  split
  · refine numS_bad ?_
    show (_ || (wordS (keyS s).2).2.bad) = true
    rw [wordS_bad h, Bool.or_true]
  · exact h
theorem choD_bad {s : PS} (h : (choT s).2.bad = true) : (choD s).2.bad = true := by
  unfold choD
  split
  · exact numS_bad h
  · exact h
theorem choS_bad {s : PS} (h : (choD s).2.bad = true) : (choS s).2.bad = true := by
  have h2 : (choA s).2.bad = true := by
    unfold choA
    split
    · show ((choD s).2.bad || _) = true
      rw [h, Bool.true_or]
    · exact h
  show ((choA s).2.bad || _) = true
  rw [h2, Bool.true_or]
theorem choS_ref (w : List (List UInt8)) : (refC w = none → (choS ⟨w, false⟩).2.bad = true) ∧ ∀ c, refC w = some c → choS ⟨w, false⟩ = (c, ⟨[], false⟩) := by
  obtain ⟨k1, k2⟩ := keyS_ref w
  cases hK : refKey w with
  | none =>
    have e : refC w = none := by simp [refC, hK]
    exact ⟨fun _ => choS_bad (choD_bad (choT_bad (k1 hK))), fun c h => by rw [e] at h; cases h⟩
  | some p =>
    obtain ⟨k, r1⟩ := p
    have eK := k2 k r1 hK
    have hT : (refT k.kind r1 = none → (choT ⟨w, false⟩).2.bad = true) ∧ ∀ t r, refT k.kind r1 = some (t, r) → choT ⟨w, false⟩ = (t, ⟨r, false⟩) := by
      unfold choT refT
      rw [eK]
      by_cases ht : timedB k.kind = true
      · simp only [ht, if_true]
        cases r1 with
        | nil => exact ⟨fun _ => numS_bad (by simp [atW, wordS]), fun t r h => by cases h⟩
        | cons x r =>
          by_cases hx : x = [97, 116]
          · have e : atW ⟨x :: r, false⟩ = ⟨r, false⟩ := by simp [atW, wordS, hx]
            simp only [hx, if_true]
            rw [← hx, e]
            exact numS_take r
          · have e : atW ⟨x :: r, false⟩ = ⟨r, true⟩ := by simp [atW, wordS, hx]
            simp only [hx, if_false]
            rw [e]
            exact ⟨fun _ => numS_bad rfl, fun t r h => by cases h⟩
      · dsimp only
        rw [if_neg ht, if_neg ht]
        refine ⟨fun h => (by cases h), fun t r h => ?_⟩
        simp only [Option.some.injEq, Prod.mk.injEq] at h
        obtain ⟨rfl, rfl⟩ := h
        rfl
    cases h1 : refT k.kind r1 with
    | none =>
      have e : refC w = none := by simp [refC, hK, h1]
      exact ⟨fun _ => choS_bad (choD_bad (hT.1 h1)), fun c h => by rw [e] at h; cases h⟩
    | some p =>
      obtain ⟨t, r2⟩ := p
      have eT := hT.2 t r2 h1
      have hD : (refD k.kind r2 = none → (choD ⟨w, false⟩).2.bad = true) ∧ ∀ d r, refD k.kind r2 = some (d, r) → choD ⟨w, false⟩ = (d, ⟨r, false⟩) := by
        unfold choD refD
        rw [eK, eT]
        by_cases hm : measuredB k.kind = true
        · simp only [hm, if_true]
          exact numS_take r2
        · dsimp only
          rw [if_neg hm, if_neg hm]
          refine ⟨fun h => (by cases h), fun t r h => ?_⟩
          simp only [Option.some.injEq, Prod.mk.injEq] at h
          obtain ⟨rfl, rfl⟩ := h
          rfl
      cases h2 : refD k.kind r2 with
      | none =>
        have e : refC w = none := by simp [refC, hK, h1, h2]
        exact ⟨fun _ => choS_bad (hD.1 h2), fun c h => by rw [e] at h; cases h⟩
      | some p =>
        obtain ⟨d, r3⟩ := p
        have eD := hD.2 d r3 h2
        have eC : refC w = (refA k.kind r3).map fun a => ⟨k, t, d, a⟩ := by simp [refC, hK, h1, h2]
        have eS : choS ⟨w, false⟩ = (⟨k, t, d, (choA ⟨w, false⟩).1⟩, ⟨(choA ⟨w, false⟩).2.ws, (choA ⟨w, false⟩).2.bad || decide ((choA ⟨w, false⟩).2.ws ≠ [])⟩) := by
          unfold choS
          rw [eK, eT, eD]
        have eA : choA ⟨w, false⟩ = if k.kind = 1 then argF ⟨r3, false⟩ r3.length else ([], ⟨r3, false⟩) := by
          unfold choA
          rw [eK, eD]
        rw [eC, eS, eA]
        unfold refA
        by_cases hk : k.kind = 1
        · simp only [hk, if_true, argF, List.take_length, List.drop_length, Bool.false_or, ne_eq, not_true_eq_false, decide_false, Bool.or_false]
          cases ha : r3.all numOk
          · exact ⟨fun _ => rfl, fun c h => by simp at h⟩
          · refine ⟨fun h => (by simp at h), fun c h => ?_⟩
            simp only [if_true, Option.map_some, Option.some.injEq] at h
            subst h
            rfl
        · simp only [hk, if_false, Bool.false_or]
          by_cases hr : r3 = []
          · subst hr
            refine ⟨fun h => (by simp at h), fun c h => ?_⟩
            simp only [if_true, Option.map_some, Option.some.injEq] at h
            subst h
            rfl
          · simp only [hr, if_false]
            exact ⟨fun _ => by simp [hr], fun c h => by cases h⟩
/-- the scanner and the reference parse the same choices and keys -/
theorem lineC_ref (l : List UInt8) : lineC l = refC (splitC 32 l) := by
  obtain ⟨h1, h2⟩ := choS_ref (splitC 32 l)
  unfold lineC
  cases h : refC (splitC 32 l) with
  | none => rw [if_pos (h1 h)]
  | some c => rw [h2 c h, if_neg (by simp)]
theorem keyC_ref (l : List UInt8) : keyC l = refK (splitC 32 l) := by
  obtain ⟨h1, h2⟩ := keyS_ref (splitC 32 l)
  unfold keyC refK
  cases h : refKey (splitC 32 l) with
  | none => rw [if_pos (.inl (h1 h))]; rfl
  | some p =>
    obtain ⟨k, r⟩ := p
    rw [h2 k r h, Option.bind_some]
    by_cases hr : r = []
    · rw [if_pos hr, if_neg (by simp [hr])]
    · rw [if_neg hr, if_pos (.inr hr)]
end ChoP
/- Plain mathematics of texts: the text of a set is parsed to it; the text of a key to it; what is parsed is in bounds. No program here. -/
namespace ChoP
open Go
theorem kind_word : ∀ n : Fin 10, 1 ≤ n.val → kindOf (words.getD n.val []) = n.val := by decide
theorem word_sp : ∀ n : Fin 10, (32 : UInt8) ∉ words.getD n.val [] ∧ (10 : UInt8) ∉ words.getD n.val [] := by decide
theorem itoa_no (v : Int) : (32 : UInt8) ∉ Lib.itoa v ∧ (10 : UInt8) ∉ Lib.itoa v := by
  have hd : ∀ u, (32 : UInt8) ∉ Lib.decDigits u ∧ (10 : UInt8) ∉ Lib.decDigits u := fun u =>
    ⟨fun h => by have := (dec_all u _ h).1; simp at this, fun h => by have := (dec_all u _ h).1; simp at this⟩
  unfold Lib.itoa
  split
  · exact ⟨fun h => by rcases List.mem_cons.1 h with h | h; cases h; exact (hd _).1 h, fun h => by rcases List.mem_cons.1 h with h | h; cases h; exact (hd _).2 h⟩
  · exact hd _
theorem takeN_itoa {v : Int} (h : InI v) (r : List (List UInt8)) : takeN (Lib.itoa v :: r) = some (v, r) := by
  obtain ⟨h1, h2⟩ := num_itoa v h
  rw [takeN_ok h2, h1]
/-- the words of a choice behind its key -/
def restWords (c : Cho) : List (List UInt8) := (if timedB c.key.kind = true then [[97, 116], Lib.itoa c.t] else []) ++ (if measuredB c.key.kind = true then [Lib.itoa c.d] else []) ++ c.args.map Lib.itoa
theorem small_in {x : Int} (h0 : 0 ≤ x) (h1 : x ≤ 65535) : InI x := by unfold InI; omega
theorem refKey_words {k : Key} (h : keyOK k = true) (r : List (List UInt8)) : refKey (keyWords k ++ r) = some (k, r) := by
  simp only [keyOK, inB, Bool.and_eq_true, decide_eq_true_eq] at h
  obtain ⟨⟨⟨⟨k1, k2⟩, k3, k4⟩, k5, k6⟩, k7, k8⟩ := h
  obtain ⟨kd, ka, kb, kn⟩ := k
  simp only at *
  obtain ⟨n, rfl⟩ := Int.eq_ofNat_of_zero_le (show 0 ≤ kd by omega)
  have hn : n < 10 := by omega
  have hk : kindOf (words.getD n []) = n := kind_word ⟨n, hn⟩ (by show 1 ≤ n; omega)
  have ia := small_in k3 (by omega)
  have ib : InI kb := by
    refine small_in k5 ?_
    split at k6 <;> omega
  have iN := small_in k7 k8
  have hn0 : ¬ n = 0 := by omega
  by_cases hp : pairB (n : Int) = true
  · have e : keyWords ⟨(n : Int), ka, kb, kn⟩ ++ r = words.getD n [] :: Lib.itoa ka :: Lib.itoa kb :: Lib.itoa kn :: r := by simp [keyWords, hp]
    rw [e]
    simp only [refKey, hk, hn0, if_false]
    have f3 : fixS 3 (Lib.itoa ka :: Lib.itoa kb :: Lib.itoa kn :: r) = some ([ka, kb, kn], r) := by
      simp [fixS, takeN_itoa ia, takeN_itoa ib, takeN_itoa iN]
    have hneed : needK (n : Int) = 3 := by simp [needK, hp]
    rw [hneed, f3]
    simp [keyOfFix, hp, hneed]
  · have hp' : pairB (n : Int) = false := by simpa using hp
    have e : keyWords ⟨(n : Int), ka, kb, kn⟩ ++ r = words.getD n [] :: Lib.itoa ka :: Lib.itoa kn :: r := by simp [keyWords, hp']
    rw [e]
    simp only [refKey, hk, hn0, if_false]
    have f2 : fixS 2 (Lib.itoa ka :: Lib.itoa kn :: r) = some ([ka, kn], r) := by
      simp [fixS, takeN_itoa ia, takeN_itoa iN]
    have hneed : needK (n : Int) = 2 := by simp [needK, hp']
    rw [hneed, f2]
    have hb : kb = 0 := by
      rw [hp'] at k6
      simp at k6
      omega
    simp [keyOfFix, hp', hneed, hb]
theorem refC_words {c : Cho} (hok : okC c = true) (hr : ∀ v ∈ c.args, InI v) : refC (keyWords c.key ++ restWords c) = some c := by
  simp only [okC, choOK, inB, Bool.and_eq_true, decide_eq_true_eq] at hok
  obtain ⟨⟨⟨k0, t1, t2⟩, d1, d2⟩, a1⟩ := hok
  obtain ⟨k, t, d, ar⟩ := c
  simp only at *
  have hT : InI t := by
    have : (if timedB k.kind = true then (200 : Int) else 0) ≤ 200 := by split <;> omega
    exact small_in t1 (by omega)
  have hl : 0 ≤ lowD k.kind := by unfold lowD; split <;> omega
  have hh : highD k.kind ≤ 200 := by unfold highD; repeat (first | omega | split)
  have hD : InI d := small_in (by omega) (by omega)
  unfold refC
  rw [refKey_words k0, Option.bind_some]
  have e1 : refT k.kind (restWords ⟨k, t, d, ar⟩) = some (t, (if measuredB k.kind = true then [Lib.itoa d] else []) ++ ar.map Lib.itoa) := by
    unfold refT restWords
    by_cases ht : timedB k.kind = true
    · simp only [ht, if_true, List.cons_append, List.nil_append]
      exact takeN_itoa hT _
    · rw [if_neg ht, if_neg ht, List.nil_append]
      have : t = 0 := by rw [if_neg ht] at t2; omega
      rw [this]
  have e2 : refD k.kind ((if measuredB k.kind = true then [Lib.itoa d] else []) ++ ar.map Lib.itoa) = some (d, ar.map Lib.itoa) := by
    unfold refD
    by_cases hm : measuredB k.kind = true
    · simp only [hm, if_true, List.cons_append, List.nil_append]
      exact takeN_itoa hD _
    · rw [if_neg hm, if_neg hm, List.nil_append]
      have : d = 0 := by
        simp only [measuredB, Bool.or_eq_true, beq_iff_eq, not_or] at hm
        have h0 : highD k.kind = 0 := by
          unfold highD
          simp [hm.1.1.1.1, hm.1.1.1.2, hm.1.1.2, hm.1.2, hm.2]
        omega
      rw [this]
  have e3 : refA k.kind (ar.map Lib.itoa) = some ar := by
    unfold refA
    by_cases hk : k.kind = 1
    · have h1 : (ar.map Lib.itoa).all numOk = true := by
        rw [List.all_eq_true]
        intro x hx
        obtain ⟨v, hv, rfl⟩ := List.mem_map.1 hx
        exact (num_itoa v (hr v hv)).2
      have h2 : (ar.map Lib.itoa).map numV = ar := by
        rw [List.map_map]
        exact (List.map_congr_left fun v hv => (num_itoa v (hr v hv)).1).trans (List.map_id' ar)
      rw [if_pos hk, if_pos h1, h2]
    · have : ar = [] := by
        have : (k.kind == 1) = false := by simpa using hk
        rw [this] at a1
        simp at a1
        exact a1
      rw [if_neg hk, this]
      rfl
  rw [e1, Option.bind_some, e2, Option.bind_some, e3]
  rfl
theorem keyWords_no {k : Key} (h : keyOK k = true) : ∀ x ∈ keyWords k, (32 : UInt8) ∉ x ∧ (10 : UInt8) ∉ x := by
  simp only [keyOK, inB, Bool.and_eq_true, decide_eq_true_eq] at h
  obtain ⟨⟨⟨⟨k1, k2⟩, _⟩, _⟩, _⟩ := h
  intro x hx
  unfold keyWords at hx
  have hw : words.getD k.kind.toNat [] = words.getD (⟨k.kind.toNat, by omega⟩ : Fin 10).val [] := rfl
  rcases List.mem_append.1 hx with hx | hx
  · rcases List.mem_append.1 hx with hx | hx
    · rcases List.mem_cons.1 hx with rfl | hx
      · rw [hw]; exact word_sp _
      · rw [List.mem_singleton] at hx; subst hx; exact itoa_no _
    · split at hx
      · rw [List.mem_singleton] at hx; subst hx; exact itoa_no _
      · cases hx
  · rw [List.mem_singleton] at hx; subst hx; exact itoa_no _
theorem restWords_no (c : Cho) : ∀ x ∈ restWords c, (32 : UInt8) ∉ x ∧ (10 : UInt8) ∉ x := by
  intro x hx
  unfold restWords at hx
  rcases List.mem_append.1 hx with hx | hx
  · rcases List.mem_append.1 hx with hx | hx
    · split at hx
      · rcases List.mem_cons.1 hx with rfl | hx
        · exact ⟨by decide, by decide⟩
        · rw [List.mem_singleton] at hx; subst hx; exact itoa_no _
      · cases hx
    · split at hx
      · rw [List.mem_singleton] at hx; subst hx; exact itoa_no _
      · cases hx
  · obtain ⟨v, _, rfl⟩ := List.mem_map.1 hx
    exact itoa_no _
theorem keyWords_cons (k : Key) : ∃ a r, keyWords k = a :: r := ⟨_, _, rfl⟩
theorem keyC_text {k : Key} (h : keyOK k = true) : keyC (keyText k) = some k := by
  obtain ⟨a, r, e⟩ := keyWords_cons k
  have hn := keyWords_no h
  rw [keyC_ref]
  unfold keyText
  rw [e, splitC_join 32 a r (fun y hy => (hn y (by rw [e]; exact hy)).1), ← e]
  unfold refK
  have := refKey_words h []
  rw [List.append_nil] at this
  rw [this]
  rfl
theorem lineText_eq (c : Cho) : ∃ a r, keyWords c.key = a :: r ∧ lineText c = Lib.join (a :: (r ++ restWords c)) [32] := by
  obtain ⟨a, r, e⟩ := keyWords_cons c.key
  refine ⟨a, r, e, ?_⟩
  have e2 : lineWords c = keyText c.key :: restWords c := by simp [lineWords, restWords]
  unfold lineText
  rw [e2, keyText, e, join_join]
theorem lineC_text {c : Cho} (hok : okC c = true) (hr : ∀ v ∈ c.args, InI v) : lineC (lineText c) = some c := by
  obtain ⟨a, r, e, e2⟩ := lineText_eq c
  have hk : keyOK c.key = true := by simp only [okC, choOK, Bool.and_eq_true] at hok; exact hok.1.1.1
  have hn : ∀ y ∈ a :: (r ++ restWords c), (32 : UInt8) ∉ y := fun y hy => by
    rcases List.mem_cons.1 hy with rfl | hy
    · exact (keyWords_no hk _ (by rw [e]; simp)).1
    · rcases List.mem_append.1 hy with hy | hy
      · exact (keyWords_no hk _ (by rw [e]; simp [hy])).1
      · exact (restWords_no c y hy).1
  rw [lineC_ref, e2, splitC_join 32 a _ hn, ← List.cons_append, ← e]
  exact refC_words hok hr
theorem joinTail_no {r : List (List UInt8)} (h : ∀ y ∈ r, (10 : UInt8) ∉ y) : (10 : UInt8) ∉ Lib.joinTail [32] r := by
  unfold Lib.joinTail
  intro hm
  obtain ⟨l, hl, hm⟩ := List.mem_flatten.1 hm
  obtain ⟨y, hy, rfl⟩ := List.mem_map.1 hl
  rcases List.mem_append.1 hm with hm | hm
  · simp at hm
  · exact h y hy hm
theorem lineText_no {c : Cho} (hok : okC c = true) : (10 : UInt8) ∉ lineText c := by
  obtain ⟨a, r, e, e2⟩ := lineText_eq c
  have hk : keyOK c.key = true := by simp only [okC, choOK, Bool.and_eq_true] at hok; exact hok.1.1.1
  rw [e2, Lib.join_cons]
  intro hm
  rcases List.mem_append.1 hm with hm | hm
  · exact (keyWords_no hk a (by rw [e]; simp)).2 hm
  · refine joinTail_no (fun y hy => ?_) hm
    rcases List.mem_append.1 hy with hy | hy
    · exact (keyWords_no hk y (by rw [e]; simp [hy])).2
    · exact (restWords_no c y hy).2
theorem takeWhile_no {l r : List UInt8} (h : (10 : UInt8) ∉ l) : (l ++ 10 :: r).takeWhile (· != 10) = l := by
  induction l with
  | nil => simp
  | cons x t ih =>
    have hx : (x != 10) = true := by
      have : x ≠ 10 := fun e => h (by simp [e])
      simpa using this
    rw [List.cons_append, List.takeWhile_cons, hx, if_pos rfl, ih (fun e => h (List.mem_cons_of_mem _ e))]
theorem parse_put : ∀ (l2 l1 : List Cho) (f : Nat), Ord (l1 ++ l2) → (∀ x ∈ l1 ++ l2, okC x = true) → (∀ x ∈ l1 ++ l2, ∀ v ∈ x.args, InI v) → (l1 ++ l2).length ≤ 96 → l2.length < f →
    parseF f (setText (l1 ++ l2)) (l1, (setText l1).length) = ⟨setL (l1 ++ l2), 0, 0⟩
  | [], l1, f, ho, hok, hr, h96, hf => by
    obtain ⟨f, rfl⟩ : ∃ g, f = g + 1 := ⟨f - 1, by omega⟩
    have e : stepT (setText (l1 ++ [])) (l1, (setText l1).length) = .inl none := by
      unfold stepT
      rw [if_pos (by simp)]
    rw [parseF, e]
    simp
  | c :: l2, l1, f, ho, hok, hr, h96, hf => by
    obtain ⟨f, rfl⟩ : ∃ g, f = g + 1 := ⟨f - 1, by omega⟩
    have hT : setText (l1 ++ c :: l2) = setText l1 ++ (lineText c ++ 10 :: setText l2) := by simp [setText]
    have hc := hok c (by simp)
    have hL : lineAt (setText (l1 ++ c :: l2)) (setText l1).length = lineText c := by
      unfold lineAt
      rw [hT, List.drop_left, takeWhile_no (lineText_no hc)]
    have hlen : (setText (l1 ++ c :: l2)).length = (setText l1).length + ((lineText c).length + ((setText l2).length + 1)) := by rw [hT]; simp
    have hkeys : (l1.any fun x => eqB x.key c.key) = false := by
      rw [List.any_eq_false]
      intro x hx
      rw [Bool.not_eq_true, eqB_false]
      intro e
      have := (List.pairwise_append.1 ho).2.2 x hx c (by simp)
      rw [e] at this
      exact ltK_irrefl _ this
    have hE : errLine l1 (lineText c) = 0 := by
      unfold errLine
      rw [lineC_text hc (hr c (by simp))]
      simp only [hc, hkeys]
      rw [if_neg (by simp), if_neg (by simp), if_neg (by simp at h96; omega)]
    have e : stepT (setText (l1 ++ c :: l2)) (l1, (setText l1).length) = .inr (l1 ++ [c], (setText (l1 ++ [c])).length) := by
      unfold stepT
      simp only [hL, hE]
      rw [if_neg (by omega), if_neg (by omega), if_neg (by simp), lineC_text hc (hr c (by simp))]
      simp [setText]
      omega
    rw [parseF, e]
    have := parse_put l2 (l1 ++ [c]) f (by simpa using ho) (by simpa using hok) (by simpa using hr) (by simpa using h96) (by simp at hf; omega)
    simpa using this
/-- the text of a set is parsed to it -/
theorem parseT_text {l : List Cho} (h : IsSet l) (hr : ∀ x ∈ l, ∀ v ∈ x.args, InI v) : parseT (setText l) = ⟨l, 0, 0⟩ := by
  have hl : l.length ≤ (setText l).length := by
    clear h hr
    induction l with
    | nil => simp
    | cons c r ih =>
      have e : setText (c :: r) = lineText c ++ [10] ++ setText r := by simp [setText]
      rw [e]
      simp
      omega
  have := parse_put l [] ((setText l).length + 1) h.ord h.ok hr h.le (by omega)
  unfold parseT
  simp only [List.nil_append] at this
  rw [show (setText []).length = 0 from rfl] at this
  rw [this, h.set]
theorem kindTo_lt : ∀ (n : Nat) (w : List UInt8), kindTo n w ≤ n - 1
  | 0, _ => Nat.le_refl _
  | n + 1, w => by
    rw [kindTo]
    split
    · omega
    · have := kindTo_lt n w
      omega
theorem in0 : InI 0 := by unfold InI; omega
/-- what the scanner makes is in bounds -/
theorem keyS_in (s : PS) : (0 ≤ (keyS s).1.kind ∧ (keyS s).1.kind ≤ 9) ∧ InI (keyS s).1.a ∧ InI (keyS s).1.b ∧ InI (keyS s).1.n := by
  unfold keyS
  split
  · exact ⟨⟨(by decide : (0 : Int) ≤ 0), (by decide : (0 : Int) ≤ 9)⟩, in0, in0, in0⟩
  · have := kindTo_lt 10 (wordS s).1
    refine ⟨⟨by simp, by unfold kindOf; simp; omega⟩, numV_in _, ?_, numV_in _⟩
    unfold keyB
    split
    · exact numV_in _
    · exact in0
theorem choS_in (s : PS) : InI (choT s).1 ∧ InI (choD s).1 ∧ ∀ v ∈ (choA s).1, InI v := by
  refine ⟨?_, ?_, ?_⟩
  · unfold choT
    split
    · exact numV_in _
    · exact in0
  · unfold choD
    split
    · exact numV_in _
    · exact in0
  · unfold choA
    split
    · intro v hv
      obtain ⟨w, _, rfl⟩ := List.mem_map.1 hv
      exact numV_in w
    · intro v hv
      cases hv
end ChoP
/- Plain mathematics of texts: the steps of the parser of sets. No program here. -/
namespace ChoP
open Go
theorem idx_line (d : List UInt8) : (Lib.indexByte d 10 = -1 ∧ (d.takeWhile (· != 10)).length = d.length) ∨ (Lib.indexByte d 10 = ((d.takeWhile (· != 10)).length : Int) ∧ (d.takeWhile (· != 10)).length < d.length) := by
  induction d with
  | nil => exact .inl ⟨rfl, rfl⟩
  | cons b l ih =>
    by_cases hb : b = 10
    · subst hb
      exact .inr ⟨by simp [Lib.indexByte], by simp⟩
    · have h1 : (b == 10) = false := beq_false_of_ne hb
      have h2 : (b != 10) = true := by simp [hb]
      rw [List.takeWhile_cons, h2, if_pos rfl]
      rcases ih with ⟨e1, e2⟩ | ⟨e1, e2⟩
      · refine .inl ⟨?_, by simp [e2]⟩
        rw [Lib.indexByte, h1, e1]
        simp
      · refine .inr ⟨?_, by simp; omega⟩
        rw [Lib.indexByte, h1, e1]
        have : (((l.takeWhile (· != 10)).length : Int) == -1) = false := by rw [beq_eq_false_iff_ne]; omega
        rw [if_neg (by simp), this, if_neg (by simp)]
        simp
theorem takeWhile_take (d : List UInt8) : d.take (d.takeWhile (· != 10)).length = d.takeWhile (· != 10) := by
  induction d with
  | nil => rfl
  | cons b l ih =>
    rw [List.takeWhile_cons]
    split
    · simp [ih]
    · simp
theorem errNew_app {acc : List Cho} {c : Cho} (h : errNew acc = 0) (hok : okC c = true) (hd : (acc.any fun x => eqB x.key c.key) = false) (hl : acc.length < 96) : errNew (acc ++ [c]) = 0 := by
  have h1 : acc.all okC = true := by
    unfold errNew at h
    cases e : acc.all okC
    · rw [e] at h; simp at h
    · rfl
  have h2 : nodupB acc = true := by
    unfold errNew at h
    rw [h1] at h
    cases e : nodupB acc
    · rw [e] at h; simp at h
    · rfl
  have h3 : nodupB (acc ++ [c]) = true := by
    rw [nodup_iff] at h2 ⊢
    rw [List.pairwise_append]
    refine ⟨h2, by simp, fun x hx y hy => ?_⟩
    simp at hy
    subst hy
    have := List.any_eq_false.1 hd x hx
    rw [Bool.not_eq_true, eqB_false] at this
    exact this
  unfold errNew
  rw [List.all_append, h1, h3]
  simp [hok]
  omega
theorem errNew_le {l : List Cho} (h : errNew l = 0) : l.length ≤ 96 := by
  unfold errNew at h
  split at h
  · cases h
  · split at h
    · cases h
    · split at h
      · cases h
      · omega
theorem parse_end {f k : Nat} {l : List UInt8} {acc : List Cho} (h : l.length ≤ k) : parseF (f + 1) l (acc, k) = ⟨setL acc, 0, 0⟩ := by
  have e : stepT l (acc, k) = .inl none := by unfold stepT; rw [if_pos h]
  rw [parseF, e]
theorem parse_none {f k : Nat} {l : List UInt8} {acc : List Cho} (h : k < l.length) (h2 : l.length ≤ k + (lineAt l k).length) : parseF (f + 1) l (acc, k) = ⟨[], k, 6⟩ := by
  have e : stepT l (acc, k) = .inl (some ⟨[], k, 6⟩) := by
    unfold stepT
    rw [if_neg (by show ¬ l.length ≤ k; omega), if_pos h2]
  rw [parseF, e]
theorem parse_err {f k : Nat} {l : List UInt8} {acc : List Cho} {e : Int} (h : k < l.length) (h2 : k + (lineAt l k).length < l.length) (he : errLine acc (lineAt l k) = e) (h0 : e ≠ 0) : parseF (f + 1) l (acc, k) = ⟨[], k, e⟩ := by
  have e : stepT l (acc, k) = .inl (some ⟨[], k, e⟩) := by
    unfold stepT
    rw [if_neg (by show ¬ l.length ≤ k; omega), if_neg (by show ¬ l.length ≤ k + (lineAt l k).length; omega), if_pos (by rw [he]; exact h0), he]
  rw [parseF, e]
theorem parse_ok {f k : Nat} {l : List UInt8} {acc : List Cho} {c : Cho} (h : k < l.length) (h2 : k + (lineAt l k).length < l.length) (he : errLine acc (lineAt l k) = 0) (hc : lineC (lineAt l k) = some c) : parseF (f + 1) l (acc, k) = parseF f l (acc ++ [c], k + (lineAt l k).length + 1) := by
  have e : stepT l (acc, k) = .inr (acc ++ [c], k + (lineAt l k).length + 1) := by
    unfold stepT
    rw [if_neg (by show ¬ l.length ≤ k; omega), if_neg (by show ¬ l.length ≤ k + (lineAt l k).length; omega), if_neg (by rw [he]; simp), hc]
    rfl
  rw [parseF, e]
theorem err_form {acc : List Cho} {ln : List UInt8} (h : lineC ln = none) : errLine acc ln = 6 := by unfold errLine; rw [h]
theorem err_arg {acc : List Cho} {ln : List UInt8} {c : Cho} (h : lineC ln = some c) (h1 : okC c = false) : errLine acc ln = 1 := by unfold errLine; rw [h]; simp [h1]
theorem err_dup {acc : List Cho} {ln : List UInt8} {c : Cho} (h : lineC ln = some c) (h1 : okC c = true) (h2 : (acc.any fun x => eqB x.key c.key) = true) : errLine acc ln = 5 := by
  unfold errLine; rw [h]; dsimp only; rw [if_neg (by rw [h1]; simp), if_pos h2]
theorem err_full {acc : List Cho} {ln : List UInt8} {c : Cho} (h : lineC ln = some c) (h1 : okC c = true) (h2 : (acc.any fun x => eqB x.key c.key) = false) (h3 : 96 ≤ acc.length) : errLine acc ln = 3 := by
  unfold errLine; rw [h]; dsimp only; rw [if_neg (by rw [h1]; simp), if_neg (by rw [h2]; simp), if_pos h3]
theorem err_none {acc : List Cho} {ln : List UInt8} {c : Cho} (h : lineC ln = some c) (h1 : okC c = true) (h2 : (acc.any fun x => eqB x.key c.key) = false) (h3 : acc.length < 96) : errLine acc ln = 0 := by
  unfold errLine; rw [h]; dsimp only; rw [if_neg (by rw [h1]; simp), if_neg (by rw [h2]; simp), if_neg (by omega)]
end ChoP
