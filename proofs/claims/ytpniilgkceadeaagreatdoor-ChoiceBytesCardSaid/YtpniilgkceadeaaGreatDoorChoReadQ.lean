/- Plain mathematics of reading: choices and sets out of bytes; what is read is what was written. No program here. -/
import Derived.Test.YtpniilgkceadeaaGreatDoorChoReadP
namespace ChoP
def InR' (x : Cho) : Prop := ∀ v ∈ x.args, -9223372036854775808 ≤ v ∧ v ≤ 9223372036854775807
def fieldsS : Nat → RS → List Nat × RS
  | 0, s => ([], s)
  | k + 1, s => ((fieldsS k s).1 ++ [(uintS 65535 (fieldsS k s).2).1], (uintS 65535 (fieldsS k s).2).2)
def argsS : Nat → RS → List Int × RS
  | 0, s => ([], s)
  | k + 1, s => ((argsS k s).1 ++ [(intS (argsS k s).2).1], (intS (argsS k s).2).2)
def choOf (k : Nat) (f : List Nat) (xs : List Int) : Cho := ⟨⟨(k : Int), (f.getD 0 0 : Int), (f.getD 1 0 : Int), (f.getD 2 0 : Int)⟩, (f.getD 3 0 : Int), (f.getD 4 0 : Int), xs⟩
def r1 (s : RS) : List Nat × RS := fieldsS 5 (byteS s).2
def r2 (s : RS) : Nat × RS := uintS 4 (r1 s).2
def r3 (s : RS) : List Int × RS := argsS (r2 s).1 (r2 s).2
def readOneS (s : RS) : Cho × RS := (choOf (byteS s).1 (r1 s).1 (r3 s).1, (r3 s).2)
def badR (l : List Cho) (c : Cho) (s : RS) : Bool := (s.err != 0) || !okC c || (match l.getLast? with | none => false | some y => !lessB y.key c.key)
def stepR (x : List Cho × RS) : Option (List Cho × RS) := if badR x.1 (readOneS x.2).1 (readOneS x.2).2 = true then none else some (x.1 ++ [(readOneS x.2).1], (readOneS x.2).2)
def loopR : Nat → RS → Option (List Cho × RS)
  | 0, s => some ([], s)
  | k + 1, s => (loopR k s).bind stepR
def endE (s : RS) : Int := if s.err = 0 then (if s.p = [] then 0 else 6) else s.err
def readF (p : List Nat) : Option (List Cho) := (loopR (uintS 96 ⟨p, 0⟩).1 (uintS 96 ⟨p, 0⟩).2).bind fun x => if endE x.2 = 0 then some x.1 else none
def Byt (p : List Nat) : Prop := ∀ x ∈ p, x < 256
theorem Byt.drop {p : List Nat} (h : Byt p) (n : Nat) : Byt (p.drop n) := fun x hx => h x (List.mem_of_mem_drop hx)
theorem uintR_none {p : List Nat} (h : uintF p = none) : uintR p = (0, 0, 6) := by unfold uintR; rw [h]
theorem uintR_some {p : List Nat} {v n : Nat} (h : uintF p = some (v, n)) : uintR p = (v, n, 0) := by unfold uintR; rw [h]
theorem uintR_cases (p : List Nat) : (uintF p = none ∧ uintR p = (0, 0, 6)) ∨ ∃ v n, uintF p = some (v, n) ∧ uintR p = (v, n, 0) := by
  cases h : uintF p with
  | none => exact .inl ⟨rfl, uintR_none h⟩
  | some x => exact .inr ⟨x.1, x.2, rfl, uintR_some h⟩
theorem uintS_ok {most : Nat} {s : RS} (hb : Byt s.p) (h : (uintS most s).2.err = 0) : s.err = 0 ∧ s.p = putL (uintS most s).1 ++ (uintS most s).2.p ∧ (uintS most s).1 ≤ most ∧ Byt (uintS most s).2.p := by
  unfold uintS at h ⊢
  by_cases he : s.err = 0
  · simp only [he, if_true] at h ⊢
    rcases uintR_cases s.p with ⟨_, e⟩ | ⟨v, n, hu, e⟩
    · simp [e, limE, takeS] at h
    · simp only [e] at h ⊢
      by_cases hm : most < v
      · simp [limE, hm, takeS] at h
      · have hl : limE most v 0 = 0 := by simp [limE, hm]
        obtain ⟨_, hn, hp⟩ := uintF_some hu hb
        simp only [hl, if_true, takeS]
        exact ⟨trivial, hp, by omega, hb.drop n⟩
  · simp only [he, if_false] at h
theorem uintS_byt {most : Nat} {s : RS} (hb : Byt s.p) : Byt (uintS most s).2.p := by
  unfold uintS
  split
  · unfold takeS
    dsimp only
    split
    · exact hb.drop _
    · exact hb
  · exact hb
theorem intS_byt {s : RS} (hb : Byt s.p) : Byt (intS s).2.p := by
  unfold intS
  split
  · unfold takeS
    dsimp only
    split
    · exact hb.drop _
    · exact hb
  · exact hb
theorem byteS_byt {s : RS} (hb : Byt s.p) : Byt (byteS s).2.p := by
  unfold byteS
  split
  · split
    · intro x hx; cases hx
    · rename_i e; intro x hx; exact hb x (by rw [e]; exact List.mem_cons_of_mem _ hx)
  · exact hb
theorem byteS_ok {s : RS} (h : (byteS s).2.err = 0) : s.err = 0 ∧ s.p = (byteS s).1 :: (byteS s).2.p := by
  unfold byteS at h ⊢
  by_cases he : s.err = 0
  · simp only [he, if_true] at h ⊢
    cases hp : s.p with
    | nil => simp [hp] at h
    | cons b r => simp
  · simp only [he, if_false] at h
theorem intS_ok {s : RS} (hb : Byt s.p) (h : (intS s).2.err = 0) : s.err = 0 ∧ s.p = putL (zig (intS s).1) ++ (intS s).2.p ∧ (-9223372036854775808 ≤ (intS s).1 ∧ (intS s).1 ≤ 9223372036854775807) ∧ Byt (intS s).2.p := by
  unfold intS at h ⊢
  by_cases he : s.err = 0
  · simp only [he, if_true] at h ⊢
    rcases uintR_cases s.p with ⟨_, e⟩ | ⟨v, n, hu, e⟩
    · simp [e, takeS] at h
    · simp only [e] at h ⊢
      obtain ⟨hv, hn, hp⟩ := uintF_some hu hb
      simp only [if_true, takeS]
      exact ⟨trivial, by rw [zig_unzig]; exact hp, unzig_in v hv, hb.drop n⟩
  · simp only [he, if_false] at h
theorem fieldsS_ok : ∀ (k : Nat) {s : RS}, Byt s.p → (fieldsS k s).2.err = 0 → s.err = 0 ∧ s.p = (fieldsS k s).1.flatMap putL ++ (fieldsS k s).2.p ∧ (fieldsS k s).1.length = k ∧ Byt (fieldsS k s).2.p
  | 0, s, hb, h => ⟨h, rfl, rfl, hb⟩
  | k + 1, s, hb, h => by
    rw [fieldsS] at h ⊢
    have hb1 : Byt (fieldsS k s).2.p := by
      clear h
      induction k with
      | zero => exact hb
      | succ k ih => rw [fieldsS]; exact uintS_byt ih
    obtain ⟨h1, h2, _, h4⟩ := uintS_ok hb1 h
    obtain ⟨g1, g2, g3, _⟩ := fieldsS_ok k hb h1
    refine ⟨g1, ?_, by simp [g3], h4⟩
    rw [g2, h2]
    simp
theorem argsS_ok : ∀ (k : Nat) {s : RS}, Byt s.p → (argsS k s).2.err = 0 → s.err = 0 ∧ s.p = ((argsS k s).1.flatMap fun x => putL (zig x)) ++ (argsS k s).2.p ∧ (argsS k s).1.length = k ∧ (∀ v ∈ (argsS k s).1, -9223372036854775808 ≤ v ∧ v ≤ 9223372036854775807) ∧ Byt (argsS k s).2.p
  | 0, s, hb, h => ⟨h, rfl, rfl, by simp [argsS], hb⟩
  | k + 1, s, hb, h => by
    rw [argsS] at h ⊢
    have hb1 : Byt (argsS k s).2.p := by
      clear h
      induction k with
      | zero => exact hb
      | succ k ih => rw [argsS]; exact intS_byt ih
    obtain ⟨h1, h2, h3, h4⟩ := intS_ok hb1 h
    obtain ⟨g1, g2, g3, g4, _⟩ := argsS_ok k hb h1
    refine ⟨g1, ?_, by simp [g3], ?_, h4⟩
    · rw [g2, h2]
      simp
    · intro v hv
      rcases List.mem_append.1 hv with hv | hv
      · exact g4 v hv
      · simp at hv; subst hv; exact h3
theorem five {f : List Nat} (h : f.length = 5) : ∃ a b c d e, f = [a, b, c, d, e] := by
  match f, h with
  | [a, b, c, d, e], _ => exact ⟨a, b, c, d, e, rfl⟩
theorem fieldsS_byt {s : RS} (hb : Byt s.p) : ∀ k, Byt (fieldsS k s).2.p
  | 0 => hb
  | k + 1 => by rw [fieldsS]; exact uintS_byt (fieldsS_byt hb k)
theorem readOne_ok {s : RS} (hb : Byt s.p) (h : (readOneS s).2.err = 0) : s.err = 0 ∧ s.p = choBytes (readOneS s).1 ++ (readOneS s).2.p ∧ InR' (readOneS s).1 ∧ Byt (readOneS s).2.p := by
  have hb1 := byteS_byt hb
  have hb2 : Byt (r1 s).2.p := fieldsS_byt hb1 5
  have hb3 : Byt (r2 s).2.p := uintS_byt hb2
  obtain ⟨h1, h2, h3, h4, h5⟩ := argsS_ok (r2 s).1 hb3 h
  obtain ⟨g1, g2, g3, _⟩ := uintS_ok hb2 h1
  obtain ⟨f1, f2, f3, _⟩ := fieldsS_ok 5 hb1 g1
  obtain ⟨e1, e2⟩ := byteS_ok f1
  obtain ⟨a, b, c, d, e, hf⟩ := five f3
  refine ⟨e1, ?_, h4, h5⟩
  have hn : (r3 s).1.length = (r2 s).1 := h3
  have hf' : (r1 s).1 = [a, b, c, d, e] := hf
  have k1 : (r1 s).2.p = putL (r2 s).1 ++ (r2 s).2.p := g2
  have k2 : (r2 s).2.p = ((r3 s).1.flatMap fun x => putL (zig x)) ++ (r3 s).2.p := h2
  have k3 : (byteS s).2.p = (r1 s).1.flatMap putL ++ (r1 s).2.p := f2
  rw [e2, k3, k1, k2, hf']
  simp only [readOneS, choBytes, choOf, hf', hn, List.getD_cons_zero, List.getD_cons_succ, Int.toNat_natCast]
  simp
theorem ord_snoc {l : List Cho} {c : Cho} (h : Ord l) (hc : ∀ y, l.getLast? = some y → ltK y.key c.key) : Ord (l ++ [c]) := by
  unfold Ord
  rw [List.pairwise_append]
  refine ⟨h, by simp, fun x hx y hy => ?_⟩
  simp at hy
  subst hy
  have hne : l ≠ [] := by rintro rfl; cases hx
  have hl := hc (l.getLast hne) (List.getLast?_eq_some_getLast hne)
  obtain ⟨i, hi, rfl⟩ := List.getElem_of_mem hx
  by_cases e : i = l.length - 1
  · have : l.getLast hne = l[i] := by rw [List.getLast_eq_getElem]; congr 1; omega
    rw [← this]; exact hl
  · have h1 := List.pairwise_iff_getElem.1 h i (l.length - 1) hi (by omega) (by omega)
    rw [← List.getLast_eq_getElem hne] at h1
    exact ltK_trans h1 hl
theorem loopR_ok : ∀ (k : Nat) {s : RS} {l : List Cho} {s' : RS}, Byt s.p → loopR k s = some (l, s') → s.p = l.flatMap choBytes ++ s'.p ∧ l.length = k ∧ Ord l ∧ (∀ x ∈ l, okC x = true ∧ InR' x) ∧ Byt s'.p ∧ (s'.err = 0 → s.err = 0)
  | 0, s, l, s', hb, h => by
    simp only [loopR, Option.some.injEq, Prod.mk.injEq] at h
    obtain ⟨rfl, rfl⟩ := h
    exact ⟨rfl, rfl, List.Pairwise.nil, by simp, hb, id⟩
  | k + 1, s, l, s', hb, h => by
    rw [loopR] at h
    cases hk : loopR k s with
    | none => rw [hk] at h; cases h
    | some x =>
      obtain ⟨l1, s1⟩ := x
      rw [hk, Option.bind_some, stepR] at h
      split at h
      · cases h
      · rename_i hbad
        simp only [Option.some.injEq, Prod.mk.injEq] at h
        obtain ⟨rfl, rfl⟩ := h
        simp only [badR, Bool.or_eq_true, not_or, Bool.not_eq_true, bne_eq_false_iff_eq, Bool.not_eq_false'] at hbad
        obtain ⟨⟨he, hok⟩, hls⟩ := hbad
        obtain ⟨g1, g2, g3, g4, g5, g6⟩ := loopR_ok k hb hk
        obtain ⟨q1, q2, q3, q4⟩ := readOne_ok g5 he
        refine ⟨by rw [g1, q2]; simp, by simp [g2], ord_snoc g3 ?_, ?_, q4, fun _ => g6 q1⟩
        · intro y hy
          rw [hy] at hls
          simp only [Bool.not_eq_false'] at hls
          exact (lessB_iff _ _).1 hls
        · intro x hx
          rcases List.mem_append.1 hx with hx | hx
          · exact g4 x hx
          · simp at hx; subst hx; exact ⟨hok, q3⟩
/-- what is read is the set of exactly these bytes -/
theorem readF_ok {p : List Nat} {l : List Cho} (hb : Byt p) (h : readF p = some l) : setBytes l = p ∧ IsSet l ∧ ∀ x ∈ l, InR' x := by
  unfold readF at h
  cases hk : loopR (uintS 96 ⟨p, 0⟩).1 (uintS 96 ⟨p, 0⟩).2 with
  | none => rw [hk] at h; cases h
  | some x =>
    obtain ⟨l1, s1⟩ := x
    rw [hk, Option.bind_some] at h
    by_cases he : endE s1 = 0
    · rw [if_pos he] at h
      cases h
      have hend : s1.err = 0 ∧ s1.p = [] := by
        unfold endE at he
        split at he
        · rename_i e
          split at he
          · rename_i e2; exact ⟨e, e2⟩
          · cases he
        · rename_i e; exact absurd he e
      have hb1 : Byt (uintS 96 ⟨p, 0⟩).2.p := uintS_byt hb
      obtain ⟨g1, g2, g3, g4, _, g6⟩ := loopR_ok _ hb1 hk
      obtain ⟨q1, q2, q3, _⟩ := uintS_ok (most := 96) (s := ⟨p, 0⟩) hb (g6 hend.1)
      have q2' : p = putL (uintS 96 ⟨p, 0⟩).1 ++ (uintS 96 ⟨p, 0⟩).2.p := q2
      refine ⟨?_, ⟨g3, fun x hx => (g4 x hx).1, by show l1.length ≤ 96; omega⟩, fun x hx => (g4 x hx).2⟩
      rw [g1, hend.2, List.append_nil, ← g2] at q2'
      exact q2'.symm
    · rw [if_neg he] at h
      cases h
end ChoP
