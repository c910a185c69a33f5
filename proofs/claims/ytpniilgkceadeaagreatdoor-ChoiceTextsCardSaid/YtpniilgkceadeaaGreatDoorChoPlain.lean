/- Plain mathematics of choices: valid keys and choices, the order of keys. No program here. -/
import Derived.Lib.Join
import Derived.Lib.ItoaNum
namespace ChoP
/-- a key -/
structure Key where
  kind : Int
  a : Int
  b : Int
  n : Int
def inB (v low high : Int) : Bool := decide (low ≤ v) && decide (v ≤ high)
def pairB (k : Int) : Bool := (k == 1) || (k == 5) || (k == 6) || (k == 7)
def timedB (k : Int) : Bool := (k == 1) || (k == 2) || (k == 3) || (k == 4)
def measuredB (k : Int) : Bool := (k == 2) || (k == 3) || (k == 6) || (k == 7) || (k == 9)
/-- a key is valid -/
def keyOK (k : Key) : Bool := inB k.kind 1 9 && inB k.a 0 7 && inB k.b 0 (if pairB k.kind then 7 else 0) && inB k.n 0 65535
def lowD (k : Int) : Int := if (k == 3) || (k == 6) || (k == 9) then 1 else 0
def highD (k : Int) : Int := if k == 2 then 1 else if k == 3 then 3 else if (k == 6) || (k == 7) || (k == 9) then 200 else 0
/-- a choice with that many arguments is valid -/
def choOK (k : Key) (t d : Int) (args : Nat) : Bool := keyOK k && inB t 0 (if timedB k.kind then 200 else 0) && inB d (lowD k.kind) (highD k.kind) && decide (args ≤ if k.kind == 1 then 4 else 0)
def cmpI (x y : Int) : Int := if x < y then -1 else if y < x then 1 else 0
/-- the first number that is not 0 -/
def orI (l : List Int) : Int := (l.find? (fun x => x != 0)).getD 0
def cmpK (x y : Key) : Int := orI [cmpI x.kind y.kind, cmpI x.a y.a, cmpI x.b y.b, cmpI x.n y.n]
def lessB (x y : Key) : Bool := decide (cmpK x y < 0)
end ChoP
/- Plain mathematics of sets of choices: the order of keys, sorting, sets. No program here. -/
namespace ChoP
theorem Key.ext' {x y : Key} (h1 : x.kind = y.kind) (h2 : x.a = y.a) (h3 : x.b = y.b) (h4 : x.n = y.n) : x = y := by
  cases x; cases y; simp_all
/-- the order of keys -/
def ltK (x y : Key) : Prop := x.kind < y.kind ∨ (x.kind = y.kind ∧ (x.a < y.a ∨ (x.a = y.a ∧ (x.b < y.b ∨ (x.b = y.b ∧ x.n < y.n)))))
theorem cmpI_cases (x y : Int) : (x < y ∧ cmpI x y = -1) ∨ (y < x ∧ cmpI x y = 1) ∨ (x = y ∧ cmpI x y = 0) := by
  unfold cmpI
  by_cases h : x < y
  · simp [h]
  · by_cases h2 : y < x
    · simp [h, h2]
    · refine .inr (.inr ⟨by omega, by simp [h, h2]⟩)
theorem orI_cons (x : Int) (l : List Int) : orI (x :: l) = if x = 0 then orI l else x := by
  unfold orI
  by_cases h : x = 0 <;> simp [h]
theorem orI_nil : orI [] = 0 := rfl
theorem cmpK_lt (x y : Key) : cmpK x y < 0 ↔ ltK x y := by
  unfold cmpK ltK
  simp only [orI_cons, orI_nil]
  rcases cmpI_cases x.kind y.kind with ⟨h1, e1⟩ | ⟨h1, e1⟩ | ⟨h1, e1⟩ <;> rcases cmpI_cases x.a y.a with ⟨h2, e2⟩ | ⟨h2, e2⟩ | ⟨h2, e2⟩ <;> rcases cmpI_cases x.b y.b with ⟨h3, e3⟩ | ⟨h3, e3⟩ | ⟨h3, e3⟩ <;> rcases cmpI_cases x.n y.n with ⟨h4, e4⟩ | ⟨h4, e4⟩ | ⟨h4, e4⟩ <;> simp [e1, e2, e3, e4] <;> omega
theorem cmpK_zero (x y : Key) : cmpK x y = 0 ↔ x = y := by
  constructor
  · intro h
    unfold cmpK at h
    simp only [orI_cons, orI_nil] at h
    have k1 : cmpI x.kind y.kind = 0 := by
      rcases cmpI_cases x.kind y.kind with ⟨_, e⟩ | ⟨_, e⟩ | ⟨_, e⟩ <;> rw [e] at h <;> first | exact e | (exact absurd h (by simp))
    rw [k1, if_pos rfl] at h
    have k2 : cmpI x.a y.a = 0 := by
      rcases cmpI_cases x.a y.a with ⟨_, e⟩ | ⟨_, e⟩ | ⟨_, e⟩ <;> rw [e] at h <;> first | exact e | (exact absurd h (by simp))
    rw [k2, if_pos rfl] at h
    have k3 : cmpI x.b y.b = 0 := by
      rcases cmpI_cases x.b y.b with ⟨_, e⟩ | ⟨_, e⟩ | ⟨_, e⟩ <;> rw [e] at h <;> first | exact e | (exact absurd h (by simp))
    rw [k3, if_pos rfl] at h
    have k4 : cmpI x.n y.n = 0 := by
      rcases cmpI_cases x.n y.n with ⟨_, e⟩ | ⟨_, e⟩ | ⟨_, e⟩ <;> rw [e] at h <;> first | exact e | (exact absurd h (by simp))
    have z : ∀ a b : Int, cmpI a b = 0 → a = b := fun a b h => by
      rcases cmpI_cases a b with ⟨_, e⟩ | ⟨_, e⟩ | ⟨h', _⟩
      · rw [e] at h; exact absurd h (by decide)
      · rw [e] at h; exact absurd h (by decide)
      · exact h'
    exact Key.ext' (z _ _ k1) (z _ _ k2) (z _ _ k3) (z _ _ k4)
  · rintro rfl
    have z : ∀ a : Int, cmpI a a = 0 := fun a => by simp [cmpI]
    unfold cmpK
    simp [z, orI]
theorem ltK_irrefl (x : Key) : ¬ ltK x x := by unfold ltK; omega
theorem ltK_trans {x y z : Key} (h1 : ltK x y) (h2 : ltK y z) : ltK x z := by unfold ltK at *; omega
theorem ltK_total (x y : Key) : ltK x y ∨ x = y ∨ ltK y x := by
  by_cases h : x = y
  · exact .inr (.inl h)
  · have : ¬ (x.kind = y.kind ∧ x.a = y.a ∧ x.b = y.b ∧ x.n = y.n) := fun ⟨a, b, c, d⟩ => h (Key.ext' a b c d)
    unfold ltK
    omega
theorem lessB_iff (x y : Key) : lessB x y = true ↔ ltK x y := by unfold lessB; rw [decide_eq_true_iff]; exact cmpK_lt x y
theorem lessB_false (x y : Key) : lessB x y = false ↔ ¬ ltK x y := by rw [← lessB_iff]; simp
def eqB (x y : Key) : Bool := (x.kind == y.kind) && (x.a == y.a) && (x.b == y.b) && (x.n == y.n)
theorem eqB_iff (x y : Key) : eqB x y = true ↔ x = y := by
  unfold eqB
  constructor
  · intro h
    simp at h
    exact Key.ext' h.1.1.1 h.1.1.2 h.1.2 h.2
  · rintro rfl
    simp
theorem eqB_false (x y : Key) : eqB x y = false ↔ x ≠ y := by rw [Ne, ← eqB_iff]; simp
/-- a choice: its key, its tick, its number, its arguments -/
structure Cho where
  key : Key
  t : Int
  d : Int
  args : List Int
def okC (c : Cho) : Bool := choOK c.key c.t c.d c.args.length
/-- no two choices have the same key -/
def nodupB : List Cho → Bool
  | [] => true
  | c :: r => !(r.any fun x => eqB x.key c.key) && nodupB r
def errNew (l : List Cho) : Int := if l.all okC = false then 1 else if nodupB l = false then 5 else if 96 < l.length then 3 else 0
/-- the list is in the order of keys, strictly -/
def Ord (l : List Cho) : Prop := l.Pairwise fun x y => ltK x.key y.key
/-- a choice goes to its place -/
def ins : List Cho → Cho → List Cho
  | [], c => [c]
  | x :: r, c => if lessB x.key c.key = true then x :: ins r c else c :: x :: r
def isort (l : List Cho) : List Cho := l.foldl ins []
def setL (l : List Cho) : List Cho := if errNew l = 0 then isort l else []
theorem nodup_iff (l : List Cho) : nodupB l = true ↔ l.Pairwise fun x y => x.key ≠ y.key := by
  induction l with
  | nil => simp [nodupB]
  | cons c r ih =>
    rw [nodupB, Bool.and_eq_true, ih, List.pairwise_cons]
    simp only [Bool.not_eq_true', List.any_eq_false]
    constructor
    · rintro ⟨h1, h2⟩
      exact ⟨fun x hx e => h1 x hx ((eqB_iff _ _).2 e.symm), h2⟩
    · rintro ⟨h1, h2⟩
      exact ⟨fun x hx e => h1 x hx ((eqB_iff _ _).1 e).symm, h2⟩
theorem ins_perm (l : List Cho) (c : Cho) : (ins l c).Perm (c :: l) := by
  induction l with
  | nil => exact List.Perm.refl _
  | cons x r ih =>
    rw [ins]
    split
    · exact (List.Perm.cons x ih).trans (List.Perm.swap c x r)
    · exact List.Perm.refl _
theorem isort_perm (l : List Cho) : (isort l).Perm l := by
  have h : ∀ (l acc : List Cho), (l.foldl ins acc).Perm (acc ++ l) := by
    intro l
    induction l with
    | nil => intro acc; simp
    | cons c r ih =>
      intro acc
      rw [List.foldl_cons]
      refine (ih (ins acc c)).trans ?_
      refine (List.Perm.append_right r (ins_perm acc c)).trans ?_
      rw [List.cons_append]
      exact (List.perm_middle (l₁ := acc) (l₂ := r) (a := c)).symm
  simpa [isort] using h l []
theorem ins_ord (l : List Cho) (c : Cho) (h : Ord l) (hc : ∀ x ∈ l, x.key ≠ c.key) : Ord (ins l c) := by
  induction l with
  | nil => simp [ins, Ord]
  | cons x r ih =>
    rw [Ord, List.pairwise_cons] at h
    rw [ins]
    split
    · rename_i hl
      rw [Ord, List.pairwise_cons]
      refine ⟨fun y hy => ?_, ih h.2 (fun y hy => hc y (List.mem_cons_of_mem _ hy))⟩
      have := (ins_perm r c).mem_iff.1 hy
      rcases List.mem_cons.1 this with rfl | hy'
      · exact (lessB_iff _ _).1 hl
      · exact h.1 y hy'
    · rename_i hl
      have hn : ¬ ltK x.key c.key := fun e => hl ((lessB_iff _ _).2 e)
      have hcx : ltK c.key x.key := by
        rcases ltK_total x.key c.key with e | e | e
        · exact absurd e hn
        · exact absurd e (hc x (by simp))
        · exact e
      rw [Ord, List.pairwise_cons]
      refine ⟨fun y hy => ?_, by rw [List.pairwise_cons]; exact h⟩
      rcases List.mem_cons.1 hy with rfl | hy'
      · exact hcx
      · exact ltK_trans hcx (h.1 y hy')
theorem nodup_perm {l m : List Cho} (h : l.Perm m) (hn : nodupB l = true) : nodupB m = true := by
  rw [nodup_iff] at *
  exact h.pairwise hn (fun {x y} e => fun e' => e e'.symm)
theorem isort_ord (l : List Cho) (h : nodupB l = true) : Ord (isort l) := by
  have H : ∀ (l acc : List Cho), Ord acc → (acc ++ l).Pairwise (fun x y => x.key ≠ y.key) → Ord (l.foldl ins acc) := by
    intro l
    induction l with
    | nil => intro acc ha _; exact ha
    | cons c r ih =>
      intro acc ha hp
      rw [List.foldl_cons]
      have hp' := List.pairwise_append.1 hp
      refine ih _ (ins_ord acc c ha (fun x hx => hp'.2.2 x hx c (by simp))) ?_
      have hq : (acc ++ c :: r).Perm (ins acc c ++ r) :=
        (List.perm_middle (l₁ := acc) (l₂ := r) (a := c)).trans (by rw [← List.cons_append]; exact List.Perm.append_right r (ins_perm acc c).symm)
      exact hq.pairwise hp (fun {x y} e => fun e' => e e'.symm)
  exact H l [] List.Pairwise.nil (by simpa using (nodup_iff l).1 h)
theorem Ord.nodup {l : List Cho} (h : Ord l) : nodupB l = true := by
  rw [nodup_iff]
  exact List.Pairwise.imp (fun {x y} hxy e => by rw [e] at hxy; exact ltK_irrefl _ hxy) h
/-- two orders of the same choices are one -/
theorem ord_unique : ∀ {l m : List Cho}, Ord l → Ord m → l.Perm m → l = m
  | [], m, _, _, h => (List.Perm.nil_eq h)
  | x :: r, [], _, _, h => absurd h.symm.nil_eq (by simp)
  | x :: r, y :: s, h1, h2, h => by
    rw [Ord, List.pairwise_cons] at h1 h2
    have hx : x = y := by
      have hx := h.mem_iff.1 (List.mem_cons_self (a := x) (l := r))
      have hy := h.symm.mem_iff.1 (List.mem_cons_self (a := y) (l := s))
      rcases List.mem_cons.1 hx with e | e
      · exact e
      · rcases List.mem_cons.1 hy with e' | e'
        · exact e'.symm
        · exact absurd (ltK_trans (h1.1 y e') (h2.1 x e)) (ltK_irrefl _)
    subst hx
    rw [ord_unique h1.2 h2.2 (List.Perm.cons_inv h)]
/-- a list in weak order without equal neighbours is in strict order -/
theorem ord_of_steps : ∀ (l : List Cho), l.Pairwise (fun x y => ¬ ltK y.key x.key) → (∀ (i : Nat) (x y : Cho), l[i]? = some x → l[i + 1]? = some y → x.key ≠ y.key) → Ord l
  | [], _, _ => List.Pairwise.nil
  | [x], _, _ => by simp [Ord]
  | x :: y :: r, hs, hne => by
    rw [List.pairwise_cons] at hs
    have ho := ord_of_steps (y :: r) hs.2 (fun i a b ha hb => hne (i + 1) a b (by simpa using ha) (by simpa using hb))
    have hxy : ltK x.key y.key := by
      rcases ltK_total x.key y.key with e | e | e
      · exact e
      · exact absurd e (hne 0 x y rfl rfl)
      · exact absurd e (hs.1 y (by simp))
    rw [Ord, List.pairwise_cons]
    refine ⟨fun z hz => ?_, ho⟩
    rcases List.mem_cons.1 hz with rfl | hz'
    · exact hxy
    · rw [Ord, List.pairwise_cons] at ho
      exact ltK_trans hxy (ho.1 z hz')
theorem dup_of_step (l : List Cho) (i : Nat) (x y : Cho) (hx : l[i]? = some x) (hy : l[i + 1]? = some y) (h : x.key = y.key) : nodupB l = false := by
  cases hn : nodupB l
  · rfl
  · rw [nodup_iff, List.pairwise_iff_getElem] at hn
    obtain ⟨h1, rfl⟩ := List.getElem?_eq_some_iff.1 hx
    obtain ⟨h2, rfl⟩ := List.getElem?_eq_some_iff.1 hy
    exact absurd h (hn i (i + 1) h1 h2 (by omega))
theorem isort_of_ord {l : List Cho} (h : Ord l) : isort l = l := ord_unique (isort_ord l h.nodup) h (isort_perm l)
theorem isort_eq {l m : List Cho} (hn : nodupB l = true) (hm : Ord m) (hp : m.Perm l) : m = isort l :=
  ord_unique hm (isort_ord l hn) (hp.trans (isort_perm l).symm)
end ChoP
/- Plain mathematics of choices: their texts and their bytes. No program here. -/
namespace ChoP
open Go
/-- the words of the kinds, by their numbers -/
def words : List (List UInt8) := [[], [114, 101, 113, 117, 101, 115, 116], [102, 108, 105, 112], [100, 101, 112, 108, 111, 121], [99, 114, 97, 115, 104], [100, 114, 111, 112], [100, 101, 108, 97, 121], [116, 119, 105, 99, 101], [100, 105, 115, 107], [106, 105, 116, 116, 101, 114]]
def keyWords (k : Key) : List (List UInt8) := [words.getD k.kind.toNat [], Lib.itoa k.a] ++ (if pairB k.kind = true then [Lib.itoa k.b] else []) ++ [Lib.itoa k.n]
/-- the text of a valid key -/
def keyText (k : Key) : List UInt8 := Lib.join (keyWords k) [32]
def lineWords (c : Cho) : List (List UInt8) := [keyText c.key] ++ (if timedB c.key.kind = true then [[97, 116], Lib.itoa c.t] else []) ++ (if measuredB c.key.kind = true then [Lib.itoa c.d] else []) ++ c.args.map Lib.itoa
def lineText (c : Cho) : List UInt8 := Lib.join (lineWords c) [32]
def setText (l : List Cho) : List UInt8 := l.flatMap fun c => lineText c ++ [10]
/-- a number, seven bits to a byte -/
def putF : Nat → Nat → List Nat
  | 0, v => [v]
  | f + 1, v => if v < 128 then [v] else (v % 128 + 128) :: putF f (v / 128)
def putL (v : Nat) : List Nat := putF 10 v
def zig (x : Int) : Nat := if x < 0 then (2 * (-(x + 1)) + 1).toNat else (2 * x).toNat
def choBytes (c : Cho) : List Nat := [c.key.kind.toNat] ++ putL c.key.a.toNat ++ putL c.key.b.toNat ++ putL c.key.n.toNat ++ putL c.t.toNat ++ putL c.d.toNat ++ putL c.args.length ++ c.args.flatMap fun x => putL (zig x)
def setBytes (l : List Cho) : List Nat := putL l.length ++ l.flatMap choBytes
theorem putF_lt (f v : Nat) (h : v < 128 ^ (f + 1)) (hf : f ≤ 20) : ∀ x ∈ putF f v, x < 256 := by
  induction f generalizing v with
  | zero => intro x hx; simp [putF] at hx; subst hx; simp at h; omega
  | succ f ih =>
    intro x hx
    rw [putF] at hx
    split at hx
    · simp at hx; omega
    · rcases List.mem_cons.1 hx with rfl | hx
      · omega
      · exact ih (v / 128) (by rw [Nat.div_lt_iff_lt_mul (by omega)]; rwa [Nat.pow_succ] at h) (by omega) x hx
theorem putF_len (f v : Nat) : 1 ≤ (putF f v).length ∧ (putF f v).length ≤ f + 1 := by
  induction f generalizing v with
  | zero => simp [putF]
  | succ f ih =>
    rw [putF]
    split
    · simp
    · have := ih (v / 128)
      simp
      omega
theorem putL_len (v : Nat) : (putL v).length ≤ 11 := (putF_len 10 v).2
end ChoP
/- Plain mathematics: the valid choices out of any ones, and what With, Without, Equal and Minus make of sets. No program here. -/
namespace ChoP
/-- one more choice, if it fits and there is room -/
def stepV (n : Nat) (acc : List Cho) (c : Cho) : List Cho := if acc.length = n then acc else if errNew (acc ++ [c]) = 0 then setL (acc ++ [c]) else acc
def validL (l : List Cho) (n : Nat) : List Cho := l.foldl (stepV n) []
/-- a set: in strict order, valid, small -/
structure IsSet (l : List Cho) : Prop where
  ord : Ord l
  ok : ∀ x ∈ l, okC x = true
  le : l.length ≤ 96
theorem IsSet.nil : IsSet [] := ⟨List.Pairwise.nil, by simp, by simp⟩
theorem setL_isSet (l : List Cho) : IsSet (setL l) := by
  unfold setL
  split
  · rename_i h
    unfold errNew at h
    split at h
    · cases h
    · rename_i h1
      split at h
      · cases h
      · rename_i h2
        split at h
        · cases h
        · rename_i h3
          refine ⟨isort_ord _ (by simpa using h2), fun x hx => ?_, by rw [(isort_perm l).length_eq]; omega⟩
          have h4 : l.all okC = true := by simpa using h1
          exact List.all_eq_true.1 h4 x ((isort_perm l).mem_iff.1 hx)
  · exact IsSet.nil
theorem setL_len0 {l : List Cho} (h : errNew l = 0) : (setL l).length = l.length := by
  unfold setL
  rw [if_pos h, (isort_perm l).length_eq]
theorem IsSet.err {l : List Cho} (h : IsSet l) : errNew l = 0 := by
  unfold errNew
  rw [List.all_eq_true.2 h.ok, h.ord.nodup]
  have := h.le
  simp
  omega
theorem IsSet.set {l : List Cho} (h : IsSet l) : setL l = l := by
  unfold setL
  rw [if_pos h.err, isort_of_ord h.ord]
theorem stepV_isSet {n : Nat} {acc : List Cho} (h : IsSet acc) (c : Cho) : IsSet (stepV n acc c) := by
  unfold stepV
  split
  · exact h
  · split
    · exact setL_isSet _
    · exact h
theorem stepV_le {n : Nat} {acc : List Cho} (h : acc.length ≤ n) (c : Cho) : (stepV n acc c).length ≤ n := by
  unfold stepV
  split
  · exact h
  · split
    · rename_i h1 h2
      rw [setL_len0 h2]
      simp
      omega
    · exact h
theorem valid_fold (n : Nat) : ∀ (l acc : List Cho), IsSet acc → acc.length ≤ n → IsSet (l.foldl (stepV n) acc) ∧ (l.foldl (stepV n) acc).length ≤ n
  | [], _, h, h2 => ⟨h, h2⟩
  | c :: r, acc, h, h2 => by
    rw [List.foldl_cons]
    exact valid_fold n r _ (stepV_isSet h c) (stepV_le h2 c)
theorem validL_isSet (l : List Cho) (n : Nat) : IsSet (validL l n) := (valid_fold n l [] IsSet.nil (by simp)).1
theorem validL_le (l : List Cho) (n : Nat) : (validL l n).length ≤ n := (valid_fold n l [] IsSet.nil (by simp)).2
theorem valid_take (l : List Cho) (n k : Nat) (x : Cho) (h : l[k]? = some x) : validL (l.take (k + 1)) n = stepV n (validL (l.take k) n) x := by
  unfold validL
  rw [List.take_add_one, h, List.foldl_append]
  rfl
theorem fold_full (n : Nat) : ∀ (l acc : List Cho), acc.length = n → l.foldl (stepV n) acc = acc
  | [], _, _ => rfl
  | c :: r, acc, h => by
    rw [List.foldl_cons]
    have e : stepV n acc c = acc := by unfold stepV; rw [if_pos h]
    rw [e]
    exact fold_full n r acc h
theorem valid_full (l : List Cho) (n k : Nat) (h : (validL (l.take k) n).length = n) : validL l n = validL (l.take k) n := by
  have e : validL l n = (l.drop k).foldl (stepV n) (validL (l.take k) n) := by
    unfold validL
    rw [← List.foldl_append, List.take_append_drop]
  rw [e]
  exact fold_full n _ _ h
/-- all elements are elements of the given list -/
theorem setL_mem {l : List Cho} {x : Cho} (h : x ∈ setL l) : x ∈ l := by
  unfold setL at h
  split at h
  · exact (isort_perm l).mem_iff.1 h
  · cases h
theorem valid_mem_fold (n : Nat) : ∀ (l acc : List Cho) (x : Cho), x ∈ l.foldl (stepV n) acc → x ∈ acc ∨ x ∈ l
  | [], _, _, h => .inl h
  | c :: r, acc, x, h => by
    rw [List.foldl_cons] at h
    rcases valid_mem_fold n r _ x h with h | h
    · unfold stepV at h
      split at h
      · exact .inl h
      · split at h
        · rcases List.mem_append.1 (setL_mem h) with h | h
          · exact .inl h
          · exact .inr (by simp at h; simp [h])
        · exact .inl h
    · exact .inr (List.mem_cons_of_mem _ h)
theorem valid_mem {l : List Cho} {n : Nat} {x : Cho} (h : x ∈ validL l n) : x ∈ l := by
  rcases valid_mem_fold n l [] x h with h | h
  · cases h
  · exact h
end ChoP
