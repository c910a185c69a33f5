/- Plain mathematics of sets of choices: the order of keys, sorting, sets. No program here. -/
import Derived.Test.YtolfbnjmkgikdaaDoorChoPlain
namespace ChoP
theorem Key.ext' {x y : Key} (h1 : x.kind = y.kind) (h2 : x.a = y.a) (h3 : x.b = y.b) (h4 : x.n = y.n) : x = y := by
  cases x; cases y; simp_all
/-- the order of keys -/
def ltK (x y : Key) : Prop := x.kind < y.kind ∨ (x.kind = y.kind ∧ (x.a < y.a ∨ (x.a = y.a ∧ (x.b < y.b ∨ (x.b = y.b ∧ x.n < y.n)))))
theorem cmpI_cases (x y : Int) : (x < y ∧ cmpI x y = -1) ∨ (y < x ∧ cmpI x y = 1) ∨ (x = y ∧ cmpI x y = 0) := by
  unfold cmpI
  by_cases h : x < y
  · simp [h]
  · by_cases h2 : y < x
    · simp [h, h2]
    · refine .inr (.inr ⟨by omega, by simp [h, h2]⟩)
theorem orI_cons (x : Int) (l : List Int) : orI (x :: l) = if x = 0 then orI l else x := by
  unfold orI
  by_cases h : x = 0 <;> simp [h]
theorem orI_nil : orI [] = 0 := rfl
theorem cmpK_lt (x y : Key) : cmpK x y < 0 ↔ ltK x y := by
  unfold cmpK ltK
  simp only [orI_cons, orI_nil]
  rcases cmpI_cases x.kind y.kind with ⟨h1, e1⟩ | ⟨h1, e1⟩ | ⟨h1, e1⟩ <;> rcases cmpI_cases x.a y.a with ⟨h2, e2⟩ | ⟨h2, e2⟩ | ⟨h2, e2⟩ <;> rcases cmpI_cases x.b y.b with ⟨h3, e3⟩ | ⟨h3, e3⟩ | ⟨h3, e3⟩ <;> rcases cmpI_cases x.n y.n with ⟨h4, e4⟩ | ⟨h4, e4⟩ | ⟨h4, e4⟩ <;> simp [e1, e2, e3, e4] <;> omega
theorem cmpK_zero (x y : Key) : cmpK x y = 0 ↔ x = y := by
  constructor
  · intro h
    unfold cmpK at h
    simp only [orI_cons, orI_nil] at h
    have k1 : cmpI x.kind y.kind = 0 := by
      rcases cmpI_cases x.kind y.kind with ⟨_, e⟩ | ⟨_, e⟩ | ⟨_, e⟩ <;> rw [e] at h <;> first | exact e | (exact absurd h (by simp))
    rw [k1, if_pos rfl] at h
    have k2 : cmpI x.a y.a = 0 := by
      rcases cmpI_cases x.a y.a with ⟨_, e⟩ | ⟨_, e⟩ | ⟨_, e⟩ <;> rw [e] at h <;> first | exact e | (exact absurd h (by simp))
    rw [k2, if_pos rfl] at h
    have k3 : cmpI x.b y.b = 0 := by
      rcases cmpI_cases x.b y.b with ⟨_, e⟩ | ⟨_, e⟩ | ⟨_, e⟩ <;> rw [e] at h <;> first | exact e | (exact absurd h (by simp))
    rw [k3, if_pos rfl] at h
    have k4 : cmpI x.n y.n = 0 := by
      rcases cmpI_cases x.n y.n with ⟨_, e⟩ | ⟨_, e⟩ | ⟨_, e⟩ <;> rw [e] at h <;> first | exact e | (exact absurd h (by simp))
    have z : ∀ a b : Int, cmpI a b = 0 → a = b := fun a b h => by
      rcases cmpI_cases a b with ⟨_, e⟩ | ⟨_, e⟩ | ⟨h', _⟩
      · rw [e] at h; exact absurd h (by decide)
      · rw [e] at h; exact absurd h (by decide)
      · exact h'
    exact Key.ext' (z _ _ k1) (z _ _ k2) (z _ _ k3) (z _ _ k4)
  · rintro rfl
    have z : ∀ a : Int, cmpI a a = 0 := fun a => by simp [cmpI]
    unfold cmpK
    simp [z, orI]
theorem ltK_irrefl (x : Key) : ¬ ltK x x := by unfold ltK; omega
theorem ltK_trans {x y z : Key} (h1 : ltK x y) (h2 : ltK y z) : ltK x z := by unfold ltK at *; omega
theorem ltK_total (x y : Key) : ltK x y ∨ x = y ∨ ltK y x := by
  by_cases h : x = y
  · exact .inr (.inl h)
  · have : ¬ (x.kind = y.kind ∧ x.a = y.a ∧ x.b = y.b ∧ x.n = y.n) := fun ⟨a, b, c, d⟩ => h (Key.ext' a b c d)
    unfold ltK
    omega
theorem lessB_iff (x y : Key) : lessB x y = true ↔ ltK x y := by unfold lessB; rw [decide_eq_true_iff]; exact cmpK_lt x y
theorem lessB_false (x y : Key) : lessB x y = false ↔ ¬ ltK x y := by rw [← lessB_iff]; simp
def eqB (x y : Key) : Bool := (x.kind == y.kind) && (x.a == y.a) && (x.b == y.b) && (x.n == y.n)
theorem eqB_iff (x y : Key) : eqB x y = true ↔ x = y := by
  unfold eqB
  constructor
  · intro h
    simp at h
    exact Key.ext' h.1.1.1 h.1.1.2 h.1.2 h.2
  · rintro rfl
    simp
theorem eqB_false (x y : Key) : eqB x y = false ↔ x ≠ y := by rw [Ne, ← eqB_iff]; simp
/-- a choice: its key, its tick, its number, its arguments -/
structure Cho where
  key : Key
  t : Int
  d : Int
  args : List Int
def okC (c : Cho) : Bool := choOK c.key c.t c.d c.args.length
/-- no two choices have the same key -/
def nodupB : List Cho → Bool
  | [] => true
  | c :: r => !(r.any fun x => eqB x.key c.key) && nodupB r
def errNew (l : List Cho) : Int := if l.all okC = false then 1 else if nodupB l = false then 5 else if 96 < l.length then 3 else 0
/-- the list is in the order of keys, strictly -/
def Ord (l : List Cho) : Prop := l.Pairwise fun x y => ltK x.key y.key
/-- a choice goes to its place -/
def ins : List Cho → Cho → List Cho
  | [], c => [c]
  | x :: r, c => if lessB x.key c.key = true then x :: ins r c else c :: x :: r
def isort (l : List Cho) : List Cho := l.foldl ins []
def setL (l : List Cho) : List Cho := if errNew l = 0 then isort l else []
theorem nodup_iff (l : List Cho) : nodupB l = true ↔ l.Pairwise fun x y => x.key ≠ y.key := by
  induction l with
  | nil => simp [nodupB]
  | cons c r ih =>
    rw [nodupB, Bool.and_eq_true, ih, List.pairwise_cons]
    simp only [Bool.not_eq_true', List.any_eq_false]
    constructor
    · rintro ⟨h1, h2⟩
      exact ⟨fun x hx e => h1 x hx ((eqB_iff _ _).2 e.symm), h2⟩
    · rintro ⟨h1, h2⟩
      exact ⟨fun x hx e => h1 x hx ((eqB_iff _ _).1 e).symm, h2⟩
theorem ins_perm (l : List Cho) (c : Cho) : (ins l c).Perm (c :: l) := by
  induction l with
  | nil => exact List.Perm.refl _
  | cons x r ih =>
    rw [ins]
    split
    · exact (List.Perm.cons x ih).trans (List.Perm.swap c x r)
    · exact List.Perm.refl _
theorem isort_perm (l : List Cho) : (isort l).Perm l := by
  have h : ∀ (l acc : List Cho), (l.foldl ins acc).Perm (acc ++ l) := by
    intro l
    induction l with
    | nil => intro acc; simp
    | cons c r ih =>
      intro acc
      rw [List.foldl_cons]
      refine (ih (ins acc c)).trans ?_
      refine (List.Perm.append_right r (ins_perm acc c)).trans ?_
      rw [List.cons_append]
      exact (List.perm_middle (l₁ := acc) (l₂ := r) (a := c)).symm
  simpa [isort] using h l []
theorem ins_ord (l : List Cho) (c : Cho) (h : Ord l) (hc : ∀ x ∈ l, x.key ≠ c.key) : Ord (ins l c) := by
  induction l with
  | nil => simp [ins, Ord]
  | cons x r ih =>
    rw [Ord, List.pairwise_cons] at h
    rw [ins]
    split
    · rename_i hl
      rw [Ord, List.pairwise_cons]
      refine ⟨fun y hy => ?_, ih h.2 (fun y hy => hc y (List.mem_cons_of_mem _ hy))⟩
      have := (ins_perm r c).mem_iff.1 hy
      rcases List.mem_cons.1 this with rfl | hy'
      · exact (lessB_iff _ _).1 hl
      · exact h.1 y hy'
    · rename_i hl
      have hn : ¬ ltK x.key c.key := fun e => hl ((lessB_iff _ _).2 e)
      have hcx : ltK c.key x.key := by
        rcases ltK_total x.key c.key with e | e | e
        · exact absurd e hn
        · exact absurd e (hc x (by simp))
        · exact e
      rw [Ord, List.pairwise_cons]
      refine ⟨fun y hy => ?_, by rw [List.pairwise_cons]; exact h⟩
      rcases List.mem_cons.1 hy with rfl | hy'
      · exact hcx
      · exact ltK_trans hcx (h.1 y hy')
theorem nodup_perm {l m : List Cho} (h : l.Perm m) (hn : nodupB l = true) : nodupB m = true := by
  rw [nodup_iff] at *
  exact h.pairwise hn (fun {x y} e => fun e' => e e'.symm)
theorem isort_ord (l : List Cho) (h : nodupB l = true) : Ord (isort l) := by
  have H : ∀ (l acc : List Cho), Ord acc → (acc ++ l).Pairwise (fun x y => x.key ≠ y.key) → Ord (l.foldl ins acc) := by
    intro l
    induction l with
    | nil => intro acc ha _; exact ha
    | cons c r ih =>
      intro acc ha hp
      rw [List.foldl_cons]
      have hp' := List.pairwise_append.1 hp
      refine ih _ (ins_ord acc c ha (fun x hx => hp'.2.2 x hx c (by simp))) ?_
      have hq : (acc ++ c :: r).Perm (ins acc c ++ r) :=
        (List.perm_middle (l₁ := acc) (l₂ := r) (a := c)).trans (by rw [← List.cons_append]; exact List.Perm.append_right r (ins_perm acc c).symm)
      exact hq.pairwise hp (fun {x y} e => fun e' => e e'.symm)
  exact H l [] List.Pairwise.nil (by simpa using (nodup_iff l).1 h)
theorem Ord.nodup {l : List Cho} (h : Ord l) : nodupB l = true := by
  rw [nodup_iff]
  exact List.Pairwise.imp (fun {x y} hxy e => by rw [e] at hxy; exact ltK_irrefl _ hxy) h
/-- two orders of the same choices are one -/
theorem ord_unique : ∀ {l m : List Cho}, Ord l → Ord m → l.Perm m → l = m
  | [], m, _, _, h => (List.Perm.nil_eq h)
  | x :: r, [], _, _, h => absurd h.symm.nil_eq (by simp)
  | x :: r, y :: s, h1, h2, h => by
    rw [Ord, List.pairwise_cons] at h1 h2
    have hx : x = y := by
      have hx := h.mem_iff.1 (List.mem_cons_self (a := x) (l := r))
      have hy := h.symm.mem_iff.1 (List.mem_cons_self (a := y) (l := s))
      rcases List.mem_cons.1 hx with e | e
      · exact e
      · rcases List.mem_cons.1 hy with e' | e'
        · exact e'.symm
        · exact absurd (ltK_trans (h1.1 y e') (h2.1 x e)) (ltK_irrefl _)
    subst hx
    rw [ord_unique h1.2 h2.2 (List.Perm.cons_inv h)]
/-- a list in weak order without equal neighbours is in strict order -/
theorem ord_of_steps : ∀ (l : List Cho), l.Pairwise (fun x y => ¬ ltK y.key x.key) → (∀ (i : Nat) (x y : Cho), l[i]? = some x → l[i + 1]? = some y → x.key ≠ y.key) → Ord l
  | [], _, _ => List.Pairwise.nil
  | [x], _, _ => by simp [Ord]
  | x :: y :: r, hs, hne => by
    rw [List.pairwise_cons] at hs
    have ho := ord_of_steps (y :: r) hs.2 (fun i a b ha hb => hne (i + 1) a b (by simpa using ha) (by simpa using hb))
    have hxy : ltK x.key y.key := by
      rcases ltK_total x.key y.key with e | e | e
      · exact e
      · exact absurd e (hne 0 x y rfl rfl)
      · exact absurd e (hs.1 y (by simp))
    rw [Ord, List.pairwise_cons]
    refine ⟨fun z hz => ?_, ho⟩
    rcases List.mem_cons.1 hz with rfl | hz'
    · exact hxy
    · rw [Ord, List.pairwise_cons] at ho
      exact ltK_trans hxy (ho.1 z hz')
theorem dup_of_step (l : List Cho) (i : Nat) (x y : Cho) (hx : l[i]? = some x) (hy : l[i + 1]? = some y) (h : x.key = y.key) : nodupB l = false := by
  cases hn : nodupB l
  · rfl
  · rw [nodup_iff, List.pairwise_iff_getElem] at hn
    obtain ⟨h1, rfl⟩ := List.getElem?_eq_some_iff.1 hx
    obtain ⟨h2, rfl⟩ := List.getElem?_eq_some_iff.1 hy
    exact absurd h (hn i (i + 1) h1 h2 (by omega))
theorem isort_of_ord {l : List Cho} (h : Ord l) : isort l = l := ord_unique (isort_ord l h.nodup) h (isort_perm l)
theorem isort_eq {l m : List Cho} (hn : nodupB l = true) (hm : Ord m) (hp : m.Perm l) : m = isort l :=
  ord_unique hm (isort_ord l hn) (hp.trans (isort_perm l).symm)
end ChoP
