/- The place of a key in a list of choices. -/
import Derived.Test.YtpniilgkceadeaaGreatDoorChoNew
import Derived.Test.YtpniilgkceadeaaGreatDoorChoKeyText
import Derived.Lib.QuietBelow
namespace ChoP
/-- the place of a key: how many choices have a lesser one -/
def posK (l : List Cho) (k : Key) : Nat := (l.takeWhile fun x => lessB x.key k).length
def hasK (l : List Cho) (k : Key) : Bool := l.any fun x => eqB x.key k
theorem posK_eq (l : List Cho) (k : Key) (i : Nat) (hi : i ≤ l.length) (h1 : ∀ (m : Nat) (x : Cho), m < i → l[m]? = some x → ltK x.key k) (h2 : ∀ (m : Nat) (x : Cho), i ≤ m → l[m]? = some x → ¬ ltK x.key k) : posK l k = i := by
  induction l generalizing i with
  | nil => simp at hi; subst hi; rfl
  | cons y r ih =>
    unfold posK
    cases i with
    | zero =>
      have := h2 0 y (Nat.le_refl _) rfl
      rw [List.takeWhile_cons, if_neg (by rw [lessB_iff]; exact this)]
      rfl
    | succ i =>
      have := h1 0 y (by omega) rfl
      rw [List.takeWhile_cons, if_pos ((lessB_iff _ _).2 this), List.length_cons]
      have := ih i (by simpa using hi) (fun m x hm hx => h1 (m + 1) x (by omega) (by simpa using hx)) (fun m x hm hx => h2 (m + 1) x (by omega) (by simpa using hx))
      unfold posK at this
      rw [this]
theorem hasK_pos {l : List Cho} (ho : Ord l) (k : Key) (i : Nat) (h1 : ∀ (m : Nat) (x : Cho), m < i → l[m]? = some x → ltK x.key k) (h2 : ∀ (m : Nat) (x : Cho), i ≤ m → l[m]? = some x → ¬ ltK x.key k) (x : Cho) (hx : l[i]? = some x) : hasK l k = eqB x.key k := by
  rw [Bool.eq_iff_iff, eqB_iff, hasK, List.any_eq_true]
  constructor
  · rintro ⟨y, hy, e⟩
    rw [eqB_iff] at e
    obtain ⟨m, hm⟩ := List.getElem?_of_mem hy
    rcases Nat.lt_trichotomy m i with h | h | h
    · have := h1 m y h hm
      rw [e] at this
      exact absurd this (ltK_irrefl _)
    · subst h
      rw [hx] at hm
      cases hm
      exact e
    · unfold Ord at ho
      rw [List.pairwise_iff_getElem] at ho
      obtain ⟨ha, rfl⟩ := List.getElem?_eq_some_iff.1 hx
      obtain ⟨hb, rfl⟩ := List.getElem?_eq_some_iff.1 hm
      have := ho i m ha hb h
      rw [e] at this
      exact absurd this (h2 i _ (Nat.le_refl _) hx)
  · intro e
    exact ⟨x, List.mem_of_getElem? hx, (eqB_iff _ _).2 e⟩
theorem hasK_none (l : List Cho) (k : Key) (h1 : ∀ (m : Nat) (x : Cho), m < l.length → l[m]? = some x → ltK x.key k) : hasK l k = false := by
  rw [hasK, List.any_eq_false]
  intro x hx e
  rw [eqB_iff] at e
  obtain ⟨m, hm⟩ := List.getElem?_of_mem hx
  have := h1 m x (List.getElem?_eq_some_iff.1 hm).1 hm
  rw [e] at this
  exact ltK_irrefl _ this
end ChoP
