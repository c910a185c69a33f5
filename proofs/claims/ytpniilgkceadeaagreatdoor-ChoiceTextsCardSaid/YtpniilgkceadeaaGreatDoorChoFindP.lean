/- The place of a key in a list of choices. -/
import Derived.Test.YtpniilgkceadeaaGreatDoorChoNew
import Derived.Test.YtpniilgkceadeaaGreatDoorChoKeyText
import Derived.Lib.QuietBelow
namespace ChoP
/-- the place of a key: how many choices have a lesser one -/
def posK (l : List Cho) (k : Key) : Nat := (l.takeWhile fun x => lessB x.key k).length
def hasK (l : List Cho) (k : Key) : Bool := l.any fun x => eqB x.key k
theorem posK_eq (l : List Cho) (k : Key) (i : Nat) (hi : i ≤ l.length) (h1 : ∀ (m : Nat) (x : Cho), m < i → l[m]? = some x → ltK x.key k) (h2 : ∀ (m : Nat) (x : Cho), i ≤ m → l[m]? = some x → ¬ ltK x.key k) : posK l k = i := by
  induction l generalizing i with
  | nil => simp at hi; subst hi; rfl
  | cons y r ih =>
    unfold posK
    cases i with
    | zero =>
      have := h2 0 y (Nat.le_refl _) rfl
      rw [List.takeWhile_cons, if_neg (by rw [lessB_iff]; exact this)]
      rfl
    | succ i =>
      have := h1 0 y (by omega) rfl
      rw [List.takeWhile_cons, if_pos ((lessB_iff _ _).2 this), List.length_cons]
      have := ih i (by simpa using hi) (fun m x hm hx => h1 (m + 1) x (by omega) (by simpa using hx)) (fun m x hm hx => h2 (m + 1) x (by omega) (by simpa using hx))
      unfold posK at this
      rw [this]
theorem hasK_pos {l : List Cho} (ho : Ord l) (k : Key) (i : Nat) (h1 : ∀ (m : Nat) (x : Cho), m < i → l[m]? = some x → ltK x.key k) (h2 : ∀ (m : Nat) (x : Cho), i ≤ m → l[m]? = some x → ¬ ltK x.key k) (x : Cho) (hx : l[i]? = some x) : hasK l k = eqB x.key k := by
  rw [Bool.eq_iff_iff, eqB_iff, hasK, List.any_eq_true]
  constructor
  · rintro ⟨y, hy, e⟩
    rw [eqB_iff] at e
    obtain ⟨m, hm⟩ := List.getElem?_of_mem hy
    rcases Nat.lt_trichotomy m i with h | h | h
    · have := h1 m y h hm
      rw [e] at this
      exact absurd this (ltK_irrefl _)
    · subst h
      rw [hx] at hm
      cases hm
      exact e
    · unfold Ord at ho
      rw [List.pairwise_iff_getElem] at ho
      obtain ⟨ha, rfl⟩ := List.getElem?_eq_some_iff.1 hx
      obtain ⟨hb, rfl⟩ := List.getElem?_eq_some_iff.1 hm
      have := ho i m ha hb h
      rw [e] at this
      exact absurd this (h2 i _ (Nat.le_refl _) hx)
  · intro e
    exact ⟨x, List.mem_of_getElem? hx, (eqB_iff _ _).2 e⟩
theorem hasK_none (l : List Cho) (k : Key) (h1 : ∀ (m : Nat) (x : Cho), m < l.length → l[m]? = some x → ltK x.key k) : hasK l k = false := by
  rw [hasK, List.any_eq_false]
  intro x hx e
  rw [eqB_iff] at e
  obtain ⟨m, hm⟩ := List.getElem?_of_mem hx
  have := h1 m x (List.getElem?_eq_some_iff.1 hm).1 hm
  rw [e] at this
  exact ltK_irrefl _ this
end ChoP
/- One more choice in a set: what the lists are; slices that are cut. -/
namespace ChoP
theorem posK_le (l : List Cho) (k : Key) : posK l k ≤ l.length := by
  unfold posK
  exact (List.takeWhile_prefix _).length_le
theorem ins_eq (l : List Cho) (x : Cho) : ins l x = l.take (posK l x.key) ++ x :: l.drop (posK l x.key) := by
  induction l with
  | nil => rfl
  | cons y r ih =>
    unfold posK at *
    rw [ins, List.takeWhile_cons]
    split
    · rename_i h
      simp only [List.length_cons, List.take_succ_cons, List.drop_succ_cons, List.cons_append]
      rw [ih]
    · simp
theorem isort_snoc (l : List Cho) (x : Cho) : isort (l ++ [x]) = ins (isort l) x := by simp [isort, List.foldl_append]
theorem nodup_snoc {l : List Cho} (ho : Ord l) (x : Cho) : nodupB (l ++ [x]) = !hasK l x.key := by
  rw [Bool.eq_iff_iff, nodup_iff, List.pairwise_append]
  have h1 := (nodup_iff l).1 ho.nodup
  constructor
  · rintro ⟨_, _, h⟩
    simp only [Bool.not_eq_true', hasK, List.any_eq_false]
    intro y hy e
    exact h y hy x (by simp) ((eqB_iff _ _).1 e)
  · intro h
    refine ⟨h1, by simp, fun y hy z hz e => ?_⟩
    simp only [List.mem_cons, List.not_mem_nil, or_false] at hz
    subst hz
    simp only [Bool.not_eq_true', hasK, List.any_eq_false] at h
    exact h y hy ((eqB_iff _ _).2 e)
theorem errNew_snoc {l : List Cho} (ho : Ord l) (hok : l.all okC = true) {x : Cho} (hx : okC x = true) : errNew (l ++ [x]) = if hasK l x.key = true then 5 else if 96 ≤ l.length then 3 else 0 := by
  unfold errNew
  rw [nodup_snoc ho, List.all_append, hok]
  simp only [List.all_cons, hx, List.all_nil, Bool.and_true, Bool.true_eq_false, if_false, List.length_append, List.length_cons, List.length_nil]
  cases hasK l x.key
  · simp
    by_cases h : 96 ≤ l.length
    · rw [if_pos (by omega), if_pos h]
    · rw [if_neg (by omega), if_neg h]
  · simp
theorem setL_snoc {l : List Cho} (ho : Ord l) {x : Cho} (he : errNew (l ++ [x]) = 0) : setL (l ++ [x]) = l.take (posK l x.key) ++ x :: l.drop (posK l x.key) := by
  unfold setL
  rw [if_pos he, isort_snoc, isort_of_ord ho, ins_eq]
end ChoP
namespace Go.Proofs.YtpniilgkceadeaaGreatDoor
open Go.RowKit
theorem Lie.take {w : World} {B : Nat} {A : Option Addr} {xs : List Value} (h : Lie w B A xs) (n : Nat) : Lie w B A (xs.take n) := fun hx => by
  obtain ⟨b, o, e, hb, hc⟩ := h (by rintro rfl; simp at hx)
  refine ⟨b, o, e, hb, fun j u hu => hc j u ?_⟩
  rw [List.getElem?_take] at hu
  split at hu
  · exact hu
  · cases hu
theorem cellsP_split (ps : List Pair) (n : Nat) (hn : n ≤ ps.length) : cellsP (ps.take n) = (cellsP ps).take (n * 7) ∧ cellsP (ps.drop n) = (cellsP ps).drop (n * 7) := by
  have h := cellsP_append (ps.take n) (ps.drop n)
  rw [List.take_append_drop] at h
  have hl : (cellsP (ps.take n)).length = n * 7 := by rw [cellsP_len, List.length_take, Nat.min_eq_left hn]
  rw [h]
  exact ⟨(List.take_left' hl).symm, (List.drop_left' hl).symm⟩
theorem Lie.cut {w : World} {B : Nat} {A : Option Addr} {xs : List Value} (h : Lie w B A xs) (pos n c : Nat) (hl : xs.length = n * 7) (hn : n ≤ c) : Lie w B (if c = pos then A else Option.map (fun x => x.add (pos * 7)) A) (xs.drop (pos * 7)) := fun hx => by
  obtain ⟨b, o, rfl, hb, hc⟩ := h (by rintro rfl; simp at hx)
  have hlt : pos * 7 < xs.length := by
    rcases Nat.lt_or_ge (pos * 7) xs.length with h | h
    · exact h
    · exact absurd (List.drop_of_length_le h) hx
  rw [if_neg (by omega), Option.map_some, addr_add]
  refine ⟨b, o + pos * 7, rfl, hb, fun j u hu => ?_⟩
  rw [List.getElem?_drop] at hu
  rw [Nat.add_assoc]
  exact hc _ u hu
theorem Lie.grown {w w' : World} {B : Nat} {A : Option Addr} {xs : List Value} {row : Option Nat} (h : Lie w B A xs) (hg : w.grownBy w' row) (hB : B ≤ w.heap.size) (hne : ∀ b o, A = some ⟨b, o, none⟩ → b < B → some b ≠ row) : Lie w' w'.heap.size A xs := fun hx => by
  obtain ⟨b, o, e, hb, hc⟩ := h hx
  have := hg.size
  exact ⟨b, o, e, by omega, fun j u hu => (World.cell?_of_block (a := ⟨b, o + j, none⟩) (hg.block b (by omega) (hne b o e hb))).trans (hc j u hu)⟩
theorem RowIs.grown {w w' : World} {B : Nat} {r : Row} {x : ChoP.Cho} {row : Option Nat} (h : RowIs w B r x) (hg : w.grownBy w' row) (hB : B ≤ w.heap.size) (hne : ∀ b o, r.p = some ⟨b, o, none⟩ → b < B → some b ≠ row) : RowIs w' w'.heap.size r x :=
  ⟨h.key, h.t, h.d, h.n, h.c, h.m, h.lie.grown hg hB hne⟩
theorem cellsP_one (ps : List Pair) : ∀ u ∈ cellsP ps, u.oneCell' = true := by
  intro u hu
  simp only [cellsP, List.mem_flatMap] at hu
  obtain ⟨p, _, hu⟩ := hu
  simp only [encP, Row.vs, List.mem_cons, List.not_mem_nil, or_false] at hu
  rcases hu with rfl | rfl | rfl | rfl | rfl | rfl | rfl <;> rfl
theorem box1 {w w1 : World} {v : Value} {T : TypeId} {b : Nat} (h : w.heap[b]? = some (.cells #[v] T (0, 0))) (hb : Below (b + 1) w w1) : w1.cell? ⟨b, 0, none⟩ = some v ∧ w1.frozen? ⟨b, 0, none⟩ = false :=
  ⟨cell_at ((hb.block b (by omega)).trans h) 0 _ rfl, frozen_at ((hb.block b (by omega)).trans h) 0⟩
end Go.Proofs.YtpniilgkceadeaaGreatDoor
