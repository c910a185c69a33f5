/- Plain mathematics of reading: the bytes of a set read back are the set. -/
import Derived.Test.YtpniilgkceadeaaGreatDoorChoReadQ
import Derived.Test.YtpniilgkceadeaaGreatDoorChoBytes
namespace ChoP
theorem okC_in {x : Cho} (h : okC x = true) : (1 ≤ x.key.kind ∧ x.key.kind ≤ 9) ∧ (0 ≤ x.key.a ∧ x.key.a ≤ 7) ∧ (0 ≤ x.key.b ∧ x.key.b ≤ 7) ∧ (0 ≤ x.key.n ∧ x.key.n ≤ 65535) ∧ (0 ≤ x.t ∧ x.t ≤ 200) ∧ (0 ≤ x.d ∧ x.d ≤ 200) ∧ x.args.length ≤ 4 := by
  simp only [okC, choOK, keyOK, inB, Bool.and_eq_true, decide_eq_true_eq] at h
  obtain ⟨⟨⟨⟨⟨⟨k1, k2⟩, k3⟩, k4⟩, k5⟩, k6⟩, k7⟩ := h
  have hb : (if pairB x.key.kind = true then (7 : Int) else 0) ≤ 7 := by split <;> omega
  have ht : (if timedB x.key.kind = true then (200 : Int) else 0) ≤ 200 := by split <;> omega
  have hl : 0 ≤ lowD x.key.kind := by unfold lowD; split <;> omega
  have hh : highD x.key.kind ≤ 200 := by unfold highD; repeat (first | omega | split)
  have ha : (if (x.key.kind == 1) = true then 4 else 0) ≤ 4 := by split <;> omega
  refine ⟨by omega, by omega, by omega, by omega, by omega, by omega, by omega⟩
theorem setBytes_byt {l : List Cho} (h : IsSet l) (hr : ∀ x ∈ l, InR' x) : Byt (setBytes l) := by
  have hput : ∀ v, v < 18446744073709551616 → ∀ x ∈ putL v, x < 256 := fun v hv => putF_lt 10 v (by simp; omega) (by omega)
  intro x hx
  rcases List.mem_append.1 hx with hx | hx
  · exact hput _ (by have := h.le; omega) x hx
  · obtain ⟨y, hy, hx⟩ := List.mem_flatMap.1 hx
    obtain ⟨k1, k2, k3, k4, k5, k6, k7⟩ := okC_in (h.ok y hy)
    rw [choBytes_eq] at hx
    rcases List.mem_append.1 hx with hx | hx
    · rcases List.mem_append.1 hx with hx | hx
      · simp at hx
        omega
      · obtain ⟨v, hv, hx⟩ := List.mem_flatMap.1 hx
        refine hput v ?_ x hx
        simp only [six, List.mem_cons, List.not_mem_nil, or_false] at hv
        rcases hv with rfl | rfl | rfl | rfl | rfl | rfl <;> omega
    · obtain ⟨v, hv, hx⟩ := List.mem_flatMap.1 hx
      have hz := hr y hy v hv
      refine hput _ ?_ x hx
      unfold zig
      split <;> omega
theorem uintS_put (most v : Nat) (rest : List Nat) (h : v ≤ most) (hm : most < 18446744073709551616) : uintS most ⟨putL v ++ rest, 0⟩ = (v, ⟨rest, 0⟩) := by
  unfold uintS
  have e := uintR_some (uintF_put v rest (by omega))
  simp only [if_true, e]
  have hl : limE most v 0 = 0 := by simp [limE]; omega
  simp only [hl, if_true, takeS, List.drop_left]
theorem intS_put (x : Int) (rest : List Nat) (h : -9223372036854775808 ≤ x ∧ x ≤ 9223372036854775807) : intS ⟨putL (zig x) ++ rest, 0⟩ = (x, ⟨rest, 0⟩) := by
  unfold intS
  have hz : zig x < 18446744073709551616 := by unfold zig; split <;> omega
  have e := uintR_some (uintF_put (zig x) rest hz)
  simp only [if_true, e, takeS, List.drop_left, unzig_zig]
theorem fieldsS_put : ∀ (k : Nat) (f : List Nat) (rest : List Nat), f.length = k → (∀ v ∈ f, v ≤ 65535) → fieldsS k ⟨f.flatMap putL ++ rest, 0⟩ = (f, ⟨rest, 0⟩)
  | 0, f, rest, h, _ => by
    obtain rfl : f = [] := List.eq_nil_of_length_eq_zero h
    rfl
  | k + 1, f, rest, h, hb => by
    obtain ⟨g, v, rfl⟩ : ∃ g v, f = g ++ [v] := ⟨f.dropLast, f.getLast (by rintro rfl; simp at h), (List.dropLast_concat_getLast _).symm⟩
    have e : (g ++ [v]).flatMap putL ++ rest = g.flatMap putL ++ (putL v ++ rest) := by simp
    rw [e, fieldsS, fieldsS_put k g (putL v ++ rest) (by simpa using h) (fun x hx => hb x (by simp [hx]))]
    rw [uintS_put 65535 v rest (hb v (by simp)) (by omega)]
theorem argsS_put : ∀ (k : Nat) (f : List Int) (rest : List Nat), f.length = k → (∀ v ∈ f, -9223372036854775808 ≤ v ∧ v ≤ 9223372036854775807) → argsS k ⟨(f.flatMap fun x => putL (zig x)) ++ rest, 0⟩ = (f, ⟨rest, 0⟩)
  | 0, f, rest, h, _ => by
    obtain rfl : f = [] := List.eq_nil_of_length_eq_zero h
    rfl
  | k + 1, f, rest, h, hb => by
    obtain ⟨g, v, rfl⟩ : ∃ g v, f = g ++ [v] := ⟨f.dropLast, f.getLast (by rintro rfl; simp at h), (List.dropLast_concat_getLast _).symm⟩
    have e : ((g ++ [v]).flatMap fun x => putL (zig x)) ++ rest = (g.flatMap fun x => putL (zig x)) ++ (putL (zig v) ++ rest) := by simp
    rw [e, argsS, argsS_put k g (putL (zig v) ++ rest) (by simpa using h) (fun x hx => hb x (by simp [hx]))]
    rw [intS_put v rest (hb v (by simp))]
theorem readOne_put (c : Cho) (rest : List Nat) (hok : okC c = true) (hr : InR' c) : readOneS ⟨choBytes c ++ rest, 0⟩ = (c, ⟨rest, 0⟩) := by
  obtain ⟨k1, k2, k3, k4, k5, k6, k7⟩ := okC_in hok
  have e0 : choBytes c ++ rest = c.key.kind.toNat :: ([c.key.a.toNat, c.key.b.toNat, c.key.n.toNat, c.t.toNat, c.d.toNat].flatMap putL ++ (putL c.args.length ++ ((c.args.flatMap fun x => putL (zig x)) ++ rest))) := by
    simp [choBytes]
  have b : byteS ⟨choBytes c ++ rest, 0⟩ = (c.key.kind.toNat, ⟨[c.key.a.toNat, c.key.b.toNat, c.key.n.toNat, c.t.toNat, c.d.toNat].flatMap putL ++ (putL c.args.length ++ ((c.args.flatMap fun x => putL (zig x)) ++ rest)), 0⟩) := by
    rw [e0]; rfl
  have h1 : r1 ⟨choBytes c ++ rest, 0⟩ = ([c.key.a.toNat, c.key.b.toNat, c.key.n.toNat, c.t.toNat, c.d.toNat], ⟨putL c.args.length ++ ((c.args.flatMap fun x => putL (zig x)) ++ rest), 0⟩) := by
    unfold r1
    rw [b]
    refine fieldsS_put 5 _ _ rfl (fun v hv => ?_)
    simp only [List.mem_cons, List.not_mem_nil, or_false] at hv
    omega
  have h2 : r2 ⟨choBytes c ++ rest, 0⟩ = (c.args.length, ⟨(c.args.flatMap fun x => putL (zig x)) ++ rest, 0⟩) := by
    unfold r2
    rw [h1]
    exact uintS_put 4 _ _ k7 (by omega)
  have h3 : r3 ⟨choBytes c ++ rest, 0⟩ = (c.args, ⟨rest, 0⟩) := by
    unfold r3
    rw [h2]
    exact argsS_put _ _ _ rfl hr
  unfold readOneS
  rw [b, h1, h3]
  have e : choOf c.key.kind.toNat [c.key.a.toNat, c.key.b.toNat, c.key.n.toNat, c.t.toNat, c.d.toNat] c.args = c := by
    obtain ⟨⟨kd, ka, kb, kn⟩, t, d, ar⟩ := c
    simp only [choOf, List.getD_cons_zero, List.getD_cons_succ] at *
    rw [Int.toNat_of_nonneg (by omega), Int.toNat_of_nonneg (by omega), Int.toNat_of_nonneg (by omega), Int.toNat_of_nonneg (by omega), Int.toNat_of_nonneg (by omega), Int.toNat_of_nonneg (by omega)]
  rw [e]
theorem ord_take {l : List Cho} (h : Ord l) (k : Nat) : Ord (l.take k) := List.Pairwise.sublist (List.take_sublist _ _) h
theorem loopR_put (l : List Cho) (ho : Ord l) (hok : ∀ x ∈ l, okC x = true) (hr : ∀ x ∈ l, InR' x) : ∀ (k : Nat), k ≤ l.length → ∀ rest, loopR k ⟨(l.take k).flatMap choBytes ++ rest, 0⟩ = some (l.take k, ⟨rest, 0⟩)
  | 0, _, rest => by simp [loopR]
  | k + 1, hk, rest => by
    obtain ⟨x, hx⟩ : ∃ x, l[k]? = some x := ⟨_, List.getElem?_eq_getElem (by omega)⟩
    have hm := List.mem_of_getElem? hx
    have e : l.take (k + 1) = l.take k ++ [x] := by rw [List.take_add_one, hx]; rfl
    have e2 : (l.take (k + 1)).flatMap choBytes ++ rest = (l.take k).flatMap choBytes ++ (choBytes x ++ rest) := by rw [e]; simp
    rw [e2, loopR, loopR_put l ho hok hr k (by omega) (choBytes x ++ rest), Option.bind_some, stepR]
    simp only [readOne_put x rest (hok x hm) (hr x hm)]
    have hbad : badR (l.take k) x ⟨rest, 0⟩ = false := by
      unfold badR
      rw [hok x hm]
      cases hl : (l.take k).getLast? with
      | none => rfl
      | some y =>
        have ho' : Ord (l.take (k + 1)) := ord_take ho _
        rw [e, Ord, List.pairwise_append] at ho'
        have := ho'.2.2 y (List.mem_of_getLast? hl) x (by simp)
        simp [(lessB_iff _ _).2 this]
    rw [hbad, if_neg (by simp), e]
/-- the bytes of a set read back -/
theorem readF_put {l : List Cho} (h : IsSet l) (hr : ∀ x ∈ l, InR' x) : readF (setBytes l) = some l := by
  unfold readF
  have e : uintS 96 ⟨setBytes l, 0⟩ = (l.length, ⟨l.flatMap choBytes, 0⟩) := uintS_put 96 l.length _ h.le (by omega)
  have e2 := loopR_put l h.ord h.ok hr l.length (Nat.le_refl _) []
  rw [List.take_length, List.append_nil] at e2
  rw [e]
  simp only [e2, Option.bind_some, endE, if_true]
end ChoP
