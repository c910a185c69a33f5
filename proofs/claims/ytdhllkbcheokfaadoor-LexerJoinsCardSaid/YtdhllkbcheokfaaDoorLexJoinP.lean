/- Plain mathematics: tokens that are written with blanks or comments between them are the tokens again. -/
import Derived.Test.YtdhllkbcheokfaaDoorLexToksB
import Derived.Test.YtdhllkbcheokfaaDoorLexRefNext
namespace LexP
/-- a rest that is empty or begins with a blank -/
def Apart (r : List UInt8) : Prop := r = [] ∨ ∃ c t, r = c :: t ∧ (c = 32 ∨ c = 9 ∨ c = 10)
theorem apart_blank {r : List UInt8} (h : Apart r) (c : UInt8) (t : List UInt8) (e : r = c :: t) : blankI c.toNat = true ∧ insideI c.toNat = false ∧ digitI c.toNat = false := by
  rcases h with h | ⟨c', t', h, hc⟩
  · rw [h] at e; cases e
  · rw [h] at e
    injection e with e1 _
    subst e1
    rcases hc with rfl | rfl | rfl <;> decide
/-- a token that is read again wherever something apart follows -/
def Good (kd : Nat) (t : List UInt8) : Prop := t ≠ [] ∧ ∀ r, Apart r → readL (t ++ r) = (kd, t.length) ∧ skipL false (t ++ r) = 0
theorem pre_append (p : Int → Bool) : ∀ (t r : List UInt8), pre p t = t.length → (∀ c r', r = c :: r' → p c.toNat = false) → pre p (t ++ r) = t.length
  | [], r, _, h => by
    cases r with
    | nil => rfl
    | cons c r' => rw [List.nil_append, pre_cons, if_neg (by rw [h c r' rfl]; simp)]; rfl
  | c :: t, r, e, h => by
    rw [pre_cons] at e
    split at e
    · rename_i hc
      rw [List.cons_append, pre_cons, if_pos hc, pre_append p t r (by simpa using e) h]; rfl
    · simp at e
theorem pre_take (p : Int → Bool) : ∀ (l : List UInt8), pre p (l.take (pre p l)) = pre p l
  | [] => rfl
  | c :: l => by
    rw [pre_cons]
    split
    · rename_i hc
      rw [List.take_succ_cons, pre_cons, if_pos hc, pre_take p l]
    · rfl
theorem take_len (l : List UInt8) (n : Nat) (h : n ≤ l.length) : (l.take n).length = n := by simp; omega
theorem head_append (t r : List UInt8) (h : t ≠ []) : (t ++ r).headD 0 = t.headD 0 := by
  cases t with
  | nil => exact absurd rfl h
  | cons c t => rfl
theorem head_take (l : List UInt8) (n : Nat) (h : 1 ≤ n) : (l.take n).headD 0 = l.headD 0 := by
  cases l with
  | nil => simp
  | cons c l => cases n with
    | zero => omega
    | succ n => rfl
theorem digit_skip (l : List UInt8) (h : digitI (l.headD 0).toNat = true) : skipL false l = 0 := by
  match l, h with
  | [], _ => rfl
  | c :: t, h =>
    have hc : digitI c.toNat = true := h
    have hb : blankI c.toNat = false := by
      unfold digitI at hc; unfold blankI
      simp at hc ⊢
      omega
    have hp : pfx (c :: t) [47, 47] = false := by
      cases hq : pfx (c :: t) [47, 47]
      · rfl
      · obtain ⟨t', e⟩ := pfx_two _ hq
        injection e with e1 _
        rw [e1] at hc
        exact absurd hc (by decide)
    rw [skipL, if_neg (by rw [hb]; simp), if_neg (by rw [hp]; simp)]
theorem letter_skip2 (l : List UInt8) (h : letterI (l.headD 0).toNat = true) : skipL false l = 0 := by
  match l, h with
  | [], _ => rfl
  | c :: t, h =>
    have hc : letterI c.toNat = true := h
    have hb : blankI c.toNat = false := by
      unfold letterI at hc; unfold blankI
      simp at hc ⊢
      omega
    have hp : pfx (c :: t) [47, 47] = false := by
      cases hq : pfx (c :: t) [47, 47]
      · rfl
      · obtain ⟨t', e⟩ := pfx_two _ hq
        injection e with e1 _
        rw [e1] at hc
        exact absurd hc (by decide)
    rw [skipL, if_neg (by rw [hb]; simp), if_neg (by rw [hp]; simp)]
theorem pfx_take (l x : List UInt8) (h : x.length ≤ 2) : pfx l x = pfx (l.take 2) x := by
  unfold pfx
  rw [Bool.eq_iff_iff, List.isPrefixOf_iff_prefix, List.isPrefixOf_iff_prefix, List.prefix_iff_eq_take, List.prefix_iff_eq_take, List.take_take, Nat.min_eq_left h]
theorem find_congr (p q : List UInt8 → Bool) : ∀ (l : List (List UInt8)), (∀ x ∈ l, p x = q x) → l.find? p = l.find? q
  | [], _ => rfl
  | x :: l, h => by
    rw [List.find?_cons, List.find?_cons, h x (by simp), find_congr p q l (fun y hy => h y (by simp [hy]))]
theorem firstSym_take (l : List UInt8) : firstSym l = firstSym (l.take 2) :=
  find_congr _ _ _ fun x hx => pfx_take l x (syms_pos x hx).2
/-- the check of a symbol with the byte behind it -/
def symOK (x y : List UInt8) : Bool := firstSym ((x ++ y).take 2) == some x && !letterI (x.headD 0).toNat && !digitI (x.headD 0).toNat && !blankI (x.headD 0).toNat && !pfx ((x ++ y).take 2) [47, 47]
theorem syms_ok : (syms.all fun x => symOK x [] && symOK x [32] && symOK x [9] && symOK x [10]) = true := by decide +kernel
theorem take2 (x : List UInt8) (c : UInt8) (t : List UInt8) (h : 1 ≤ x.length) : (x ++ c :: t).take 2 = (x ++ [c]).take 2 := by
  match x, h with
  | [a], _ => rfl
  | a :: b :: x, _ => rfl
theorem skip_zero (l : List UInt8) (hb : blankI (l.headD 0).toNat = false) (hp : pfx (l.take 2) [47, 47] = false) : skipL false l = 0 := by
  rw [← pfx_take l [47, 47] (by decide)] at hp
  match l with
  | [] => rfl
  | c :: t =>
    have hb : blankI c.toNat = false := hb
    rw [skipL, if_neg (by rw [hb]; simp), if_neg (by rw [hp]; simp)]
theorem sym_good (x : List UInt8) (hx : x ∈ syms) : Good 4 x := by
  have hl := syms_pos x hx
  have hne : x ≠ [] := by intro e; rw [e] at hl; simp at hl
  refine ⟨hne, fun r hr => ?_⟩
  have hall := List.all_eq_true.1 syms_ok x hx
  simp only [Bool.and_eq_true] at hall
  obtain ⟨⟨⟨k0, k1⟩, k2⟩, k3⟩ := hall
  have key : ∀ y, symOK x y = true → (x ++ r).take 2 = (x ++ y).take 2 → readL (x ++ r) = (4, x.length) ∧ skipL false (x ++ r) = 0 := by
    intro y hy e
    unfold symOK at hy
    simp only [Bool.and_eq_true, Bool.not_eq_true', beq_iff_eq] at hy
    obtain ⟨⟨⟨⟨f1, f2⟩, f3⟩, f4⟩, f5⟩ := hy
    constructor
    · unfold readL
      rw [head_append x r hne, if_neg (by rw [f2]; simp), if_neg (by rw [f3]; simp), firstSym_take, e, f1]
    · exact skip_zero _ (by rw [head_append x r hne]; exact f4) (by rw [e]; exact f5)
  rcases hr with rfl | ⟨c, t, rfl, hc⟩
  · exact key [] k0 rfl
  · rcases hc with rfl | rfl | rfl
    · exact key [32] k1 (take2 x _ t hl.1)
    · exact key [9] k2 (take2 x _ t hl.1)
    · exact key [10] k3 (take2 x _ t hl.1)
theorem good_of_read (l : List UInt8) (hl : l ≠ []) (h5 : (readL l).1 ≠ 5) : Good (readL l).1 (l.take (readL l).2) := by
  have hb := read_bounds l hl
  unfold readL at h5 hb ⊢
  split
  · rename_i hc
    rw [if_pos hc] at h5 hb
    have hin : insideI (l.headD 0).toNat = true := by unfold insideI; rw [hc]; rfl
    have hp1 := pre_pos insideI l hl hin
    have hple := pre_le insideI l
    have hne : l.take (pre insideI l) ≠ [] := by
      intro e; have := congrArg List.length e; rw [take_len l _ hple] at this; simp at this; omega
    have hpt := pre_take insideI l
    have hlen := take_len l _ hple
    have base : ∀ r, Apart r → pre insideI (l.take (pre insideI l) ++ r) = pre insideI l ∧ letterI ((l.take (pre insideI l) ++ r).headD 0).toNat = true := by
      intro r hr
      constructor
      · rw [pre_append insideI _ r (by rw [hpt, hlen]) (fun c r' e => (apart_blank hr c r' e).2.1), hlen]
      · rw [head_append _ _ hne, head_take l _ hp1]; exact hc
    split
    · rename_i hk
      refine ⟨hne, fun r hr => ?_⟩
      obtain ⟨e1, e2⟩ := base r hr
      refine ⟨?_, letter_skip2 _ e2⟩
      unfold readL
      rw [if_pos e2, e1, List.take_append_of_le_length (by rw [hlen]; exact Nat.le_refl _), List.take_of_length_le (by rw [hlen]; exact Nat.le_refl _), if_pos hk, hlen]
    · rename_i hk
      rw [if_neg hk] at h5 hb
      split
      · rename_i h12
        refine ⟨hne, fun r hr => ?_⟩
        obtain ⟨e1, e2⟩ := base r hr
        refine ⟨?_, letter_skip2 _ e2⟩
        unfold readL
        rw [if_pos e2, e1, List.take_append_of_le_length (by rw [hlen]; exact Nat.le_refl _), List.take_of_length_le (by rw [hlen]; exact Nat.le_refl _), if_neg hk, if_pos h12, hlen]
      · rename_i h12
        rw [if_neg h12] at h5
        exact absurd rfl h5
  · rename_i hc
    rw [if_neg hc] at h5 hb
    split
    · rename_i hd
      rw [if_pos hd] at h5 hb
      have hp1 := pre_pos digitI l hl hd
      have hple := pre_le digitI l
      have hne : l.take (pre digitI l) ≠ [] := by
        intro e; have := congrArg List.length e; rw [take_len l _ hple] at this; simp at this; omega
      have hpt := pre_take digitI l
      have hlen := take_len l _ hple
      split
      · rename_i hz
        refine ⟨hne, fun r hr => ?_⟩
        have e1 : pre digitI (l.take (pre digitI l) ++ r) = pre digitI l := by
          rw [pre_append digitI _ r (by rw [hpt, hlen]) (fun c r' e => (apart_blank hr c r' e).2.2), hlen]
        have e2 : (l.take (pre digitI l) ++ r).headD 0 = l.headD 0 := by rw [head_append _ _ hne, head_take l _ hp1]
        refine ⟨?_, digit_skip _ (by rw [e2]; exact hd)⟩
        unfold readL
        rw [e2, if_neg hc, if_pos hd, e1, if_pos hz, hlen]
      · rename_i hz
        rw [if_neg hz] at h5
        exact absurd rfl h5
    · rename_i hd
      rw [if_neg hd] at h5 hb
      split
      · rename_i x hx
        unfold firstSym at hx
        have hm := List.mem_of_find?_eq_some hx
        have hp := List.find?_some hx
        unfold pfx at hp
        rw [List.isPrefixOf_iff_prefix, List.prefix_iff_eq_take] at hp
        show Good 4 (l.take x.length)
        rw [← hp]
        exact sym_good x hm
      · rename_i hx
        rw [hx] at h5
        exact absurd rfl h5
/-- a text that separates tokens -/
def Sep (b : List UInt8) : Prop := (∃ c t, b = c :: t ∧ (c = 32 ∨ c = 9 ∨ c = 10)) ∧ ∀ r, skipL false r = 0 → skipL false (b ++ r) = b.length
/-- the text of tokens, each with what stands ahead of it -/
def joinL : List (List UInt8 × Nat × List UInt8) → List UInt8
  | [] => []
  | (b, _, t) :: l => b ++ (t ++ joinL l)
theorem join_apart (l : List (List UInt8 × Nat × List UInt8)) (h : ∀ x ∈ l, Sep x.1) : Apart (joinL l) := by
  match l, h with
  | [], _ => exact .inl rfl
  | (b, kd, t) :: l, h =>
    obtain ⟨⟨c, t', e, hc⟩, _⟩ := h (b, kd, t) (by simp)
    right
    exact ⟨c, t' ++ (t ++ joinL l), by show b ++ _ = _; rw [show b = c :: t' from e]; rfl, hc⟩
theorem drop_more (s : ByteArray) (e n : Nat) (a b : List UInt8) (h : s.data.toList.drop e = a ++ b) (hn : a.length = n) : s.data.toList.drop (e + n) = b := by
  rw [← List.drop_drop, h, ← hn, List.drop_left]
theorem join_toks (s : ByteArray) : ∀ (l : List (List UInt8 × Nat × List UInt8)) (e : Nat), e ≤ s.size → (∀ x ∈ l, Sep x.1 ∧ Good x.2.1 x.2.2) → s.data.toList.drop e = joinL l →
    (toksFrom s (e + skipAt s e)).map (fun x => (x.kind, x.text.data.toList)) = l.map (fun x => (x.2.1, x.2.2))
  | [], e, he, _, hd => by
    have h2 : (s.data.toList.drop e).length = 0 := by rw [hd]; rfl
    simp at h2
    have h3 : ¬ e + skipAt s e < s.size := by omega
    rw [toksFrom_end s _ h3]; rfl
  | (b, kd, t) :: l, e, he, h, hd => by
    obtain ⟨hsep, hgood⟩ := h (b, kd, t) (by simp)
    have hrest : ∀ x ∈ l, Sep x.1 ∧ Good x.2.1 x.2.2 := fun x hx => h x (by simp [hx])
    have hap := join_apart l fun x hx => (hrest x hx).1
    obtain ⟨hr, hz⟩ := hgood.2 _ hap
    have hd' : s.data.toList.drop e = b ++ (t ++ joinL l) := hd
    have hsk : skipAt s e = b.length := by unfold skipAt; rw [hd']; exact hsep.2 _ hz
    have hd2 : s.data.toList.drop (e + b.length) = t ++ joinL l := drop_more s e _ _ _ hd' rfl
    have hd3 : s.data.toList.drop (e + b.length + t.length) = joinL l := drop_more s _ _ _ _ hd2 rfl
    have hrd : readAt s (e + b.length) = (kd, t.length) := by unfold readAt; rw [hd2]; exact hr
    have htp : 1 ≤ t.length := by
      have := hgood.1
      cases ht : t with
      | nil => rw [show (b, kd, t).2.2 = t from rfl] at this; exact absurd ht this
      | cons => simp
    have hlen : e + b.length + t.length ≤ s.size := by
      have h4 := congrArg List.length hd2
      simp at h4
      omega
    have hlt : e + b.length < s.size := by omega
    rw [hsk, toksFrom_step s _ hlt]
    have hnx : nextAt s (e + b.length) = (e + b.length + t.length) + skipAt s (e + b.length + t.length) := by unfold nextAt; rw [hrd]
    rw [hnx, List.map_cons, List.map_cons, join_toks s l _ hlen hrest hd3]
    congr 1
    show ((tokAt s (e + b.length)).kind, (tokAt s (e + b.length)).text.data.toList) = (kd, t)
    unfold tokAt
    rw [hrd]
    simp only
    rw [data_mid, hd2, List.take_left]
theorem lex_join (s : ByteArray) (l : List (List UInt8 × Nat × List UInt8)) (h : ∀ x ∈ l, Sep x.1 ∧ Good x.2.1 x.2.2) (hd : s.data.toList = joinL l) :
    (lexB s).map (fun x => (x.kind, x.text.data.toList)) = l.map (fun x => (x.2.1, x.2.2)) := by
  have := join_toks s l 0 (Nat.zero_le _) h (by simpa using hd)
  unfold lexB
  rw [Nat.zero_add] at this
  exact this
theorem lexB_good (s : ByteArray) : ∀ x ∈ lexB s, x.kind ≠ 5 → Good x.kind x.text.data.toList := by
  refine toksFrom_all s (fun x => x.kind ≠ 5 → Good x.kind x.text.data.toList) (fun off hoff h5 => ?_) _ _ (Nat.le_refl _)
  have hne : s.data.toList.drop off ≠ [] := by
    intro e; have := congrArg List.length e; simp at this; omega
  have := good_of_read _ hne h5
  unfold tokAt
  simp only
  rw [data_mid]
  exact this
theorem sep_space : Sep [32] := ⟨⟨32, [], rfl, .inl rfl⟩, fun r h => by show skipL false (32 :: r) = 1; rw [skipL, if_pos (by decide), h]⟩
theorem sep_nl : Sep [10] := ⟨⟨10, [], rfl, .inr (.inr rfl)⟩, fun r h => by show skipL false (10 :: r) = 1; rw [skipL, if_pos (by decide), h]⟩
theorem sep_tab : Sep [9, 13] := ⟨⟨9, [13], rfl, .inr (.inl rfl)⟩, fun r h => by
  show skipL false (9 :: 13 :: r) = 2
  rw [skipL, if_pos (by decide), skipL, if_pos (by decide), h]⟩
theorem skip_in_note : ∀ (x r : List UInt8), (∀ c ∈ x, c ≠ 10) → skipL true (x ++ 10 :: r) = x.length + 1 + skipL false r
  | [], r, _ => by simp [skipL]; omega
  | c :: x, r, h => by
    have hc : (c == 10) = false := by rw [beq_eq_false_iff_ne]; exact h c (by simp)
    rw [List.cons_append, skipL, hc]
    simp only [Bool.false_eq_true, if_false, List.length_cons]
    rw [skip_in_note x r (fun d hd => h d (by simp [hd]))]
    omega
theorem sep_note (x : List UInt8) (hx : ∀ c ∈ x, c ≠ 10) : Sep ([32, 47, 47, 32] ++ x ++ [10]) := by
  refine ⟨⟨32, [47, 47, 32] ++ x ++ [10], rfl, .inl rfl⟩, fun r h => ?_⟩
  have e : [32, 47, 47, 32] ++ x ++ [10] ++ r = 32 :: 47 :: ([47, 32] ++ x ++ 10 :: r) := by simp
  have hp : pfx (47 :: ([47, 32] ++ x ++ 10 :: r)) [47, 47] = true := by unfold pfx; simp [List.isPrefixOf]
  rw [e, skipL, if_pos (by decide), skipL, if_neg (by decide), if_pos hp]
  rw [skip_in_note ([47, 32] ++ x) r (by intro c hc; simp at hc; rcases hc with rfl | rfl | hc; decide; decide; exact hx c hc), h]
  simp
end LexP
