/- Plain mathematics of the lexer: blanks, comments and tokens as functions on lists of bytes. No program here. -/
import Derived.Test.YtdhllkbcheokfaaDoorLexPlainA
namespace LexP
def isKw (l : List UInt8) : Bool := words.contains l
theorem isKw_of (l : List UInt8) (k : Nat) (hk : k < 39) (h : (words[k]?.getD [] == l) = true) : isKw l = true := by
  have h2 : k < words.length := hk
  rw [List.getElem?_eq_getElem h2, Option.getD_some] at h
  have := eq_of_beq h
  unfold isKw
  rw [List.contains_iff_mem, ← this]
  exact List.getElem_mem _
theorem isKw_not (l : List UInt8) (h : ∀ j, j < 39 → (words[j]?.getD [] == l) = false) : isKw l = false := by
  unfold isKw
  rw [Bool.eq_false_iff]
  intro hc
  rw [List.contains_iff_mem] at hc
  obtain ⟨j, hj, e⟩ := List.getElem_of_mem hc
  have := h j hj
  rw [List.getElem?_eq_getElem hj, Option.getD_some, e] at this
  simp at this
def pfx (l p : List UInt8) : Bool := p.isPrefixOf l
/-- how many bytes of blanks and comments are at the beginning ('true': inside a comment) -/
def skipL : Bool → List UInt8 → Nat
  | _, [] => 0
  | false, c :: t => if blankI c.toNat then skipL false t + 1 else if pfx (c :: t) [47, 47] then skipL true t + 1 else 0
  | true, c :: t => if c == 10 then skipL false t + 1 else skipL true t + 1
theorem skipL_le : ∀ (b : Bool) (l : List UInt8), skipL b l ≤ l.length
  | true, [] => by simp [skipL]
  | false, [] => by simp [skipL]
  | false, c :: t => by
    have h1 := skipL_le false t
    have h2 := skipL_le true t
    simp only [skipL, List.length_cons]
    split
    · omega
    · split <;> omega
  | true, c :: t => by
    have h1 := skipL_le false t
    have h2 := skipL_le true t
    simp only [skipL, List.length_cons]
    split <;> omega
theorem skip_blank : ∀ (l : List UInt8), skipL false l = pre blankI l + skipL false (l.drop (pre blankI l))
  | [] => by simp [pre_nil, skipL]
  | c :: t => by
    rw [pre_cons]
    split
    · rename_i h
      have := skip_blank t
      rw [List.drop_succ_cons, skipL, if_pos h]
      omega
    · simp
theorem skip_note : ∀ (l : List UInt8), skipL true l = pre notnlI l + skipL false (l.drop (pre notnlI l))
  | [] => by simp [pre_nil, skipL]
  | c :: t => by
    rw [pre_cons]
    split
    · rename_i h
      have := skip_note t
      have hc : (c == 10) = false := by
        rw [beq_eq_false_iff_ne]; rintro rfl; simp [notnlI] at h
      rw [List.drop_succ_cons, skipL, hc]
      simp only [Bool.false_eq_true, if_false]
      omega
    · rename_i h
      have hc : c = 10 := by
        have h2 : (c.toNat : Int) = 10 := by simpa [notnlI] using h
        apply UInt8.toNat.inj; exact Int.ofNat.inj h2
      subst hc
      simp [skipL, blankI]
theorem pfx_two (l : List UInt8) (h : pfx l [47, 47] = true) : ∃ t, l = 47 :: 47 :: t := by
  unfold pfx at h
  match l, h with
  | [], h => simp at h
  | [c], h => simp [List.isPrefixOf] at h
  | c :: d :: t, h =>
    simp [List.isPrefixOf] at h
    exact ⟨t, by rw [← h.1, ← h.2]⟩
theorem skip_comment (l : List UInt8) (h : pfx l [47, 47] = true) : skipL false l = pre notnlI l + skipL false (l.drop (pre notnlI l)) := by
  obtain ⟨t, rfl⟩ := pfx_two l h
  rw [← skip_note]
  simp [skipL, blankI, h]
theorem two_le_pre (l : List UInt8) (h : pfx l [47, 47] = true) : 2 ≤ pre notnlI l := by
  obtain ⟨t, rfl⟩ := pfx_two l h
  rw [pre_cons, if_pos (by decide), pre_cons, if_pos (by decide)]
  omega
theorem skip_none (l : List UInt8) (h : pfx (l.drop (pre blankI l)) [47, 47] = false) : skipL false (l.drop (pre blankI l)) = 0 := by
  have hd : ∀ (l : List UInt8) c t, l.drop (pre blankI l) = c :: t → blankI c.toNat = false := by
    intro l
    induction l with
    | nil => intro c t h; simp [pre_nil] at h
    | cons a l ih =>
      intro c t h
      rw [pre_cons] at h
      split at h
      · exact ih c t (by simpa using h)
      · rename_i hn
        simp at h
        rw [← h.1]; simpa using hn
  match hl : l.drop (pre blankI l) with
  | [] => simp [skipL]
  | c :: t =>
    rw [hl] at h
    rw [skipL, if_neg (by rw [hd l c t hl]; simp), if_neg (by rw [h]; simp)]
/-- the first symbol that fits -/
def firstSym (l : List UInt8) : Option (List UInt8) := syms.find? (pfx l)
/-- the kind and the length of the token at the beginning of a text that is not empty -/
def readL (l : List UInt8) : Nat × Nat :=
  if letterI (l.headD 0).toNat then
    if isKw (l.take (pre insideI l)) then (2, pre insideI l)
    else if pre insideI l ≤ 12 then (1, pre insideI l) else (5, l.length)
  else if digitI (l.headD 0).toNat then
    if pre digitI l == 1 || ((l.headD 0).toNat : Int) != 48 then (3, pre digitI l) else (5, l.length)
  else match firstSym l with
    | some x => (4, x.length)
    | none => (5, l.length)
theorem data_drop (s : ByteArray) (k : Nat) : (s.extract k s.size).data.toList = s.data.toList.drop k := by
  rw [ByteArray.data_extract, Array.toList_extract, List.extract_eq_take_drop]
  apply List.take_of_length_le
  simp
theorem data_take (s : ByteArray) (k : Nat) : (s.extract 0 k).data.toList = s.data.toList.take k := by
  rw [ByteArray.data_extract, Array.toList_extract, List.extract_eq_take_drop]; simp
theorem pre_drop_le (p : Int → Bool) (s : ByteArray) (k : Nat) (h : k ≤ s.size) : k + pre p (s.data.toList.drop k) ≤ s.size := by
  have := pre_le p (s.data.toList.drop k)
  simp only [List.length_drop, Array.length_toList, ByteArray.size_data] at this
  omega
/-- one round of the lexer's own skip -/
theorem skip_round (l : List UInt8) (k n1 : Nat) (h : k + skipL false (l.drop k) = skipL false l) (h1 : pre blankI (l.drop k) = n1) :
    k + n1 + skipL false (l.drop (k + n1)) = skipL false l := by
  rw [skip_blank, h1, List.drop_drop] at h; omega
theorem skip_round2 (l : List UInt8) (k n1 : Nat) (h : k + skipL false (l.drop k) = skipL false l) (hp : pfx (l.drop k) [47, 47] = true) (h1 : pre notnlI (l.drop k) = n1) :
    k + n1 + skipL false (l.drop (k + n1)) = skipL false l ∧ 2 ≤ n1 := by
  have h2 := two_le_pre _ hp
  rw [skip_comment _ hp, h1, List.drop_drop] at h; omega
theorem skip_end (l : List UInt8) (k n1 : Nat) (h : k + n1 + skipL false (l.drop (k + n1)) = skipL false l) (h1 : pre blankI (l.drop k) = n1) (hp : pfx (l.drop (k + n1)) [47, 47] = false) :
    skipL false l = k + n1 := by
  have := skip_none (l.drop k)
  rw [h1, List.drop_drop] at this
  rw [this hp] at h; omega
theorem head_get (s : ByteArray) (h : 0 < s.size) : s.data.toList.headD 0 = s[0] := by
  have h2 : 0 < s.data.toList.length := by simpa using h
  rw [List.headD_eq_head?_getD, List.head?_eq_getElem?, List.getElem?_eq_getElem h2, Option.getD_some]
  rfl
theorem read_kw (s : ByteArray) (h : 0 < s.size) (hl : letterI (s[0]).toNat = true) (hk : isKw (s.data.toList.take (pre insideI s.data.toList)) = true) :
    readL s.data.toList = (2, pre insideI s.data.toList) := by
  unfold readL; rw [head_get s h, if_pos hl, if_pos hk]
theorem read_name (s : ByteArray) (h : 0 < s.size) (hl : letterI (s[0]).toNat = true) (hk : isKw (s.data.toList.take (pre insideI s.data.toList)) = false) (hn : pre insideI s.data.toList ≤ 12) :
    readL s.data.toList = (1, pre insideI s.data.toList) := by
  unfold readL; rw [head_get s h, if_pos hl, if_neg (by rw [hk]; simp), if_pos hn]
theorem read_long (s : ByteArray) (h : 0 < s.size) (hl : letterI (s[0]).toNat = true) (hk : isKw (s.data.toList.take (pre insideI s.data.toList)) = false) (hn : ¬ pre insideI s.data.toList ≤ 12) :
    readL s.data.toList = (5, s.size) := by
  unfold readL; rw [head_get s h, if_pos hl, if_neg (by rw [hk]; simp), if_neg hn]; simp
theorem read_num (s : ByteArray) (h : 0 < s.size) (hl : letterI (s[0]).toNat = false) (hd : digitI (s[0]).toNat = true) (hn : pre digitI s.data.toList = 1 ∨ (((s[0]).toNat : Int) != 48) = true) :
    readL s.data.toList = (3, pre digitI s.data.toList) := by
  unfold readL; rw [head_get s h, if_neg (by rw [hl]; simp), if_pos hd, if_pos]
  rcases hn with h1 | h1 <;> simp [h1]
theorem read_zero (s : ByteArray) (h : 0 < s.size) (hl : letterI (s[0]).toNat = false) (hd : digitI (s[0]).toNat = true) (hn : pre digitI s.data.toList ≠ 1) (h0 : (((s[0]).toNat : Int) != 48) = false) :
    readL s.data.toList = (5, s.size) := by
  unfold readL; rw [head_get s h, if_neg (by rw [hl]; simp), if_pos hd, if_neg]
  · simp
  · rw [h0]; simpa using hn
theorem firstSym_at (l : List UInt8) (k : Nat) (hk : k < 25) (h : ∀ j, j < k → pfx l (syms[j]?.getD []) = false) (hp : pfx l (syms[k]?.getD []) = true) : firstSym l = some (syms[k]?.getD []) := by
  have h2 : k < syms.length := hk
  unfold firstSym
  rw [List.getElem?_eq_getElem h2, Option.getD_some] at hp ⊢
  rw [List.find?_eq_some_iff_getElem]
  refine ⟨hp, k, h2, rfl, fun j hj => ?_⟩
  have := h j hj
  rw [List.getElem?_eq_getElem (by omega), Option.getD_some] at this
  simp [this]
theorem firstSym_none (l : List UInt8) (h : ∀ j, j < 25 → pfx l (syms[j]?.getD []) = false) : firstSym l = none := by
  unfold firstSym
  rw [List.find?_eq_none]
  intro x hx
  obtain ⟨j, hj, e⟩ := List.getElem_of_mem hx
  have := h j hj
  rw [List.getElem?_eq_getElem hj, Option.getD_some, e] at this
  simp [this]
theorem read_sym (s : ByteArray) (h : 0 < s.size) (hl : letterI (s[0]).toNat = false) (hd : digitI (s[0]).toNat = false) (k : Nat) (hk : k < 25) (hn : ∀ j, j < k → pfx s.data.toList (syms[j]?.getD []) = false) (hp : pfx s.data.toList (syms[k]?.getD []) = true) :
    readL s.data.toList = (4, (syms[k]?.getD []).length) := by
  unfold readL; rw [head_get s h, if_neg (by rw [hl]; simp), if_neg (by rw [hd]; simp), firstSym_at _ k hk hn hp]
theorem read_none (s : ByteArray) (h : 0 < s.size) (hl : letterI (s[0]).toNat = false) (hd : digitI (s[0]).toNat = false) (hn : ∀ j, j < 25 → pfx s.data.toList (syms[j]?.getD []) = false) :
    readL s.data.toList = (5, s.size) := by
  unfold readL; rw [head_get s h, if_neg (by rw [hl]; simp), if_neg (by rw [hd]; simp), firstSym_none _ hn]; simp
end LexP
