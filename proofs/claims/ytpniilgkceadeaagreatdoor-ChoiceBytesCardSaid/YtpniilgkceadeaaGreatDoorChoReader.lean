/- The reader: its small methods. -/
import Derived.Test.YtpniilgkceadeaaGreatDoorChoNum
import Derived.Test.YtpniilgkceadeaaGreatDoorChoReadQ
import Derived.Test.YtpniilgkceadeaaGreatDoorChoWithP
import Derived.Deep.OwnRows
import Derived.Laws.DeepNot64
namespace Go.Proofs.YtpniilgkceadeaaGreatDoor
open Go.RowKit
theorem Lie.cut1 {w : World} {B : Nat} {A : Option Addr} {xs : List Value} (h : Lie w B A xs) (pos c : Nat) (hn : xs.length ≤ c) : Lie w B (if c = pos then A else Option.map (fun x => x.add pos) A) (xs.drop pos) := fun hx => by
  have hp : pos < xs.length := by
    rcases Nat.lt_or_ge pos xs.length with e | e
    · exact e
    · exact absurd (List.drop_eq_nil_of_le e) hx
  obtain ⟨b, o, rfl, hb, hc⟩ := h (by rintro rfl; simp at hp)
  refine ⟨b, o + pos, ?_, hb, fun j u hu => ?_⟩
  · rw [if_neg (by omega), Option.map_some, addr_add]
  · rw [Nat.add_assoc]
    exact hc _ u (by rwa [List.getElem?_drop] at hu)
/-- the reader at block R: what is left, its error; its bytes lie below B -/
structure RD (w : World) (R B : Nat) (s : ChoP.RS) : Prop where
  at_ : ∃ (A : Option Addr) (c : Nat), w.heap[R]? = some (.cells #[.slice A s.p.length c, .int .i64 s.err] 121 (0, 0)) ∧ Lie w B A (natC s.p) ∧ (∀ a, A = some a → a.block ≠ R) ∧ s.p.length ≤ c ∧ c ≤ 9223372036854775807
  byt : ChoP.Byt s.p
  lt : R < B
  le : B ≤ w.heap.size
theorem blk2 {w : World} {b : Nat} {v0 v1 : Value} {t : TypeId} (h : w.heap[b]? = some (.cells #[v0, v1] t (0, 0))) :
    (w.cell? ⟨b, 0, none⟩ = some v0 ∧ w.cell? ⟨b, 1, none⟩ = some v1) ∧ (w.frozen? ⟨b, 0, none⟩ = false ∧ w.frozen? ⟨b, 1, none⟩ = false) :=
  ⟨⟨cell_at h 0 _ rfl, cell_at h 1 _ rfl⟩, ⟨frozen_at h 0, frozen_at h 1⟩⟩
theorem Lie.mono {w : World} {B B' : Nat} {A : Option Addr} {xs : List Value} (h : Lie w B A xs) (hB : B ≤ B') : Lie w B' A xs := h.below (RowKit.Below.refl _ _) hB
theorem Lie.blocks {w w' : World} {B : Nat} {A : Option Addr} {xs : List Value} (h : Lie w B A xs) (hb : ∀ b, b < B → w'.heap[b]? = w.heap[b]?) : Lie w' B A xs := fun hx => by
  obtain ⟨b, o, e, hlt, hc⟩ := h hx
  exact ⟨b, o, e, hlt, fun j u hu => (World.cell?_of_block (a := ⟨b, o + j, none⟩) (hb b hlt)).trans (hc j u hu)⟩
theorem RD.blocks {w w' : World} {R B : Nat} {s : ChoP.RS} (h : RD w R B s) (hb : ∀ b, b < B → w'.heap[b]? = w.heap[b]?) (hz : B ≤ w'.heap.size) : RD w' R B s := by
  obtain ⟨A, c, h1, h2, h3, h4, h5⟩ := h.at_
  exact ⟨⟨A, c, (hb R h.lt).trans h1, h2.blocks hb, h3, h4, h5⟩, h.byt, h.lt, hz⟩
theorem RD.below {w w' : World} {R B : Nat} {s : ChoP.RS} (h : RD w R B s) (hb : RowKit.Below B w w') : RD w' R B s := h.blocks hb.block (Nat.le_trans h.le hb.size)
theorem RD.set {w : World} {R B : Nat} {s : ChoP.RS} (h : RD w R B s) (p : Addr) (hp : B ≤ p.block) (u : Value) : RD (w.setCell p u) R B s :=
  h.blocks (fun b hb => Go.Deep.blk_setCell_other _ _ _ _ (by omega)) (by rw [World.size_setCell]; exact h.le)
theorem RD.mono {w : World} {R B B' : Nat} {s : ChoP.RS} (h : RD w R B s) (hB : B ≤ B') (hz : B' ≤ w.heap.size) : RD w R B' s := by
  obtain ⟨A, c, h1, h2, h3, h4, h5⟩ := h.at_
  exact ⟨⟨A, c, h1, h2.mono hB, h3, h4, h5⟩, h.byt, Nat.lt_of_lt_of_le h.lt hB, hz⟩
theorem RD.size {w : World} {R B : Nat} {s : ChoP.RS} (h : RD w R B s) : s.p.length ≤ 9223372036854775807 := by
  obtain ⟨A, c, h1, h2, h3, h4, h5⟩ := h.at_
  omega
theorem grown_set (w : World) (R i : Nat) (v : Value) : w.grownBy (w.setCell ⟨R, i, none⟩ v) (some R) :=
  ⟨rfl, rfl, rfl, by rw [World.size_setCell]; exact Nat.le_refl _, fun k _ hne => Go.Deep.blk_setCell_other _ _ _ _ (fun e => hne (by rw [e]))⟩
/-- the reader with another rest or error -/
theorem RD.put {w : World} {R B : Nat} {s : ChoP.RS} {A : Option Addr} {c : Nat} {v0 v1 : Value} {i : Nat} {v : Value} (hb : w.heap[R]? = some (.cells #[v0, v1] 121 (0, 0))) (hs : ChoP.Byt s.p) (hlt : R < B) (hle : B ≤ w.heap.size)
    (hv : (#[v0, v1] : Array Value).setIfInBounds i v = #[.slice A s.p.length c, .int .i64 s.err]) (hl : Lie w B A (natC s.p)) (hne : ∀ a, A = some a → a.block ≠ R) (h4 : s.p.length ≤ c) (h5 : c ≤ 9223372036854775807) : RD (w.setCell ⟨R, i, none⟩ v) R B s := by
  refine ⟨⟨A, c, ?_, ?_, hne, h4, h5⟩, hs, hlt, by rw [World.size_setCell]; exact hle⟩
  · rw [← hv]
    simp [World.setCell, Array.getElem?_modify, hb]
  · exact hl.set _ _ (fun b o e => hne _ e)
set_option maxHeartbeats 1000000
theorem open_any (R B : Nat) (s : ChoP.RS) (w : World) (h : RD w R B s) : Calls Tryz.prog 76 #[.pointer (some ⟨R, 0, none⟩)] w fun e w' => e = .returned (.bool (s.err == 0)) ∧ w = w' := by
  obtain ⟨A, c, hb, _⟩ := h.at_
  obtain ⟨⟨c0, c1⟩, _⟩ := blk2 hb
  clear hb h
  cases he : (s.err == 0)
  all_goals
    go_enter Tryz.func76, Tryz.ntmps76
    go_wp2_with fail
    go_ret
    exact ⟨rfl, rfl⟩
theorem err_any (R B : Nat) (s : ChoP.RS) (w : World) (h : RD w R B s) : Calls Tryz.prog 39 #[.pointer (some ⟨R, 0, none⟩)] w fun e w' => e = .returned (.int .i64 s.err) ∧ w = w' := by
  obtain ⟨A, c, hb, _⟩ := h.at_
  obtain ⟨⟨c0, c1⟩, _⟩ := blk2 hb
  clear hb h
  go_enter Tryz.func39, Tryz.ntmps39
  go_wp2_with fail
  go_ret
  exact ⟨rfl, rfl⟩
/-- a method of the reader that returns v -/
def RPost (R B : Nat) (v : Value) (s : ChoP.RS) (w : World) (e : Ending) (w' : World) : Prop := e = .returned v ∧ RD w' R B s ∧ w.grownBy w' (some R)
theorem take_any (R B n : Nat) (er : Int) (s : ChoP.RS) (w : World) (h : RD w R B s) (hn : n ≤ s.p.length) : Calls Tryz.prog 78 #[.pointer (some ⟨R, 0, none⟩), .int .i64 n, .int .i64 er] w (RPost R B (.bool (er == 0)) (ChoP.takeS s n er) w) := by
  obtain ⟨A, c, hb, hl, hne, hc1, hc2⟩ := h.at_
  have hby := h.byt
  by_cases he : er = 0
  · subst he
    have hcl := hl.cut1 n c (by simpa [natC] using hc1)
    have ed : (natC s.p).drop n = natC (s.p.drop n) := by simp [natC, List.map_drop]
    rw [ed] at hcl
    have hcne : ∀ a, (if c = n then A else Option.map (fun x => x.add n) A) = some a → a.block ≠ R := by
      intro a e
      split at e
      · exact hne a e
      · obtain ⟨a', ha', rfl⟩ := Option.map_eq_some_iff.1 e
        have : (a'.add n).block = a'.block := by unfold Addr.add; split <;> rfl
        rw [this]
        exact hne a' ha'
    have hf := RD.put (s := ⟨s.p.drop n, s.err⟩) (B := B) (A := if c = n then A else Option.map (fun x => x.add n) A) (c := c - n) (i := 0) (v := .slice (if c = n then A else Option.map (fun x => x.add n) A) (s.p.drop n).length (c - n)) hb (hby.drop n) h.lt h.le (by rfl) hcl hcne (by simp; omega) (by omega)
    obtain ⟨⟨c0, c1⟩, ⟨f0, f1⟩⟩ := blk2 hb
    have HF := Lib.hid hf
    have hi1 : (0 : Int) ≤ (n : Int) := by omega
    have hi2 : (n : Int) ≤ (s.p.length : Int) := by omega
    have hi3 : (s.p.length : Int) ≤ (c : Int) := by omega
    have hi4 : (n : Int) ≤ (c : Int) := by omega
    clear hb hl hne hcl ed hcne hf hby h
    have e2 : ChoP.takeS s n 0 = ⟨s.p.drop n, s.err⟩ := by unfold ChoP.takeS; rw [if_pos rfl]
    rw [e2]
    clear e2
    by_cases hcn : c = n
    · subst hcn
      have hf := HF.out
      rw [if_pos rfl, List.length_drop, Nat.sub_self, Nat.sub_eq_zero_of_le hc1] at hf
      have HF2 := Lib.hid hf
      clear hf HF
      go_enter Tryz.func78, Tryz.ntmps78
      go_wp2_with fail
      go_ret
      exact ⟨rfl, HF2.out, grown_set _ _ _ _⟩
    · have hf := HF.out
      rw [if_neg hcn, List.length_drop] at hf
      have HF2 := Lib.hid hf
      clear hf HF
      go_enter Tryz.func78, Tryz.ntmps78
      go_wp2_with fail
      go_ret
      exact ⟨rfl, HF2.out, grown_set _ _ _ _⟩
  · have hf := RD.put (s := ⟨s.p, er⟩) (B := B) (A := A) (c := c) (i := 1) (v := .int .i64 er) hb hby h.lt h.le rfl hl hne hc1 hc2
    have HF := Lib.hid hf
    obtain ⟨⟨c0, c1⟩, ⟨f0, f1⟩⟩ := blk2 hb
    have e1 : (er == 0) = false := by simpa using he
    have e2 : ChoP.takeS s n er = ⟨s.p, er⟩ := by unfold ChoP.takeS; rw [if_neg he]
    rw [e2]
    clear hb hl hne hf hby h e2
    go_enter Tryz.func78, Tryz.ntmps78
    go_wp2_with fail
    go_ret
    exact ⟨by rw [e1]; rfl, HF.out, grown_set _ _ _ _⟩
theorem unzig_any (u : Nat) (w : World) (hu : u < 18446744073709551616) : Calls Tryz.prog 122 #[.int .u64 u] w fun e w' => e = .returned (.int .i64 (ChoP.unzig u)) ∧ w = w' := by
  have ha : bits .and .u64 (u : Int) 1 = ((u % 2 : Nat) : Int) := by
    rw [show (1 : Int) = ((1 : Nat) : Int) from rfl, u64_and_nat _ _ hu (by omega), Nat.and_one_is_mod]
  have hd : (u : Int) / 2 = ((u / 2 : Nat) : Int) := by omega
  have hx := i64_not (u / 2) (by omega)
  rw [← hd] at hx
  by_cases h2 : u % 2 = 1
  · have e1 : ((u % 2 : Nat) : Int) = 1 := by omega
    rw [e1] at ha
    have hf : ChoP.unzig u = -1 - (u : Int) / 2 := by unfold ChoP.unzig; rw [if_pos h2]; omega
    have HF := Lib.hid hf
    clear hf e1 h2 hd
    go_enter Tryz.func122, Tryz.ntmps122
    go_wp2_with fail
    go_ret
    exact ⟨by rw [HF.out]; rfl, rfl⟩
  · have e1 : ((u % 2 : Nat) : Int) = 0 := by omega
    rw [e1] at ha
    have hf : ChoP.unzig u = (u : Int) / 2 := by unfold ChoP.unzig; rw [if_neg h2]; omega
    have HF := Lib.hid hf
    clear hf e1 h2 hd hx
    go_enter Tryz.func122, Tryz.ntmps122
    go_wp2_with fail
    go_ret
    exact ⟨by rw [HF.out]; rfl, rfl⟩
theorem numInt_any (A : Option Addr) (p : List Nat) (c : Nat) (w : World) (h : Lie w w.heap.size A (natC p)) (hb : ChoP.Byt p) (hl : p.length ≤ 9223372036854775807) : Calls Tryz.prog 107 #[.slice A p.length c] w fun e w' => e = .returned (.tuple #[.int .i64 (ChoP.unzig (ChoP.uintR p).1), .int .i64 ((ChoP.uintR p).2.1 : Int), .int .i64 (ChoP.uintR p).2.2]) ∧ w = w' := by
  have hu := numUint_any A p c w h hb hl
  have hlt : (ChoP.uintR p).1 < 18446744073709551616 := by
    rcases ChoP.uintR_cases p with ⟨_, e⟩ | ⟨v, n, hv, e⟩
    · rw [e]; decide
    · rw [e]; exact (ChoP.uintF_some hv hb).1
  generalize (ChoP.uintR p).1 = v at *
  generalize (ChoP.uintR p).2.1 = n at *
  generalize (ChoP.uintR p).2.2 = er at *
  have HU := Lib.hid hu
  clear h hb hu
  go_enter Tryz.func107, Tryz.ntmps107
  go_wp2_with fail
  refine HU.out.mono ?_
  rintro e w1 ⟨rfl, rfl⟩
  go_wp2_with fail
  refine (unzig_any v w hlt).mono ?_
  rintro e w1 ⟨rfl, rfl⟩
  go_wp2_with fail
  go_ret3
  exact ⟨rfl, rfl⟩
theorem uintR_le (p : List Nat) (hb : ChoP.Byt p) : (ChoP.uintR p).1 < 18446744073709551616 ∧ (ChoP.uintR p).2.1 ≤ p.length ∧ ((ChoP.uintR p).2.2 = 0 ∨ (ChoP.uintR p).2.2 = 6) := by
  rcases ChoP.uintR_cases p with ⟨_, e⟩ | ⟨v, n, hv, e⟩
  · rw [e]; exact ⟨by decide, by simp, .inr rfl⟩
  · rw [e]; exact ⟨(ChoP.uintF_some hv hb).1, (ChoP.uintF_some hv hb).2.1, .inl rfl⟩
theorem rUint_any (R B most : Nat) (s : ChoP.RS) (w : World) (h : RD w R B s) (_hm : most < 18446744073709551616) : Calls Tryz.prog 37 #[.pointer (some ⟨R, 0, none⟩), .int .u64 most] w (RPost R B (.int .u64 ((ChoP.uintS most s).1 : Int)) (ChoP.uintS most s).2 w) := by
  have hop := open_any R B s w h
  have H := Lib.hid h
  have HOP := Lib.hid hop
  obtain ⟨A, c, hb, hl, _⟩ := h.at_
  obtain ⟨⟨c0, c1⟩, _⟩ := blk2 hb
  have hsz := h.size
  have hu := numUint_any A s.p c w (hl.mono h.le) h.byt hsz
  obtain ⟨k1, k2, k3⟩ := uintR_le s.p h.byt
  have hst : s.err = 0 → ChoP.uintS most s = (if ChoP.limE most (ChoP.uintR s.p).1 (ChoP.uintR s.p).2.2 = 0 then (ChoP.uintR s.p).1 else 0, ChoP.takeS s (ChoP.uintR s.p).2.1 (ChoP.limE most (ChoP.uintR s.p).1 (ChoP.uintR s.p).2.2)) := fun e => by unfold ChoP.uintS; rw [if_pos e]
  have htk := fun er => take_any R B (ChoP.uintR s.p).2.1 er s w h k2
  generalize (ChoP.uintR s.p).1 = v at *
  generalize (ChoP.uintR s.p).2.1 = n at *
  generalize (ChoP.uintR s.p).2.2 = er at *
  have HU := Lib.hid hu
  have HTK := Lib.hid htk
  have HST := Lib.hid hst
  clear h hop hb hl hu hst htk c1
  by_cases he : s.err = 0
  · have hst := HST.out he
    have hop := HOP.out
    rw [show (s.err == 0) = true by simp [he]] at hop
    have HOP2 := Lib.hid hop
    clear hop HOP
    have hcase : (er = 0 ∧ most < v) ∨ (er = 0 ∧ ¬ most < v) ∨ er = 6 := by omega
    rcases hcase with ⟨rfl, hv⟩ | ⟨rfl, hv⟩ | rfl
    · have hle : ChoP.limE most v 0 = 2 := by unfold ChoP.limE; rw [if_pos ⟨rfl, hv⟩]
      rw [hle, if_neg (by decide)] at hst
      have HF := Lib.hid hst
      have f1 : (most : Int) < (v : Int) := by omega
      clear hst hle he k3
      go_enter Tryz.func37, Tryz.ntmps37
      go_wp2_with fail
      refine HOP2.out.mono ?_
      rintro e w1 ⟨rfl, rfl⟩
      go_wp2_with fail
      refine HU.out.mono ?_
      rintro e w1 ⟨rfl, rfl⟩
      go_wp2_with fail
      refine (HTK.out 2).mono ?_
      rintro e w1 ⟨rfl, hr, hg⟩
      have HR := Lib.hid hr
      have HG := Lib.hid hg
      clear hr hg
      go_wp2_with fail
      go_ret
      exact ⟨by rw [HF.out]; rfl, by rw [HF.out]; exact HR.out, HG.out⟩
    · have hle : ChoP.limE most v 0 = 0 := by unfold ChoP.limE; rw [if_neg (by omega)]
      rw [hle, if_pos rfl] at hst
      have HF := Lib.hid hst
      have f1 : ¬ ((most : Int) < (v : Int)) := by omega
      clear hst hle he k3
      go_enter Tryz.func37, Tryz.ntmps37
      go_wp2_with fail
      refine HOP2.out.mono ?_
      rintro e w1 ⟨rfl, rfl⟩
      go_wp2_with fail
      refine HU.out.mono ?_
      rintro e w1 ⟨rfl, rfl⟩
      go_wp2_with fail
      refine (HTK.out 0).mono ?_
      rintro e w1 ⟨rfl, hr, hg⟩
      have HR := Lib.hid hr
      have HG := Lib.hid hg
      clear hr hg
      go_wp2_with fail
      go_ret
      exact ⟨by rw [HF.out]; rfl, by rw [HF.out]; exact HR.out, HG.out⟩
    · have hle : ChoP.limE most v 6 = 6 := by unfold ChoP.limE; rw [if_neg (by omega)]
      rw [hle, if_neg (by decide)] at hst
      have HF := Lib.hid hst
      clear hst hle he k3
      go_enter Tryz.func37, Tryz.ntmps37
      go_wp2_with fail
      refine HOP2.out.mono ?_
      rintro e w1 ⟨rfl, rfl⟩
      go_wp2_with fail
      refine HU.out.mono ?_
      rintro e w1 ⟨rfl, rfl⟩
      go_wp2_with fail
      refine (HTK.out 6).mono ?_
      rintro e w1 ⟨rfl, hr, hg⟩
      have HR := Lib.hid hr
      have HG := Lib.hid hg
      clear hr hg
      go_wp2_with fail
      go_ret
      exact ⟨by rw [HF.out]; rfl, by rw [HF.out]; exact HR.out, HG.out⟩
  · have hf : ChoP.uintS most s = (0, s) := by unfold ChoP.uintS; rw [if_neg he]
    have HF := Lib.hid hf
    have hop := HOP.out
    rw [show (s.err == 0) = false by simp [he]] at hop
    have HOP2 := Lib.hid hop
    clear hop HOP hf
    go_enter Tryz.func37, Tryz.ntmps37
    go_wp2_with fail
    refine HOP2.out.mono ?_
    rintro e w1 ⟨rfl, rfl⟩
    go_wp2_with fail
    go_ret
    exact ⟨by rw [HF.out]; rfl, by rw [HF.out]; exact H.out, World.grownBy.refl w _⟩
theorem rInt_any (R B : Nat) (s : ChoP.RS) (w : World) (h : RD w R B s) : Calls Tryz.prog 80 #[.pointer (some ⟨R, 0, none⟩)] w (RPost R B (.int .i64 (ChoP.intS s).1) (ChoP.intS s).2 w) := by
  have hop := open_any R B s w h
  have H := Lib.hid h
  have HOP := Lib.hid hop
  obtain ⟨A, c, hb, hl, _⟩ := h.at_
  obtain ⟨⟨c0, c1⟩, _⟩ := blk2 hb
  have hsz := h.size
  have hu := numInt_any A s.p c w (hl.mono h.le) h.byt hsz
  obtain ⟨k1, k2, k3⟩ := uintR_le s.p h.byt
  have hst : s.err = 0 → ChoP.intS s = (if (ChoP.uintR s.p).2.2 = 0 then ChoP.unzig (ChoP.uintR s.p).1 else 0, ChoP.takeS s (ChoP.uintR s.p).2.1 (ChoP.uintR s.p).2.2) := fun e => by unfold ChoP.intS; rw [if_pos e]
  have htk := fun er => take_any R B (ChoP.uintR s.p).2.1 er s w h k2
  generalize (ChoP.uintR s.p).1 = v at *
  generalize (ChoP.uintR s.p).2.1 = n at *
  generalize (ChoP.uintR s.p).2.2 = er at *
  have HU := Lib.hid hu
  have HTK := Lib.hid htk
  have HST := Lib.hid hst
  clear h hop hb hl hu hst htk c1
  by_cases he : s.err = 0
  · have hst := HST.out he
    have hop := HOP.out
    rw [show (s.err == 0) = true by simp [he]] at hop
    have HOP2 := Lib.hid hop
    clear hop HOP
    rcases k3 with rfl | rfl
    · rw [if_pos rfl] at hst
      have HF := Lib.hid hst
      clear hst he
      go_enter Tryz.func80, Tryz.ntmps80
      go_wp2_with fail
      refine HOP2.out.mono ?_
      rintro e w1 ⟨rfl, rfl⟩
      go_wp2_with fail
      refine HU.out.mono ?_
      rintro e w1 ⟨rfl, rfl⟩
      go_wp2_with fail
      refine (HTK.out 0).mono ?_
      rintro e w1 ⟨rfl, hr, hg⟩
      have HR := Lib.hid hr
      have HG := Lib.hid hg
      clear hr hg
      go_wp2_with fail
      go_ret
      exact ⟨by rw [HF.out]; rfl, by rw [HF.out]; exact HR.out, HG.out⟩
    · rw [if_neg (by decide)] at hst
      have HF := Lib.hid hst
      clear hst he
      go_enter Tryz.func80, Tryz.ntmps80
      go_wp2_with fail
      refine HOP2.out.mono ?_
      rintro e w1 ⟨rfl, rfl⟩
      go_wp2_with fail
      refine HU.out.mono ?_
      rintro e w1 ⟨rfl, rfl⟩
      go_wp2_with fail
      refine (HTK.out 6).mono ?_
      rintro e w1 ⟨rfl, hr, hg⟩
      have HR := Lib.hid hr
      have HG := Lib.hid hg
      clear hr hg
      go_wp2_with fail
      go_ret
      exact ⟨by rw [HF.out]; rfl, by rw [HF.out]; exact HR.out, HG.out⟩
  · have hf : ChoP.intS s = (0, s) := by unfold ChoP.intS; rw [if_neg he]
    have HF := Lib.hid hf
    have hop := HOP.out
    rw [show (s.err == 0) = false by simp [he]] at hop
    have HOP2 := Lib.hid hop
    clear hop HOP hf
    go_enter Tryz.func80, Tryz.ntmps80
    go_wp2_with fail
    refine HOP2.out.mono ?_
    rintro e w1 ⟨rfl, rfl⟩
    go_wp2_with fail
    go_ret
    exact ⟨by rw [HF.out]; rfl, by rw [HF.out]; exact H.out, World.grownBy.refl w _⟩
end Go.Proofs.YtpniilgkceadeaaGreatDoor
