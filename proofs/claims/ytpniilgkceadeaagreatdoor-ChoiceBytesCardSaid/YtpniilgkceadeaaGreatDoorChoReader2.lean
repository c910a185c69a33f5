/- The reader: Byte, End, NewReader. -/
import Derived.Test.YtpniilgkceadeaaGreatDoorChoReader
namespace Go.Proofs.YtpniilgkceadeaaGreatDoor
open Go.RowKit
set_option maxHeartbeats 1000000
theorem end_any (R B : Nat) (s : ChoP.RS) (w : World) (h : RD w R B s) : Calls Tryz.prog 41 #[.pointer (some ⟨R, 0, none⟩)] w fun e w' => e = .returned (.int .i64 (ChoP.endE s)) ∧ w = w' := by
  have he := err_any R B s w h
  obtain ⟨A, c, hb, hl, _⟩ := h.at_
  obtain ⟨⟨c0, c1⟩, _⟩ := blk2 hb
  have hsz := h.size
  have HE := Lib.hid he
  clear he hb hl h c1
  by_cases h0 : s.err = 0
  · have he := HE.out
    rw [h0] at he
    have HE2 := Lib.hid he
    clear he HE
    cases hp : s.p with
    | nil =>
      have hf : ChoP.endE s = 0 := by unfold ChoP.endE; rw [if_pos h0, if_pos hp]
      have HF := Lib.hid hf
      rw [hp] at c0
      clear hf hp h0 hsz
      go_enter Tryz.func41, Tryz.ntmps41
      go_wp2_with fail
      refine HE2.out.mono ?_
      rintro e w1 ⟨rfl, rfl⟩
      go_wp2_with fail
      go_ret
      exact ⟨by rw [HF.out]; rfl, rfl⟩
    | cons b r =>
      have hf : ChoP.endE s = 6 := by unfold ChoP.endE; rw [if_pos h0, if_neg (by rw [hp]; simp)]
      have HF := Lib.hid hf
      rw [hp] at c0
      have f1 : ((((b :: r).length : Nat) : Int) == 0) = false := by simp; omega
      have f2 : ¬ (((b :: r).length : Nat) : Int) = 0 := by simp; omega
      generalize (b :: r).length = L at *
      clear hf hp h0 hsz
      go_enter Tryz.func41, Tryz.ntmps41
      go_wp2_with fail
      refine HE2.out.mono ?_
      rintro e w1 ⟨rfl, rfl⟩
      go_wp2_with fail
      go_ret
      exact ⟨by rw [HF.out]; rfl, rfl⟩
  · have hf : ChoP.endE s = s.err := by unfold ChoP.endE; rw [if_neg h0]
    have HF := Lib.hid hf
    have f1 : (s.err == 0) = false := by simp [h0]
    clear hf
    go_enter Tryz.func41, Tryz.ntmps41
    go_wp2_with fail
    refine HE.out.mono ?_
    rintro e w1 ⟨rfl, rfl⟩
    go_wp2_with fail
    go_ret
    exact ⟨by rw [HF.out]; rfl, rfl⟩
theorem rByte_any (R B : Nat) (s : ChoP.RS) (w : World) (h : RD w R B s) : Calls Tryz.prog 79 #[.pointer (some ⟨R, 0, none⟩)] w (RPost R B (.int .u8 ((ChoP.byteS s).1 : Int)) (ChoP.byteS s).2 w) := by
  have hop := open_any R B s w h
  have H := Lib.hid h
  have HOP := Lib.hid hop
  obtain ⟨A, c, hb, hl, hne, hc1, hc2⟩ := h.at_
  have hby := h.byt
  have hlt := h.lt
  have hle := h.le
  have hsz := h.size
  by_cases he : s.err = 0
  · have hop := HOP.out
    rw [show (s.err == 0) = true by simp [he]] at hop
    have HOP2 := Lib.hid hop
    clear hop HOP
    cases hp : s.p with
    | nil =>
      have hf : ChoP.byteS s = (0, ⟨[], 6⟩) := by unfold ChoP.byteS; rw [if_pos he, hp]
      have HF := Lib.hid hf
      rw [hp] at hb hl
      have hr := RD.put (s := ⟨[], 6⟩) (B := B) (A := A) (c := c) (i := 1) (v := .int .i64 6) hb (fun x hx => by cases hx) hlt hle rfl hl hne (by simp) hc2
      have HR := Lib.hid hr
      obtain ⟨⟨c0, c1⟩, ⟨f0, f1⟩⟩ := blk2 hb
      clear hf hr hb hl hne hby h hop he hp hc1 hsz
      go_enter Tryz.func79, Tryz.ntmps79
      go_wp2_with fail
      refine HOP2.out.mono ?_
      rintro e w1 ⟨rfl, rfl⟩
      go_wp2_with fail
      go_ret
      exact ⟨by rw [HF.out]; rfl, by rw [HF.out]; exact HR.out, grown_set _ _ _ _⟩
    | cons x r =>
      have hf : ChoP.byteS s = (x, ⟨r, s.err⟩) := by unfold ChoP.byteS; rw [if_pos he, hp]
      have HF := Lib.hid hf
      have hlen : s.p.length = r.length + 1 := by rw [hp]; rfl
      rw [hp] at hb hl hc1 hby
      have hcl := hl.cut1 1 c (by simpa [natC] using hc1)
      have ed : (natC (x :: r)).drop 1 = natC r := by simp [natC]
      rw [ed] at hcl
      have hcne : ∀ a, (if c = 1 then A else Option.map (fun y => y.add 1) A) = some a → a.block ≠ R := by
        intro a e
        split at e
        · exact hne a e
        · obtain ⟨a', ha', rfl⟩ := Option.map_eq_some_iff.1 e
          have : (a'.add 1).block = a'.block := by unfold Addr.add; split <;> rfl
          rw [this]
          exact hne a' ha'
      have hr := RD.put (s := ⟨r, s.err⟩) (B := B) (A := if c = 1 then A else Option.map (fun y => y.add 1) A) (c := c - 1) (i := 0) (v := .slice (if c = 1 then A else Option.map (fun y => y.add 1) A) r.length (c - 1)) hb (fun y hy => hby y (List.mem_cons_of_mem _ hy)) hlt hle (by rfl) hcl hcne (by simp at hc1; show r.length ≤ c - 1; omega) (by omega)
      have HR := Lib.hid hr
      obtain ⟨b, o, rfl, hb0, hcb⟩ := hl.at_ 0 (.int .u8 (x : Int)) (by simp [natC])
      obtain ⟨⟨c0, c1⟩, ⟨f0, f1⟩⟩ := blk2 hb
      have x0 : w.cell? ⟨b, o, none⟩ = some (.int .u8 (x : Int)) := hcb
      have hL : (x :: r).length = r.length + 1 := rfl
      rw [hL] at c0
      have g1 : (((r.length + 1 : Nat) : Int) == 0) = false := by simp; omega
      have g2 : ¬ ((r.length + 1 : Nat) : Int) = 0 := by omega
      have hc3 : r.length + 1 ≤ c := by simpa using hc1
      have g3 : (1 : Int) ≤ (c : Int) := by omega
      have g4 : (1 : Int) ≤ ((r.length + 1 : Nat) : Int) := by omega
      have g5 : ((r.length + 1 : Nat) : Int) ≤ (c : Int) := by omega
      clear hf hr hb hl hne hby h hop he hp hc1 hsz hcl ed hcne hlen hL hcb
      by_cases hcn : c = 1
      · have hr := HR.out
        rw [if_pos hcn] at hr
        subst hcn
        have hr0 : r.length = 0 := by omega
        rw [hr0] at hr
        have HR2 := Lib.hid hr
        clear hr HR hr0
        go_enter Tryz.func79, Tryz.ntmps79
        go_wp2_with fail
        refine HOP2.out.mono ?_
        rintro e w1 ⟨rfl, rfl⟩
        go_wp2_with fail
        go_ret
        exact ⟨by rw [HF.out]; rfl, by rw [HF.out]; exact HR2.out, grown_set _ _ _ _⟩
      · have hr := HR.out
        rw [if_neg hcn, Option.map_some, addr_add] at hr
        have HR2 := Lib.hid hr
        clear hr HR
        go_enter Tryz.func79, Tryz.ntmps79
        go_wp2_with fail
        refine HOP2.out.mono ?_
        rintro e w1 ⟨rfl, rfl⟩
        go_wp2_with fail
        go_ret
        exact ⟨by rw [HF.out]; rfl, by rw [HF.out]; exact HR2.out, grown_set _ _ _ _⟩
  · have hf : ChoP.byteS s = (0, s) := by unfold ChoP.byteS; rw [if_neg he]
    have HF := Lib.hid hf
    have hop := HOP.out
    rw [show (s.err == 0) = false by simp [he]] at hop
    have HOP2 := Lib.hid hop
    clear hop HOP hf
    go_enter Tryz.func79, Tryz.ntmps79
    go_wp2_with fail
    refine HOP2.out.mono ?_
    rintro e w1 ⟨rfl, rfl⟩
    go_wp2_with fail
    go_ret
    exact ⟨by rw [HF.out]; rfl, by rw [HF.out]; exact H.out, World.grownBy.refl w _⟩
theorem own_u8 (W : World) : (W.alloc (.cells #[] 5)).ownsRow W.heap.size 5 1 (.slice (some ⟨W.heap.size, 0, none⟩) 0 0) 0 [] :=
  ⟨rfl, .inr ⟨W.heap.size, 0, #[], rfl, Nat.le_refl _, heap_alloc_new W _, Nat.le_refl _, by unfold maxLen; omega, rfl, rfl⟩⟩
/-- a new reader -/
def NewRPost (p : List Nat) (w : World) (e : Ending) (w' : World) : Prop := ∃ R, e = .returned (.pointer (some ⟨R, 0, none⟩)) ∧ RD w' R w'.heap.size ⟨p, 0⟩ ∧ w.heap.size ≤ R ∧ RowKit.Below w.heap.size w w'
theorem newReader_any (A : Option Addr) (p : List Nat) (c : Nat) (w : World) (h : Lie w w.heap.size A (natC p)) (hb : ChoP.Byt p) (hl : p.length ≤ 140737488351232) : Calls Tryz.prog 36 #[.slice A p.length c] w (NewRPost p w) := by
  obtain ⟨i0, hi0, hz0, hz1, hz2⟩ := info_parts info_u8
  have H := Lib.hid h
  have HBB := Lib.hid hb
  clear h hb
  go_enter Tryz.func36, Tryz.ntmps36
  go_wp2_with (at_builtin; refine wpList_append_lie rfl _ _ 32 rfl w.heap.size 5 i0 _ 1 1 Tryz.underlying32 hi0 hz0 hz1 hz2 rfl (by decide) (.slice (some ⟨w.heap.size, 0, none⟩) 0 0) 0 [] rfl ?c0 w.heap.size A p.length c (natC p) rfl ?c1 ?c2 ?c3 ?c4 ?c5 ?_)
  case c0 => exact own_u8 w
  case c1 => exact ⟨by simp [natC], H.out.below ((RowKit.Below.refl _ _).alloc (Nat.le_refl _) _) (Nat.le_refl _)⟩
  case c2 => exact natC_one _
  case c3 => unfold maxLen; omega
  case c4 => omega
  case c5 => simp
  intro v2 w2 hown2 hgrow2 _
  have hbw : RowKit.Below w.heap.size w w2 := ((RowKit.Below.refl w.heap.size w).alloc (Nat.le_refl _) _).grown hgrow2 (by simp) (fun k e => by simp [Value.ownBlock] at e; omega)
  obtain ⟨A2, c2, rfl, hc1, hc2, hsl⟩ := own_form hown2
  have hlt : ∀ a, A2 = some a → a.block < w2.heap.size := fun a e => own_lt hown2 a.block (by rw [e]; rfl)
  have hc1 : p.length ≤ c2 := by simpa using hc1
  have hsl : Lie w2 w2.heap.size A2 (natC p) := by simpa using hsl.2
  have HBW := Lib.hid hbw
  have HSL := Lib.hid hsl
  have HLT := Lib.hid hlt
  clear hown2 hgrow2 hbw hsl hlt
  go_wp2_with fail
  go_ret
  refine ⟨w2.heap.size, rfl, ⟨⟨A2, c2, heap_alloc_new w2 _, HSL.out.below ((RowKit.Below.refl _ _).alloc (Nat.le_refl _) _) (by simp), fun a e => ?_, hc1, hc2⟩, HBB.out, by simp, Nat.le_refl _⟩, HBW.out.size, HBW.out.alloc HBW.out.size _⟩
  have := HLT.out a e
  omega
end Go.Proofs.YtpniilgkceadeaaGreatDoor
