/- choice's scanner: its method choice. -/
import Derived.Test.YtpniilgkceadeaaGreatDoorChoScanKey
import Derived.Test.YtpniilgkceadeaaGreatDoorChoApp2
import Derived.Deep.RegionLaw
import Derived.Deep.DeepCutAuto
import Derived.Deep.LoopGhost
namespace ChoP
theorem wordS_len' (s : PS) : (wordS s).2.ws.length ≤ s.ws.length := by
  unfold wordS
  split
  · simp
  · rename_i e; rw [e]; simp
theorem numS_len (s : PS) : (numS s).2.ws.length ≤ s.ws.length := wordS_len' s
theorem keyS_len (s : PS) : (keyS s).2.ws.length ≤ s.ws.length := by
  have h1 := wordS_len' s
  have h2 : (keyA s).2.ws.length ≤ (wordS s).2.ws.length := numS_len _
  have h3 : (keyB s).2.ws.length ≤ (keyA s).2.ws.length := by
    unfold keyB
    split
    · exact numS_len _
    · exact Nat.le_refl _
  have h4 : (keyN s).2.ws.length ≤ (keyB s).2.ws.length := numS_len _
  unfold keyS
  split
  · exact h1
  · exact Nat.le_trans h4 (Nat.le_trans h3 (Nat.le_trans h2 h1))
theorem choT_len (s : PS) : (choT s).2.ws.length ≤ s.ws.length := by
  refine Nat.le_trans ?_ (keyS_len s)
  unfold choT
  split
  · exact Nat.le_trans (numS_len _) (wordS_len' _)
  · exact Nat.le_refl _
theorem argF_zero (s : PS) : argF s 0 = ([], s) := by simp [argF]
theorem choD_len (s : PS) : (choD s).2.ws.length ≤ s.ws.length := by
  refine Nat.le_trans ?_ (choT_len s)
  unfold choD
  split
  · exact numS_len _
  · exact Nat.le_refl _
end ChoP
namespace Go.Proofs.YtpniilgkceadeaaGreatDoor
open Go.RowKit
def zeroCho : Array Value := #[.int .u8 0, .int .i64 0, .int .i64 0, .int .i64 0, .int .i64 0, .int .i64 0, .slice none 0 0]
def rowK (k : ChoP.Key) (t d : Int) (v : Value) : Array Value := #[.int .u8 k.kind, .int .i64 k.a, .int .i64 k.b, .int .i64 k.n, .int .i64 t, .int .i64 d, v]
/-- while a choice is taken: the scanner, the result's block, the choice's block -/
structure CS (w wr : World) (q G : Nat) (s : ChoP.PS) (cs : Array Value) : Prop where
  sc : SC wr q s
  z : wr.heap[w.heap.size]? = some (.cells zeroCho 59 (0, 0))
  g : wr.heap[G]? = some (.cells cs 59 (0, 0))
  gr : w.grownBy wr (some q)
  laid : LaidP wr
  lt : q < w.heap.size
  low : LowP q
  zg : w.heap.size < G
theorem CS.num {w wr w2 : World} {q G : Nat} {s s' : ChoP.PS} {cs : Array Value} (h : CS w wr q G s cs) (hs : SC w2 q s') (hg : wr.grownBy w2 (some q)) : CS w w2 q G s' cs := by
  have hlt := h.lt
  have hzg := h.zg
  have hz : w.heap.size < wr.heap.size := (Array.getElem?_eq_some_iff.1 h.z).1
  have hG : G < wr.heap.size := (Array.getElem?_eq_some_iff.1 h.g).1
  exact ⟨hs, (hg.block _ hz (by simp; omega)).trans h.z, (hg.block _ hG (by simp; omega)).trans h.g, grown_trans h.gr hg,
    h.laid.keep (B := q) h.low ⟨hg.os, hg.tape, hg.output, hg.size, fun k hk => hg.block k (by omega) (by simp; omega)⟩, h.lt, h.low, h.zg⟩
theorem CS.setG {w wr : World} {q G : Nat} {s : ChoP.PS} {cs : Array Value} (h : CS w wr q G s cs) (i : Nat) (u : Value) : CS w (wr.setCell ⟨G, i, none⟩ u) q G s (cs.setIfInBounds i u) := by
  have hlt := h.lt
  have hzg := h.zg
  exact ⟨h.sc.blocks (fun b hb => Go.Deep.blk_setCell_other _ _ _ _ (by show b ≠ G; omega)), (Go.Deep.blk_setCell_other _ _ _ _ (by show w.heap.size ≠ G; omega)).trans h.z, blk_set h.g,
    grown_set_ge h.gr _ (by show w.heap.size ≤ G; omega) _,
    h.laid.keep (B := q) h.low ((Below.refl _ _).setCell (by show q ≤ G; omega) _), h.lt, h.low, h.zg⟩
theorem CS.mark {w wr : World} {q G : Nat} {s : ChoP.PS} {cs : Array Value} (h : CS w wr q G s cs) (b : Bool) : CS w (wr.setCell ⟨q, 1, none⟩ (.bool b)) q G ⟨s.ws, b⟩ cs := by
  obtain ⟨X, c, hb, hl, h3, h4⟩ := h.sc.at_
  exact CS.num h (SC.put hb rfl hl h3 h4 h.sc.len) (grown_set _ _ _ _)
theorem CS.app {w w2 w3 : World} {q G : Nat} {s : ChoP.PS} {cs : Array Value} {o : Obj} {row : Option Nat} (h : CS w w2 q G s cs) (hg : (w2.alloc o).grownBy w3 row) (hr : ∀ z, row = some z → G + 1 ≤ z) : CS w w3 q G s cs := by
  have hlt := h.lt
  have hzg := h.zg
  have hz : w.heap.size < w2.heap.size := (Array.getElem?_eq_some_iff.1 h.z).1
  have hG : G < w2.heap.size := (Array.getElem?_eq_some_iff.1 h.g).1
  have hb : ∀ b, b < G + 1 → w3.heap[b]? = w2.heap[b]? := fun b hb => (hg.block b (by rw [World.size_alloc]; omega) (fun e => by have := hr b e.symm; omega)).trans (heap_alloc_old w2 o (by omega))
  have hs := hg.size
  rw [World.size_alloc] at hs
  exact ⟨h.sc.blocks (fun b h1 => hb b (by omega)), (hb _ (by omega)).trans h.z, (hb _ (by omega)).trans h.g,
    grown_far (grown_alloc h.gr o) hg (fun z e => by have := hr z e; omega),
    h.laid.keep (B := q) h.low ⟨hg.os, hg.tape, hg.output, by omega, fun k hk => hb k (by omega)⟩, h.lt, h.low, h.zg⟩
/-- what the method choice leaves -/
def CPost (q : Nat) (c : ChoP.Cho) (s : ChoP.PS) (w : World) (e : Ending) (w' : World) : Prop :=
  ∃ r : Row, e = .returned (choV r) ∧ RowIs w' w'.heap.size r c ∧ (∀ b o, r.p = some ⟨b, o, none⟩ → w.heap.size ≤ b ∧ b < w'.heap.size) ∧ SC w' q s ∧ w.grownBy w' (some q)
/-- the result is laid into its block -/
theorem CS.fin {w wr : World} {q G : Nat} {s : ChoP.PS} {k : ChoP.Key} {t d : Int} {A : Option Addr} {n c : Nat} {ar : List Int} {f : Bool} (h : CS w wr q G s (rowK k t d (.slice A n c))) (hn : n = ar.length) (hc : n ≤ c) (hm : c ≤ 9223372036854775807) (hl : Lie wr wr.heap.size A (intV ar))
    (hna : ∀ b o, A = some ⟨b, o, none⟩ → G + 1 ≤ b ∧ b < wr.heap.size) (u0 u1 u2 u3 u4 u5 u6 : Value) :
    CPost q ⟨k, t, d, ar⟩ ⟨s.ws, f⟩ w (.returned (choV ⟨k, t, d, A, n, c⟩)) ((((((((wr.setCell ⟨q, 1, none⟩ (.bool f)).setCell ⟨w.heap.size, 0, none⟩ u0).setCell ⟨w.heap.size, 1, none⟩ u1).setCell ⟨w.heap.size, 2, none⟩ u2).setCell ⟨w.heap.size, 3, none⟩ u3).setCell ⟨w.heap.size, 4, none⟩ u4).setCell ⟨w.heap.size, 5, none⟩ u5).setCell ⟨w.heap.size, 6, none⟩ u6) := by
  have hlt := h.lt
  have hzg := h.zg
  have hm2 := h.mark f
  have hs : ∀ (W : World) (i : Nat) (u : Value), SC W q ⟨s.ws, f⟩ → SC (W.setCell ⟨w.heap.size, i, none⟩ u) q ⟨s.ws, f⟩ := fun W i u hW => hW.blocks (fun b hb => Go.Deep.blk_setCell_other _ _ _ _ (by show b ≠ w.heap.size; omega))
  have hle : w.heap.size ≤ w.heap.size := Nat.le_refl _
  have hne : ∀ b' o', A = some ⟨b', o', none⟩ → b' ≠ w.heap.size := fun b' o' e => by have := hna b' o' e; omega
  have hneq : ∀ b' o', A = some ⟨b', o', none⟩ → b' ≠ q := fun b' o' e => by have := hna b' o' e; omega
  refine ⟨_, rfl, ⟨rfl, rfl, rfl, hn, hc, hm, ?_⟩, fun b o e => ?_, hs _ _ _ (hs _ _ _ (hs _ _ _ (hs _ _ _ (hs _ _ _ (hs _ _ _ (hs _ _ _ hm2.sc)))))),
    grown_set_ge (grown_set_ge (grown_set_ge (grown_set_ge (grown_set_ge (grown_set_ge (grown_set_ge hm2.gr _ hle _) _ hle _) _ hle _) _ hle _) _ hle _) _ hle _) _ hle _⟩
  · simp only [World.size_setCell]
    exact (((((((hl.set _ _ hneq).set _ _ hne).set _ _ hne).set _ _ hne).set _ _ hne).set _ _ hne).set _ _ hne).set _ _ hne
  · have := hna b o e
    simp only [World.size_setCell]
    omega
theorem newI64 (W : World) (x : Int) : SliceIs (W.alloc (.cells #[.int .i64 x] 2)) (W.heap.size + 1) 1 (some ⟨W.heap.size, 0, none⟩) 1 [.int .i64 x] :=
  ⟨rfl, fun _ => ⟨W.heap.size, 0, rfl, by omega, fun j u hu => by
    rw [Nat.zero_add]
    exact cell_at (heap_alloc_new W _) j u (by simpa using hu)⟩⟩
set_option maxRecDepth 100000 in
set_option maxHeartbeats 8000000 in
theorem sChoice_any (q : Nat) (s : ChoP.PS) (w : World) (h : SC w q s) (hL : LaidP w) (hq : LowP q) (hn : s.ws.length ≤ 1000000) : Calls Tryz.prog 46 #[.pointer (some ⟨q, 0, none⟩)] w (CPost q (ChoP.choS s).1 (ChoP.choS s).2 w) := by
  obtain ⟨i0, hi0, hz0, hz1, hz2⟩ := info_parts info_i64
  have hqw := h.lt
  have hba : ∀ o1 : Obj, Below w.heap.size w (w.alloc o1) := fun o1 => (Below.refl _ _).alloc (Nat.le_refl _) o1
  have hw := fun o1 : Obj => key_any q s (w.alloc o1) (h.below (hba o1)) (hL.below (hba o1)) hq
  have HW := Lib.hid hw
  have HBA := Lib.hid hba
  have HL := Lib.hid hL
  have HQ := Lib.hid hq
  clear hw hba hL hq
  go_enter Tryz.func46, Tryz.ntmps46
  go_wp2_with fail
  refine (HW.out _).mono ?_
  rintro e w1 ⟨rfl, hs1, hg1⟩
  have eT : ChoP.choT s = if ChoP.timedB (ChoP.keyS s).1.kind = true then ChoP.numS (ChoP.atW (ChoP.keyS s).2) else (0, (ChoP.keyS s).2) := rfl
  have eD : ChoP.choD s = if ChoP.measuredB (ChoP.keyS s).1.kind = true then ChoP.numS (ChoP.choT s).2 else (0, (ChoP.choT s).2) := rfl
  have eA : ChoP.choA s = if (ChoP.keyS s).1.kind = 1 then ChoP.argF (ChoP.choD s).2 (ChoP.choD s).2.ws.length else ([], (ChoP.choD s).2) := rfl
  have eS : ChoP.choS s = (⟨(ChoP.keyS s).1, (ChoP.choT s).1, (ChoP.choD s).1, (ChoP.choA s).1⟩, ⟨(ChoP.choA s).2.ws, (ChoP.choA s).2.bad || decide ((ChoP.choA s).2.ws ≠ [])⟩) := rfl
  have hcs : CS w (w1.alloc (.cells (rowK (ChoP.keyS s).1 0 0 (.slice none 0 0)) 59)) q w1.heap.size (ChoP.keyS s).2 (rowK (ChoP.keyS s).1 0 0 (.slice none 0 0)) := by
    have hz : w.heap.size < w1.heap.size := by have := hg1.size; rw [World.size_alloc] at this; omega
    refine ⟨hs1.below ((Below.refl _ _).alloc (Nat.le_refl _) _), (heap_alloc_old _ _ hz).trans ((hg1.block w.heap.size (by simp) (by simp; omega)).trans (heap_alloc_new w _)), heap_alloc_new w1 _, ?_, ?_, hqw, HQ.out, hz⟩
    · exact grown_alloc (grown_trans (World.grownBy_alloc _ _ _) hg1) _
    · exact HL.out.keep (B := q) HQ.out ((((HBA.out _).mono (by omega)).trans ⟨hg1.os, hg1.tape, hg1.output, hg1.size, fun k hk => hg1.block k (by simp; omega) (by simp; omega)⟩).alloc (by have := hg1.size; rw [World.size_alloc] at this; omega) _)
  unfold rowK at hcs
  generalize hG : w1.heap.size = G at *
  generalize ChoP.keyS s = kS at *
  obtain ⟨⟨kd, ka, kb, kn⟩, s1⟩ := kS
  dsimp only at eT eD eA eS hcs
  have e1 : keyV ⟨kd, ka, kb, kn⟩ = .agg #[.int .u8 kd, .int .i64 ka, .int .i64 kb, .int .i64 kn] := rfl
  rw [e1]
  have HCS := Lib.hid hcs
  have HET := Lib.hid eT
  have HED := Lib.hid eD
  have HEA := Lib.hid eA
  have HES := Lib.hid eS
  clear hs1 hg1 hcs eT eD eA eS e1 HW HBA h HL
  go_wp2_with fail
  refine (timed_any _ _).mono ?_
  rintro e w' ⟨rfl, rfl⟩
  generalize w1.alloc _ = w2 at *
  have hneq : q ≠ G := by have := HCS.out.zg; omega
  have hneZ : w.heap.size ≠ G := by have := HCS.out.zg; omega
  go_upto_if 10 with fail
  go_cut [] (fun wx => Hid (CS w wx q G (ChoP.choT s).2 #[.int .u8 kd, .int .i64 ka, .int .i64 kb, .int .i64 kn, .int .i64 (ChoP.choT s).1, .int .i64 0, .slice none 0 0]))
  case first =>
    have eT := HET.out
    cases ht : ChoP.timedB kd
    · rw [ht, if_neg (by simp)] at eT
      have HC2 : Hid (CS w w2 q G (ChoP.choT s).2 #[.int .u8 kd, .int .i64 ka, .int .i64 kb, .int .i64 kn, .int .i64 (ChoP.choT s).1, .int .i64 0, .slice none 0 0]) := Lib.hid (by rw [eT]; exact HCS.out)
      clear eT HCS
      go_wp2_with fail
      go_meet
      exact HC2
    · rw [ht, if_pos rfl] at eT
      have hw := word_any q s1 w2 HCS.out.sc
      have ea : ChoP.atW s1 = ⟨(ChoP.wordS s1).2.ws, decide ((ChoP.wordS s1).1 ≠ [97, 116]) || (ChoP.wordS s1).2.bad⟩ := rfl
      generalize (ChoP.wordS s1).1 = x at *
      generalize (ChoP.wordS s1).2 = s2 at *
      obtain ⟨ws2, bad2⟩ := s2
      have HW2 := Lib.hid hw
      have HEA2 := Lib.hid ea
      have HET2 := Lib.hid eT
      clear eT hw ea
      cases hx : (x == [97, 116])
      all_goals
        have hx2 := congrArg (fun b => !b) hx
        go_wp2_with fail
        refine HW2.out.mono ?_
        rintro e w3 ⟨rfl, hs3, hg3⟩
        have hk3 := HCS.out.num hs3 hg3
        obtain ⟨X, c, hblk, _, _, _⟩ := hs3.at_
        obtain ⟨⟨_, q1⟩, ⟨_, p1⟩⟩ := blk2 hblk
        have HK3 := Lib.hid hk3
        have hd := HEA2.out
        have hk4 : ∃ bb : Bool, (bb = if x = [97, 116] then bad2 else true) ∧ CS w (w3.setCell ⟨q, 1, none⟩ (.bool bb)) q G (ChoP.atW s1) #[.int .u8 kd, .int .i64 ka, .int .i64 kb, .int .i64 kn, .int .i64 0, .int .i64 0, .slice none 0 0] := by
          refine ⟨_, rfl, ?_⟩
          rw [hd]
          have := HK3.out.mark (if x = [97, 116] then bad2 else true)
          by_cases e : x = [97, 116] <;> simp only [e, if_true, if_false, ne_eq, not_true_eq_false, not_false_eq_true, decide_true, decide_false, Bool.true_or, Bool.false_or] at this ⊢ <;> exact this
        obtain ⟨bb, hbb, hk4⟩ := hk4
        first
          | (rw [if_neg (by simpa using hx)] at hbb; subst hbb)
          | (rw [if_pos (by simpa using hx)] at hbb; subst hbb)
        have hn := sNumber_any q (ChoP.atW s1) _ hk4.sc hk4.laid hk4.low
        rw [← HET2.out] at hn
        have HN := Lib.hid hn
        have HK4 := Lib.hid hk4
        clear hs3 hg3 hk3 hblk HW2 HCS HK3 hd hn hk4
        go_wp2_with fail
        refine HN.out.mono ?_
        rintro e w5 ⟨rfl, hs5, hg5⟩
        have hk5 := HK4.out.num hs5 hg5
        obtain ⟨⟨a0, a1, a2, a3, a4, a5, a6⟩, ⟨y0, y1, y2, y3, y4, y5, y6⟩⟩ := blk7 hk5.g
        have hk6 := hk5.setG 4 (.int .i64 (ChoP.choT s).1)
        have HK6 : Hid (CS w (w5.setCell ⟨G, 4, none⟩ (.int .i64 (ChoP.choT s).1)) q G (ChoP.choT s).2 #[.int .u8 kd, .int .i64 ka, .int .i64 kb, .int .i64 kn, .int .i64 (ChoP.choT s).1, .int .i64 0, .slice none 0 0]) := Lib.hid hk6
        clear hs5 hg5 hk5 hk6 HN HK4 q1 p1
        go_wp2_with fail
        go_meet
        exact HK6
  case rest =>
    clear HCS HET
    have eD := HED.out
    have eS := HES.out
    generalize ChoP.choT s = kT at *
    obtain ⟨tv, s2⟩ := kT
    dsimp only at eD eS hcut
    have HED2 := Lib.hid eD
    have HES2 := Lib.hid eS
    obtain ⟨⟨a0, a1, a2, a3, a4, a5, a6⟩, _⟩ := blk7 hcut.out.g
    clear eD eS HED HES
    go_wp2_with fail
    refine (measured_any _ _).mono ?_
    rintro e w' ⟨rfl, rfl⟩
    clear a0 a1 a2 a3 a4 a5 a6
    obtain ⟨w3, rfl⟩ : ∃ w3 : World, w3 = wc := ⟨_, rfl⟩
    have HCT := hcut
    clear hcut
    go_upto_if 29 with fail
    go_cut [] (fun wx => Hid (CS w wx q G (ChoP.choD s).2 #[.int .u8 kd, .int .i64 ka, .int .i64 kb, .int .i64 kn, .int .i64 tv, .int .i64 (ChoP.choD s).1, .slice none 0 0]))
    case first =>
      have eD := HED2.out
      cases hm : ChoP.measuredB kd
      · rw [hm, if_neg (by simp)] at eD
        have HC2 : Hid (CS w w3 q G (ChoP.choD s).2 #[.int .u8 kd, .int .i64 ka, .int .i64 kb, .int .i64 kn, .int .i64 tv, .int .i64 (ChoP.choD s).1, .slice none 0 0]) := Lib.hid (by rw [eD]; exact HCT.out)
        clear eD HCT
        go_wp2_with fail
        go_meet
        exact HC2
      · rw [hm, if_pos rfl] at eD
        have hn := sNumber_any q s2 _ HCT.out.sc HCT.out.laid HCT.out.low
        rw [← eD] at hn
        have HN := Lib.hid hn
        clear eD hn
        go_wp2_with fail
        refine HN.out.mono ?_
        rintro e w5 ⟨rfl, hs5, hg5⟩
        have hk5 := HCT.out.num hs5 hg5
        obtain ⟨⟨a0, a1, a2, a3, a4, a5, a6⟩, ⟨y0, y1, y2, y3, y4, y5, y6⟩⟩ := blk7 hk5.g
        have hk6 := hk5.setG 5 (.int .i64 (ChoP.choD s).1)
        have HK6 : Hid (CS w (w5.setCell ⟨G, 5, none⟩ (.int .i64 (ChoP.choD s).1)) q G (ChoP.choD s).2 #[.int .u8 kd, .int .i64 ka, .int .i64 kb, .int .i64 kn, .int .i64 tv, .int .i64 (ChoP.choD s).1, .slice none 0 0]) := Lib.hid hk6
        clear hs5 hg5 hk5 hk6 HN HCT
        go_wp2_with fail
        go_meet
        exact HK6
    case rest =>
      clear HCT HED2
      have eA := HEA.out
      have eS := HES2.out
      have hws : (ChoP.choD s).2.ws.length ≤ s.ws.length := ChoP.choD_len s
      generalize ChoP.choD s = kD at *
      obtain ⟨dv, s3⟩ := kD
      dsimp only at eA eS hcut hws
      have HES3 := Lib.hid eS
      have HEA3 := Lib.hid eA
      have HCD := hcut
      clear hcut eA eS HEA HES2
      obtain ⟨w3, rfl⟩ : ∃ w3 : World, w3 = wc := ⟨_, rfl⟩
      obtain ⟨n, hN⟩ : ∃ n, n = if kd = 1 then s3.ws.length else 0 := ⟨_, rfl⟩
      have hA2 : ChoP.choA s = ChoP.argF s3 n := by
        rw [HEA3.out, hN]
        split
        · rfl
        · rw [ChoP.argF_zero]
      have hn1 : n ≤ s3.ws.length := by rw [hN]; split <;> omega
      have HN := Lib.hid hN
      have HA2 := Lib.hid hA2
      clear hN hA2 HEA3
      have hzG := HCD.out.zg
      have hG3 : G < w3.heap.size := (Array.getElem?_eq_some_iff.1 HCD.out.g).1
      go_wp2_with fail
      go_loopg [] n (fun m wr => ∃ (j : Nat) (v : Value), j + m = n ∧ CS w wr q G (ChoP.argF s3 j).2 #[.int .u8 kd, .int .i64 ka, .int .i64 kb, .int .i64 kn, .int .i64 tv, .int .i64 dv, v] ∧ wr.ownsRow (G + 1) 2 1 v j (intV (ChoP.argF s3 j).1))
      case atStart => exact ⟨0, .slice none 0 0, by omega, by rw [ChoP.argF_zero]; exact HCD.out, by rw [ChoP.argF_zero]; exact ⟨rfl, .inl ⟨rfl, rfl⟩⟩⟩
      case round =>
        clear HCD
        obtain ⟨j, v, hjm, hc, hown⟩ := hrel
        have hlen : (ChoP.argF s3 j).2.ws.length = s3.ws.length - j := by simp [ChoP.argF]
        obtain ⟨⟨a0, a1, a2, a3, a4, a5, a6⟩, _⟩ := blk7 hc.g
        have hGr : G < wr.heap.size := (Array.getElem?_eq_some_iff.1 hc.g).1
        obtain ⟨X, c, hblk, hX1, hX2, hX3⟩ := hc.sc.at_
        rw [hlen] at hblk
        obtain ⟨⟨q0, q1⟩, ⟨_, p1⟩⟩ := blk2 hblk
        have hzr := hc.zg
        have hqr := hc.lt
        clear hX1 hX2 hX3
        have HC := Lib.hid hc
        have HO := Lib.hid hown
        have HLEN := Lib.hid hlen
        clear hc hown hblk hlen
        by_cases hlt : 0 < gk
        · have hk1 : kd = 1 := by
            have := HN.out
            by_cases e : kd = 1
            · exact e
            · rw [if_neg e] at this; omega
          subst hk1
          obtain ⟨L, hL⟩ : ∃ L, s3.ws.length - j = L := ⟨_, rfl⟩
          have hL0 : 0 < L := by omega
          rw [hL] at q0
          clear hL
          have hnum := fun (W : World) (hS : SC W q (ChoP.argF s3 j).2) (hLW : LaidP W) => sNumber_any q (ChoP.argF s3 j).2 W hS hLW HC.out.low
          obtain ⟨wd, hwd⟩ : ∃ wd, s3.ws[j]? = some wd := ⟨_, List.getElem?_eq_getElem (by have := HN.out; rw [if_pos rfl] at this; omega)⟩
          have hsucc := ChoP.argF_succ s3 j wd hwd
          have hst1 : (ChoP.argF s3 (j + 1)).1 = (ChoP.argF s3 j).1 ++ [(ChoP.numS (ChoP.argF s3 j).2).1] := by rw [hsucc]
          have hst2 : (ChoP.argF s3 (j + 1)).2 = (ChoP.numS (ChoP.argF s3 j).2).2 := by rw [hsucc]
          have HS1 := Lib.hid hst1
          have HS2 := Lib.hid hst2
          clear hst1 hst2 hsucc hwd q1 p1 a1 a2 a3 a4 a5
          generalize (ChoP.numS (ChoP.argF s3 j).2).1 = x at *
          generalize (ChoP.numS (ChoP.argF s3 j).2).2 = s4 at *
          have HU := Lib.hid hnum
          clear hnum
          have hj6 : j ≤ 1000000 := by omega
          have hn1' : j + 1 ≤ maxLen := by unfold maxLen; omega
          have hn2' : (j + 1) * 8 ≤ 140737488355328 := by omega
          have hvR : v.ownBlock = none ∨ v.ownBlock ≠ some q := by
            cases hv : v.ownBlock with
            | none => exact .inl rfl
            | some z => exact .inr (fun e => by injection e with e; subst e; have := own_ge HO.out _ hv; omega)
          have hvG : some G ≠ v.ownBlock := fun e => by have := own_ge HO.out G e.symm; omega
          go_wp2_with fail
          go_region_law (first | (go_simp; go_at_call 85; refine Calls.mono (HU.out _ (HC.out.sc.blocks (fun _ _ => rfl)) (HC.out.laid.below ⟨rfl, rfl, rfl, Nat.le_refl _, fun _ _ => rfl⟩)) ?_; rintro e w2 ⟨rfl, hr2, hg2⟩; have hc2 := HC.out.num hr2 ⟨hg2.os, hg2.tape, hg2.output, hg2.size, hg2.block⟩; have m6 := cell_at hc2.g 6 v rfl; have hzz2 : G < w2.heap.size := Nat.lt_of_lt_of_le hGr hg2.size; have ho2 := World.ownsRow.kept (w := wr.drew) HO.out.drew hg2 hvR) | (refine step_append_lie (by rfl) (.tmp 46) (.tmp 49) _ (by rfl) (G + 1) 2 i0 _ 1 8 Tryz.underlying57 hi0 hz0 hz1 hz2 rfl (by decide) v j (intV (ChoP.argF s3 j).1) (by rfl) (ho2.alloc _) (w2.heap.size + 1) (some ⟨w2.heap.size, 0, none⟩) 1 1 [.int .i64 x] (by rfl) (newI64 w2 x) (by simp [Value.oneCell']) hn1' hn2' (by rw [World.size_alloc]; omega) ?_; intro v' w3 hown3 hgrow3 hat3; obtain ⟨A3, c3, rfl, hc3, hc3', hsl3⟩ := own_form hown3; have hb3 := (hgrow3.block G (by rw [World.size_alloc]; omega) hvG).trans ((heap_alloc_old w2 _ hzz2).trans hc2.g); have n6 := cell_at hb3 6 v rfl; have l6 := frozen_at hb3 6))
          all_goals
            have hc3w := hc2.app hgrow3 (fun z e => own_ge HO.out z e)
            have hc4 : CS w (w3.setCell ⟨G, 6, none⟩ (.slice A3 (j + 1) c3)) q G s4 #[.int .u8 1, .int .i64 ka, .int .i64 kb, .int .i64 kn, .int .i64 tv, .int .i64 dv, .slice A3 (j + 1) c3] := hc3w.setG 6 _
            have ho4 := hown3.kept (grown_set w3 G 6 (.slice A3 (j + 1) c3)) (.inr (fun e => by have := own_ge hown3 G e; omega))
            have HC4 := Lib.hid hc4
            have HO4 : Hid ((w3.setCell ⟨G, 6, none⟩ (.slice A3 (j + 1) c3)).ownsRow (G + 1) 2 1 (.slice A3 (j + 1) c3) (j + 1) (intV (ChoP.argF s3 (j + 1)).1)) := Lib.hid (by rw [HS1.out, intV, List.map_append]; exact ho4)
            clear hc3w hc4 ho4 hr2 hg2 hc2 m6 ho2 hown3 hgrow3 hat3 hsl3 hb3 n6 l6 HU
            go_wp2_with fail
            go_roundg (gk - 1)
            case measure => omega
            case rel => exact ⟨j + 1, _, by omega, by rw [HS2.out]; exact HC4.out, HO4.out⟩
        · obtain rfl : j = n := by omega
          have hL : (ChoP.argF s3 j).2.ws ≠ [] ↔ 0 < s3.ws.length - j := by rw [← HLEN.out, List.length_pos_iff]
          have hLn := HN.out
          obtain ⟨L, hLe⟩ : ∃ L, s3.ws.length - j = L := ⟨_, rfl⟩
          rw [hLe] at q0 hL
          have hL01 : kd = 1 → L = 0 := fun e => by rw [if_pos e] at hLn; omega
          have HL := Lib.hid hL
          clear hLe hLn hL HN
          obtain ⟨bd, hbd⟩ : ∃ bd, (ChoP.argF s3 j).2.bad = bd := ⟨_, rfl⟩
          rw [hbd] at q1
          have HBD := Lib.hid hbd
          clear hbd
          obtain ⟨A2, c2, rfl, hcc, hcm, hsl⟩ := own_form HO.out
          have hna : ∀ b' o', A2 = some ⟨b', o', none⟩ → G + 1 ≤ b' ∧ b' < wr.heap.size := fun b' o' e => ⟨own_ge HO.out b' (by rw [e]; rfl), own_lt HO.out b' (by rw [e]; rfl)⟩
          have harl : j = (ChoP.argF s3 j).1.length := by
            have := HO.out.1
            simp [intV] at this
            exact this.symm
          have hfin := fun (f : Bool) => CS.fin (k := ⟨kd, ka, kb, kn⟩) (t := tv) (d := dv) (f := f) HC.out harl hcc hcm hsl.2 hna
          have hres : ∀ f : Bool, f = (bd || decide (0 < L)) → ChoP.choS s = (⟨⟨kd, ka, kb, kn⟩, tv, dv, (ChoP.argF s3 j).1⟩, ⟨(ChoP.argF s3 j).2.ws, f⟩) := fun f hf => by
            have h1 := HES3.out
            rw [HA2.out] at h1
            rw [h1, hf, HBD.out]
            congr 3
            exact decide_eq_decide.2 HL.out
          have HFIN := Lib.hid hfin
          have HRES := Lib.hid hres
          clear hsl hna harl hfin hres hjm a1 a2 a3 a4 a5 a6 HES3
          by_cases hk1 : kd = 1
          · obtain rfl := hL01 hk1
            subst hk1
            clear hL01
            cases bd
            · have HFB : Hid (false = (false || decide (0 < 0))) := Lib.hid rfl
              have hmk := HC.out.mark false
              obtain ⟨⟨a0, a1, a2, a3, a4, a5, a6⟩, _⟩ := blk7 hmk.g
              obtain ⟨⟨z0, z1, z2, z3, z4, z5, z6⟩, ⟨y0, y1, y2, y3, y4, y5, y6⟩⟩ := blk7 (v0 := .int .u8 0) (v1 := .int .i64 0) (v2 := .int .i64 0) (v3 := .int .i64 0) (v4 := .int .i64 0) (v5 := .int .i64 0) (v6 := .slice none 0 0) hmk.z
              clear hmk
              go_wp2_with fail
              rw [HRES.out false HFB.out]
              exact bodyPost_ret (v := choV ⟨⟨_, ka, kb, kn⟩, tv, dv, A2, j, c2⟩) (by simp [results, Tryz.results46, go_sem, z0, z1, z2, z3, z4, z5, z6, choV]) rfl (HFIN.out false _ _ _ _ _ _ _)
            · have HFB : Hid (true = (true || decide (0 < 0))) := Lib.hid rfl
              have hmk := HC.out.mark true
              obtain ⟨⟨a0, a1, a2, a3, a4, a5, a6⟩, _⟩ := blk7 hmk.g
              obtain ⟨⟨z0, z1, z2, z3, z4, z5, z6⟩, ⟨y0, y1, y2, y3, y4, y5, y6⟩⟩ := blk7 (v0 := .int .u8 0) (v1 := .int .i64 0) (v2 := .int .i64 0) (v3 := .int .i64 0) (v4 := .int .i64 0) (v5 := .int .i64 0) (v6 := .slice none 0 0) hmk.z
              clear hmk
              go_wp2_with fail
              rw [HRES.out true HFB.out]
              exact bodyPost_ret (v := choV ⟨⟨_, ka, kb, kn⟩, tv, dv, A2, j, c2⟩) (by simp [results, Tryz.results46, go_sem, z0, z1, z2, z3, z4, z5, z6, choV]) rfl (HFIN.out true _ _ _ _ _ _ _)
          · have hk0 : (kd == 1) = false := by simpa using hk1
            clear hL01 hk1
            cases bd
            · rcases Nat.eq_zero_or_pos L with h0 | h0
              · subst h0
                have HFB : Hid (false = (false || decide (0 < 0))) := Lib.hid rfl
                have hmk := HC.out.mark false
                obtain ⟨⟨a0, a1, a2, a3, a4, a5, a6⟩, _⟩ := blk7 hmk.g
                obtain ⟨⟨z0, z1, z2, z3, z4, z5, z6⟩, ⟨y0, y1, y2, y3, y4, y5, y6⟩⟩ := blk7 (v0 := .int .u8 0) (v1 := .int .i64 0) (v2 := .int .i64 0) (v3 := .int .i64 0) (v4 := .int .i64 0) (v5 := .int .i64 0) (v6 := .slice none 0 0) hmk.z
                clear hmk
                go_wp2_with fail
                rw [HRES.out false HFB.out]
                exact bodyPost_ret (v := choV ⟨⟨_, ka, kb, kn⟩, tv, dv, A2, j, c2⟩) (by simp [results, Tryz.results46, go_sem, z0, z1, z2, z3, z4, z5, z6, choV]) rfl (HFIN.out false _ _ _ _ _ _ _)
              · have HFB : Hid (true = (false || decide (0 < L))) := Lib.hid (by simp [h0])
                have hmk := HC.out.mark true
                obtain ⟨⟨a0, a1, a2, a3, a4, a5, a6⟩, _⟩ := blk7 hmk.g
                obtain ⟨⟨z0, z1, z2, z3, z4, z5, z6⟩, ⟨y0, y1, y2, y3, y4, y5, y6⟩⟩ := blk7 (v0 := .int .u8 0) (v1 := .int .i64 0) (v2 := .int .i64 0) (v3 := .int .i64 0) (v4 := .int .i64 0) (v5 := .int .i64 0) (v6 := .slice none 0 0) hmk.z
                clear hmk
                go_wp2_with fail
                rw [HRES.out true HFB.out]
                exact bodyPost_ret (v := choV ⟨⟨_, ka, kb, kn⟩, tv, dv, A2, j, c2⟩) (by simp [results, Tryz.results46, go_sem, z0, z1, z2, z3, z4, z5, z6, choV]) rfl (HFIN.out true _ _ _ _ _ _ _)
            · have HFB : Hid (true = (true || decide (0 < L))) := Lib.hid (by simp)
              have hmk := HC.out.mark true
              obtain ⟨⟨a0, a1, a2, a3, a4, a5, a6⟩, _⟩ := blk7 hmk.g
              obtain ⟨⟨z0, z1, z2, z3, z4, z5, z6⟩, ⟨y0, y1, y2, y3, y4, y5, y6⟩⟩ := blk7 (v0 := .int .u8 0) (v1 := .int .i64 0) (v2 := .int .i64 0) (v3 := .int .i64 0) (v4 := .int .i64 0) (v5 := .int .i64 0) (v6 := .slice none 0 0) hmk.z
              clear hmk
              go_wp2_with fail
              rw [HRES.out true HFB.out]
              exact bodyPost_ret (v := choV ⟨⟨_, ka, kb, kn⟩, tv, dv, A2, j, c2⟩) (by simp [results, Tryz.results46, go_sem, z0, z1, z2, z3, z4, z5, z6, choV]) rfl (HFIN.out true _ _ _ _ _ _ _)
end Go.Proofs.YtpniilgkceadeaaGreatDoor
