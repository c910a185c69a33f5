/- choice.Read: a set out of bytes. -/
import Derived.Test.YtpniilgkceadeaaGreatDoorChoReadOne
import Derived.Test.YtpniilgkceadeaaGreatDoorChoRefIns
import Derived.Lib.QuietBelow
namespace ChoP
theorem loopR_none {k : Nat} {s : RS} (h : loopR k s = none) : ∀ d, loopR (k + d) s = none
  | 0 => h
  | d + 1 => by rw [← Nat.add_assoc, loopR, loopR_none h d]; rfl
def errRd (p : List Nat) : Int := if (readF p).isSome = true then 0 else 6
def setRd (p : List Nat) : List Cho := (readF p).getD []
theorem readF_bad {p : List Nat} {k : Nat} (hk : k < (uintS 96 ⟨p, 0⟩).1) {l : List Cho} {s : RS} (h : loopR k (uintS 96 ⟨p, 0⟩).2 = some (l, s)) (hb : badR l (readOneS s).1 (readOneS s).2 = true) : readF p = none := by
  have h1 : loopR (k + 1) (uintS 96 ⟨p, 0⟩).2 = none := by rw [loopR, h, Option.bind_some, stepR, if_pos hb]
  have h2 := loopR_none h1 ((uintS 96 ⟨p, 0⟩).1 - (k + 1))
  rw [show k + 1 + ((uintS 96 ⟨p, 0⟩).1 - (k + 1)) = (uintS 96 ⟨p, 0⟩).1 by omega] at h2
  unfold readF
  rw [h2]
  rfl
theorem loopR_good {k : Nat} {s0 : RS} {l : List Cho} {s : RS} (h : loopR k s0 = some (l, s)) (hb : badR l (readOneS s).1 (readOneS s).2 = false) : loopR (k + 1) s0 = some (l ++ [(readOneS s).1], (readOneS s).2) := by
  rw [loopR, h, Option.bind_some, stepR, if_neg (by rw [hb]; decide)]
theorem readF_end {p : List Nat} {l : List Cho} {s : RS} (h : loopR (uintS 96 ⟨p, 0⟩).1 (uintS 96 ⟨p, 0⟩).2 = some (l, s)) : readF p = if endE s = 0 then some l else none := by
  unfold readF
  rw [h]
  rfl
theorem rd_none {p : List Nat} (h : readF p = none) : errRd p = 6 ∧ setRd p = [] := by
  unfold errRd setRd
  rw [h]
  exact ⟨rfl, rfl⟩
theorem rd_some {p : List Nat} {l : List Cho} (h : readF p = some l) : errRd p = 0 ∧ setRd p = l := by
  unfold errRd setRd
  rw [h]
  exact ⟨rfl, rfl⟩
end ChoP
namespace Go.Proofs.YtpniilgkceadeaaGreatDoor
open Go.RowKit Go.Sort
def ReadPost (p : List Nat) (w : World) (e : Ending) (w' : World) : Prop :=
  ∃ (A : Option Addr) (ps : List Pair) (c : Nat), e = .returned (.tuple #[.agg #[.slice A ps.length c], .int .i64 (ChoP.errRd p)]) ∧ cho ps = ChoP.setRd p ∧ Chos w' w'.heap.size A ps ∧ ps.length ≤ c ∧ c ≤ 9223372036854775807 ∧ RowKit.Below w.heap.size w w'
/-- the choices that were read so far -/
structure RL (wr : World) (B : Nat) (v : Value) (ps : List Pair) : Prop where
  own : wr.ownsRow B 59 7 v ps.length (cellsP ps)
  row : ∀ q ∈ ps, RowIs wr wr.heap.size q.1 q.2 ∧ ∀ b o, q.1.p = some ⟨b, o, none⟩ → B ≤ b ∧ b < wr.heap.size ∧ some b ≠ v.ownBlock
theorem RL.grown {w w' : World} {B R : Nat} {v : Value} {ps : List Pair} (h : RL w B v ps) (hg : w.grownBy w' (some R)) (hR : R < B) : RL w' B v ps := by
  refine ⟨h.own.kept hg ?_, fun q hq => ⟨(h.row q hq).1.grown hg (Nat.le_refl _) (fun b o e _ e2 => ?_), fun b o e => ?_⟩⟩
  · cases hv : v.ownBlock with
    | none => exact .inl rfl
    | some q => exact .inr (fun e => by injection e with e; subst e; have := own_ge h.own _ hv; omega)
  · injection e2 with e2
    have := (h.row q hq).2 b o e
    omega
  · have := (h.row q hq).2 b o e
    have := hg.size
    exact ⟨by omega, by omega, ((h.row q hq).2 b o e).2.2⟩
theorem RL.below {w w' : World} {B : Nat} {v : Value} {ps : List Pair} (h : RL w B v ps) (hb : RowKit.Below w.heap.size w w') : RL w' B v ps :=
  ⟨own_below h.own hb, fun q hq => ⟨(h.row q hq).1.below hb hb.size, fun b o e => by have := (h.row q hq).2 b o e; have := hb.size; exact ⟨by omega, by omega, ((h.row q hq).2 b o e).2.2⟩⟩⟩
theorem RL.snoc {w w6 : World} {B : Nat} {v v6 : Value} {ps : List Pair} {r : Row} {X : ChoP.Cho} {o : Obj} (h : RL w B v ps) (hrow : RowIs w w.heap.size r X) (hnew : ∀ b o, r.p = some ⟨b, o, none⟩ → B ≤ b ∧ b < w.heap.size ∧ some b ≠ v.ownBlock)
    (hown : w6.ownsRow B 59 7 v6 (ps.length + 1) (cellsP ps ++ r.vs)) (hg : (w.alloc o).grownBy w6 v.ownBlock) (hat : v6.ownBlock = v.ownBlock ∨ v6.ownBlock = some (w.heap.size + 1)) : RL w6 B v6 (ps ++ [(r, X)]) := by
  have hsz := hg.size
  rw [World.size_alloc] at hsz
  refine ⟨by rw [List.length_append, cellsP_append]; simpa [cellsP, encP] using hown, fun q hq => ?_⟩
  have hq' : RowIs w w.heap.size q.1 q.2 ∧ ∀ b o, q.1.p = some ⟨b, o, none⟩ → B ≤ b ∧ b < w.heap.size ∧ some b ≠ v.ownBlock := by
    rcases List.mem_append.1 hq with hq | hq
    · exact h.row q hq
    · simp at hq
      rw [hq]
      exact ⟨hrow, hnew⟩
  refine ⟨(hq'.1.below ((RowKit.Below.refl _ _).alloc (Nat.le_refl _) o) (Nat.le_refl _)).grown hg (by rw [World.size_alloc]; omega) (fun b o e _ => (hq'.2 b o e).2.2), fun b o e => ?_⟩
  have hb := hq'.2 b o e
  refine ⟨hb.1, by omega, fun e2 => ?_⟩
  rcases hat with hat | hat
  · exact hb.2.2 (e2.trans hat)
  · rw [hat] at e2
    injection e2 with e2
    omega
set_option maxRecDepth 100000 in
set_option maxHeartbeats 4000000 in
theorem read_any (A : Option Addr) (p : List Nat) (c : Nat) (w : World) (h : Lie w w.heap.size A (natC p)) (hb : ChoP.Byt p) (hl : p.length ≤ 140737488351232) : Calls Tryz.prog 13 #[.slice A p.length c] w (ReadPost p w) := by
  obtain ⟨i0, hi0, hz0, hz1, hz2⟩ := info_parts info_cho
  have H := Lib.hid h
  have HBY := Lib.hid hb
  clear h hb
  go_enter Tryz.func13, Tryz.ntmps13
  go_wp2_with fail
  have hal : ∀ o : Obj, RowKit.Below w.heap.size w (w.alloc o) := fun o => (RowKit.Below.refl _ _).alloc (Nat.le_refl _) _
  refine (newReader_any A p c (w.alloc _) (H.out.below (hal _) (hal _).size) HBY.out hl).mono ?_
  rintro e w1 ⟨R, rfl, hr, hR, hb1⟩
  rw [World.size_alloc] at hR hb1
  have hZ := (hb1.block w.heap.size (by omega)).trans (heap_alloc_new w _)
  have hbw : RowKit.Below w.heap.size w w1 := (hal _).trans (hb1.mono (by omega))
  have hRlt := hr.lt
  have HR := Lib.hid hr
  have HZ := Lib.hid hZ
  have HBW := Lib.hid hbw
  clear hr hZ hbw hb1 hal
  go_wp2_with fail
  refine (rUint_any R w1.heap.size 96 ⟨p, 0⟩ w1 HR.out (by omega)).mono ?_
  rintro e w2 ⟨rfl, hr2, hg2⟩
  have hle := ChoP.uintS_le 96 ⟨p, 0⟩
  have hrf1 := fun (k : Nat) (hk : k < (ChoP.uintS 96 ⟨p, 0⟩).1) (l : List ChoP.Cho) (s : ChoP.RS) (h : ChoP.loopR k (ChoP.uintS 96 ⟨p, 0⟩).2 = some (l, s)) (hb : ChoP.badR l (ChoP.readOneS s).1 (ChoP.readOneS s).2 = true) => ChoP.rd_none (ChoP.readF_bad hk h hb)
  have hrf2 := fun (l : List ChoP.Cho) (s : ChoP.RS) (h : ChoP.loopR (ChoP.uintS 96 ⟨p, 0⟩).1 (ChoP.uintS 96 ⟨p, 0⟩).2 = some (l, s)) => ChoP.readF_end h
  have HF1 := Lib.hid hrf1
  have HF2 := Lib.hid hrf2
  clear hrf1 hrf2
  generalize (ChoP.uintS 96 ⟨p, 0⟩).1 = n at *
  generalize (ChoP.uintS 96 ⟨p, 0⟩).2 = s1 at *
  have hni : (n : Int) ≤ 96 := by omega
  have hZ2 := (hg2.block w.heap.size (by omega) (by simp; omega)).trans HZ.out
  have hbw2 : RowKit.Below w.heap.size w w2 := HBW.out.grown hg2 (by omega) (fun k e => by injection e with e; omega)
  have hz12 := hg2.size
  have hr3 : RD w2 R w1.heap.size s1 := hr2
  generalize w1.heap.size = B at *
  have HR2 := Lib.hid hr3
  have HZ2 := Lib.hid hZ2
  have HBW2 := Lib.hid hbw2
  clear hr2 hr3 hg2 hZ2 hbw2 HR HZ HBW
  go_wp2_with fail
  go_loopw [6, 15] (fun v i wr => ∃ (k : Nat) (ps : List Pair) (s : ChoP.RS), k ≤ n ∧ i = .int .i64 k ∧ ps.length = k ∧ ChoP.loopR k s1 = some (cho ps, s) ∧ RD wr R B s ∧ RL wr B v ps ∧ wr.heap[w.heap.size]? = some (.cells #[.slice none 0 0] 27 (0, 0)) ∧ RowKit.Below w.heap.size w wr) (fun _ i _ => n - (intOf i).toNat)
  case atStart => exact ⟨0, [], s1, by omega, rfl, rfl, rfl, HR2.out, ⟨⟨rfl, .inl ⟨rfl, rfl⟩⟩, by simp⟩, HZ2.out, HBW2.out⟩
  case round =>
    clear HR2 HZ2 HBW2
    obtain ⟨k, ps, s, hk, rfl, hlen, hlp, hr, hrl, hZ, hbw⟩ := hrel
    have HLEN := Lib.hid hlen
    have HLP := Lib.hid hlp
    have HR := Lib.hid hr
    have HRL := Lib.hid hrl
    have HZ := Lib.hid hZ
    have HBW := Lib.hid hbw
    have hwz := hbw.size
    have hBz := hr.le
    clear hlen hlp hr hrl hZ hbw
    by_cases hlt : k < n
    · go_wp2_with fail
      refine (readOne_any R B s wr HR.out).mono ?_
      rintro e w3 ⟨r, rfl, hrow, hnew, hr3, hg3⟩
      have e2 : choV r = .agg #[.int .u8 r.key.kind, .int .i64 r.key.a, .int .i64 r.key.b, .int .i64 r.key.n, .int .i64 r.t, .int .i64 r.d, .slice r.p r.n r.c] := rfl
      rw [e2]
      have HRLr := Lib.hid HRL.out.own
      have hrl3 := HRL.out.grown hg3 (by omega)
      have hZ3 := (hg3.block w.heap.size (by omega) (by simp; omega)).trans HZ.out
      have hbw3 : RowKit.Below w.heap.size w w3 := HBW.out.grown hg3 hwz (fun q e => by injection e with e; omega)
      have hz3 := hg3.size
      have HROW := Lib.hid hrow
      have HNEW := Lib.hid hnew
      have HR3 := Lib.hid hr3
      have HRL3 := Lib.hid hrl3
      have HZ3 := Lib.hid hZ3
      have HBW3 := Lib.hid hbw3
      clear e2 hrow hnew hr3 hg3 hrl3 hZ3 hbw3 HR HRL HZ HBW
      go_wp2_with fail
      have hbx := heap_alloc_new w3 (.cells #[.int .u8 r.key.kind, .int .i64 r.key.a, .int .i64 r.key.b, .int .i64 r.key.n, .int .i64 r.t, .int .i64 r.d, .slice r.p r.n r.c] 59)
      have hba : RowKit.Below w3.heap.size w3 (w3.alloc (.cells #[.int .u8 r.key.kind, .int .i64 r.key.a, .int .i64 r.key.b, .int .i64 r.key.n, .int .i64 r.t, .int .i64 r.d, .slice r.p r.n r.c] 59)) := (RowKit.Below.refl _ _).alloc (Nat.le_refl _) _
      generalize w3.alloc (.cells #[.int .u8 r.key.kind, .int .i64 r.key.a, .int .i64 r.key.b, .int .i64 r.key.n, .int .i64 r.t, .int .i64 r.d, .slice r.p r.n r.c] 59) = w4 at *
      obtain ⟨A3, c3, rfl, hcc, hcm, hsl⟩ := own_form HRL3.out.own
      have hz4 : w3.heap.size < w4.heap.size := (Array.getElem?_eq_some_iff.1 hbx).1
      obtain ⟨⟨a0, a1, a2, a3, a4, a5, a6⟩, _⟩ := blk7 hbx
      have d0 := cell_regrown a0
      have d1 := cell_regrown a1
      have d2 := cell_regrown a2
      have d3 := cell_regrown a3
      have d4 := cell_regrown a4
      have d5 := cell_regrown a5
      have d6 := cell_regrown a6
      have hr4 : RD w4 R B (ChoP.readOneS s).2 := HR3.out.below (hba.mono (by omega))
      have hrn : r.n ≤ 9223372036854775807 := by have h1 := HROW.out.c; have h2 := HROW.out.m; omega
      have hread : ChoP.readOneS s = ((ChoP.readOneS s).1, (ChoP.readOneS s).2) := rfl
      have HREAD := Lib.hid hread
      clear hread
      generalize (ChoP.readOneS s).1 = X at *
      generalize (ChoP.readOneS s).2 = s2 at *
      have cE : ∀ d os, Calls Tryz.prog 39 #[.pointer (some ⟨R, 0, none⟩)] (grow (redrawn w4 d) os) fun e w'' => e = .returned (.int .i64 s2.err) ∧ ∃ p : Regrown, w'' = grow (redrawn w4 p.d) p.os := fun d os => by
        have h := err_any R B s2 (grow (redrawn w4 d) os) (hr4.below ((below_regrown w4 d os).mono (by omega)))
        exact Calls.regrown_of (h.mono (fun e w'' ⟨he, hw⟩ => ⟨he, by rw [← hw]; exact RowKit.Below.refl _ _⟩))
      have cC : ∀ d os, Calls Tryz.prog 28 #[.agg #[.int .u8 r.key.kind, .int .i64 r.key.a, .int .i64 r.key.b, .int .i64 r.key.n, .int .i64 r.t, .int .i64 r.d, .slice r.p r.n r.c]] (grow (redrawn w4 d) os) fun e w'' => e = .returned (.int .i64 (errR r)) ∧ ∃ p : Regrown, w'' = grow (redrawn w4 p.d) p.os := fun d os => Calls.regrown_of (check_any r (grow (redrawn w4 d) os) hrn)
      have HR4 := Lib.hid hr4
      have CE := Lib.hid cE
      have CC := Lib.hid cC
      have HBA := Lib.hid hba
      have HSL := Lib.hid hsl
      have HBX := Lib.hid hbx
      have herr : s2.err ≠ 0 ∨ s2.err = 0 := by omega
      clear cE cC hr4 hba hsl hbx a0 a1 a2 a3 a4 a5 a6
      rcases herr with herr | herr
      · have hbad : ChoP.badR (cho ps) X s2 = true := by unfold ChoP.badR; simp [herr]
        have f1 : (s2.err == 0) = false := by simpa using herr
        have f2 : (s2.err != 0) = true := by simpa using herr
        refine wp_region_quiet_below (by kernel_rfl) (by kernel_rfl) ?_
        repeat (first | go_big_quiet_step (exact CE.out _ _) | quiet_step (exact CE.out _ _))
        refine wpQuiet_nil ?_
        rintro w' ⟨pq, rfl⟩
        have hbg := below_regrown w4 pq.d pq.os
        generalize grow (redrawn w4 pq.d) pq.os = w5 at *
        have hb35 : RowKit.Below w3.heap.size w3 w5 := HBA.out.trans (hbg.mono (by omega))
        have hbw5 : RowKit.Below w.heap.size w w5 := HBW3.out.trans (hb35.mono HBW3.out.size)
        have hz5 := (hb35.block w.heap.size (by have := (Array.getElem?_eq_some_iff.1 HZ3.out).1; omega)).trans HZ3.out
        have z0 := cell_at hz5 0 _ rfl
        have y0 := frozen_at hz5 0
        have hf := HF1.out k hlt (cho ps) s HLP.out (by rw [HREAD.out]; exact hbad)
        have HF := Lib.hid hf
        have HBW5 := Lib.hid hbw5
        clear hbg hb35 hbw5 hz5 hf hbad d0 d1 d2 d3 d4 d5 d6 CE CC f1 f2
        go_wp2_with fail
        refine bodyPost_ret (v := .tuple #[.agg #[.slice none 0 0], .int .i64 6]) (by simp [results, Tryz.results13, go_sem, z0]) rfl ⟨none, [], 0, by rw [HF.out.1]; rfl, by rw [HF.out.2]; rfl, chos_nil _ _ _, Nat.le_refl _, by omega, ?_⟩
        exact HBW5.out.setCell (by show w.heap.size ≤ w.heap.size; omega) _
      · have ce := CE.out
        rw [herr] at ce
        have CE2 := Lib.hid ce
        clear ce CE
        rcases errR_cases r with hck | hck
        · have hok := okC_of HROW.out hck
          have cc := CC.out
          rw [hck] at cc
          have CC2 := Lib.hid cc
          clear cc CC
          rcases Nat.eq_zero_or_pos k with hk0 | hk0
          · have hbad : ChoP.badR (cho ps) X s2 = false := by
              have : ps = [] := List.eq_nil_of_length_eq_zero (by rw [HLEN.out]; exact hk0)
              unfold ChoP.badR
              rw [herr, hok, this]
              rfl
            have f3 : decide ((0 : Int) < (k : Int)) = false := by simp; omega
            have f4 : decide (0 < k) = false := by simp; omega
            have f5 : ¬ (0 < k) := by omega
            clear herr hck hok hk0
            refine wp_region_quiet_below (by kernel_rfl) (by kernel_rfl) ?_
            repeat (first | go_big_quiet_step (first | exact CE2.out _ _ | exact CC2.out _ _) | quiet_step (first | exact CE2.out _ _ | exact CC2.out _ _))
            refine wpQuiet_nil ?_
            rintro w' ⟨pq, rfl⟩
            have hbg := below_regrown w4 pq.d pq.os
            generalize grow (redrawn w4 pq.d) pq.os = w5 at *
            have hb35 : RowKit.Below w3.heap.size w3 w5 := HBA.out.trans (hbg.mono (by omega))
            have hbw5 : RowKit.Below w.heap.size w w5 := HBW3.out.trans (hb35.mono HBW3.out.size)
            have hgood := ChoP.loopR_good HLP.out (by rw [HREAD.out]; exact hbad)
            rw [HREAD.out] at hgood
            have hrl5 : RL w5 B (.slice A3 ps.length c3) ps := HRL3.out.below hb35
            have hrow5 := HROW.out.below hb35 hb35.size
            have hr5 : RD w5 R B s2 := HR4.out.below (hbg.mono (by omega))
            have hz5 := (hb35.block w.heap.size (by have := (Array.getElem?_eq_some_iff.1 HZ3.out).1; omega)).trans HZ3.out
            obtain ⟨⟨b0, b1, b2, b3, b4, b5, b6⟩, _⟩ := blk7 ((hbg.block w3.heap.size hz4).trans HBX.out)
            have hBz5 := hr5.le
            have HRL5 := Lib.hid hrl5
            have HROW5 := Lib.hid hrow5
            have HR5 := Lib.hid hr5
            have HZ5 := Lib.hid hz5
            have HBW5 := Lib.hid hbw5
            have HGOOD := Lib.hid hgood
            have hpl : ps.length ≤ 96 := by have := HLEN.out; omega
            have hwz5 := hbw5.size
            have hz35 := hb35.size
            clear hbg hb35 hbw5 hz5 hbad hgood hrl5 hrow5 hr5 d0 d1 d2 d3 d4 d5 d6 CE2 CC2
            go_wp2_with (at_builtin; refine wpList_append_lie rfl _ _ 22 rfl B 59 i0 _ 7 72 Tryz.underlying22 hi0 hz0 hz1 hz2 rfl (by decide) (.slice A3 ps.length c3) ps.length (cellsP ps) rfl ?_ (w5.heap.size + 1) (some ⟨w5.heap.size, 0, none⟩) 1 1 r.vs rfl ?_ ?_ ?_ ?_ ?_ ?_)
            · exact HRL5.out.own.alloc _
            · exact newR w5 r
            · simp [Value.oneCell', Row.vs]
            · unfold maxLen; omega
            · omega
            · first | omega | (simp; omega)
            intro v6 w6 hown6 hgrow6 hat6
            have hfar : ∀ q, (Value.slice A3 ps.length c3).ownBlock = some q → B ≤ q := own_ge HRL5.out.own
            have hkeep : ∀ q, q < B → w6.heap[q]? = w5.heap[q]? := fun q hq => (hgrow6.block q (by rw [World.size_alloc]; omega) (fun e => by have := hfar q e.symm; omega)).trans (heap_alloc_old w5 _ (by omega))
            have hsz6 : w5.heap.size ≤ w6.heap.size := by have := hgrow6.size; rw [World.size_alloc] at this; omega
            have hr6 := HR5.out.blocks hkeep (by omega)
            have hz6 := (hkeep w.heap.size (by omega)).trans HZ5.out
            have hbw6 : RowKit.Below w.heap.size w w6 := (HBW5.out.alloc hwz5 _).grown hgrow6 (by simp; omega) (fun q e => by have := hfar q e; omega)
            have hrl6 := RL.snoc HRL5.out HROW5.out (fun b o e => by have h1 := HNEW.out b o e; exact ⟨by omega, by omega, fun e2 => by have h2 := own_lt HRLr.out b e2.symm; omega⟩) hown6 hgrow6 hat6
            have HR6 := Lib.hid hr6
            have HZ6 := Lib.hid hz6
            have HBW6 := Lib.hid hbw6
            have HRL6 := Lib.hid hrl6
            clear hfar hkeep hsz6 hr6 hz6 hbw6 hrl6 hown6 hgrow6 hat6 b0 b1 b2 b3 b4 b5 b6
            go_wp2_with fail
            go_roundw
            case rel => exact ⟨k + 1, ps ++ [(r, X)], s2, by omega, by go_num, by simp [HLEN.out], by rw [HGOOD.out]; simp [cho], HR6.out, HRL6.out, HZ6.out, HBW6.out⟩
            case measure => simp [intOf]; omega
          · obtain ⟨j, rfl⟩ : ∃ j, k = j + 1 := ⟨k - 1, by omega⟩
            obtain ⟨y, hy⟩ : ∃ y, ps[j]? = some y := ⟨_, List.getElem?_eq_getElem (by rw [HLEN.out]; omega)⟩
            have hlast : (cho ps).getLast? = some y.2 := by
              rw [List.getLast?_eq_getElem?]
              simp only [cho, List.length_map, HLEN.out, List.getElem?_map, Nat.add_sub_cancel, hy, Option.map_some]
            have hbad0 : ChoP.badR (cho ps) X s2 = !ChoP.lessB y.1.key r.key := by
              unfold ChoP.badR
              rw [herr, hok, hlast, (HRL3.out.row y (List.mem_of_getElem? hy)).1.key, HROW.out.key]
              rfl
            have hch3 : Chos w3 w3.heap.size A3 ps := ⟨HSL.out.2, fun q hq => (HRL3.out.row q hq).1⟩
            obtain ⟨bb, oo, rfl, hbb, hcl⟩ := hch3.at_ j y hy
            have hcell : ∀ m u, y.1.vs[m]? = some u → w4.cell? ⟨bb, oo + j * 7 + m, none⟩ = some u := fun m u hu => (HBA.out.cell (p := ⟨bb, oo + j * 7 + m, none⟩) hbb).trans (hcl m u hu)
            have g0' : w4.cell? ⟨bb, oo + j * 7, none⟩ = some (.int .u8 y.1.key.kind) := hcell 0 _ rfl
            have g0 := cell_regrown g0'
            have g1 := cell_regrown (hcell 1 _ rfl)
            have g2 := cell_regrown (hcell 2 _ rfl)
            have g3 := cell_regrown (hcell 3 _ rfl)
            obtain ⟨ls, hls⟩ : ∃ ls, ChoP.lessB y.1.key r.key = ls := ⟨_, rfl⟩
            have cL : ∀ d os, Calls Tryz.prog 40 #[.agg #[.int .u8 y.1.key.kind, .int .i64 y.1.key.a, .int .i64 y.1.key.b, .int .i64 y.1.key.n], .agg #[.int .u8 r.key.kind, .int .i64 r.key.a, .int .i64 r.key.b, .int .i64 r.key.n]] (grow (redrawn w4 d) os) fun e w'' => e = .returned (.bool ls) ∧ ∃ p : Regrown, w'' = grow (redrawn w4 p.d) p.os := fun d os => by
              have h := less_any y.1.key r.key (grow (redrawn w4 d) os)
              rw [hls] at h
              exact Calls.regrown_of h
            have CL := Lib.hid cL
            rw [hls] at hbad0
            have hpj : j < ps.length := by rw [HLEN.out]; omega
            have hi1 : (0 : Int) ≤ (j : Int) := by omega
            have hi2 : (j : Int) < (ps.length : Int) := by omega
            have hi3 : (0 : Int) < ((j + 1 : Nat) : Int) := by omega
            have hi4 : (0 : Int) < (j : Int) + 1 := by omega
            have hw1 : IntKind.i64.wrap ((j : Int) + 1 - 1) = (j : Int) := by rw [show (j : Int) + 1 - 1 = (j : Int) by omega]; exact IntWalk.i64_in _ ⟨by omega, by omega⟩
            have hw2 : (j : Int) + 1 - 1 = (j : Int) := by omega
            clear herr hck hok hlast hch3 hcl hcell g0' cL hls hy hpj
            cases ls
            · have hbad : ChoP.badR (cho ps) X s2 = true := hbad0
              clear hbad0
              refine wp_region_quiet_below (by kernel_rfl) (by kernel_rfl) ?_
              repeat (first | go_big_quiet_step (first | exact CE2.out _ _ | exact CC2.out _ _ | exact CL.out _ _) | quiet_step (first | exact CE2.out _ _ | exact CC2.out _ _ | exact CL.out _ _))
              refine wpQuiet_nil ?_
              rintro w' ⟨pq, rfl⟩
              have hbg := below_regrown w4 pq.d pq.os
              generalize grow (redrawn w4 pq.d) pq.os = w5 at *
              have hb35 : RowKit.Below w3.heap.size w3 w5 := HBA.out.trans (hbg.mono (by omega))
              have hbw5 : RowKit.Below w.heap.size w w5 := HBW3.out.trans (hb35.mono HBW3.out.size)
              have hz5 := (hb35.block w.heap.size (by have := (Array.getElem?_eq_some_iff.1 HZ3.out).1; omega)).trans HZ3.out
              have z0 := cell_at hz5 0 _ rfl
              have y0 := frozen_at hz5 0
              have hf := HF1.out (j + 1) hlt (cho ps) s HLP.out (by rw [HREAD.out]; exact hbad)
              have HF := Lib.hid hf
              have HBW5 := Lib.hid hbw5
              clear hbg hb35 hbw5 hz5 hf hbad d0 d1 d2 d3 d4 d5 d6 CE2 CC2 CL g0 g1 g2 g3
              go_wp2_with fail
              refine bodyPost_ret (v := .tuple #[.agg #[.slice none 0 0], .int .i64 6]) (by simp [results, Tryz.results13, go_sem, z0]) rfl ⟨none, [], 0, by rw [HF.out.1]; rfl, by rw [HF.out.2]; rfl, chos_nil _ _ _, Nat.le_refl _, by omega, ?_⟩
              exact HBW5.out.setCell (by show w.heap.size ≤ w.heap.size; omega) _

            · have hbad : ChoP.badR (cho ps) X s2 = false := hbad0
              clear hbad0
              refine wp_region_quiet_below (by kernel_rfl) (by kernel_rfl) ?_
              repeat (first | go_big_quiet_step (first | exact CE2.out _ _ | exact CC2.out _ _ | exact CL.out _ _) | quiet_step (first | exact CE2.out _ _ | exact CC2.out _ _ | exact CL.out _ _))
              refine wpQuiet_nil ?_
              rintro w' ⟨pq, rfl⟩
              have hbg := below_regrown w4 pq.d pq.os
              generalize grow (redrawn w4 pq.d) pq.os = w5 at *
              have hb35 : RowKit.Below w3.heap.size w3 w5 := HBA.out.trans (hbg.mono (by omega))
              have hbw5 : RowKit.Below w.heap.size w w5 := HBW3.out.trans (hb35.mono HBW3.out.size)
              have hgood := ChoP.loopR_good HLP.out (by rw [HREAD.out]; exact hbad)
              rw [HREAD.out] at hgood
              have hrl5 : RL w5 B (.slice (some ⟨bb, oo, none⟩) ps.length c3) ps := HRL3.out.below hb35
              have hrow5 := HROW.out.below hb35 hb35.size
              have hr5 : RD w5 R B s2 := HR4.out.below (hbg.mono (by omega))
              have hz5 := (hb35.block w.heap.size (by have := (Array.getElem?_eq_some_iff.1 HZ3.out).1; omega)).trans HZ3.out
              obtain ⟨⟨b0, b1, b2, b3, b4, b5, b6⟩, _⟩ := blk7 ((hbg.block w3.heap.size hz4).trans HBX.out)
              have hBz5 := hr5.le
              have HRL5 := Lib.hid hrl5
              have HROW5 := Lib.hid hrow5
              have HR5 := Lib.hid hr5
              have HZ5 := Lib.hid hz5
              have HBW5 := Lib.hid hbw5
              have HGOOD := Lib.hid hgood
              have hpl : ps.length ≤ 96 := by have := HLEN.out; omega
              have hwz5 := hbw5.size
              have hz35 := hb35.size
              clear hbg hb35 hbw5 hz5 hbad hgood hrl5 hrow5 hr5 d0 d1 d2 d3 d4 d5 d6 CE2 CC2 CL g0 g1 g2 g3
              go_wp2_with (at_builtin; refine wpList_append_lie rfl _ _ 22 rfl B 59 i0 _ 7 72 Tryz.underlying22 hi0 hz0 hz1 hz2 rfl (by decide) (.slice (some ⟨bb, oo, none⟩) ps.length c3) ps.length (cellsP ps) rfl ?_ (w5.heap.size + 1) (some ⟨w5.heap.size, 0, none⟩) 1 1 r.vs rfl ?_ ?_ ?_ ?_ ?_ ?_)
              · exact HRL5.out.own.alloc _
              · exact newR w5 r
              · simp [Value.oneCell', Row.vs]
              · unfold maxLen; omega
              · omega
              · first | omega | (simp; omega)
              intro v6 w6 hown6 hgrow6 hat6
              have hfar : ∀ q, (Value.slice (some ⟨bb, oo, none⟩) ps.length c3).ownBlock = some q → B ≤ q := own_ge HRL5.out.own
              have hkeep : ∀ q, q < B → w6.heap[q]? = w5.heap[q]? := fun q hq => (hgrow6.block q (by rw [World.size_alloc]; omega) (fun e => by have := hfar q e.symm; omega)).trans (heap_alloc_old w5 _ (by omega))
              have hsz6 : w5.heap.size ≤ w6.heap.size := by have := hgrow6.size; rw [World.size_alloc] at this; omega
              have hr6 := HR5.out.blocks hkeep (by omega)
              have hz6 := (hkeep w.heap.size (by omega)).trans HZ5.out
              have hbw6 : RowKit.Below w.heap.size w w6 := (HBW5.out.alloc hwz5 _).grown hgrow6 (by simp; omega) (fun q e => by have := hfar q e; omega)
              have hrl6 := RL.snoc HRL5.out HROW5.out (fun b o e => by have h1 := HNEW.out b o e; exact ⟨by omega, by omega, fun e2 => by have h2 := own_lt HRLr.out b e2.symm; omega⟩) hown6 hgrow6 hat6
              have HR6 := Lib.hid hr6
              have HZ6 := Lib.hid hz6
              have HBW6 := Lib.hid hbw6
              have HRL6 := Lib.hid hrl6
              clear hfar hkeep hsz6 hr6 hz6 hbw6 hrl6 hown6 hgrow6 hat6 b0 b1 b2 b3 b4 b5 b6
              go_wp2_with fail
              go_roundw
              case rel => exact ⟨j + 1 + 1, ps ++ [(r, X)], s2, by omega, by go_num, by simp [HLEN.out], by rw [HGOOD.out]; simp [cho], HR6.out, HRL6.out, HZ6.out, HBW6.out⟩
              case measure => simp [intOf]; omega

        · have hok := bad_of HROW.out hck
          have cc := CC.out
          rw [hck] at cc
          have CC2 := Lib.hid cc
          have hbad : ChoP.badR (cho ps) X s2 = true := by
            unfold ChoP.badR
            rw [hok]
            simp
          clear cc CC herr hck hok
          refine wp_region_quiet_below (by kernel_rfl) (by kernel_rfl) ?_
          repeat (first | go_big_quiet_step (first | exact CE2.out _ _ | exact CC2.out _ _) | quiet_step (first | exact CE2.out _ _ | exact CC2.out _ _))
          refine wpQuiet_nil ?_
          rintro w' ⟨pq, rfl⟩
          have hbg := below_regrown w4 pq.d pq.os
          generalize grow (redrawn w4 pq.d) pq.os = w5 at *
          have hb35 : RowKit.Below w3.heap.size w3 w5 := HBA.out.trans (hbg.mono (by omega))
          have hbw5 : RowKit.Below w.heap.size w w5 := HBW3.out.trans (hb35.mono HBW3.out.size)
          have hz5 := (hb35.block w.heap.size (by have := (Array.getElem?_eq_some_iff.1 HZ3.out).1; omega)).trans HZ3.out
          have z0 := cell_at hz5 0 _ rfl
          have y0 := frozen_at hz5 0
          have hf := HF1.out k hlt (cho ps) s HLP.out (by rw [HREAD.out]; exact hbad)
          have HF := Lib.hid hf
          have HBW5 := Lib.hid hbw5
          clear hbg hb35 hbw5 hz5 hf hbad d0 d1 d2 d3 d4 d5 d6 CE2 CC2
          go_wp2_with fail
          refine bodyPost_ret (v := .tuple #[.agg #[.slice none 0 0], .int .i64 6]) (by simp [results, Tryz.results13, go_sem, z0]) rfl ⟨none, [], 0, by rw [HF.out.1]; rfl, by rw [HF.out.2]; rfl, chos_nil _ _ _, Nat.le_refl _, by omega, ?_⟩
          exact HBW5.out.setCell (by show w.heap.size ≤ w.heap.size; omega) _

    · obtain rfl : k = n := by omega
      have hend := HF2.out (cho ps) s HLP.out
      have hen := end_any R B s wr HR.out
      obtain ⟨A3, c3, rfl, hcc, hcm, hsl⟩ := own_form HRL.out.own
      have hch : Chos wr wr.heap.size A3 ps := ⟨hsl.2, fun q hq => (HRL.out.row q hq).1⟩
      have hne : ∀ b o, A3 = some ⟨b, o, none⟩ → b ≠ w.heap.size := fun b o e => by have := own_ge HRL.out.own b (by rw [e]; rfl); omega
      have hne2 : ∀ q ∈ ps, ∀ b o, q.1.p = some ⟨b, o, none⟩ → b ≠ w.heap.size := fun q hq b o e => by have := (HRL.out.row q hq).2 b o e; omega
      have z0 := cell_at HZ.out 0 _ rfl
      have y0 := frozen_at HZ.out 0
      obtain ⟨ee, hee⟩ : ∃ ee, ChoP.endE s = ee := ⟨_, rfl⟩
      rw [hee] at hen hend
      have HEN := Lib.hid hen
      have HCH := Lib.hid hch
      have HNE := Lib.hid hne
      have HNE2 := Lib.hid hne2
      clear hen hch hne hne2 hsl hee
      by_cases he0 : ee = 0
      · rw [if_pos he0] at hend
        have HF := Lib.hid (ChoP.rd_some hend)
        subst he0
        clear hend
        go_wp2_with fail
        refine HEN.out.mono ?_
        rintro e w5 ⟨rfl, rfl⟩
        go_wp2_with fail
        refine bodyPost_ret (v := .tuple #[.agg #[.slice A3 ps.length c3], .int .i64 0]) (by simp [results, Tryz.results13, go_sem, z0]) rfl ⟨A3, ps, c3, by rw [HF.out.1], by rw [HF.out.2], ?_, hcc, hcm, ?_⟩
        · rw [World.size_setCell]
          exact HCH.out.set _ _ (fun b o e => HNE.out b o e) (fun q hq b o e => HNE2.out q hq b o e)
        · exact HBW.out.setCell (by show w.heap.size ≤ w.heap.size; omega) _
      · rw [if_neg he0] at hend
        have HF := Lib.hid (ChoP.rd_none hend)
        have f1 : (ee == 0) = false := by simpa using he0
        have f2 : (ee != 0) = true := by simpa using he0
        clear hend
        go_wp2_with fail
        refine HEN.out.mono ?_
        rintro e w5 ⟨rfl, rfl⟩
        go_wp2_with fail
        refine bodyPost_ret (v := .tuple #[.agg #[.slice none 0 0], .int .i64 6]) (by simp [results, Tryz.results13, go_sem, z0]) rfl ⟨none, [], 0, by rw [HF.out.1]; rfl, by rw [HF.out.2]; rfl, chos_nil _ _ _, Nat.le_refl _, by omega, ?_⟩
        exact HBW.out.setCell (by show w.heap.size ≤ w.heap.size; omega) _
end Go.Proofs.YtpniilgkceadeaaGreatDoor
