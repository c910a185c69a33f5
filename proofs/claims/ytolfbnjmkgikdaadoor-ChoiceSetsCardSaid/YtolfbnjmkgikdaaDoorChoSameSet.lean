/- rootcauseref14.SameSet. -/
import Derived.Test.YtolfbnjmkgikdaaDoorChoSame
import Derived.Test.YtolfbnjmkgikdaaDoorChoFind
namespace ChoP
def eqL : List Cho → List Cho → Bool
  | [], [] => true
  | x :: r, y :: s => sameB x y && eqL r s
  | _, _ => false
theorem eqL_iff : ∀ (l m : List Cho), eqL l m = true ↔ l = m
  | [], [] => by simp [eqL]
  | x :: r, y :: s => by rw [eqL, Bool.and_eq_true, sameB_iff, eqL_iff r s, List.cons.injEq]
  | [], y :: s => by simp [eqL]
  | x :: r, [] => by simp [eqL]
theorem eqL_false {l m : List Cho} (h : l ≠ m) : eqL l m = false := by
  rw [Bool.eq_false_iff]
  intro e
  exact h ((eqL_iff l m).1 e)
end ChoP
namespace Go.Proofs.YtolfbnjmkgikdaaDoor
open Go.RowKit Go.Sort
set_option maxRecDepth 100000 in
set_option maxHeartbeats 2000000 in
theorem sameSet_any (A B : Option Addr) (ps qs : List Pair) (c d : Nat) (w : World) (h1 : Chos w w.heap.size A ps) (h2 : Chos w w.heap.size B qs) (hn : ps.length ≤ 65536) :
    Calls Tryd.prog 11 #[.slice A ps.length c, .slice B qs.length d] w (BoolPost (ChoP.eqL (cho ps) (cho qs)) w) := by
  have hfalse : ∀ (W : World), RowKit.Below w.heap.size w W → cho ps ≠ cho qs → BoolPost (ChoP.eqL (cho ps) (cho qs)) w (.returned (.bool false)) W := fun W hW hne => ⟨by rw [ChoP.eqL_false hne], hW⟩
  have HFA := Lib.hid hfalse
  have H1 := Lib.hid h1
  have H2 := Lib.hid h2
  clear hfalse h1 h2
  by_cases hlen : ps.length = qs.length
  · have HLEN := Lib.hid hlen
    rw [← hlen]
    clear hlen
    go_enter Tryd.func11, Tryd.ntmps11
    go_wp2_with fail
    go_loopw [13] (fun i wr => ∃ k : Nat, k ≤ ps.length ∧ i = .int .i64 k ∧ (cho ps).take k = (cho qs).take k ∧ RowKit.Below w.heap.size w wr) (fun i _ => ps.length - (intOf i).toNat)
    case atStart => exact ⟨0, Nat.zero_le _, rfl, rfl, RowKit.Below.refl _ _⟩
    case round =>
      obtain ⟨k, hk, rfl, ht, hb⟩ := hrel
      have HT := Lib.hid ht
      have HB := Lib.hid hb
      have hwz := hb.size
      clear ht hb
      by_cases hlt : k < ps.length
      · obtain ⟨p, hpk⟩ : ∃ p, ps[k]? = some p := ⟨_, List.getElem?_eq_getElem hlt⟩
        obtain ⟨q, hqk⟩ : ∃ q, qs[k]? = some q := ⟨_, List.getElem?_eq_getElem (by rw [← HLEN.out]; exact hlt)⟩
        obtain ⟨b, o, rfl, hb0, hc⟩ := H1.out.at_ k p hpk
        obtain ⟨b', o', rfl, hb0', hc'⟩ := H2.out.at_ k q hqk
        have hcell : ∀ j u, p.1.vs[j]? = some u → wr.cell? ⟨b, o + k * 7 + j, none⟩ = some u := fun j u hu => (HB.out.cell (p := ⟨b, o + k * 7 + j, none⟩) hb0).trans (hc j u hu)
        have hcell' : ∀ j u, q.1.vs[j]? = some u → wr.cell? ⟨b', o' + k * 7 + j, none⟩ = some u := fun j u hu => (HB.out.cell (p := ⟨b', o' + k * 7 + j, none⟩) hb0').trans (hc' j u hu)
        have c0 : wr.cell? ⟨b, o + k * 7, none⟩ = some (.int .u8 p.1.key.kind) := hcell 0 _ rfl
        have f0 : wr.cell? ⟨b', o' + k * 7, none⟩ = some (.int .u8 q.1.key.kind) := hcell' 0 _ rfl
        have d0 := cell_regrown c0
        have d1 := cell_regrown (hcell 1 _ rfl)
        have d2 := cell_regrown (hcell 2 _ rfl)
        have d3 := cell_regrown (hcell 3 _ rfl)
        have d4 := cell_regrown (hcell 4 _ rfl)
        have d5 := cell_regrown (hcell 5 _ rfl)
        have d6 := cell_regrown (hcell 6 _ rfl)
        have g0 := cell_regrown f0
        have g1 := cell_regrown (hcell' 1 _ rfl)
        have g2 := cell_regrown (hcell' 2 _ rfl)
        have g3 := cell_regrown (hcell' 3 _ rfl)
        have g4 := cell_regrown (hcell' 4 _ rfl)
        have g5 := cell_regrown (hcell' 5 _ rfl)
        have g6 := cell_regrown (hcell' 6 _ rfl)
        have hxk : (cho ps)[k]? = some p.2 := by simp [cho, hpk]
        have hyk : (cho qs)[k]? = some q.2 := by simp [cho, hqk]
        have hi1 : (0 : Int) ≤ (k : Int) := by omega
        have hi2 : (k : Int) < (ps.length : Int) := by omega
        have hrp := H1.out.row p (List.mem_of_getElem? hpk)
        have hrq := H2.out.row q (List.mem_of_getElem? hqk)
        obtain ⟨n, hn'⟩ : ∃ n, ChoP.sameB p.2 q.2 = n := ⟨_, rfl⟩
        have cF : ∀ d os, Calls Tryd.prog 15 #[.agg #[.int .u8 p.1.key.kind, .int .i64 p.1.key.a, .int .i64 p.1.key.b, .int .i64 p.1.key.n, .int .i64 p.1.t, .int .i64 p.1.d, .slice p.1.p p.1.n p.1.c], .agg #[.int .u8 q.1.key.kind, .int .i64 q.1.key.a, .int .i64 q.1.key.b, .int .i64 q.1.key.n, .int .i64 q.1.t, .int .i64 q.1.d, .slice q.1.p q.1.n q.1.c]] (grow (redrawn wr d) os) fun e w'' => e = .returned (.bool n) ∧ ∃ p : Regrown, w'' = grow (redrawn wr p.d) p.os := fun d os => by
          have hW : RowKit.Below w.heap.size w (grow (redrawn wr d) os) := HB.out.trans ((below_regrown wr d os).mono hwz)
          have h := same_any p.1 q.1 p.2 q.2 (grow (redrawn wr d) os) (hrp.below hW hW.size) (hrq.below hW hW.size)
          rw [hn'] at h
          exact Calls.regrown_of h
        have CF := Lib.hid cF
        have HN := Lib.hid hn'
        have HXK := Lib.hid hxk
        have HYK := Lib.hid hyk
        clear c0 f0 cF hxk hyk hpk hqk hn' hcell hcell' hc hc' hrp hrq
        go_wp2_with fail
        cases n
        · refine wp_region_quiet_below (by kernel_rfl) (by kernel_rfl) ?_
          repeat (first | go_big_quiet_step (exact CF.out _ _) | quiet_step (exact CF.out _ _))
          refine wpQuiet_nil ?_
          rintro w' ⟨pq, rfl⟩
          have HB2 := Lib.hid (HB.out.trans ((below_regrown wr pq.d pq.os).mono hwz))
          have hne : cho ps ≠ cho qs := fun e => by
            have h1 := HXK.out
            rw [e, HYK.out] at h1
            injection h1 with h1
            have h2 := HN.out
            rw [h1, (ChoP.sameB_iff _ _).2 rfl] at h2
            cases h2
          have HNE := Lib.hid hne
          clear hne
          generalize grow (redrawn wr pq.d) pq.os = w2 at *
          clear d0 d1 d2 d3 d4 d5 d6 g0 g1 g2 g3 g4 g5 g6 CF
          go_wp2_with fail
          go_ret
          exact HFA.out _ HB2.out HNE.out
        · refine wp_region_quiet_below (by kernel_rfl) (by kernel_rfl) ?_
          repeat (first | go_big_quiet_step (exact CF.out _ _) | quiet_step (exact CF.out _ _))
          refine wpQuiet_nil ?_
          rintro w' ⟨pq, rfl⟩
          have HB2 := Lib.hid (HB.out.trans ((below_regrown wr pq.d pq.os).mono hwz))
          generalize grow (redrawn wr pq.d) pq.os = w2 at *
          clear d0 d1 d2 d3 d4 d5 d6 g0 g1 g2 g3 g4 g5 g6 CF
          go_wp2_with fail
          go_roundw
          case rel =>
            refine ⟨k + 1, by omega, by go_num, ?_, HB2.out⟩
            rw [List.take_add_one, List.take_add_one, HT.out, HXK.out, HYK.out, (ChoP.sameB_iff _ _).1 HN.out]
          case measure => simp [intOf]; omega
      · have hxy : ChoP.eqL (cho ps) (cho qs) = true := by
          rw [ChoP.eqL_iff]
          have h1 := HT.out
          have := HLEN.out
          rwa [List.take_of_length_le (by simp [cho]; omega), List.take_of_length_le (by simp [cho]; omega)] at h1
        have HXY := Lib.hid hxy
        clear hxy
        go_wp2_with fail
        go_ret
        exact ⟨by rw [HXY.out]; rfl, HB.out⟩
  · have hne : cho ps ≠ cho qs := fun e => hlen (by have := congrArg List.length e; simpa [cho] using this)
    have HNE := Lib.hid hne
    have hb1 : ((ps.length : Int) != (qs.length : Int)) = true := by simp; omega
    have hb2 : ((ps.length : Int) == (qs.length : Int)) = false := by simp; omega
    clear hne hlen
    go_enter Tryd.func11, Tryd.ntmps11
    go_wp2_with fail
    go_ret
    exact HFA.out _ (RowKit.Below.refl _ _) HNE.out
end Go.Proofs.YtolfbnjmkgikdaaDoor
