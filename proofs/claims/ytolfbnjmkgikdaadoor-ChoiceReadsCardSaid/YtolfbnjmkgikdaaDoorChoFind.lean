/- find: the place of a key in a set, by slices.BinarySearchFunc. -/
import Derived.Test.YtolfbnjmkgikdaaDoorChoNew
import Derived.Test.YtolfbnjmkgikdaaDoorChoKeyText
import Derived.Lib.QuietBelow
namespace ChoP
/-- the place of a key: how many choices have a lesser one -/
def posK (l : List Cho) (k : Key) : Nat := (l.takeWhile fun x => lessB x.key k).length
def hasK (l : List Cho) (k : Key) : Bool := l.any fun x => eqB x.key k
theorem posK_eq (l : List Cho) (k : Key) (i : Nat) (hi : i ≤ l.length) (h1 : ∀ (m : Nat) (x : Cho), m < i → l[m]? = some x → ltK x.key k) (h2 : ∀ (m : Nat) (x : Cho), i ≤ m → l[m]? = some x → ¬ ltK x.key k) : posK l k = i := by
  induction l generalizing i with
  | nil => simp at hi; subst hi; rfl
  | cons y r ih =>
    unfold posK
    cases i with
    | zero =>
      have := h2 0 y (Nat.le_refl _) rfl
      rw [List.takeWhile_cons, if_neg (by rw [lessB_iff]; exact this)]
      rfl
    | succ i =>
      have := h1 0 y (by omega) rfl
      rw [List.takeWhile_cons, if_pos ((lessB_iff _ _).2 this), List.length_cons]
      have := ih i (by simpa using hi) (fun m x hm hx => h1 (m + 1) x (by omega) (by simpa using hx)) (fun m x hm hx => h2 (m + 1) x (by omega) (by simpa using hx))
      unfold posK at this
      rw [this]
theorem hasK_pos {l : List Cho} (ho : Ord l) (k : Key) (i : Nat) (h1 : ∀ (m : Nat) (x : Cho), m < i → l[m]? = some x → ltK x.key k) (h2 : ∀ (m : Nat) (x : Cho), i ≤ m → l[m]? = some x → ¬ ltK x.key k) (x : Cho) (hx : l[i]? = some x) : hasK l k = eqB x.key k := by
  rw [Bool.eq_iff_iff, eqB_iff, hasK, List.any_eq_true]
  constructor
  · rintro ⟨y, hy, e⟩
    rw [eqB_iff] at e
    obtain ⟨m, hm⟩ := List.getElem?_of_mem hy
    rcases Nat.lt_trichotomy m i with h | h | h
    · have := h1 m y h hm
      rw [e] at this
      exact absurd this (ltK_irrefl _)
    · subst h
      rw [hx] at hm
      cases hm
      exact e
    · unfold Ord at ho
      rw [List.pairwise_iff_getElem] at ho
      obtain ⟨ha, rfl⟩ := List.getElem?_eq_some_iff.1 hx
      obtain ⟨hb, rfl⟩ := List.getElem?_eq_some_iff.1 hm
      have := ho i m ha hb h
      rw [e] at this
      exact absurd this (h2 i _ (Nat.le_refl _) hx)
  · intro e
    exact ⟨x, List.mem_of_getElem? hx, (eqB_iff _ _).2 e⟩
theorem hasK_none (l : List Cho) (k : Key) (h1 : ∀ (m : Nat) (x : Cho), m < l.length → l[m]? = some x → ltK x.key k) : hasK l k = false := by
  rw [hasK, List.any_eq_false]
  intro x hx e
  rw [eqB_iff] at e
  obtain ⟨m, hm⟩ := List.getElem?_of_mem hx
  have := h1 m x (List.getElem?_eq_some_iff.1 hm).1 hm
  rw [e] at this
  exact ltK_irrefl _ this
end ChoP
namespace Go.Proofs.YtolfbnjmkgikdaaDoor
open Go.RowKit Go.Sort
set_option maxHeartbeats 1000000 in
theorem findCmp_any (r : Row) (k : ChoP.Key) (w : World) : Calls Tryd.prog 68 #[choV r, keyV k] w (CmpPost (ChoP.cmpK r.key k) w) := by
  have e1 : choV r = .agg #[.int .u8 r.key.kind, .int .i64 r.key.a, .int .i64 r.key.b, .int .i64 r.key.n, .int .i64 r.t, .int .i64 r.d, .slice r.p r.n r.c] := rfl
  have hc := fun W => compare_any r.key k W
  have k1 : keyV r.key = .agg #[.int .u8 r.key.kind, .int .i64 r.key.a, .int .i64 r.key.b, .int .i64 r.key.n] := rfl
  have k2 : keyV k = .agg #[.int .u8 k.kind, .int .i64 k.a, .int .i64 k.b, .int .i64 k.n] := rfl
  rw [k1, k2] at hc
  rw [e1, k2]
  generalize ChoP.cmpK r.key k = n at *
  clear e1 k1 k2
  have HC := Lib.hid hc
  clear hc
  go_enter Tryd.func68, Tryd.ntmps68
  go_wp2_with fail
  refine (HC.out _).mono ?_
  rintro e w' ⟨rfl, hg⟩
  have HG := Lib.hid hg
  clear hg
  go_wp2_with fail
  go_ret
  exact ⟨rfl, (((Grows.refl _).alloc _).alloc _).trans HG.out⟩
def FindPost (i : Nat) (b : Bool) (w : World) (e : Ending) (w' : World) : Prop := e = .returned (.tuple #[.int .i64 (i : Int), .bool b]) ∧ Below w.heap.size w w'
set_option maxRecDepth 100000 in
set_option maxHeartbeats 2000000 in
theorem search_any (A : Option Addr) (ps : List Pair) (c : Nat) (k : ChoP.Key) (w : World) (h : Chos w w.heap.size A ps) (ho : ChoP.Ord (cho ps)) (hn : ps.length ≤ 65536) :
    Calls Tryd.prog 67 #[.slice A ps.length c, keyV k, .func (.func 68) #[] #[]] w (FindPost (ChoP.posK (cho ps) k) (ChoP.hasK (cho ps) k) w) := by
  have k2 : keyV k = .agg #[.int .u8 k.kind, .int .i64 k.a, .int .i64 k.b, .int .i64 k.n] := rfl
  rw [k2]
  have H := Lib.hid h
  have HO := Lib.hid ho
  clear h ho k2
  go_enter Tryd.func67, Tryd.ntmps67
  go_wp2_with fail
  go_loopw [9, 10] (fun vi vj wr => ∃ i j : Nat, vi = .int .i64 i ∧ vj = .int .i64 j ∧ i ≤ j ∧ j ≤ ps.length ∧ (∀ (m : Nat) (x : ChoP.Cho), m < i → (cho ps)[m]? = some x → ChoP.ltK x.key k) ∧ (∀ (m : Nat) (x : ChoP.Cho), j ≤ m → (cho ps)[m]? = some x → ¬ ChoP.ltK x.key k) ∧ wr.heap[w.heap.size]? = some (.cells #[.int .u8 k.kind, .int .i64 k.a, .int .i64 k.b, .int .i64 k.n] 25 (0, 0)) ∧ Below w.heap.size w wr) (fun vi vj _ => (intOf vj).toNat - (intOf vi).toNat)
  case atStart => exact ⟨0, ps.length, rfl, rfl, Nat.zero_le _, Nat.le_refl _, fun m x hm => absurd hm (by omega), fun m x hm hx => absurd (List.getElem?_eq_some_iff.1 hx).1 (by simp [cho]; omega), heap_alloc_new w _, (Below.refl _ _).alloc (Nat.le_refl _) _⟩
  case round =>
    obtain ⟨i, j, rfl, rfl, hij, hj, h1, h2, hblk, hb⟩ := hrel
    have H1 := Lib.hid h1
    have H2 := Lib.hid h2
    have HB := Lib.hid hb
    have HBLK := Lib.hid hblk
    obtain ⟨k0, k1, k2, k3⟩ := blk4 hblk
    clear h1 h2 hb hblk
    by_cases hlt : i < j
    · obtain ⟨p, hpk⟩ : ∃ p, ps[(i + j) / 2]? = some p := ⟨_, List.getElem?_eq_getElem (by omega)⟩
      obtain ⟨b, o, rfl, hb0, hc⟩ := H.out.at_ ((i + j) / 2) p hpk
      have hcell : ∀ q u, p.1.vs[q]? = some u → wr.cell? ⟨b, o + (i + j) / 2 * 7 + q, none⟩ = some u := fun q u hu => (HB.out.cell (p := ⟨b, o + (i + j) / 2 * 7 + q, none⟩) hb0).trans (hc q u hu)
      have c0 : wr.cell? ⟨b, o + (i + j) / 2 * 7, none⟩ = some (.int .u8 p.1.key.kind) := hcell 0 _ rfl
      have c1 := hcell 1 _ rfl
      have c2 := hcell 2 _ rfl
      have c3 := hcell 3 _ rfl
      have c4 := hcell 4 _ rfl
      have c5 := hcell 5 _ rfl
      have c6 := hcell 6 _ rfl
      clear hcell hc
      have hkey := (H.out.row p (List.mem_of_getElem? hpk)).key
      have hxk : (cho ps)[(i + j) / 2]? = some p.2 := by simp [cho, hpk]
      have hh1 : i ≤ (i + j) / 2 := by omega
      have hh2 : (i + j) / 2 < j := by omega
      go_wp2_with fail
      rw [show ((i : Int) + (j : Int)) / 2 = (((i + j) / 2 : Nat) : Int) by omega]
      generalize (i + j) / 2 = h at *
      have d0 := cell_regrown c0
      have d1 := cell_regrown c1
      have d2 := cell_regrown c2
      have d3 := cell_regrown c3
      have d4 := cell_regrown c4
      have d5 := cell_regrown c5
      have d6 := cell_regrown c6
      have q0 := cell_regrown k0
      have q1 := cell_regrown k1
      have q2 := cell_regrown k2
      have q3 := cell_regrown k3
      have hi1 : (0 : Int) ≤ (h : Int) := by omega
      have hi2 : (h : Int) < (ps.length : Int) := by omega
      obtain ⟨n, hn'⟩ : ∃ n, ChoP.cmpK p.1.key k = n := ⟨_, rfl⟩
      have hnl : n < 0 ↔ ChoP.ltK p.2.key k := by rw [← hn', ← hkey]; exact ChoP.cmpK_lt _ _
      have cF : ∀ d os, Calls Tryd.prog 68 #[.agg #[.int .u8 p.1.key.kind, .int .i64 p.1.key.a, .int .i64 p.1.key.b, .int .i64 p.1.key.n, .int .i64 p.1.t, .int .i64 p.1.d, .slice p.1.p p.1.n p.1.c], .agg #[.int .u8 k.kind, .int .i64 k.a, .int .i64 k.b, .int .i64 k.n]] (grow (redrawn wr d) os) fun e w'' => e = .returned (.int .i64 n) ∧ ∃ p : Regrown, w'' = grow (redrawn wr p.d) p.os := fun d os => by
        have h := findCmp_any p.1 k (grow (redrawn wr d) os)
        rw [hn'] at h
        exact Calls.regrown_of (Calls.mono h fun _ _ ⟨he, hg⟩ => ⟨he, hg.below (Nat.le_refl _)⟩)
      have CF := Lib.hid cF
      have HNL := Lib.hid hnl
      have HXK := Lib.hid hxk
      have hwz := HB.out.size
      clear c0 c1 c2 c3 c4 c5 c6 k0 k1 k2 k3 cF hnl hxk hpk hkey hn'
      refine wp_region_quiet_below (by kernel_rfl) (by kernel_rfl) ?_
      repeat (first | go_big_quiet_step (exact CF.out _ _) | quiet_step (exact CF.out _ _))
      refine wpQuiet_nil ?_
      rintro w' ⟨pq, rfl⟩
      have hb2 := below_regrown wr pq.d pq.os
      have HB2 := Lib.hid (HB.out.trans (hb2.mono hwz))
      have HBLK2 := Lib.hid ((hb2.block _ ((Array.getElem?_eq_some_iff.1 HBLK.out).1)).trans HBLK.out)
      generalize grow (redrawn wr pq.d) pq.os = w2 at *
      clear hb2 d0 d1 d2 d3 d4 d5 d6 q0 q1 q2 q3 CF
      have hod := HO.out
      unfold ChoP.Ord at hod
      rw [List.pairwise_iff_getElem] at hod
      have HOD := Lib.hid hod
      clear hod
      by_cases hneg : n < 0
      · have hl := HNL.out.1 hneg
        have HLK := Lib.hid hl
        clear hl
        go_wp2_with fail
        go_roundw
        case rel =>
          refine ⟨h + 1, j, by go_num, rfl, by omega, hj, fun m x hm hx => ?_, H2.out, HBLK2.out, HB2.out⟩
          by_cases hmh : m = h
          · subst hmh
            rw [HXK.out] at hx
            cases hx
            exact HLK.out
          · obtain ⟨ha, rfl⟩ := List.getElem?_eq_some_iff.1 hx
            obtain ⟨hb', e⟩ := List.getElem?_eq_some_iff.1 HXK.out
            have := HOD.out m h ha hb' (by omega)
            rw [e] at this
            exact ChoP.ltK_trans this HLK.out
        case measure => simp [intOf]; omega
      · have hl : ¬ ChoP.ltK p.2.key k := fun e => hneg (HNL.out.2 e)
        have HLK := Lib.hid hl
        clear hl
        go_wp2_with fail
        go_roundw
        case rel =>
          refine ⟨i, h, rfl, rfl, hh1, by omega, H1.out, fun m x hm hx => ?_, HBLK2.out, HB2.out⟩
          by_cases hmh : m = h
          · subst hmh
            rw [HXK.out] at hx
            cases hx
            exact HLK.out
          · obtain ⟨ha, rfl⟩ := List.getElem?_eq_some_iff.1 hx
            obtain ⟨hb', e⟩ := List.getElem?_eq_some_iff.1 HXK.out
            have := HOD.out h m hb' ha (by omega)
            rw [e] at this
            exact fun e2 => HLK.out (ChoP.ltK_trans this e2)
        case measure => simp [intOf]; omega
    · obtain rfl : i = j := by omega
      have hpos := ChoP.posK_eq (cho ps) k i (by simp [cho]; omega) H1.out H2.out
      have HPOS := Lib.hid hpos
      have hwz := HB.out.size
      clear hpos
      by_cases hin : i < ps.length
      · obtain ⟨p, hpk⟩ : ∃ p, ps[i]? = some p := ⟨_, List.getElem?_eq_getElem (by omega)⟩
        obtain ⟨b, o, rfl, hb0, hc⟩ := H.out.at_ i p hpk
        have hcell : ∀ q u, p.1.vs[q]? = some u → wr.cell? ⟨b, o + i * 7 + q, none⟩ = some u := fun q u hu => (HB.out.cell (p := ⟨b, o + i * 7 + q, none⟩) hb0).trans (hc q u hu)
        have c0 : wr.cell? ⟨b, o + i * 7, none⟩ = some (.int .u8 p.1.key.kind) := hcell 0 _ rfl
        have d0 := cell_regrown c0
        have d1 := cell_regrown (hcell 1 _ rfl)
        have d2 := cell_regrown (hcell 2 _ rfl)
        have d3 := cell_regrown (hcell 3 _ rfl)
        have d4 := cell_regrown (hcell 4 _ rfl)
        have d5 := cell_regrown (hcell 5 _ rfl)
        have d6 := cell_regrown (hcell 6 _ rfl)
        have q0 := cell_regrown k0
        have q1 := cell_regrown k1
        have q2 := cell_regrown k2
        have q3 := cell_regrown k3
        have hkey := (H.out.row p (List.mem_of_getElem? hpk)).key
        have hxk : (cho ps)[i]? = some p.2 := by simp [cho, hpk]
        have hhas := ChoP.hasK_pos HO.out k i H1.out H2.out p.2 hxk
        obtain ⟨n, hn'⟩ : ∃ n, ChoP.cmpK p.1.key k = n := ⟨_, rfl⟩
        have hnz : (n == 0) = ChoP.hasK (cho ps) k := by
          rw [hhas, ← hkey, ← hn', Bool.eq_iff_iff, ChoP.eqB_iff, beq_iff_eq]
          exact ChoP.cmpK_zero _ _
        have cF : ∀ d os, Calls Tryd.prog 68 #[.agg #[.int .u8 p.1.key.kind, .int .i64 p.1.key.a, .int .i64 p.1.key.b, .int .i64 p.1.key.n, .int .i64 p.1.t, .int .i64 p.1.d, .slice p.1.p p.1.n p.1.c], .agg #[.int .u8 k.kind, .int .i64 k.a, .int .i64 k.b, .int .i64 k.n]] (grow (redrawn wr d) os) fun e w'' => e = .returned (.int .i64 n) ∧ ∃ p : Regrown, w'' = grow (redrawn wr p.d) p.os := fun d os => by
          have h := findCmp_any p.1 k (grow (redrawn wr d) os)
          rw [hn'] at h
          exact Calls.regrown_of (Calls.mono h fun _ _ ⟨he, hg⟩ => ⟨he, hg.below (Nat.le_refl _)⟩)
        have CF := Lib.hid cF
        have HNZ := Lib.hid hnz
        have hi1 : (0 : Int) ≤ (i : Int) := by omega
        have hi2 : (i : Int) < (ps.length : Int) := by omega
        clear c0 k0 k1 k2 k3 cF hxk hpk hkey hn' hcell hc hhas hnz
        go_wp2_with fail
        refine wp_region_quiet_below (by kernel_rfl) (by kernel_rfl) ?_
        repeat (first | go_big_quiet_step (exact CF.out _ _) | quiet_step (exact CF.out _ _))
        refine wpQuiet_nil ?_
        rintro w' ⟨pq, rfl⟩
        go_wp2_with fail
        go_ret2
        exact ⟨by rw [HPOS.out, ← HNZ.out]; rfl, HB.out.trans ((below_regrown wr pq.d pq.os).mono hwz)⟩
      · have hnone : ChoP.hasK (cho ps) k = false := ChoP.hasK_none (cho ps) k (fun m x hm hx => H1.out m x (by simp [cho] at hm; omega) hx)
        have HN := Lib.hid hnone
        have hi3 : decide ((i : Int) < (ps.length : Int)) = false := by simp; omega
        have hi4 : decide (i < ps.length) = false := by simp; omega
        clear hnone k0 k1 k2 k3
        go_wp2_with fail
        refine wp_region_quiet_below (by kernel_rfl) (by kernel_rfl) ?_
        repeat (first | go_big_quiet_step (fail) | quiet_step (fail))
        refine wpQuiet_nil ?_
        rintro w' ⟨pq, rfl⟩
        go_wp2_with fail
        go_ret2
        exact ⟨by rw [HPOS.out, HN.out]; rfl, HB.out.trans ((below_regrown wr pq.d pq.os).mono hwz)⟩
set_option maxHeartbeats 1000000 in
theorem find_any (A : Option Addr) (ps : List Pair) (c : Nat) (k : ChoP.Key) (w : World) (h : Chos w w.heap.size A ps) (ho : ChoP.Ord (cho ps)) (hn : ps.length ≤ 65536) :
    Calls Tryd.prog 39 #[.agg #[.slice A ps.length c], keyV k] w (FindPost (ChoP.posK (cho ps) k) (ChoP.hasK (cho ps) k) w) := by
  have k2 : keyV k = .agg #[.int .u8 k.kind, .int .i64 k.a, .int .i64 k.b, .int .i64 k.n] := rfl
  have hs := fun (o1 o2 : Obj) => search_any A ps c k ((w.alloc o1).alloc o2) (by rw [World.size_alloc, World.size_alloc]; exact h.below (((Below.refl _ _).alloc (Nat.le_refl _) _).alloc (by simp) _) (by omega)) ho hn
  rw [k2] at hs
  rw [k2]
  have HS := Lib.hid hs
  clear h ho k2 hs
  go_enter Tryd.func39, Tryd.ntmps39
  go_wp2_with fail
  refine (HS.out _ _).mono ?_
  rintro e w1 ⟨rfl, hb⟩
  rw [World.size_alloc, World.size_alloc] at hb
  have HB := Lib.hid hb
  clear hb
  go_wp2_with fail
  go_ret2
  exact ⟨rfl, (((Below.refl w.heap.size w).alloc (Nat.le_refl _) _).alloc (by simp) _).trans (HB.out.mono (by omega))⟩
end Go.Proofs.YtolfbnjmkgikdaaDoor
