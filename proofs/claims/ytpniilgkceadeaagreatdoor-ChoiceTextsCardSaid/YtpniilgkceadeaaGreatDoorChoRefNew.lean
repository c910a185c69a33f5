/- The reference's New. -/
import Derived.Test.YtpniilgkceadeaaGreatDoorChoRefIns
import Derived.Test.YtpniilgkceadeaaGreatDoorChoRefValid
namespace ChoP
theorem nodup_prefix (l : List Cho) : nodupB l = true ↔ ∀ (i : Nat) (x : Cho), l[i]? = some x → hasK (l.take i) x.key = false := by
  rw [nodup_iff, List.pairwise_iff_getElem]
  constructor
  · intro h i x hx
    obtain ⟨hi, rfl⟩ := List.getElem?_eq_some_iff.1 hx
    rw [hasK, List.any_eq_false]
    intro y hy e
    obtain ⟨j, hj⟩ := List.getElem?_of_mem hy
    rw [List.getElem?_take] at hj
    split at hj
    · rename_i hji
      obtain ⟨hjl, rfl⟩ := List.getElem?_eq_some_iff.1 hj
      exact h j i hjl hi hji ((eqB_iff _ _).1 e)
    · cases hj
  · intro h i j hi hj hij e
    have := h j l[j] (List.getElem?_eq_getElem hj)
    rw [hasK, List.any_eq_false] at this
    refine this l[i] ?_ ((eqB_iff _ _).2 e)
    exact List.mem_of_getElem? (i := i) (by rw [List.getElem?_take, if_pos hij, List.getElem?_eq_getElem hi])
theorem isort_take (l : List Cho) (k : Nat) (x : Cho) (h : l[k]? = some x) : isort (l.take (k + 1)) = ins (isort (l.take k)) x := by
  rw [List.take_add_one, h]
  exact isort_snoc _ _
end ChoP
namespace Go.Proofs.YtpniilgkceadeaaGreatDoor
open Go.RowKit Go.Sort
def RNewPost (l : List ChoP.Cho) (w : World) (e : Ending) (w' : World) : Prop :=
  ∃ (A : Option Addr) (ps : List Pair) (c : Nat), e = .returned (.tuple #[.slice A ps.length c, .int .i64 (ChoP.errNew l)]) ∧ cho ps = ChoP.setL l ∧ Chos w' w'.heap.size A ps ∧ ps.length ≤ c ∧ c ≤ 9223372036854775807 ∧ NewA w A ∧ RowKit.Below w.heap.size w w'
theorem Chos.take {w : World} {B : Nat} {A : Option Addr} {ps : List Pair} (h : Chos w B A ps) (k : Nat) (hk : k ≤ ps.length) : Chos w B A (ps.take k) :=
  ⟨by rw [(cellsP_split ps k hk).1]; exact h.lie.take _, fun p hp => h.row p (List.mem_of_mem_take hp)⟩
/-- the value v is a slice of these choices -/
def IsL (w wr : World) (v : Value) (l : List ChoP.Cho) : Prop := ∃ (A : Option Addr) (qs : List Pair) (c : Nat), v = .slice A qs.length c ∧ cho qs = l ∧ Chos wr wr.heap.size A qs ∧ qs.length ≤ c ∧ c ≤ 9223372036854775807 ∧ NewA w A
theorem IsL.below {w0 w w' : World} {v : Value} {l : List ChoP.Cho} (h : IsL w0 w v l) (hb : RowKit.Below w.heap.size w w') : IsL w0 w' v l := by
  obtain ⟨A, qs, c, h1, h2, h3, h4, h5⟩ := h
  exact ⟨A, qs, c, h1, h2, h3.below hb hb.size, h4, h5⟩
theorem rnew_err {l : List ChoP.Cho} {w w' : World} {n : Int} (h : ChoP.errNew l = n) (hn : n ≠ 0) (hb : RowKit.Below w.heap.size w w') : RNewPost l w (.returned (.tuple #[.slice none 0 0, .int .i64 n])) w' :=
  ⟨none, [], 0, by rw [h]; rfl, by rw [setL_err h hn]; rfl, chos_nil _ _ _, Nat.le_refl _, by omega, NewA.none _, hb⟩
set_option maxRecDepth 100000 in
set_option maxHeartbeats 4000000 in
theorem refNew_any (A : Option Addr) (ps : List Pair) (c : Nat) (w : World) (h : Chos w w.heap.size A ps) (hn : ps.length ≤ 65536) (hc : ps.length ≤ c) (hc2 : c ≤ 9223372036854775807) : Calls Tryz.prog 51 #[.slice A ps.length c] w (RNewPost (cho ps) w) := by
  have H := Lib.hid h
  clear h
  go_enter Tryz.func51, Tryz.ntmps51
  go_wp2_with fail
  go_loopw [13] (fun i wr => ∃ k : Nat, k ≤ ps.length ∧ i = .int .i64 k ∧ (∀ p ∈ ps.take k, ChoP.okC p.2 = true) ∧ RowKit.Below w.heap.size w wr) (fun i _ => ps.length - (intOf i).toNat)
  case atStart => exact ⟨0, Nat.zero_le _, rfl, by simp, RowKit.Below.refl _ _⟩
  case round =>
    obtain ⟨k, hk, rfl, hok, hb⟩ := hrel
    have HOK := Lib.hid hok
    have HB := Lib.hid hb
    have hwz := hb.size
    clear hok hb
    by_cases hlt : k < ps.length
    · obtain ⟨p, hpk⟩ : ∃ p, ps[k]? = some p := ⟨_, List.getElem?_eq_getElem hlt⟩
      have hrow := H.out.row p (List.mem_of_getElem? hpk)
      have hpm := hrow.m
      have hpc := hrow.c
      obtain ⟨b, o, rfl, hb0, hcl⟩ := H.out.at_ k p hpk
      have hcell : ∀ j u, p.1.vs[j]? = some u → wr.cell? ⟨b, o + k * 7 + j, none⟩ = some u := fun j u hu => (HB.out.cell (p := ⟨b, o + k * 7 + j, none⟩) hb0).trans (hcl j u hu)
      have c0 : wr.cell? ⟨b, o + k * 7, none⟩ = some (.int .u8 p.1.key.kind) := hcell 0 _ rfl
      have c1 := hcell 1 _ rfl
      have c2 := hcell 2 _ rfl
      have c3 := hcell 3 _ rfl
      have c4 := hcell 4 _ rfl
      have c5 := hcell 5 _ rfl
      have c6 := hcell 6 _ rfl
      have HPK := Lib.hid hpk
      have hck := fun W => refValid_any p.1 W (by omega)
      have e1 : choV p.1 = .agg #[.int .u8 p.1.key.kind, .int .i64 p.1.key.a, .int .i64 p.1.key.b, .int .i64 p.1.key.n, .int .i64 p.1.t, .int .i64 p.1.d, .slice p.1.p p.1.n p.1.c] := rfl
      rw [e1] at hck
      have e2 : ChoP.choOK p.1.key p.1.t p.1.d p.1.n = ChoP.okC p.2 := by unfold ChoP.okC; rw [← hrow.key, ← hrow.t, ← hrow.d, ← hrow.n]
      rw [e2] at hck
      obtain ⟨ok, hok⟩ : ∃ ok, ChoP.okC p.2 = ok := ⟨_, rfl⟩
      rw [hok] at hck
      have HCK := Lib.hid hck
      have HOKP := Lib.hid hok
      clear hck e1 e2 hrow hcell hcl hpk hok
      go_wp2_with fail
      refine (HCK.out _).mono ?_
      rintro e w1 ⟨rfl, hb1⟩
      have hb2 : RowKit.Below w.heap.size w w1 := by
        rw [World.size_alloc] at hb1
        exact (HB.out.alloc hwz _).trans (hb1.mono (by omega))
      have HB2 := Lib.hid hb2
      clear hb1 hb2 c0 c1 c2 c3 c4 c5 c6 HCK
      cases ok
      · have herr := errNew_bad (List.mem_of_getElem? HPK.out) HOKP.out
        have HE := Lib.hid herr
        clear herr
        go_wp2_with fail
        go_ret2
        exact rnew_err HE.out (by decide) HB2.out
      · go_wp2_with fail
        go_roundw
        case rel =>
          refine ⟨k + 1, by omega, by go_num, fun q hq => ?_, HB2.out⟩
          rw [List.take_add_one, HPK.out] at hq
          rcases List.mem_append.1 hq with hq | hq
          · exact HOK.out q hq
          · simp at hq; rw [hq]; exact HOKP.out
        case measure => simp [intOf]; omega
    · have hall : (cho ps).all ChoP.okC = true := by
        rw [List.all_eq_true]
        intro y hy
        obtain ⟨p, hp, rfl⟩ := List.mem_map.1 hy
        exact HOK.out p (by rw [List.take_of_length_le (by omega)]; exact hp)
      have HALL := Lib.hid hall
      clear hall HOK
      go_wp2_with fail
      obtain ⟨wA, rfl⟩ : ∃ wA : World, wA = wr := ⟨_, rfl⟩
      go_loopw [23] (fun i wr => ∃ k : Nat, k ≤ ps.length ∧ i = .int .i64 k ∧ (∀ (j : Nat) (y : ChoP.Cho), j < k → (cho ps)[j]? = some y → ChoP.hasK ((cho ps).take j) y.key = false) ∧ RowKit.Below w.heap.size w wr) (fun i _ => ps.length - (intOf i).toNat)
      case atStart => exact ⟨0, Nat.zero_le _, rfl, fun j y hj => absurd hj (by omega), HB.out⟩
      case round =>
        clear HB hwz
        obtain ⟨k, hk, rfl, hnd, hb⟩ := hrel
        have HND := Lib.hid hnd
        have HB := Lib.hid hb
        have hwz := hb.size
        clear hnd hb
        by_cases hlt : k < ps.length
        · obtain ⟨p, hpk⟩ : ∃ p, ps[k]? = some p := ⟨_, List.getElem?_eq_getElem hlt⟩
          have hkey := (H.out.row p (List.mem_of_getElem? hpk)).key
          obtain ⟨b, o, rfl, hb0, hcl⟩ := H.out.at_ k p hpk
          have hcell : ∀ j u, p.1.vs[j]? = some u → wr.cell? ⟨b, o + k * 7 + j, none⟩ = some u := fun j u hu => (HB.out.cell (p := ⟨b, o + k * 7 + j, none⟩) hb0).trans (hcl j u hu)
          have c0 : wr.cell? ⟨b, o + k * 7, none⟩ = some (.int .u8 p.1.key.kind) := hcell 0 _ rfl
          have c1 := hcell 1 _ rfl
          have c2 := hcell 2 _ rfl
          have c3 := hcell 3 _ rfl
          have c4 := hcell 4 _ rfl
          have c5 := hcell 5 _ rfl
          have c6 := hcell 6 _ rfl
          have hxk : (cho ps)[k]? = some p.2 := by simp [cho, hpk]
          have hch := H.out.take k (by omega)
          have htl : (ps.take k).length = k := by rw [List.length_take]; omega
          have hct : cho (ps.take k) = (cho ps).take k := by rw [cho, cho, List.map_take]
          obtain ⟨n, hnf⟩ : ∃ n, ChoP.findI ((cho ps).take k) p.1.key = n := ⟨_, rfl⟩
          have hnh : 0 ≤ n ↔ ChoP.hasK ((cho ps).take k) p.2.key = true := by rw [← hnf, ← hkey]; exact ChoP.findI_has _ _
          have hfd := fun (W : World) (hW : RowKit.Below w.heap.size w W) => refFind_any (some ⟨b, o, none⟩) (ps.take k) c p.1.key W (hch.below hW hW.size) (by omega)
          rw [htl, hct, hnf] at hfd
          have k2 : keyV p.1.key = .agg #[.int .u8 p.1.key.kind, .int .i64 p.1.key.a, .int .i64 p.1.key.b, .int .i64 p.1.key.n] := rfl
          rw [k2] at hfd
          have HFD := Lib.hid hfd
          have HNH := Lib.hid hnh
          have HXK := Lib.hid hxk
          clear hcell hcl hch htl hct hnf hnh hfd k2 hkey hxk hpk
          go_wp2_with fail
          have hbx := heap_alloc_new wr (.cells #[.int .u8 p.1.key.kind, .int .i64 p.1.key.a, .int .i64 p.1.key.b, .int .i64 p.1.key.n, .int .i64 p.1.t, .int .i64 p.1.d, .slice p.1.p p.1.n p.1.c] 59)
          have HB1 : Hid (RowKit.Below w.heap.size w (wr.alloc (.cells #[.int .u8 p.1.key.kind, .int .i64 p.1.key.a, .int .i64 p.1.key.b, .int .i64 p.1.key.n, .int .i64 p.1.t, .int .i64 p.1.d, .slice p.1.p p.1.n p.1.c] 59))) := Lib.hid (HB.out.alloc hwz _)
          generalize wr.alloc (.cells #[.int .u8 p.1.key.kind, .int .i64 p.1.key.a, .int .i64 p.1.key.b, .int .i64 p.1.key.n, .int .i64 p.1.t, .int .i64 p.1.d, .slice p.1.p p.1.n p.1.c] 59) = w1 at *
          obtain ⟨⟨a0, a1, a2, a3, _, _, _⟩, _⟩ := blk7 hbx
          have d0 := cell_regrown a0
          have d1 := cell_regrown a1
          have d2 := cell_regrown a2
          have d3 := cell_regrown a3
          have hw1 := HB1.out.size
          have cF : ∀ d os, Calls Tryz.prog 50 #[.slice (some ⟨b, o, none⟩) k c, .agg #[.int .u8 p.1.key.kind, .int .i64 p.1.key.a, .int .i64 p.1.key.b, .int .i64 p.1.key.n]] (grow (redrawn w1 d) os) fun e w'' => e = .returned (.int .i64 n) ∧ ∃ p : Regrown, w'' = grow (redrawn w1 p.d) p.os := fun d os => Calls.regrown_of (HFD.out _ (HB1.out.trans ((below_regrown w1 d os).mono hw1)))
          have CF := Lib.hid cF
          have hi1 : (0 : Int) ≤ (k : Int) := by omega
          have hi2 : (k : Int) ≤ (ps.length : Int) := by omega
          have hi3 : (k : Int) ≤ (c : Int) := by omega
          clear cF HFD hbx a0 a1 a2 a3 c0 c1 c2 c3 c4 c5 c6
          by_cases hneg : 0 ≤ n
          · have hdup := HNH.out.1 hneg
            have herr : ChoP.errNew (cho ps) = 5 := by
              have h2 : ChoP.nodupB (cho ps) = false := by
                cases hnn : ChoP.nodupB (cho ps)
                · rfl
                · rw [(ChoP.nodup_prefix _).1 hnn k p.2 HXK.out] at hdup
                  cases hdup
              unfold ChoP.errNew
              rw [HALL.out, h2]
              rfl
            have HE := Lib.hid herr
            clear hdup herr
            refine wp_region_quiet_below (by kernel_rfl) (by kernel_rfl) ?_
            repeat (first | go_big_quiet_step (exact CF.out _ _) | quiet_step (exact CF.out _ _))
            refine wpQuiet_nil ?_
            rintro w' ⟨pq, rfl⟩
            go_wp2_with fail
            go_ret2
            exact rnew_err HE.out (by decide) (HB1.out.trans ((below_regrown w1 pq.d pq.os).mono hw1))
          · have hnh : ChoP.hasK ((cho ps).take k) p.2.key = false := by
              cases hh : ChoP.hasK ((cho ps).take k) p.2.key
              · rfl
              · exact absurd (HNH.out.2 hh) hneg
            have HNO := Lib.hid hnh
            clear hnh
            refine wp_region_quiet_below (by kernel_rfl) (by kernel_rfl) ?_
            repeat (first | go_big_quiet_step (exact CF.out _ _) | quiet_step (exact CF.out _ _))
            refine wpQuiet_nil ?_
            rintro w' ⟨pq, rfl⟩
            have HB2 := Lib.hid (HB1.out.trans ((below_regrown w1 pq.d pq.os).mono hw1))
            generalize grow (redrawn w1 pq.d) pq.os = w2 at *
            clear d0 d1 d2 d3 CF
            go_wp2_with fail
            go_roundw
            case rel =>
              refine ⟨k + 1, by omega, by go_num, fun j y hj hy => ?_, HB2.out⟩
              by_cases hjk : j = k
              · subst hjk
                rw [HXK.out] at hy
                cases hy
                exact HNO.out
              · exact HND.out j y (by omega) hy
            case measure => simp [intOf]; omega
        · have hnod : ChoP.nodupB (cho ps) = true := (ChoP.nodup_prefix _).2 (fun i y hy => HND.out i y (by have := (List.getElem?_eq_some_iff.1 hy).1; simp [cho] at this; omega) hy)
          have herr : ChoP.errNew (cho ps) = if 96 < ps.length then 3 else 0 := by
            unfold ChoP.errNew
            rw [HALL.out, hnod]
            simp [cho]
          have HERR := Lib.hid herr
          clear hnod herr HND
          by_cases h96 : 96 < ps.length
          · have herr := HERR.out
            rw [if_pos h96] at herr
            have HE := Lib.hid herr
            clear herr
            go_wp2_with fail
            go_ret2
            exact rnew_err HE.out (by decide) HB.out
          · have herr := HERR.out
            rw [if_neg h96] at herr
            have HE := Lib.hid herr
            clear herr HERR
            have hb96 : ps.length ≤ 96 := by omega
            go_wp2_with fail
            obtain ⟨wB, rfl⟩ : ∃ wB : World, wB = wr := ⟨_, rfl⟩
            go_loopw [8, 41] (fun v i wr => ∃ k : Nat, k ≤ ps.length ∧ i = .int .i64 k ∧ IsL w wr v (ChoP.isort ((cho ps).take k)) ∧ RowKit.Below w.heap.size w wr) (fun _ i _ => ps.length - (intOf i).toNat)
            case atStart => exact ⟨0, Nat.zero_le _, rfl, ⟨none, [], 0, rfl, rfl, chos_nil _ _ _, Nat.le_refl _, by omega, NewA.none _⟩, HB.out⟩
            case round =>
              clear HB hwz
              obtain ⟨k, hk, rfl, hl, hb⟩ := hrel
              have HB := Lib.hid hb
              have hwz := hb.size
              clear hb
              by_cases hlt : k < ps.length
              · obtain ⟨p, hpk⟩ : ∃ p, ps[k]? = some p := ⟨_, List.getElem?_eq_getElem hlt⟩
                have hrow := H.out.row p (List.mem_of_getElem? hpk)
                obtain ⟨b, o, rfl, hb0, hcl⟩ := H.out.at_ k p hpk
                have hcell : ∀ j u, p.1.vs[j]? = some u → wr.cell? ⟨b, o + k * 7 + j, none⟩ = some u := fun j u hu => (HB.out.cell (p := ⟨b, o + k * 7 + j, none⟩) hb0).trans (hcl j u hu)
                have c0 : wr.cell? ⟨b, o + k * 7, none⟩ = some (.int .u8 p.1.key.kind) := hcell 0 _ rfl
                have c1 := hcell 1 _ rfl
                have c2 := hcell 2 _ rfl
                have c3 := hcell 3 _ rfl
                have c4 := hcell 4 _ rfl
                have c5 := hcell 5 _ rfl
                have c6 := hcell 6 _ rfl
                have hxk : (cho ps)[k]? = some p.2 := by simp [cho, hpk]
                have hst := ChoP.isort_take (cho ps) k p.2 hxk
                obtain ⟨A2, qs, c2', rfl, hq, hcq, hqc, hqc2, hna⟩ := hl
                have hql : qs.length ≤ 65536 := by
                  have h1 := congrArg List.length hq
                  have h2 := (ChoP.isort_perm ((cho ps).take k)).length_eq
                  rw [h2, List.length_take] at h1
                  simp [cho] at h1
                  omega
                have hins := fun (o : Obj) => refIns_any A2 qs c2' p.1 p.2 (wr.alloc o) (by rw [World.size_alloc]; exact hcq.below ((RowKit.Below.refl _ _).alloc (Nat.le_refl _) _) (by omega)) hql hqc hqc2 (by rw [World.size_alloc]; exact hrow.below (HB.out.alloc hwz _) (by omega))
                rw [hq, ← hst] at hins
                have e1 : choV p.1 = .agg #[.int .u8 p.1.key.kind, .int .i64 p.1.key.a, .int .i64 p.1.key.b, .int .i64 p.1.key.n, .int .i64 p.1.t, .int .i64 p.1.d, .slice p.1.p p.1.n p.1.c] := rfl
                rw [e1] at hins
                have HINS := Lib.hid hins
                clear hins e1 hst hq hcq hrow hcell hcl hpk hxk
                go_wp2_with fail
                refine (HINS.out _).mono ?_
                rintro e w1 ⟨A3, qs3, c3', rfl, hq3, hcq3, hqc3, hqc3', hna3, hb1⟩
                rw [World.size_alloc] at hb1
                have HL3 : Hid (IsL w w1 (.slice A3 qs3.length c3') (ChoP.isort ((cho ps).take (k + 1)))) := Lib.hid ⟨A3, qs3, c3', rfl, hq3, hcq3, hqc3, hqc3', hna3.mono (by rw [World.size_alloc]; omega)⟩
                have HB1 := Lib.hid ((HB.out.alloc hwz _).trans (hb1.mono (by omega)))
                clear hq3 hcq3 hna hna3 hb1 c0 c1 c2 c3 c4 c5 c6 HINS
                go_wp2_with fail
                go_roundw
                case rel => exact ⟨k + 1, by omega, by go_num, HL3.out, HB1.out⟩
                case measure => simp [intOf]; omega
              · obtain ⟨A2, qs, c2', rfl, hq, hcq, hqc, hqc2, hna⟩ := hl
                rw [List.take_of_length_le (by simp [cho]; omega)] at hq
                have hf : RNewPost (cho ps) w (.returned (.tuple #[.slice A2 qs.length c2', .int .i64 0])) wr := ⟨A2, qs, c2', by rw [HE.out], by rw [hq, ChoP.setL, if_pos HE.out], hcq, hqc, hqc2, hna, HB.out⟩
                have HF := Lib.hid hf
                clear hf hq hcq hna
                go_wp2_with fail
                go_ret2
                exact HF.out
end Go.Proofs.YtpniilgkceadeaaGreatDoor
