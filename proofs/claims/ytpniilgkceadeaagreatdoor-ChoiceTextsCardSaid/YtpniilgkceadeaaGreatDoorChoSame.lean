/- rootcauseref14.Same. -/
import Derived.Test.YtpniilgkceadeaaGreatDoorChoMem
import Derived.Test.YtpniilgkceadeaaGreatDoorChoCheck
import Derived.Test.YtpniilgkceadeaaGreatDoorChoEq
import Derived.Test.YtpniilgkceadeaaGreatDoorChoEqual
import Derived.Test.YtpniilgkceadeaaGreatDoorChoFindP
namespace ChoP
def sameB (x y : Cho) : Bool := eqB x.key y.key && decide (x.t = y.t) && decide (x.d = y.d) && decide (x.args = y.args)
theorem sameB_iff (x y : Cho) : sameB x y = true ↔ x = y := by
  unfold sameB
  simp only [Bool.and_eq_true, decide_eq_true_eq, eqB_iff]
  constructor
  · rintro ⟨⟨⟨h1, h2⟩, h3⟩, h4⟩
    cases x
    cases y
    simp_all
  · rintro rfl
    exact ⟨⟨⟨rfl, rfl⟩, rfl⟩, rfl⟩
theorem sameB_false {x y : Cho} (h : x ≠ y) : sameB x y = false := by
  rw [Bool.eq_false_iff]
  intro e
  exact h ((sameB_iff x y).1 e)
end ChoP
namespace Go.Proofs.YtpniilgkceadeaaGreatDoor
open Go.RowKit Go.Sort
set_option maxRecDepth 100000 in
set_option maxHeartbeats 2000000 in
theorem same_any (r s : Row) (x y : ChoP.Cho) (w : World) (hr : RowIs w w.heap.size r x) (hs : RowIs w w.heap.size s y) :
    Calls Tryz.prog 55 #[choV r, choV s] w (BoolPost (ChoP.sameB x y) w) := by
  have e1 : ∀ r : Row, choV r = .agg #[.int .u8 r.key.kind, .int .i64 r.key.a, .int .i64 r.key.b, .int .i64 r.key.n, .int .i64 r.t, .int .i64 r.d, .slice r.p r.n r.c] := fun _ => rfl
  rw [e1, e1]
  clear e1
  have hke := fun W => key_equalIn r.key.kind r.key.a r.key.b r.key.n s.key.kind s.key.a s.key.b s.key.n W
  obtain ⟨bq, hbq⟩ : ∃ bq : Bool, ChoP.eqB r.key s.key = bq := ⟨_, rfl⟩
  have hke2 : ∀ W : World, (Op.equalIn 10000 44 (.agg #[.int .u8 r.key.kind, .int .i64 r.key.a, .int .i64 r.key.b, .int .i64 r.key.n]) (.agg #[.int .u8 s.key.kind, .int .i64 s.key.a, .int .i64 s.key.b, .int .i64 s.key.n])).run Tryz.prog W = .ok bq W := fun W => by rw [← hbq]; exact hke W
  clear hke
  have hkg := key_guard
  have HBQ := Lib.hid hbq
  have HR := Lib.hid hr
  have HS := Lib.hid hs
  have hrc := hr.c
  have hrm := hr.m
  have hsc := hs.c
  have hsm := hs.m
  clear hbq hr hs
  have hfalse : ∀ (W : World), RowKit.Below w.heap.size w W → x ≠ y → BoolPost (ChoP.sameB x y) w (.returned (.bool false)) W := fun W hW hne => ⟨by rw [ChoP.sameB_false hne], hW⟩
  have HFA := Lib.hid hfalse
  clear hfalse
  cases bq
  · have hne : x ≠ y := fun e => by
      have h1 := HBQ.out
      rw [ChoP.eqB_false] at h1
      exact h1 (by rw [HR.out.key, HS.out.key, e])
    have HNE := Lib.hid hne
    clear hne
    go_enter Tryz.func55, Tryz.ntmps55
    go_wp2_with fail
    go_ret
    exact HFA.out _ (((RowKit.Below.refl _ _).alloc (Nat.le_refl _) _).alloc (by simp) _) HNE.out
  · by_cases ht : r.t = s.t
    · have hb1 : (r.t != s.t) = false := by simp [ht]
      have hb1' : (r.t == s.t) = true := by simp [ht]
      have HT := Lib.hid ht
      clear ht
      by_cases hd : r.d = s.d
      · have hb2 : (r.d != s.d) = false := by simp [hd]
        have hb2' : (r.d == s.d) = true := by simp [hd]
        have HD := Lib.hid hd
        clear hd
        by_cases hn : r.n = s.n
        · have HN := Lib.hid hn
          rw [← hn]
          rw [← hn] at hsc
          clear hn
          go_enter Tryz.func55, Tryz.ntmps55
          go_wp2_with fail
          go_loopw [37] (fun i wr => ∃ k : Nat, k ≤ r.n ∧ i = .int .i64 k ∧ x.args.take k = y.args.take k ∧ wr.cell? ⟨w.heap.size, 6, none⟩ = some (.slice r.p r.n r.c) ∧ wr.cell? ⟨w.heap.size + 1, 6, none⟩ = some (.slice s.p r.n s.c) ∧ RowKit.Below w.heap.size w wr) (fun i _ => r.n - (intOf i).toNat)
          case atStart =>
            refine ⟨0, Nat.zero_le _, rfl, rfl, ?_, ?_, ((RowKit.Below.refl _ _).alloc (Nat.le_refl _) _).alloc (by simp) _⟩
            · refine (World.cell?_alloc_lt _ _ _ (by simp)).trans ?_
              exact cell_at (heap_alloc_new w _) 6 _ rfl
            · have h2 := fun o1 o2 => heap_alloc_new (w.alloc o1) o2
              simp only [World.size_alloc] at h2
              exact cell_at (h2 _ _) 6 _ rfl
          case round =>
            obtain ⟨k, hk, rfl, ht, b1, b2, hb⟩ := hrel
            have HTK := Lib.hid ht
            have HB := Lib.hid hb
            clear ht hb
            have hxn := HR.out.n
            have hyn := HS.out.n
            have hnn := HN.out
            by_cases hlt : k < r.n
            · obtain ⟨u, hu⟩ : ∃ u, x.args[k]? = some u := ⟨_, List.getElem?_eq_getElem (by omega)⟩
              obtain ⟨v, hv⟩ : ∃ v, y.args[k]? = some v := ⟨_, List.getElem?_eq_getElem (by omega)⟩
              obtain ⟨p1, o1, e1, q1, c1⟩ := HR.out.lie.at_ k (.int .i64 u) (by simp [intV, hu])
              obtain ⟨p2, o2, e2, q2, c2⟩ := HS.out.lie.at_ k (.int .i64 v) (by simp [intV, hv])
              rw [e1] at b1
              rw [e2] at b2
              have d1 : wr.cell? ⟨p1, o1 + k, none⟩ = some (.int .i64 u) := (HB.out.cell (p := ⟨p1, o1 + k, none⟩) q1).trans c1
              have d2 : wr.cell? ⟨p2, o2 + k, none⟩ = some (.int .i64 v) := (HB.out.cell (p := ⟨p2, o2 + k, none⟩) q2).trans c2
              have hi1 : (0 : Int) ≤ (k : Int) := by omega
              have hi2 : (k : Int) < (r.n : Int) := by omega
              have HU := Lib.hid hu
              have HV := Lib.hid hv
              have E1 := Lib.hid e1
              have E2 := Lib.hid e2
              clear hu hv c1 c2 hxn hyn hnn e1 e2
              by_cases huv : u = v
              · subst huv
                have hb5 : (u != u) = false := by simp
                have hb6 : (u == u) = true := by simp
                go_wp2_with fail
                go_quiet (fail)
                clear d1 d2
                go_wp2_with fail
                go_roundw
                case rel =>
                  refine ⟨k + 1, by omega, by go_num, ?_, by rw [E1.out]; exact b1, by rw [E2.out]; exact b2, ⟨HB.out.os, HB.out.tape, HB.out.output, HB.out.size, HB.out.block⟩⟩
                  rw [List.take_add_one, List.take_add_one, HTK.out, HU.out, HV.out]
                case measure => simp [intOf]; omega
              · have hb5 : (u != v) = true := by simp [huv]
                have hb6 : (u == v) = false := by simp [huv]
                have hne : x ≠ y := fun e => by
                  have h1 := HU.out
                  rw [e, HV.out] at h1
                  injection h1 with h1
                  exact huv h1.symm
                have HNE := Lib.hid hne
                clear hne huv
                go_wp2_with fail
                go_quiet (fail)
                clear d1 d2
                go_wp2_with fail
                go_ret
                exact HFA.out _ ⟨HB.out.os, HB.out.tape, HB.out.output, HB.out.size, HB.out.block⟩ HNE.out
            · have hxy : ChoP.sameB x y = true := by
                have h1 := HTK.out
                rw [List.take_of_length_le (by omega), List.take_of_length_le (by omega)] at h1
                have h2 := (ChoP.eqB_iff _ _).1 HBQ.out
                rw [HR.out.key, HS.out.key] at h2
                have h3 := HT.out
                rw [HR.out.t, HS.out.t] at h3
                have h4 := HD.out
                rw [HR.out.d, HS.out.d] at h4
                rw [ChoP.sameB_iff]
                cases x
                cases y
                simp_all
              have HXY := Lib.hid hxy
              clear hxy hxn hyn hnn b1 b2
              go_wp2_with fail
              go_ret
              exact ⟨by rw [HXY.out]; rfl, HB.out⟩
        · have hne : x ≠ y := fun e => hn (by rw [HR.out.n, HS.out.n, e])
          have HNE := Lib.hid hne
          have hb1 : ((r.n : Int) != (s.n : Int)) = true := by simp; omega
          have hb2 : ((r.n : Int) == (s.n : Int)) = false := by simp; omega
          clear hne hn
          go_enter Tryz.func55, Tryz.ntmps55
          go_wp2_with fail
          go_ret
          exact HFA.out _ (((RowKit.Below.refl _ _).alloc (Nat.le_refl _) _).alloc (by simp) _) HNE.out
      · have hne : x ≠ y := fun e => hd (by rw [HR.out.d, HS.out.d, e])
        have HNE := Lib.hid hne
        have hb1 : (r.d != s.d) = true := by simp [hd]
        have hb2 : (r.d == s.d) = false := by simp [hd]
        clear hne hd
        go_enter Tryz.func55, Tryz.ntmps55
        go_wp2_with fail
        go_ret
        exact HFA.out _ (((RowKit.Below.refl _ _).alloc (Nat.le_refl _) _).alloc (by simp) _) HNE.out
    · have hne : x ≠ y := fun e => ht (by rw [HR.out.t, HS.out.t, e])
      have HNE := Lib.hid hne
      have hb1 : (r.t != s.t) = true := by simp [ht]
      have hb2 : (r.t == s.t) = false := by simp [ht]
      clear hne ht
      go_enter Tryz.func55, Tryz.ntmps55
      go_wp2_with fail
      go_ret
      exact HFA.out _ (((RowKit.Below.refl _ _).alloc (Nat.le_refl _) _).alloc (by simp) _) HNE.out
end Go.Proofs.YtpniilgkceadeaaGreatDoor
/- choice.same: two choices are equal. -/
namespace Go.Proofs.YtpniilgkceadeaaGreatDoor
open Go.RowKit Go.Sort
set_option maxRecDepth 100000 in
set_option maxHeartbeats 2000000 in
theorem csame_any (r s : Row) (x y : ChoP.Cho) (w : World) (hr : RowIs w w.heap.size r x) (hs : RowIs w w.heap.size s y) (hx : x.args.length ≤ 65536) (hy : y.args.length ≤ 65536) :
    Calls Tryz.prog 43 #[choV r, choV s] w (BoolPost (ChoP.sameB x y) w) := by
  have e1 : ∀ r : Row, choV r = .agg #[.int .u8 r.key.kind, .int .i64 r.key.a, .int .i64 r.key.b, .int .i64 r.key.n, .int .i64 r.t, .int .i64 r.d, .slice r.p r.n r.c] := fun _ => rfl
  rw [e1, e1]
  clear e1
  have hke := fun W => key_equalIn r.key.kind r.key.a r.key.b r.key.n s.key.kind s.key.a s.key.b s.key.n W
  obtain ⟨bq, hbq⟩ : ∃ bq : Bool, ChoP.eqB r.key s.key = bq := ⟨_, rfl⟩
  have hke2 : ∀ W : World, (Op.equalIn 10000 44 (.agg #[.int .u8 r.key.kind, .int .i64 r.key.a, .int .i64 r.key.b, .int .i64 r.key.n]) (.agg #[.int .u8 s.key.kind, .int .i64 s.key.a, .int .i64 s.key.b, .int .i64 s.key.n])).run Tryz.prog W = .ok bq W := fun W => by rw [← hbq]; exact hke W
  clear hke
  have hkg := key_guard
  have hq := fun (W : World) (hW : RowKit.Below w.heap.size w W) => eqI64_any r.p s.p r.c s.c x.args y.args W (hr.lie.below hW hW.size) (hs.lie.below hW hW.size) (by omega) (by omega)
  rw [← hr.n, ← hs.n] at hq
  obtain ⟨bb, hbb⟩ : ∃ bb : Bool, decide (x.args = y.args) = bb := ⟨_, rfl⟩
  rw [hbb] at hq
  have HQ := Lib.hid hq
  have HBB := Lib.hid hbb
  have HBQ := Lib.hid hbq
  have HR := Lib.hid hr
  have HS := Lib.hid hs
  clear hbq hr hs hq hbb
  have hfalse : ∀ (W : World), RowKit.Below w.heap.size w W → x ≠ y → BoolPost (ChoP.sameB x y) w (.returned (.bool false)) W := fun W hW hne => ⟨by rw [ChoP.sameB_false hne], hW⟩
  have HFA := Lib.hid hfalse
  clear hfalse
  cases bq
  · have hne : x ≠ y := fun e => by
      have h1 := HBQ.out
      rw [ChoP.eqB_false] at h1
      exact h1 (by rw [HR.out.key, HS.out.key, e])
    have HNE := Lib.hid hne
    clear hne
    go_enter Tryz.func43, Tryz.ntmps43
    go_wp2_with fail
    go_ret
    exact HFA.out _ (((RowKit.Below.refl _ _).alloc (Nat.le_refl _) _).alloc (by simp) _) HNE.out
  · by_cases ht : r.t = s.t
    · have hb1' : (r.t == s.t) = true := by simp [ht]
      have HT := Lib.hid ht
      clear ht
      by_cases hd : r.d = s.d
      · have hb2' : (r.d == s.d) = true := by simp [hd]
        have HD := Lib.hid hd
        clear hd
        have hxy : ChoP.sameB x y = bb := by
          rw [← HBB.out, Bool.eq_iff_iff, ChoP.sameB_iff, decide_eq_true_iff]
          have h2 := (ChoP.eqB_iff _ _).1 HBQ.out
          rw [HR.out.key, HS.out.key] at h2
          have h3 := HT.out
          rw [HR.out.t, HS.out.t] at h3
          have h4 := HD.out
          rw [HR.out.d, HS.out.d] at h4
          constructor
          · rintro rfl; rfl
          · intro h5
            cases x
            cases y
            simp_all
        have HXY := Lib.hid hxy
        clear hxy
        go_enter Tryz.func43, Tryz.ntmps43
        go_wp2_with fail
        refine (HQ.out _ (((RowKit.Below.refl _ _).alloc (Nat.le_refl _) _).alloc (by simp) _)).mono ?_
        intro e w1 hp
        obtain ⟨rfl, hb⟩ := hp.below
        have HB : Hid (RowKit.Below w.heap.size w w1) := Lib.hid ((((RowKit.Below.refl w.heap.size w).alloc (Nat.le_refl _) _).alloc (by simp) _).trans (hb.mono (by simp; omega)))
        clear hb hp
        go_wp2_with fail
        go_ret
        exact ⟨by rw [HXY.out]; rfl, HB.out⟩
      · have hne : x ≠ y := fun e => hd (by rw [HR.out.d, HS.out.d, e])
        have HNE := Lib.hid hne
        have hb2 : (r.d == s.d) = false := by simp [hd]
        clear hne hd
        go_enter Tryz.func43, Tryz.ntmps43
        go_wp2_with fail
        go_ret
        exact HFA.out _ (((RowKit.Below.refl _ _).alloc (Nat.le_refl _) _).alloc (by simp) _) HNE.out
    · have hne : x ≠ y := fun e => ht (by rw [HR.out.t, HS.out.t, e])
      have HNE := Lib.hid hne
      have hb2 : (r.t == s.t) = false := by simp [ht]
      clear hne ht
      go_enter Tryz.func43, Tryz.ntmps43
      go_wp2_with fail
      go_ret
      exact HFA.out _ (((RowKit.Below.refl _ _).alloc (Nat.le_refl _) _).alloc (by simp) _) HNE.out
end Go.Proofs.YtpniilgkceadeaaGreatDoor
/- rootcauseref14.SameSet. -/
namespace ChoP
def eqL : List Cho → List Cho → Bool
  | [], [] => true
  | x :: r, y :: s => sameB x y && eqL r s
  | _, _ => false
theorem eqL_iff : ∀ (l m : List Cho), eqL l m = true ↔ l = m
  | [], [] => by simp [eqL]
  | x :: r, y :: s => by rw [eqL, Bool.and_eq_true, sameB_iff, eqL_iff r s, List.cons.injEq]
  | [], y :: s => by simp [eqL]
  | x :: r, [] => by simp [eqL]
theorem eqL_false {l m : List Cho} (h : l ≠ m) : eqL l m = false := by
  rw [Bool.eq_false_iff]
  intro e
  exact h ((eqL_iff l m).1 e)
end ChoP
namespace Go.Proofs.YtpniilgkceadeaaGreatDoor
open Go.RowKit Go.Sort
set_option maxRecDepth 100000 in
set_option maxHeartbeats 2000000 in
theorem sameSet_any (A B : Option Addr) (ps qs : List Pair) (c d : Nat) (w : World) (h1 : Chos w w.heap.size A ps) (h2 : Chos w w.heap.size B qs) (hn : ps.length ≤ 65536) :
    Calls Tryz.prog 19 #[.slice A ps.length c, .slice B qs.length d] w (BoolPost (ChoP.eqL (cho ps) (cho qs)) w) := by
  have hfalse : ∀ (W : World), RowKit.Below w.heap.size w W → cho ps ≠ cho qs → BoolPost (ChoP.eqL (cho ps) (cho qs)) w (.returned (.bool false)) W := fun W hW hne => ⟨by rw [ChoP.eqL_false hne], hW⟩
  have HFA := Lib.hid hfalse
  have H1 := Lib.hid h1
  have H2 := Lib.hid h2
  clear hfalse h1 h2
  by_cases hlen : ps.length = qs.length
  · have HLEN := Lib.hid hlen
    rw [← hlen]
    clear hlen
    go_enter Tryz.func19, Tryz.ntmps19
    go_wp2_with fail
    go_loopw [13] (fun i wr => ∃ k : Nat, k ≤ ps.length ∧ i = .int .i64 k ∧ (cho ps).take k = (cho qs).take k ∧ RowKit.Below w.heap.size w wr) (fun i _ => ps.length - (intOf i).toNat)
    case atStart => exact ⟨0, Nat.zero_le _, rfl, rfl, RowKit.Below.refl _ _⟩
    case round =>
      obtain ⟨k, hk, rfl, ht, hb⟩ := hrel
      have HT := Lib.hid ht
      have HB := Lib.hid hb
      have hwz := hb.size
      clear ht hb
      by_cases hlt : k < ps.length
      · obtain ⟨p, hpk⟩ : ∃ p, ps[k]? = some p := ⟨_, List.getElem?_eq_getElem hlt⟩
        obtain ⟨q, hqk⟩ : ∃ q, qs[k]? = some q := ⟨_, List.getElem?_eq_getElem (by rw [← HLEN.out]; exact hlt)⟩
        obtain ⟨b, o, rfl, hb0, hc⟩ := H1.out.at_ k p hpk
        obtain ⟨b', o', rfl, hb0', hc'⟩ := H2.out.at_ k q hqk
        have hcell : ∀ j u, p.1.vs[j]? = some u → wr.cell? ⟨b, o + k * 7 + j, none⟩ = some u := fun j u hu => (HB.out.cell (p := ⟨b, o + k * 7 + j, none⟩) hb0).trans (hc j u hu)
        have hcell' : ∀ j u, q.1.vs[j]? = some u → wr.cell? ⟨b', o' + k * 7 + j, none⟩ = some u := fun j u hu => (HB.out.cell (p := ⟨b', o' + k * 7 + j, none⟩) hb0').trans (hc' j u hu)
        have c0 : wr.cell? ⟨b, o + k * 7, none⟩ = some (.int .u8 p.1.key.kind) := hcell 0 _ rfl
        have f0 : wr.cell? ⟨b', o' + k * 7, none⟩ = some (.int .u8 q.1.key.kind) := hcell' 0 _ rfl
        have d0 := cell_regrown c0
        have d1 := cell_regrown (hcell 1 _ rfl)
        have d2 := cell_regrown (hcell 2 _ rfl)
        have d3 := cell_regrown (hcell 3 _ rfl)
        have d4 := cell_regrown (hcell 4 _ rfl)
        have d5 := cell_regrown (hcell 5 _ rfl)
        have d6 := cell_regrown (hcell 6 _ rfl)
        have g0 := cell_regrown f0
        have g1 := cell_regrown (hcell' 1 _ rfl)
        have g2 := cell_regrown (hcell' 2 _ rfl)
        have g3 := cell_regrown (hcell' 3 _ rfl)
        have g4 := cell_regrown (hcell' 4 _ rfl)
        have g5 := cell_regrown (hcell' 5 _ rfl)
        have g6 := cell_regrown (hcell' 6 _ rfl)
        have hxk : (cho ps)[k]? = some p.2 := by simp [cho, hpk]
        have hyk : (cho qs)[k]? = some q.2 := by simp [cho, hqk]
        have hi1 : (0 : Int) ≤ (k : Int) := by omega
        have hi2 : (k : Int) < (ps.length : Int) := by omega
        have hrp := H1.out.row p (List.mem_of_getElem? hpk)
        have hrq := H2.out.row q (List.mem_of_getElem? hqk)
        obtain ⟨n, hn'⟩ : ∃ n, ChoP.sameB p.2 q.2 = n := ⟨_, rfl⟩
        have cF : ∀ d os, Calls Tryz.prog 55 #[.agg #[.int .u8 p.1.key.kind, .int .i64 p.1.key.a, .int .i64 p.1.key.b, .int .i64 p.1.key.n, .int .i64 p.1.t, .int .i64 p.1.d, .slice p.1.p p.1.n p.1.c], .agg #[.int .u8 q.1.key.kind, .int .i64 q.1.key.a, .int .i64 q.1.key.b, .int .i64 q.1.key.n, .int .i64 q.1.t, .int .i64 q.1.d, .slice q.1.p q.1.n q.1.c]] (grow (redrawn wr d) os) fun e w'' => e = .returned (.bool n) ∧ ∃ p : Regrown, w'' = grow (redrawn wr p.d) p.os := fun d os => by
          have hW : RowKit.Below w.heap.size w (grow (redrawn wr d) os) := HB.out.trans ((below_regrown wr d os).mono hwz)
          have h := same_any p.1 q.1 p.2 q.2 (grow (redrawn wr d) os) (hrp.below hW hW.size) (hrq.below hW hW.size)
          rw [hn'] at h
          exact Calls.regrown_of h
        have CF := Lib.hid cF
        have HN := Lib.hid hn'
        have HXK := Lib.hid hxk
        have HYK := Lib.hid hyk
        clear c0 f0 cF hxk hyk hpk hqk hn' hcell hcell' hc hc' hrp hrq
        go_wp2_with fail
        cases n
        · refine wp_region_quiet_below (by kernel_rfl) (by kernel_rfl) ?_
          repeat (first | go_big_quiet_step (exact CF.out _ _) | quiet_step (exact CF.out _ _))
          refine wpQuiet_nil ?_
          rintro w' ⟨pq, rfl⟩
          have HB2 := Lib.hid (HB.out.trans ((below_regrown wr pq.d pq.os).mono hwz))
          have hne : cho ps ≠ cho qs := fun e => by
            have h1 := HXK.out
            rw [e, HYK.out] at h1
            injection h1 with h1
            have h2 := HN.out
            rw [h1, (ChoP.sameB_iff _ _).2 rfl] at h2
            cases h2
          have HNE := Lib.hid hne
          clear hne
          generalize grow (redrawn wr pq.d) pq.os = w2 at *
          clear d0 d1 d2 d3 d4 d5 d6 g0 g1 g2 g3 g4 g5 g6 CF
          go_wp2_with fail
          go_ret
          exact HFA.out _ HB2.out HNE.out
        · refine wp_region_quiet_below (by kernel_rfl) (by kernel_rfl) ?_
          repeat (first | go_big_quiet_step (exact CF.out _ _) | quiet_step (exact CF.out _ _))
          refine wpQuiet_nil ?_
          rintro w' ⟨pq, rfl⟩
          have HB2 := Lib.hid (HB.out.trans ((below_regrown wr pq.d pq.os).mono hwz))
          generalize grow (redrawn wr pq.d) pq.os = w2 at *
          clear d0 d1 d2 d3 d4 d5 d6 g0 g1 g2 g3 g4 g5 g6 CF
          go_wp2_with fail
          go_roundw
          case rel =>
            refine ⟨k + 1, by omega, by go_num, ?_, HB2.out⟩
            rw [List.take_add_one, List.take_add_one, HT.out, HXK.out, HYK.out, (ChoP.sameB_iff _ _).1 HN.out]
          case measure => simp [intOf]; omega
      · have hxy : ChoP.eqL (cho ps) (cho qs) = true := by
          rw [ChoP.eqL_iff]
          have h1 := HT.out
          have := HLEN.out
          rwa [List.take_of_length_le (by simp [cho]; omega), List.take_of_length_le (by simp [cho]; omega)] at h1
        have HXY := Lib.hid hxy
        clear hxy
        go_wp2_with fail
        go_ret
        exact ⟨by rw [HXY.out]; rfl, HB.out⟩
  · have hne : cho ps ≠ cho qs := fun e => hlen (by have := congrArg List.length e; simpa [cho] using this)
    have HNE := Lib.hid hne
    have hb1 : ((ps.length : Int) != (qs.length : Int)) = true := by simp; omega
    have hb2 : ((ps.length : Int) == (qs.length : Int)) = false := by simp; omega
    clear hne hlen
    go_enter Tryz.func19, Tryz.ntmps19
    go_wp2_with fail
    go_ret
    exact HFA.out _ (RowKit.Below.refl _ _) HNE.out
end Go.Proofs.YtpniilgkceadeaaGreatDoor
/- slices.EqualFunc on choices; (choice.Set).Equal. -/
namespace Go.Proofs.YtpniilgkceadeaaGreatDoor
open Go.RowKit Go.Sort
set_option maxRecDepth 100000 in
set_option maxHeartbeats 2000000 in
theorem eqFunc_any (A B : Option Addr) (ps qs : List Pair) (c d : Nat) (w : World) (h1 : Chos w w.heap.size A ps) (h2 : Chos w w.heap.size B qs) (hn : ps.length ≤ 65536) (ha : ∀ p ∈ ps, p.2.args.length ≤ 65536) (hb : ∀ p ∈ qs, p.2.args.length ≤ 65536) :
    Calls Tryz.prog 42 #[.slice A ps.length c, .slice B qs.length d, .func (.func 43) #[] #[]] w (BoolPost (ChoP.eqL (cho ps) (cho qs)) w) := by
  have hfalse : ∀ (W : World), RowKit.Below w.heap.size w W → cho ps ≠ cho qs → BoolPost (ChoP.eqL (cho ps) (cho qs)) w (.returned (.bool false)) W := fun W hW hne => ⟨by rw [ChoP.eqL_false hne], hW⟩
  have HFA := Lib.hid hfalse
  have H1 := Lib.hid h1
  have H2 := Lib.hid h2
  have HA := Lib.hid ha
  have HBB := Lib.hid hb
  clear hfalse h1 h2 ha hb
  by_cases hlen : ps.length = qs.length
  · have HLEN := Lib.hid hlen
    rw [← hlen]
    clear hlen
    go_enter Tryz.func42, Tryz.ntmps42
    go_wp2_with fail
    go_loopw [17] (fun i wr => ∃ k : Nat, k ≤ ps.length ∧ i = .int .i64 k ∧ (cho ps).take k = (cho qs).take k ∧ RowKit.Below w.heap.size w wr) (fun i _ => ps.length - (intOf i).toNat)
    case atStart => exact ⟨0, Nat.zero_le _, rfl, rfl, RowKit.Below.refl _ _⟩
    case round =>
      obtain ⟨k, hk, rfl, ht, hb⟩ := hrel
      have HT := Lib.hid ht
      have HB := Lib.hid hb
      have hwz := hb.size
      clear ht hb
      by_cases hlt : k < ps.length
      · obtain ⟨p, hpk⟩ : ∃ p, ps[k]? = some p := ⟨_, List.getElem?_eq_getElem hlt⟩
        obtain ⟨q, hqk⟩ : ∃ q, qs[k]? = some q := ⟨_, List.getElem?_eq_getElem (by rw [← HLEN.out]; exact hlt)⟩
        obtain ⟨b, o, rfl, hb0, hc⟩ := H1.out.at_ k p hpk
        obtain ⟨b', o', rfl, hb0', hc'⟩ := H2.out.at_ k q hqk
        have hcell : ∀ j u, p.1.vs[j]? = some u → wr.cell? ⟨b, o + k * 7 + j, none⟩ = some u := fun j u hu => (HB.out.cell (p := ⟨b, o + k * 7 + j, none⟩) hb0).trans (hc j u hu)
        have hcell' : ∀ j u, q.1.vs[j]? = some u → wr.cell? ⟨b', o' + k * 7 + j, none⟩ = some u := fun j u hu => (HB.out.cell (p := ⟨b', o' + k * 7 + j, none⟩) hb0').trans (hc' j u hu)
        have d0 : wr.cell? ⟨b, o + k * 7, none⟩ = some (.int .u8 p.1.key.kind) := hcell 0 _ rfl
        have g0 : wr.cell? ⟨b', o' + k * 7, none⟩ = some (.int .u8 q.1.key.kind) := hcell' 0 _ rfl
        have d1 := hcell 1 _ rfl
        have d2 := hcell 2 _ rfl
        have d3 := hcell 3 _ rfl
        have d4 := hcell 4 _ rfl
        have d5 := hcell 5 _ rfl
        have d6 := hcell 6 _ rfl
        have g1 := hcell' 1 _ rfl
        have g2 := hcell' 2 _ rfl
        have g3 := hcell' 3 _ rfl
        have g4 := hcell' 4 _ rfl
        have g5 := hcell' 5 _ rfl
        have g6 := hcell' 6 _ rfl
        have hxk : (cho ps)[k]? = some p.2 := by simp [cho, hpk]
        have hyk : (cho qs)[k]? = some q.2 := by simp [cho, hqk]
        have hi1 : (0 : Int) ≤ (k : Int) := by omega
        have hi2 : (k : Int) < (ps.length : Int) := by omega
        have hrp := H1.out.row p (List.mem_of_getElem? hpk)
        have hrq := H2.out.row q (List.mem_of_getElem? hqk)
        have hpa := HA.out p (List.mem_of_getElem? hpk)
        have hqa := HBB.out q (List.mem_of_getElem? hqk)
        obtain ⟨n, hn'⟩ : ∃ n, ChoP.sameB p.2 q.2 = n := ⟨_, rfl⟩
        have hbb : ∀ o1 o2 : Obj, RowKit.Below w.heap.size w ((wr.alloc o1).alloc o2) := fun o1 o2 => (HB.out.alloc hwz o1).alloc (by rw [World.size_alloc]; omega) o2
        have cF := fun o1 o2 : Obj => csame_any p.1 q.1 p.2 q.2 ((wr.alloc o1).alloc o2) (hrp.below (hbb o1 o2) (hbb o1 o2).size) (hrq.below (hbb o1 o2) (hbb o1 o2).size) hpa hqa
        have e1 : choV p.1 = .agg #[.int .u8 p.1.key.kind, .int .i64 p.1.key.a, .int .i64 p.1.key.b, .int .i64 p.1.key.n, .int .i64 p.1.t, .int .i64 p.1.d, .slice p.1.p p.1.n p.1.c] := rfl
        have e2 : choV q.1 = .agg #[.int .u8 q.1.key.kind, .int .i64 q.1.key.a, .int .i64 q.1.key.b, .int .i64 q.1.key.n, .int .i64 q.1.t, .int .i64 q.1.d, .slice q.1.p q.1.n q.1.c] := rfl
        rw [e1, e2, hn'] at cF
        have CF := Lib.hid cF
        have HBB2 := Lib.hid hbb
        have HN := Lib.hid hn'
        have HXK := Lib.hid hxk
        have HYK := Lib.hid hyk
        have hlt1 : b < wr.heap.size := by omega
        have hlt2 : b' < wr.heap.size := by omega
        have hne1 : b ≠ wr.heap.size := by omega
        have hne2 : b' ≠ wr.heap.size := by omega
        clear cF hxk hyk hpk hqk hn' hcell hcell' hc hc' hrp hrq hbb e1 e2
        go_wp2_with fail
        refine (CF.out _ _).mono ?_
        rintro e w1 ⟨rfl, hb1⟩
        have HB2 := Lib.hid ((HBB2.out _ _).trans (hb1.mono (HBB2.out _ _).size))
        clear hb1 d0 d1 d2 d3 d4 d5 d6 g0 g1 g2 g3 g4 g5 g6 CF
        cases n
        · have hne : cho ps ≠ cho qs := fun e => by
            have h1 := HXK.out
            rw [e, HYK.out] at h1
            injection h1 with h1
            have h2 := HN.out
            rw [h1, (ChoP.sameB_iff _ _).2 rfl] at h2
            cases h2
          have HNE := Lib.hid hne
          clear hne
          go_wp2_with fail
          go_ret
          exact HFA.out _ HB2.out HNE.out
        · go_wp2_with fail
          go_roundw
          case rel =>
            refine ⟨k + 1, by omega, by go_num, ?_, HB2.out⟩
            rw [List.take_add_one, List.take_add_one, HT.out, HXK.out, HYK.out, (ChoP.sameB_iff _ _).1 HN.out]
          case measure => simp [intOf]; omega
      · have hxy : ChoP.eqL (cho ps) (cho qs) = true := by
          rw [ChoP.eqL_iff]
          have h1 := HT.out
          have := HLEN.out
          rwa [List.take_of_length_le (by simp [cho]; omega), List.take_of_length_le (by simp [cho]; omega)] at h1
        have HXY := Lib.hid hxy
        clear hxy
        go_wp2_with fail
        go_ret
        exact ⟨by rw [HXY.out]; rfl, HB.out⟩
  · have hne : cho ps ≠ cho qs := fun e => hlen (by have := congrArg List.length e; simpa [cho] using this)
    have HNE := Lib.hid hne
    have hb1 : ((ps.length : Int) != (qs.length : Int)) = true := by simp; omega
    have hb2 : ((ps.length : Int) == (qs.length : Int)) = false := by simp; omega
    clear hne hlen
    go_enter Tryz.func42, Tryz.ntmps42
    go_wp2_with fail
    go_ret
    exact HFA.out _ (RowKit.Below.refl _ _) HNE.out
set_option maxHeartbeats 1000000 in
theorem equal_any (A B : Option Addr) (ps qs : List Pair) (c d : Nat) (w : World) (h1 : Chos w w.heap.size A ps) (h2 : Chos w w.heap.size B qs) (hn : ps.length ≤ 65536) (ha : ∀ p ∈ ps, p.2.args.length ≤ 65536) (hb : ∀ p ∈ qs, p.2.args.length ≤ 65536) :
    Calls Tryz.prog 14 #[.agg #[.slice A ps.length c], .agg #[.slice B qs.length d]] w (BoolPost (ChoP.eqL (cho ps) (cho qs)) w) := by
  have hbb : ∀ o1 o2 : Obj, RowKit.Below w.heap.size w ((w.alloc o1).alloc o2) := fun o1 o2 => ((RowKit.Below.refl _ _).alloc (Nat.le_refl _) o1).alloc (by rw [World.size_alloc]; omega) o2
  have hf := fun o1 o2 : Obj => eqFunc_any A B ps qs c d ((w.alloc o1).alloc o2) (h1.below (hbb o1 o2) (hbb o1 o2).size) (h2.below (hbb o1 o2) (hbb o1 o2).size) hn ha hb
  have HF := Lib.hid hf
  have HBB := Lib.hid hbb
  clear hf hbb h1 h2 ha hb
  go_enter Tryz.func14, Tryz.ntmps14
  go_wp2_with fail
  refine (HF.out _ _).mono ?_
  rintro e w1 ⟨rfl, hb1⟩
  have HB2 := Lib.hid ((HBB.out _ _).trans (hb1.mono (HBB.out _ _).size))
  clear hb1
  go_wp2_with fail
  go_ret
  exact ⟨rfl, HB2.out⟩
end Go.Proofs.YtpniilgkceadeaaGreatDoor
