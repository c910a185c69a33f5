/- rootcauseref14.Same. -/
import Derived.Test.YtolfbnjmkgikdaaDoorChoClone
import Derived.Test.YtolfbnjmkgikdaaDoorChoCheck
import Derived.Test.YtolfbnjmkgikdaaDoorChoEq
import Derived.Test.YtolfbnjmkgikdaaDoorChoEqual
namespace ChoP
def sameB (x y : Cho) : Bool := eqB x.key y.key && decide (x.t = y.t) && decide (x.d = y.d) && decide (x.args = y.args)
theorem sameB_iff (x y : Cho) : sameB x y = true ↔ x = y := by
  unfold sameB
  simp only [Bool.and_eq_true, decide_eq_true_eq, eqB_iff]
  constructor
  · rintro ⟨⟨⟨h1, h2⟩, h3⟩, h4⟩
    cases x
    cases y
    simp_all
  · rintro rfl
    exact ⟨⟨⟨rfl, rfl⟩, rfl⟩, rfl⟩
theorem sameB_false {x y : Cho} (h : x ≠ y) : sameB x y = false := by
  rw [Bool.eq_false_iff]
  intro e
  exact h ((sameB_iff x y).1 e)
end ChoP
namespace Go.Proofs.YtolfbnjmkgikdaaDoor
open Go.RowKit Go.Sort
set_option maxRecDepth 100000 in
set_option maxHeartbeats 2000000 in
theorem same_any (r s : Row) (x y : ChoP.Cho) (w : World) (hr : RowIs w w.heap.size r x) (hs : RowIs w w.heap.size s y) :
    Calls Tryd.prog 15 #[choV r, choV s] w (BoolPost (ChoP.sameB x y) w) := by
  have e1 : ∀ r : Row, choV r = .agg #[.int .u8 r.key.kind, .int .i64 r.key.a, .int .i64 r.key.b, .int .i64 r.key.n, .int .i64 r.t, .int .i64 r.d, .slice r.p r.n r.c] := fun _ => rfl
  rw [e1, e1]
  clear e1
  have hke := fun W => key_equalIn r.key.kind r.key.a r.key.b r.key.n s.key.kind s.key.a s.key.b s.key.n W
  obtain ⟨bq, hbq⟩ : ∃ bq : Bool, ChoP.eqB r.key s.key = bq := ⟨_, rfl⟩
  have hke2 : ∀ W : World, (Op.equalIn 10000 25 (.agg #[.int .u8 r.key.kind, .int .i64 r.key.a, .int .i64 r.key.b, .int .i64 r.key.n]) (.agg #[.int .u8 s.key.kind, .int .i64 s.key.a, .int .i64 s.key.b, .int .i64 s.key.n])).run Tryd.prog W = .ok bq W := fun W => by rw [← hbq]; exact hke W
  clear hke
  have hkg := key_guard
  have HBQ := Lib.hid hbq
  have HR := Lib.hid hr
  have HS := Lib.hid hs
  have hrc := hr.c
  have hrm := hr.m
  have hsc := hs.c
  have hsm := hs.m
  clear hbq hr hs
  have hfalse : ∀ (W : World), RowKit.Below w.heap.size w W → x ≠ y → BoolPost (ChoP.sameB x y) w (.returned (.bool false)) W := fun W hW hne => ⟨by rw [ChoP.sameB_false hne], hW⟩
  have HFA := Lib.hid hfalse
  clear hfalse
  cases bq
  · have hne : x ≠ y := fun e => by
      have h1 := HBQ.out
      rw [ChoP.eqB_false] at h1
      exact h1 (by rw [HR.out.key, HS.out.key, e])
    have HNE := Lib.hid hne
    clear hne
    go_enter Tryd.func15, Tryd.ntmps15
    go_wp2_with fail
    go_ret
    exact HFA.out _ (((RowKit.Below.refl _ _).alloc (Nat.le_refl _) _).alloc (by simp) _) HNE.out
  · by_cases ht : r.t = s.t
    · have hb1 : (r.t != s.t) = false := by simp [ht]
      have hb1' : (r.t == s.t) = true := by simp [ht]
      have HT := Lib.hid ht
      clear ht
      by_cases hd : r.d = s.d
      · have hb2 : (r.d != s.d) = false := by simp [hd]
        have hb2' : (r.d == s.d) = true := by simp [hd]
        have HD := Lib.hid hd
        clear hd
        by_cases hn : r.n = s.n
        · have HN := Lib.hid hn
          rw [← hn]
          rw [← hn] at hsc
          clear hn
          go_enter Tryd.func15, Tryd.ntmps15
          go_wp2_with fail
          go_loopw [37] (fun i wr => ∃ k : Nat, k ≤ r.n ∧ i = .int .i64 k ∧ x.args.take k = y.args.take k ∧ wr.cell? ⟨w.heap.size, 6, none⟩ = some (.slice r.p r.n r.c) ∧ wr.cell? ⟨w.heap.size + 1, 6, none⟩ = some (.slice s.p r.n s.c) ∧ RowKit.Below w.heap.size w wr) (fun i _ => r.n - (intOf i).toNat)
          case atStart =>
            refine ⟨0, Nat.zero_le _, rfl, rfl, ?_, ?_, ((RowKit.Below.refl _ _).alloc (Nat.le_refl _) _).alloc (by simp) _⟩
            · refine (World.cell?_alloc_lt _ _ _ (by simp)).trans ?_
              exact cell_at (heap_alloc_new w _) 6 _ rfl
            · have h2 := fun o1 o2 => heap_alloc_new (w.alloc o1) o2
              simp only [World.size_alloc] at h2
              exact cell_at (h2 _ _) 6 _ rfl
          case round =>
            obtain ⟨k, hk, rfl, ht, b1, b2, hb⟩ := hrel
            have HTK := Lib.hid ht
            have HB := Lib.hid hb
            clear ht hb
            have hxn := HR.out.n
            have hyn := HS.out.n
            have hnn := HN.out
            by_cases hlt : k < r.n
            · obtain ⟨u, hu⟩ : ∃ u, x.args[k]? = some u := ⟨_, List.getElem?_eq_getElem (by omega)⟩
              obtain ⟨v, hv⟩ : ∃ v, y.args[k]? = some v := ⟨_, List.getElem?_eq_getElem (by omega)⟩
              obtain ⟨p1, o1, e1, q1, c1⟩ := HR.out.lie.at_ k (.int .i64 u) (by simp [intV, hu])
              obtain ⟨p2, o2, e2, q2, c2⟩ := HS.out.lie.at_ k (.int .i64 v) (by simp [intV, hv])
              rw [e1] at b1
              rw [e2] at b2
              have d1 : wr.cell? ⟨p1, o1 + k, none⟩ = some (.int .i64 u) := (HB.out.cell (p := ⟨p1, o1 + k, none⟩) q1).trans c1
              have d2 : wr.cell? ⟨p2, o2 + k, none⟩ = some (.int .i64 v) := (HB.out.cell (p := ⟨p2, o2 + k, none⟩) q2).trans c2
              have hi1 : (0 : Int) ≤ (k : Int) := by omega
              have hi2 : (k : Int) < (r.n : Int) := by omega
              have HU := Lib.hid hu
              have HV := Lib.hid hv
              have E1 := Lib.hid e1
              have E2 := Lib.hid e2
              clear hu hv c1 c2 hxn hyn hnn e1 e2
              by_cases huv : u = v
              · subst huv
                have hb5 : (u != u) = false := by simp
                have hb6 : (u == u) = true := by simp
                go_wp2_with fail
                go_quiet (fail)
                clear d1 d2
                go_wp2_with fail
                go_roundw
                case rel =>
                  refine ⟨k + 1, by omega, by go_num, ?_, by rw [E1.out]; exact b1, by rw [E2.out]; exact b2, ⟨HB.out.os, HB.out.tape, HB.out.output, HB.out.size, HB.out.block⟩⟩
                  rw [List.take_add_one, List.take_add_one, HTK.out, HU.out, HV.out]
                case measure => simp [intOf]; omega
              · have hb5 : (u != v) = true := by simp [huv]
                have hb6 : (u == v) = false := by simp [huv]
                have hne : x ≠ y := fun e => by
                  have h1 := HU.out
                  rw [e, HV.out] at h1
                  injection h1 with h1
                  exact huv h1.symm
                have HNE := Lib.hid hne
                clear hne huv
                go_wp2_with fail
                go_quiet (fail)
                clear d1 d2
                go_wp2_with fail
                go_ret
                exact HFA.out _ ⟨HB.out.os, HB.out.tape, HB.out.output, HB.out.size, HB.out.block⟩ HNE.out
            · have hxy : ChoP.sameB x y = true := by
                have h1 := HTK.out
                rw [List.take_of_length_le (by omega), List.take_of_length_le (by omega)] at h1
                have h2 := (ChoP.eqB_iff _ _).1 HBQ.out
                rw [HR.out.key, HS.out.key] at h2
                have h3 := HT.out
                rw [HR.out.t, HS.out.t] at h3
                have h4 := HD.out
                rw [HR.out.d, HS.out.d] at h4
                rw [ChoP.sameB_iff]
                cases x
                cases y
                simp_all
              have HXY := Lib.hid hxy
              clear hxy hxn hyn hnn b1 b2
              go_wp2_with fail
              go_ret
              exact ⟨by rw [HXY.out]; rfl, HB.out⟩
        · have hne : x ≠ y := fun e => hn (by rw [HR.out.n, HS.out.n, e])
          have HNE := Lib.hid hne
          have hb1 : ((r.n : Int) != (s.n : Int)) = true := by simp; omega
          have hb2 : ((r.n : Int) == (s.n : Int)) = false := by simp; omega
          clear hne hn
          go_enter Tryd.func15, Tryd.ntmps15
          go_wp2_with fail
          go_ret
          exact HFA.out _ (((RowKit.Below.refl _ _).alloc (Nat.le_refl _) _).alloc (by simp) _) HNE.out
      · have hne : x ≠ y := fun e => hd (by rw [HR.out.d, HS.out.d, e])
        have HNE := Lib.hid hne
        have hb1 : (r.d != s.d) = true := by simp [hd]
        have hb2 : (r.d == s.d) = false := by simp [hd]
        clear hne hd
        go_enter Tryd.func15, Tryd.ntmps15
        go_wp2_with fail
        go_ret
        exact HFA.out _ (((RowKit.Below.refl _ _).alloc (Nat.le_refl _) _).alloc (by simp) _) HNE.out
    · have hne : x ≠ y := fun e => ht (by rw [HR.out.t, HS.out.t, e])
      have HNE := Lib.hid hne
      have hb1 : (r.t != s.t) = true := by simp [ht]
      have hb2 : (r.t == s.t) = false := by simp [ht]
      clear hne ht
      go_enter Tryd.func15, Tryd.ntmps15
      go_wp2_with fail
      go_ret
      exact HFA.out _ (((RowKit.Below.refl _ _).alloc (Nat.le_refl _) _).alloc (by simp) _) HNE.out
end Go.Proofs.YtolfbnjmkgikdaaDoor
