/- The walk of the law on the order of keys. -/
import Derived.Test.YtebfclikfpcibaaDoorChoAwake
import Derived.Lib.QuietBelow
namespace ChoP
theorem lessB_eq (x y : Key) : lessB x y = if x.kind = y.kind then (if x.a = y.a then (if x.b = y.b then decide (x.n < y.n) else decide (x.b < y.b)) else decide (x.a < y.a)) else decide (x.kind < y.kind) := by
  rw [Bool.eq_iff_iff, lessB_iff]
  unfold ltK
  by_cases h1 : x.kind = y.kind <;> by_cases h2 : x.a = y.a <;> by_cases h3 : x.b = y.b <;> simp [h1, h2, h3] <;> omega
end ChoP
namespace Go.Proofs.YtebfclikfpcibaaDoor
open Go.RowKit Go.Sort
set_option maxHeartbeats 1000000 in
theorem refLess_any (x y : ChoP.Key) (w : World) : Calls Tryd.prog 15 #[keyV x, keyV y] w (BoolPost (ChoP.lessB x y) w) := by
  have e1 : keyV x = .agg #[.int .u8 x.kind, .int .i64 x.a, .int .i64 x.b, .int .i64 x.n] := rfl
  have e2 : keyV y = .agg #[.int .u8 y.kind, .int .i64 y.a, .int .i64 y.b, .int .i64 y.n] := rfl
  rw [e1, e2, ChoP.lessB_eq]
  clear e1 e2
  generalize x.kind = xk
  generalize x.a = xa
  generalize x.b = xb
  generalize x.n = xn
  generalize y.kind = yk
  generalize y.a = ya
  generalize y.b = yb
  generalize y.n = yn
  by_cases h1 : xk = yk
  · subst h1
    by_cases h2 : xa = ya
    · subst h2
      by_cases h3 : xb = yb
      · subst h3
        rw [if_pos rfl, if_pos rfl, if_pos rfl]
        go_enter Tryd.func15, Tryd.ntmps15
        go_wp2_with fail
        go_ret
        exact ⟨rfl, ((Below.refl _ _).alloc (Nat.le_refl _) _).alloc (by simp) _⟩
      · rw [if_pos rfl, if_pos rfl, if_neg h3]
        have h3' : (xb == yb) = false := by simp [h3]
        clear h3
        go_enter Tryd.func15, Tryd.ntmps15
        go_wp2_with fail
        go_ret
        exact ⟨rfl, ((Below.refl _ _).alloc (Nat.le_refl _) _).alloc (by simp) _⟩
    · rw [if_pos rfl, if_neg h2]
      have h2' : (xa == ya) = false := by simp [h2]
      clear h2
      go_enter Tryd.func15, Tryd.ntmps15
      go_wp2_with fail
      go_ret
      exact ⟨rfl, ((Below.refl _ _).alloc (Nat.le_refl _) _).alloc (by simp) _⟩
  · rw [if_neg h1]
    have h1' : (xk == yk) = false := by simp [h1]
    clear h1
    go_enter Tryd.func15, Tryd.ntmps15
    go_wp2_with fail
    go_ret
    exact ⟨rfl, ((Below.refl _ _).alloc (Nat.le_refl _) _).alloc (by simp) _⟩
def kArr (k : ChoP.Key) : Array Value := #[.int .u8 k.kind, .int .i64 k.a, .int .i64 k.b, .int .i64 k.n]
set_option maxRecDepth 100000 in
set_option maxHeartbeats 4000000 in
theorem choiceOrders_walk (x y z : ChoP.Key) (w : World) (hL : Laid w) : Calls Tryd.prog 4 #[keyV x, keyV y, keyV z] w (TruePost w) := by
  have e1 : keyV x = .agg #[.int .u8 x.kind, .int .i64 x.a, .int .i64 x.b, .int .i64 x.n] := rfl
  have e2 : keyV y = .agg #[.int .u8 y.kind, .int .i64 y.a, .int .i64 y.b, .int .i64 y.n] := rfl
  have e3 : keyV z = .agg #[.int .u8 z.kind, .int .i64 z.a, .int .i64 z.b, .int .i64 z.n] := rfl
  have cAB := fun W => less_any x y W
  have cRAB := fun W => refLess_any x y W
  have cBA := fun W => less_any y x W
  have cAA := fun W => less_any x x W
  have cBC := fun W => less_any y z W
  have cAC := fun W => less_any x z W
  have hEq := fun W => key_equalIn x.kind x.a x.b x.n y.kind y.a y.b y.n W
  have haa : ChoP.lessB x x = false := (ChoP.lessB_false _ _).2 (ChoP.ltK_irrefl _)
  rw [haa] at cAA
  obtain ⟨Lab, hab⟩ : ∃ B, ChoP.lessB x y = B := ⟨_, rfl⟩
  obtain ⟨Lba, hba⟩ : ∃ B, ChoP.lessB y x = B := ⟨_, rfl⟩
  obtain ⟨Lbc, hbc⟩ : ∃ B, ChoP.lessB y z = B := ⟨_, rfl⟩
  obtain ⟨Lac, hac⟩ : ∃ B, ChoP.lessB x z = B := ⟨_, rfl⟩
  obtain ⟨Eab, hE⟩ : ∃ B, ChoP.eqB x y = B := ⟨_, rfl⟩
  have hEq2 : ∀ W : World, (Op.equalIn 10000 24 (.agg #[.int .u8 x.kind, .int .i64 x.a, .int .i64 x.b, .int .i64 x.n]) (.agg #[.int .u8 y.kind, .int .i64 y.a, .int .i64 y.b, .int .i64 y.n])).run Tryd.prog W = .ok Eab W := fun W => by rw [← hE]; exact hEq W
  have hcase : (Eab = true ∧ Lab = false) ∨ (Eab = false ∧ Lab = false ∧ Lba = true) ∨ (Eab = false ∧ Lab = true ∧ Lba = false ∧ Lbc = false) ∨ (Eab = false ∧ Lab = true ∧ Lba = false ∧ Lbc = true ∧ Lac = true) := by
    subst hab hba hbc hac hE
    cases hE : ChoP.eqB x y
    · rw [ChoP.eqB_false] at hE
      right
      cases hab : ChoP.lessB x y
      · rw [ChoP.lessB_false] at hab
        left
        refine ⟨rfl, rfl, (ChoP.lessB_iff _ _).2 ?_⟩
        rcases ChoP.ltK_total x y with e | e | e
        · exact absurd e hab
        · exact absurd e hE
        · exact e
      · rw [ChoP.lessB_iff] at hab
        right
        have hba : ChoP.lessB y x = false := (ChoP.lessB_false _ _).2 (fun e => ChoP.ltK_irrefl _ (ChoP.ltK_trans hab e))
        cases hbc : ChoP.lessB y z
        · exact .inl ⟨rfl, rfl, hba, rfl⟩
        · rw [ChoP.lessB_iff] at hbc
          exact .inr ⟨rfl, rfl, hba, rfl, (ChoP.lessB_iff _ _).2 (ChoP.ltK_trans hab hbc)⟩
    · rw [ChoP.eqB_iff] at hE
      subst hE
      exact .inl ⟨rfl, haa⟩
  rw [hab] at cAB cRAB
  rw [hba] at cBA
  rw [hbc] at cBC
  rw [hac] at cAC
  rw [e1] at cAB cRAB cBA cAA cAC
  rw [e2] at cAB cRAB cBA cBC
  rw [e3] at cBC cAC
  rw [e1, e2, e3]
  clear e1 e2 e3 hab hba hbc hac hE hEq haa
  generalize x.kind = xk at *
  generalize x.a = xa at *
  generalize x.b = xb at *
  generalize x.n = xn at *
  generalize y.kind = yk at *
  generalize y.a = ya at *
  generalize y.b = yb at *
  generalize y.n = yn at *
  generalize z.kind = zk at *
  generalize z.a = za at *
  generalize z.b = zb at *
  generalize z.n = zn at *
  have CAB := Lib.hid cAB
  have CRAB := Lib.hid cRAB
  have CBA := Lib.hid cBA
  have CAA := Lib.hid cAA
  have CBC := Lib.hid cBC
  have CAC := Lib.hid cAC
  have HL := Lib.hid hL
  have HEQ := Lib.hid hEq2
  clear cAB cRAB cBA cAA cBC cAC hL hEq2
  have HCASE := Lib.hid hcase
  clear hcase
  go_enter Tryd.func4, Tryd.ntmps4
  go_wp2_with fail
  refine (awake_any _ (HL.out.below (((Below.refl _ _).alloc (Nat.le_refl _) _).alloc (by simp) _ |>.alloc (by simp; omega) _))).mono ?_
  rintro e w1 ⟨rfl, hb⟩
  rw [World.size_alloc, World.size_alloc, World.size_alloc] at hb
  have hbx : w1.heap[w.heap.size]? = some (.cells #[.int .u8 xk, .int .i64 xa, .int .i64 xb, .int .i64 xn] 24 (0, 0)) := (hb.block _ (by omega)).trans ((Below.heap_alloc _ _ _ (by simp; omega)).trans ((Below.heap_alloc _ _ _ (by simp)).trans (heap_alloc_new w _)))
  have hby : w1.heap[w.heap.size + 1]? = some (.cells #[.int .u8 yk, .int .i64 ya, .int .i64 yb, .int .i64 yn] 24 (0, 0)) := by
    have h := heap_alloc_new (w.alloc (.cells #[.int .u8 xk, .int .i64 xa, .int .i64 xb, .int .i64 xn] 24)) (.cells #[.int .u8 yk, .int .i64 ya, .int .i64 yb, .int .i64 yn] 24)
    rw [World.size_alloc] at h
    exact (hb.block _ (by omega)).trans ((Below.heap_alloc _ _ _ (by simp)).trans h)
  have hbz : w1.heap[w.heap.size + 1 + 1]? = some (.cells #[.int .u8 zk, .int .i64 za, .int .i64 zb, .int .i64 zn] 24 (0, 0)) := by
    have h := heap_alloc_new ((w.alloc (.cells #[.int .u8 xk, .int .i64 xa, .int .i64 xb, .int .i64 xn] 24)).alloc (.cells #[.int .u8 yk, .int .i64 ya, .int .i64 yb, .int .i64 yn] 24)) (.cells #[.int .u8 zk, .int .i64 za, .int .i64 zb, .int .i64 zn] 24)
    rw [World.size_alloc, World.size_alloc] at h
    exact (hb.block _ (by omega)).trans h
  have hB : Below w.heap.size w w1 := ((((Below.refl w.heap.size w).alloc (Nat.le_refl _) _).alloc (by simp) _).alloc (by simp; omega) _).trans (hb.mono (by omega))
  obtain ⟨x0, x1, x2, x3⟩ := blk4 hbx
  obtain ⟨y0, y1, y2, y3⟩ := blk4 hby
  obtain ⟨z0, z1, z2, z3⟩ := blk4 hbz
  have HB := Lib.hid hB
  clear hb hB hbx hby hbz
  have p0 := cell_regrown x0
  have p1 := cell_regrown x1
  have p2 := cell_regrown x2
  have p3 := cell_regrown x3
  have q0 := cell_regrown y0
  have q1 := cell_regrown y1
  have q2 := cell_regrown y2
  have q3 := cell_regrown y3
  have r0 := cell_regrown z0
  have r1 := cell_regrown z1
  have r2 := cell_regrown z2
  have r3 := cell_regrown z3
  clear x0 x1 x2 x3 y0 y1 y2 y3 z0 z1 z2 z3
  go_wp2_with fail
  have hke := HEQ.out
  have hkg := key_guard
  rcases HCASE.out with ⟨rfl, rfl⟩ | ⟨rfl, rfl, rfl⟩ | ⟨rfl, rfl, rfl, rfl⟩ | ⟨rfl, rfl, rfl, rfl, rfl⟩
  all_goals
    clear HCASE
    refine wp_region_quiet_below (by kernel_rfl) (by kernel_rfl) ?_
    repeat (quiet_step (first | (with_reducible exact Calls.regrown_of (CAB.out _)) | (with_reducible exact Calls.regrown_of (CRAB.out _)) | (with_reducible exact Calls.regrown_of (CAA.out _)) | (with_reducible exact Calls.regrown_of (CBA.out _)) | (with_reducible exact Calls.regrown_of (CBC.out _)) | (with_reducible exact Calls.regrown_of (CAC.out _))))
    refine wpQuiet_nil ?_
    rintro w' ⟨p, rfl⟩
    go_wp2_with fail
    go_ret
    exact ⟨rfl, HB.out.trans ((below_regrown w1 p.d p.os).mono HB.out.size)⟩
end Go.Proofs.YtebfclikfpcibaaDoor
