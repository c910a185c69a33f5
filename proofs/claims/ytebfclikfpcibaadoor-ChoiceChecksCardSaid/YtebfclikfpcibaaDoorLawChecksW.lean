/- The walk of the law on checks. -/
import Derived.Test.YtebfclikfpcibaaDoorChoAwake
import Derived.Test.YtebfclikfpcibaaDoorChoRefValid
import Derived.Lib.QuietBelow
namespace Go.Proofs.YtebfclikfpcibaaDoor
open Go.RowKit Go.Sort
set_option maxRecDepth 100000 in
set_option maxHeartbeats 2000000 in
theorem choiceChecks_walk (r : Row) (w : World) (hL : Laid w) (hc : r.n ≤ r.c) : Calls Tryd.prog 3 #[choV r] w (TruePost w) := by
  have e1 : choV r = .agg #[.int .u8 r.key.kind, .int .i64 r.key.a, .int .i64 r.key.b, .int .i64 r.key.n, .int .i64 r.t, .int .i64 r.d, .slice r.p r.n r.c] := rfl
  rw [e1]
  clear e1
  have HL := Lib.hid hL
  clear hL
  go_enter Tryd.func3, Tryd.ntmps3
  go_wp2_with fail
  refine (awake_any _ (HL.out.below ((Below.refl _ _).alloc (Nat.le_refl _) _))).mono ?_
  rintro e w1 ⟨rfl, hb⟩
  rw [World.size_alloc] at hb
  have hblk : w1.heap[w.heap.size]? = some (.cells #[.int .u8 r.key.kind, .int .i64 r.key.a, .int .i64 r.key.b, .int .i64 r.key.n, .int .i64 r.t, .int .i64 r.d, .slice r.p r.n r.c] 27 (0, 0)) := (hb.block _ (by omega)).trans (heap_alloc_new w _)
  have hB : Below w.heap.size w w1 := ((Below.refl w.heap.size w).alloc (Nat.le_refl _) _).trans (hb.mono (by omega))
  obtain ⟨⟨a0, a1, a2, a3, a4, a5, a6⟩, ⟨_, _, _, _, _, _, f6⟩⟩ := blk7 hblk
  have HB := Lib.hid hB
  have HBLK := Lib.hid hblk
  clear hb hB hblk
  go_wp2_with fail
  generalize hmn : (min (r.n : Int) 6).toNat = m at *
  have hm6 : m ≤ 6 := by omega
  clear hmn a0 a1 a2 a3 a4 a5 a6 f6
  have hblk2 : (w1.setCell ⟨w.heap.size, 6, none⟩ (.slice r.p m r.c)).heap[w.heap.size]? = some (.cells #[.int .u8 r.key.kind, .int .i64 r.key.a, .int .i64 r.key.b, .int .i64 r.key.n, .int .i64 r.t, .int .i64 r.d, .slice r.p m r.c] 27 (0, 0)) := by
    simp [World.setCell, Array.getElem?_modify, HBLK.out]
  have HB2 : Hid (Below w.heap.size w (w1.setCell ⟨w.heap.size, 6, none⟩ (.slice r.p m r.c))) := Lib.hid (HB.out.setCell (by simp) _)
  generalize w1.setCell ⟨w.heap.size, 6, none⟩ (.slice r.p m r.c) = w2 at *
  obtain ⟨⟨c0, c1, c2, c3, c4, c5, c6⟩, _⟩ := blk7 hblk2
  clear hblk2 HBLK HB HL
  have k0 := cell_regrown c0
  have k1 := cell_regrown c1
  have k2 := cell_regrown c2
  have k3 := cell_regrown c3
  have k4 := cell_regrown c4
  have k5 := cell_regrown c5
  have k6 := cell_regrown c6
  clear c0 c1 c2 c3 c4 c5 c6
  obtain ⟨B1, hB1⟩ : ∃ B, ChoP.choOK r.key r.t r.d m = B := ⟨_, rfl⟩
  obtain ⟨B2, hB2⟩ : ∃ B, ChoP.keyOK r.key = B := ⟨_, rfl⟩
  have himp : B1 = true → B2 = true := by
    rintro rfl
    rw [← hB2]
    unfold ChoP.choOK at hB1
    simp only [Bool.and_eq_true] at hB1
    exact hB1.1.1.1
  have cC : ∀ d os, Calls Tryd.prog 10 #[.agg #[.int .u8 r.key.kind, .int .i64 r.key.a, .int .i64 r.key.b, .int .i64 r.key.n, .int .i64 r.t, .int .i64 r.d, .slice r.p m r.c]] (grow (redrawn w2 d) os) fun e w'' => e = .returned (.int .i64 (if B1 = true then 0 else 1)) ∧ ∃ p : Regrown, w'' = grow (redrawn w2 p.d) p.os := fun d os => by
    have h := check_any ⟨r.key, r.t, r.d, r.p, m, r.c⟩ (grow (redrawn w2 d) os) (by show m ≤ _; omega)
    unfold errR at h
    rw [hB1] at h
    exact Calls.regrown_of h
  have cV : ∀ d os, Calls Tryd.prog 11 #[.agg #[.int .u8 r.key.kind, .int .i64 r.key.a, .int .i64 r.key.b, .int .i64 r.key.n, .int .i64 r.t, .int .i64 r.d, .slice r.p m r.c]] (grow (redrawn w2 d) os) fun e w'' => e = .returned (.bool B1) ∧ ∃ p : Regrown, w'' = grow (redrawn w2 p.d) p.os := fun d os => by
    have h := refValid_any ⟨r.key, r.t, r.d, r.p, m, r.c⟩ (grow (redrawn w2 d) os) (by show m ≤ _; omega)
    rw [hB1] at h
    exact Calls.regrown_of h
  have cK : ∀ d os, Calls Tryd.prog 12 #[.agg #[.int .u8 r.key.kind, .int .i64 r.key.a, .int .i64 r.key.b, .int .i64 r.key.n]] (grow (redrawn w2 d) os) fun e w'' => e = .returned (.int .i64 (if B2 = true then 0 else 1)) ∧ ∃ p : Regrown, w'' = grow (redrawn w2 p.d) p.os := fun d os => by
    have h := checkKey_any r.key (grow (redrawn w2 d) os)
    unfold errK at h
    rw [hB2] at h
    exact Calls.regrown_of h
  have cW : ∀ d os, Calls Tryd.prog 13 #[.agg #[.int .u8 r.key.kind, .int .i64 r.key.a, .int .i64 r.key.b, .int .i64 r.key.n]] (grow (redrawn w2 d) os) fun e w'' => e = .returned (.bool B2) ∧ ∃ p : Regrown, w'' = grow (redrawn w2 p.d) p.os := fun d os => by
    have h := validKey_any r.key (grow (redrawn w2 d) os)
    rw [hB2] at h
    exact Calls.regrown_of h
  clear hB1 hB2
  generalize r.key.kind = kd at *
  generalize r.key.a = ka at *
  generalize r.key.b = kb at *
  generalize r.key.n = kn at *
  generalize r.t = rt at *
  generalize r.d = rd at *
  generalize r.p = rp at *
  generalize r.c = rc at *
  cases B1 <;> cases B2
  rotate_left 2
  · exact absurd (himp rfl) (by simp)
  all_goals
    simp only [if_true, if_false, Bool.false_eq_true] at cC cK
    have CC := Lib.hid cC
    have CV := Lib.hid cV
    have CK := Lib.hid cK
    have CW := Lib.hid cW
    clear cC cV cK cW himp
    refine wp_region_quiet_below (by kernel_rfl) (by kernel_rfl) ?_
    repeat (quiet_step (first | exact CC.out _ _ | exact CV.out _ _ | exact CK.out _ _ | exact CW.out _ _))
    refine wpQuiet_nil ?_
    rintro w' ⟨p, rfl⟩
    go_wp2_with fail
    go_ret
    exact ⟨rfl, HB2.out.trans ((below_regrown w2 p.d p.os).mono HB2.out.size)⟩
end Go.Proofs.YtebfclikfpcibaaDoor
