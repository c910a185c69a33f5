/- The order of keys: cmp.Compare, cmp.Or, compare, Less and the reference's Less. -/
import Derived.Test.YtpniilgkceadeaaGreatDoorChoCheck
import Derived.Test.YtpniilgkceadeaaGreatDoorChoMem
import Derived.Deep.QuietTactic
import Derived.BigQuiet
import Derived.StillTailTactics
namespace Go.Proofs.YtpniilgkceadeaaGreatDoor
open Go.RowKit Go.Sort
set_option maxHeartbeats 400000
theorem cmpKind_any (x y : Int) (w : World) : Calls Tryz.prog 72 #[.int .u8 x, .int .u8 y] w fun e w' => e = .returned (.int .i64 (ChoP.cmpI x y)) ∧ w' = w := by
  rcases ChoP.cmpI_cases x y with ⟨h, e⟩ | ⟨h, e⟩ | ⟨h, e⟩
  all_goals
    rw [e]
    clear e
  · go_enter Tryz.func72, Tryz.ntmps72
    go_wp2
    go_ret
    exact ⟨rfl, rfl⟩
  · have h' : ¬ x < y := by omega
    go_enter Tryz.func72, Tryz.ntmps72
    go_wp2
    go_ret
    exact ⟨rfl, rfl⟩
  · subst h
    have h' : ¬ x < x := by omega
    go_enter Tryz.func72, Tryz.ntmps72
    go_wp2
    go_ret
    exact ⟨rfl, rfl⟩
theorem cmpInt_any (x y : Int) (w : World) : Calls Tryz.prog 73 #[.int .i64 x, .int .i64 y] w fun e w' => e = .returned (.int .i64 (ChoP.cmpI x y)) ∧ w' = w := by
  rcases ChoP.cmpI_cases x y with ⟨h, e⟩ | ⟨h, e⟩ | ⟨h, e⟩
  all_goals
    rw [e]
    clear e
  · go_enter Tryz.func73, Tryz.ntmps73
    go_wp2
    go_ret
    exact ⟨rfl, rfl⟩
  · have h' : ¬ x < y := by omega
    go_enter Tryz.func73, Tryz.ntmps73
    go_wp2
    go_ret
    exact ⟨rfl, rfl⟩
  · subst h
    have h' : ¬ x < x := by omega
    go_enter Tryz.func73, Tryz.ntmps73
    go_wp2
    go_ret
    exact ⟨rfl, rfl⟩
theorem orI_drop (l : List Int) (k : Nat) (h : k < l.length) : ChoP.orI (l.drop k) = if l[k] = 0 then ChoP.orI (l.drop (k + 1)) else l[k] := by
  rw [List.drop_eq_getElem_cons h, ChoP.orI_cons]
theorem or_any (b o c : Nat) (l : List Int) (w : World) (hl : l.length ≤ 1000) (hc : ∀ (j : Nat) (z : Int), l[j]? = some z → w.cell? ⟨b, o + j, none⟩ = some (.int .i64 z)) :
    Calls Tryz.prog 71 #[.slice (some ⟨b, o, none⟩) l.length c] w fun e w' => e = .returned (.int .i64 (ChoP.orI l)) ∧ w = w' := by
  have HC := Lib.hid hc
  clear hc
  go_enter Tryz.func71, Tryz.ntmps71
  go_wp2
  go_loop [5, 8] (fun _ i => ∃ k : Nat, k ≤ l.length ∧ i = .int .i64 k ∧ ChoP.orI l = ChoP.orI (l.drop k)) (fun _ i => l.length - (intOf i).toNat)
  case atStart => exact ⟨0, Nat.zero_le _, rfl, by simp⟩
  case round =>
    obtain ⟨k, hk, rfl, hx⟩ := hrel
    have HX := Lib.hid hx
    clear hx
    by_cases hlt : k < l.length
    · have hcell := HC.out k l[k] (List.getElem?_eq_getElem hlt)
      have hs := orI_drop l k hlt
      have HS := Lib.hid hs
      clear hs
      generalize l[k] = z at *
      by_cases hz : z = 0
      · subst hz
        go_wp2
        go_round
        case rel => exact ⟨k + 1, by omega, by go_num, by rw [HX.out, HS.out, if_pos rfl]⟩
        case measure => simp [intOf]; omega
      · have HZ := Lib.hid hz
        have hz2 : (z == 0) = false := by simp [hz]
        clear hz
        go_wp2
        go_ret
        exact ⟨by rw [HX.out, HS.out, if_neg HZ.out]; rfl, rfl⟩
    · go_wp2
      go_ret
      have : l.drop k = [] := List.drop_eq_nil_of_le (by omega)
      exact ⟨by rw [HX.out, this]; rfl, rfl⟩
theorem Grows.drewN {w w' : World} (h : Grows w w') (n : Nat) : Grows w (w'.drewN n) := by
  obtain ⟨q, os, rfl⟩ := h
  exact ⟨q + n, os, by simp [grow, World.drewN, Nat.add_assoc]⟩
theorem Grows.alloc {w w' : World} (h : Grows w w') (o : Obj) : Grows w (w'.alloc o) := by
  obtain ⟨q, os, rfl⟩ := h
  exact ⟨q, os ++ #[o], by rw [alloc_eq_grow, grow_grow]⟩
theorem Grows.trans {a b c : World} (h : Grows a b) (k : Grows b c) : Grows a c := by
  obtain ⟨q, os, rfl⟩ := h
  obtain ⟨r, os', rfl⟩ := k
  exact ⟨q + r, os ++ os', by simp [grow, World.drewN, Nat.add_assoc]⟩
theorem Grows.below {w w' : World} (h : Grows w w') {B : Nat} (hB : B ≤ w.heap.size) : Below B w w' := by
  obtain ⟨q, os, rfl⟩ := h
  refine ⟨rfl, rfl, rfl, by simp [grow, World.drewN], fun k hk => ?_⟩
  exact heap_grow_old _ _ (by simp [World.drewN]; omega)
def CmpPost (n : Int) (w : World) (e : Ending) (w' : World) : Prop := e = .returned (.int .i64 n) ∧ Grows w w'
set_option maxRecDepth 100000 in
set_option maxHeartbeats 1000000 in
theorem compare_any (x y : ChoP.Key) (w : World) : Calls Tryz.prog 32 #[keyV x, keyV y] w (CmpPost (ChoP.cmpK x y) w) := by
  have e1 : keyV x = .agg #[.int .u8 x.kind, .int .i64 x.a, .int .i64 x.b, .int .i64 x.n] := rfl
  have e2 : keyV y = .agg #[.int .u8 y.kind, .int .i64 y.a, .int .i64 y.b, .int .i64 y.n] := rfl
  have e3 : ChoP.cmpK x y = ChoP.orI [ChoP.cmpI x.kind y.kind, ChoP.cmpI x.a y.a, ChoP.cmpI x.b y.b, ChoP.cmpI x.n y.n] := rfl
  rw [e1, e2, e3]
  clear e1 e2 e3
  generalize hk : ChoP.cmpI x.kind y.kind = c0
  generalize ha : ChoP.cmpI x.a y.a = c1
  generalize hb : ChoP.cmpI x.b y.b = c2
  generalize hn : ChoP.cmpI x.n y.n = c3
  have k0 := fun W => cmpKind_any x.kind y.kind W
  have k1 := fun W => cmpInt_any x.a y.a W
  have k2 := fun W => cmpInt_any x.b y.b W
  have k3 := fun W => cmpInt_any x.n y.n W
  rw [hk] at k0
  rw [ha] at k1
  rw [hb] at k2
  rw [hn] at k3
  clear hk ha hb hn
  have K0 := Lib.hid k0
  have K1 := Lib.hid k1
  have K2 := Lib.hid k2
  have K3 := Lib.hid k3
  clear k0 k1 k2 k3
  generalize x.kind = xk at *
  generalize x.a = xa at *
  generalize x.b = xb at *
  generalize x.n = xn at *
  generalize y.kind = yk at *
  generalize y.a = ya at *
  generalize y.b = yb at *
  generalize y.n = yn at *
  go_enter Tryz.func32, Tryz.ntmps32
  go_wp2_with fail
  generalize hw2 : (w.alloc (Obj.cells #[.int .u8 xk, .int .i64 xa, .int .i64 xb, .int .i64 xn] 44)).alloc (Obj.cells #[.int .u8 yk, .int .i64 ya, .int .i64 yb, .int .i64 yn] 44) = w2
  have hG : Grows w w2 := by rw [← hw2]; exact ((Grows.refl _).alloc _).alloc _
  have hx0 : ∀ j u, ([.int .u8 xk, .int .i64 xa, .int .i64 xb, .int .i64 xn] : List Value)[j]? = some u → w2.cell? ⟨w.heap.size, j, none⟩ = some u := fun j u hu => by
    rw [← hw2, World.cell?_alloc_lt _ _ _ (by simp)]
    exact cell_at (heap_alloc_new w _) j u (by simpa using hu)
  have hy0 : ∀ j u, ([.int .u8 yk, .int .i64 ya, .int .i64 yb, .int .i64 yn] : List Value)[j]? = some u → w2.cell? ⟨w.heap.size + 1, j, none⟩ = some u := fun j u hu => by
    have := heap_alloc_new (w.alloc (Obj.cells #[.int .u8 xk, .int .i64 xa, .int .i64 xb, .int .i64 xn] 44)) (Obj.cells #[.int .u8 yk, .int .i64 ya, .int .i64 yb, .int .i64 yn] 44)
    rw [hw2, World.size_alloc] at this
    exact cell_at this j u (by simpa using hu)
  have HG := Lib.hid hG
  have x0 := hx0 0 _ rfl
  have x1 := hx0 1 _ rfl
  have x2 := hx0 2 _ rfl
  have x3 := hx0 3 _ rfl
  have y0 := hy0 0 _ rfl
  have y1 := hy0 1 _ rfl
  have y2 := hy0 2 _ rfl
  have y3 := hy0 3 _ rfl
  clear hw2 hx0 hy0 hG
  go_still_tail 20, (by kernel_rfl)
  still_call (K0.out _)
  repeat still_step
  still_call (K1.out _)
  repeat still_step
  still_call (K2.out _)
  repeat still_step
  still_call (K3.out _)
  repeat still_step
  try refine wpStill_nil ?_
  change wpList _ _ _ _ _ w2.drew
  have HG2 : Hid (Grows w w2.drew) := Lib.hid (HG.out.drewN 1)
  generalize w2.drew = w3 at *
  clear x0 x1 x2 x3 y0 y1 y2 y3 K0 K1 K2 K3 HG
  go_wp2_with fail
  refine (or_any _ _ _ [c0, c1, c2, c3] _ (by simp) ?_).mono ?_
  · intro j z hj
    have := heap_alloc_new w3 (Obj.cells #[.int .i64 c0, .int .i64 c1, .int .i64 c2, .int .i64 c3] 3)
    rw [Nat.zero_add]
    refine cell_at this j _ ?_
    have := congrArg (Option.map (Value.int .i64)) hj
    rw [← List.getElem?_map] at this
    simpa using this
  rintro e w' ⟨rfl, rfl⟩
  go_wp2_with fail
  go_ret
  exact ⟨rfl, HG2.out.alloc _⟩
def keyLess (x y : ChoP.Key) : Bool := ChoP.lessB x y
set_option maxHeartbeats 1000000 in
theorem less_any (x y : ChoP.Key) (w : World) : Calls Tryz.prog 40 #[keyV x, keyV y] w (BoolPost (ChoP.lessB x y) w) := by
  have e1 : keyV x = .agg #[.int .u8 x.kind, .int .i64 x.a, .int .i64 x.b, .int .i64 x.n] := rfl
  have e2 : keyV y = .agg #[.int .u8 y.kind, .int .i64 y.a, .int .i64 y.b, .int .i64 y.n] := rfl
  have hl : ChoP.lessB x y = decide (ChoP.cmpK x y < 0) := rfl
  rw [hl]
  have hc := fun W => compare_any x y W
  generalize ChoP.cmpK x y = n at *
  rw [e1, e2] at *
  clear e1 e2 hl
  have HC := Lib.hid hc
  clear hc
  go_enter Tryz.func40, Tryz.ntmps40
  go_wp2_with fail
  refine (HC.out _).mono ?_
  rintro e w' ⟨rfl, hg⟩
  have HG := Lib.hid (hg.below (Nat.le_refl _))
  clear hg
  go_wp2_with fail
  go_ret
  refine ⟨rfl, ?_⟩
  have := HG.out
  simp only [World.size_alloc] at this
  exact (((Below.refl _ _).alloc (Nat.le_refl _) _).alloc (by simp) _).trans (this.mono (by omega))
end Go.Proofs.YtpniilgkceadeaaGreatDoor
