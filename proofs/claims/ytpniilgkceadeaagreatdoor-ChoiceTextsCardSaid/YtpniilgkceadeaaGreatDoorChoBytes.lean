/- Bytes of a set. -/
import Derived.Test.YtpniilgkceadeaaGreatDoorChoPut
import Derived.Test.YtpniilgkceadeaaGreatDoorChoSetText
namespace ChoP
def six (x : Cho) : List Nat := [x.key.a.toNat, x.key.b.toNat, x.key.n.toNat, x.t.toNat, x.d.toNat, x.args.length]
theorem choBytes_eq (x : Cho) : choBytes x = [x.key.kind.toNat] ++ (six x).flatMap putL ++ x.args.flatMap (fun v => putL (zig v)) := by simp [choBytes, six]
theorem flat_le {α : Type} (f : α → List Nat) (B : Nat) (l : List α) (h : ∀ x ∈ l, (f x).length ≤ B) : (l.flatMap f).length ≤ l.length * B := by
  induction l with
  | nil => simp
  | cons x r ih =>
    have h1 := h x (by simp)
    have h2 := ih (fun y hy => h y (by simp [hy]))
    rw [List.flatMap_cons, List.length_append, List.length_cons, Nat.add_mul]
    omega
theorem choBytes_le (x : Cho) (h : x.args.length ≤ 4) : (choBytes x).length ≤ 111 := by
  rw [choBytes_eq]
  have h1 := flat_le putL 11 (six x) (fun v _ => putL_len v)
  have h2 := flat_le (fun v => putL (zig v)) 11 x.args (fun v _ => putL_len _)
  simp only [List.length_append, List.length_cons, List.length_nil, six] at *
  have : x.args.length * 11 ≤ 44 := by omega
  omega
end ChoP
namespace Go.Proofs.YtpniilgkceadeaaGreatDoor
open Go.RowKit
/-- a row of bytes of the call's own -/
structure BSt (w wr : World) (v : Value) (l : List Nat) : Prop where
  own : wr.ownsRow w.heap.size 5 1 v l.length (natC l)
  below : Below w.heap.size w wr
def BytesPost (l : List Nat) (w : World) (e : Ending) (w' : World) : Prop := ∃ v, e = .returned v ∧ BSt w w' v l
theorem own_base {w : World} {b b' e size n : Nat} {v : Value} {xs : List Value} (h : w.ownsRow b e size v n xs) (hb : b' ≤ b) : w.ownsRow b' e size v n xs := by
  obtain ⟨h1, h2⟩ := h
  refine ⟨h1, ?_⟩
  rcases h2 with h2 | ⟨g, cap, cur, e1, e2, e3⟩
  · exact .inl h2
  · exact .inr ⟨g, cap, cur, e1, by omega, e3⟩
theorem natC_len (l : List Nat) : (natC l).length = l.length := by simp [natC]
/-- what PutUint and PutInt make of it -/
theorem BSt.put {w wr w1 : World} {v v1 : Value} {l m : List Nat} (h : BSt w wr v l) (ho : w1.ownsRow wr.heap.size 5 1 v1 ((natC l).length + m.length) (natC l ++ natC m)) (hb : Below wr.heap.size wr w1) : BSt w w1 v1 (l ++ m) := by
  refine ⟨?_, h.below.trans (hb.mono h.below.size)⟩
  have e1 : natC (l ++ m) = natC l ++ natC m := by simp [natC]
  rw [e1, List.length_append]
  rw [natC_len] at ho
  exact own_base ho h.below.size
/-- as a slice that lies -/
theorem BSt.slice {w wr : World} {v : Value} {l : List Nat} (h : BSt w wr v l) : ∃ A c, v = .slice A (natC l).length c ∧ Lie wr wr.heap.size A (natC l) := by
  obtain ⟨A, c, rfl, _, _, hl⟩ := own_form h.own
  exact ⟨A, c, by rw [natC_len], hl.2⟩
theorem run_index_row {P : Program} (w : World) (t e : TypeId) (n : Nat) (cs : Array Value) (k : Nat) (v : Value) (h : P.underlying t = some (.array n e)) (hk : k < n)
    (ha : (isAgg e).run P w = .ok false w) (hv : cs[k]? = some v) (hs : (sizeOf e).run P w = .ok 1 w) :
    (Instr.index t (.agg cs) (.int .i64 k)).run P w = .ok v w := by
  simp [Instr.index, run_underlying h, asIntOf, hk, hs, ha, hv, go_sem]
theorem idx_six (w : World) (l : List Nat) (k z : Nat) (h6 : l.length = 6) (hz : l[k]? = some z) : (Instr.index 70 (.agg (l.map fun (n : Nat) => Value.int .i64 (n : Int)).toArray) (.int .i64 k)).run Tryz.prog w = .ok (.int .i64 (z : Int)) w :=
  run_index_row w _ 3 6 _ k _ (by kernel_rfl) (by have := (List.getElem?_eq_some_iff.1 hz).1; omega) (by kernel_rfl) (by simp [hz]) (by kernel_rfl)
set_option maxRecDepth 100000 in
set_option maxHeartbeats 4000000 in
theorem bytes_any (A : Option Addr) (ps : List Pair) (c : Nat) (w : World) (h : Chos w w.heap.size A ps) (hok : ∀ p ∈ ps, ChoP.okC p.2 = true ∧ ChoP.InR p.2) (hn : ps.length ≤ 1000) : Calls Tryz.prog 11 #[.agg #[.slice A ps.length c]] w (BytesPost (ChoP.setBytes (cho ps)) w) := by
  obtain ⟨i0, hi0, hz0, hz1, hz2⟩ := info_parts info_u8
  have H := Lib.hid h
  have HOK := Lib.hid hok
  clear h hok
  go_enter Tryz.func11, Tryz.ntmps11
  go_wp2_with fail
  refine (putUint_any none 0 [] ps.length _ (by omega) (Lie.nil _ _ _) (by simp) (by simp)).mono ?_
  rintro e w1 ⟨v1, rfl, ho, hb⟩
  rw [World.size_alloc] at ho hb
  have HS : Hid (BSt w w1 v1 (ChoP.putL ps.length)) := Lib.hid ⟨by simpa using own_base ho (by omega), ((Below.refl w.heap.size w).alloc (Nat.le_refl _) _).trans (hb.mono (by omega))⟩
  have r0 : w1.cell? ⟨w.heap.size, 0, none⟩ = some (.slice A ps.length c) := (hb.cell (p := ⟨w.heap.size, 0, none⟩) (by simp)).trans (cell_at (heap_alloc_new w _) 0 _ rfl)
  clear ho hb
  go_wp2_with fail
  clear r0
  go_loopw [3, 18] (fun v i wr => ∃ k : Nat, k ≤ ps.length ∧ i = .int .i64 k ∧ BSt w wr v (ChoP.putL ps.length ++ ((cho ps).take k).flatMap ChoP.choBytes)) (fun _ i _ => ps.length - (intOf i).toNat)
  case atStart => exact ⟨0, Nat.zero_le _, rfl, by simpa using HS.out⟩
  case round =>
    clear HS
    obtain ⟨k, hk, rfl, hs⟩ := hrel
    have hLl : (ChoP.putL ps.length ++ ((cho ps).take k).flatMap ChoP.choBytes).length ≤ 11 + k * 111 := by
      have h1 := ChoP.putL_len ps.length
      have h2 := ChoP.flat_le ChoP.choBytes 111 ((cho ps).take k) (fun x hx => by
        obtain ⟨p, hp, rfl⟩ := List.mem_map.1 (List.mem_of_mem_take hx)
        exact ChoP.choBytes_le _ (okC_args (HOK.out p hp).1))
      have h3 : ((cho ps).take k).length * 111 ≤ k * 111 := Nat.mul_le_mul_right _ (by rw [List.length_take]; exact Nat.min_le_left _ _)
      rw [List.length_append]
      omega
    by_cases hlt : k < ps.length
    · obtain ⟨p, hpk⟩ : ∃ p, ps[k]? = some p := ⟨_, List.getElem?_eq_getElem hlt⟩
      have hrow := H.out.row p (List.mem_of_getElem? hpk)
      have hokp := HOK.out p (List.mem_of_getElem? hpk)
      have hxk : (cho ps)[k]? = some p.2 := by simp [cho, hpk]
      have hsn : ChoP.putL ps.length ++ ((cho ps).take (k + 1)).flatMap ChoP.choBytes = (ChoP.putL ps.length ++ ((cho ps).take k).flatMap ChoP.choBytes) ++ ChoP.choBytes p.2 := by rw [List.take_add_one, hxk]; simp
      generalize ChoP.putL ps.length ++ ((cho ps).take k).flatMap ChoP.choBytes = L0 at *
      obtain ⟨hkey, ⟨bt0, bt1⟩, ⟨bd0, bd1⟩⟩ := ChoP.okC_bounds hokp.1
      obtain ⟨⟨bk0, bk1⟩, ⟨ba0, ba1⟩, ⟨bb0, bb1⟩, bn0, bn1⟩ := ChoP.keyOK_bounds hkey
      have hargs := okC_args hokp.1
      obtain ⟨b, o, rfl, hb0, hc⟩ := H.out.at_ k p hpk
      have hcell : ∀ j u, p.1.vs[j]? = some u → wr.cell? ⟨b, o + k * 7 + j, none⟩ = some u := fun j u hu => (hs.below.cell (p := ⟨b, o + k * 7 + j, none⟩) hb0).trans (hc j u hu)
      have c0 : wr.cell? ⟨b, o + k * 7, none⟩ = some (.int .u8 p.1.key.kind) := hcell 0 _ rfl
      have c1 := hcell 1 _ rfl
      have c2 := hcell 2 _ rfl
      have c3 := hcell 3 _ rfl
      have c4 := hcell 4 _ rfl
      have c5 := hcell 5 _ rfl
      have c6 := hcell 6 _ rfl
      rw [hrow.key] at c0 c1 c2 c3
      rw [hrow.t] at c4
      rw [hrow.d] at c5
      rw [hrow.n] at c6
      have HLIE := Lib.hid hrow.lie
      have hin : ∀ v ∈ p.2.args, -9223372036854775808 ≤ v ∧ v ≤ 9223372036854775807 := hokp.2
      have HIN := Lib.hid hin
      clear hin
      have hce := ChoP.choBytes_eq p.2
      have h6 : (ChoP.six p.2).map (fun (n : Nat) => Value.int .i64 (n : Int)) = [.int .i64 p.2.key.a, .int .i64 p.2.key.b, .int .i64 p.2.key.n, .int .i64 p.2.t, .int .i64 p.2.d, .int .i64 (p.2.args.length : Int)] := by
        simp only [ChoP.six, List.map_cons, List.map_nil]
        rw [Int.toNat_of_nonneg ba0, Int.toNat_of_nonneg bb0, Int.toNat_of_nonneg bn0, Int.toNat_of_nonneg bt0, Int.toNat_of_nonneg bd0]
      have h6l : (ChoP.six p.2).length = 6 := rfl
      have h6b : ∀ z ∈ ChoP.six p.2, z ≤ 65535 := by
        intro z hz
        simp only [ChoP.six, List.mem_cons, List.not_mem_nil, or_false] at hz
        omega
      generalize ChoP.six p.2 = S6 at *
      generalize p.2.args = ar at *
      generalize p.2.t = tt at *
      generalize p.2.d = td at *
      generalize p.2.key.a = ka at *
      generalize p.2.key.b = kb at *
      generalize p.2.key.n = kn at *
      obtain ⟨kd, hkd⟩ := Int.eq_ofNat_of_zero_le (show 0 ≤ p.2.key.kind by omega)
      rw [hkd] at c0 hce
      rw [Int.toNat_natCast] at hce
      generalize p.1.p = rp at *
      generalize p.1.c = rc at *
      have HSN := Lib.hid hsn
      have HCE := Lib.hid hce
      have H6 := Lib.hid h6
      have H6L := Lib.hid h6l
      have H6B := Lib.hid h6b
      have HS := Lib.hid hs
      have hwz := hs.below.size
      clear hsn hce h6 h6l h6b hs hrow hokp hkd hcell hc hpk hxk hkey
      go_wp2_with (at_builtin; refine wpList_append_own _ rfl _ _ 32 rfl w.heap.size 5 i0 _ 1 1 Tryz.underlying32 hi0 hz0 hz1 hz2 rfl (by decide) _ _ _ rfl ((HS.out.own.alloc _).alloc _) ⟨wr.heap.size + 1, 0, none⟩ 1 1 [.int .u8 (kd : Int)] rfl rfl ?c1 ?c2 ?c3 ?c4 ?c5 ?_)
      case c1 =>
        have := cells_new (wr.alloc (.cells #[.int .u8 (kd : Int), .int .i64 ka, .int .i64 kb, .int .i64 kn, .int .i64 tt, .int .i64 td, .slice rp ar.length rc] 59)) [.int .u8 (kd : Int)] 5
        rwa [World.size_alloc] at this
      case c2 => simp [Value.oneCell']
      case c3 => unfold maxLen; omega
      case c4 => omega
      case c5 => simp; omega
      intro v2 w2 hown2 hgrow2 _
      have hs2 : BSt w w2 v2 (L0 ++ [kd]) := by
        refine ⟨?_, (((HS.out.below.alloc hwz _).alloc (by simp; omega) _).grown hgrow2 (by simp; omega) (own_ge HS.out.own))⟩
        have e1 : natC (L0 ++ [kd]) = natC L0 ++ [.int .u8 (kd : Int)] := by simp [natC]
        have e2 : (L0 ++ [kd]).length = L0.length + 1 := by simp
        rw [e1, e2]
        exact hown2
      have hbx : w2.heap[wr.heap.size]? = some (.cells #[.int .u8 (kd : Int), .int .i64 ka, .int .i64 kb, .int .i64 kn, .int .i64 tt, .int .i64 td, .slice rp ar.length rc] 59 (0, 0)) :=
        (hgrow2.block wr.heap.size (by simp; omega) (fun e => by have := own_lt HS.out.own _ e.symm; omega)).trans ((Below.heap_alloc _ _ _ (by simp)).trans (heap_alloc_new wr _))
      have HS2 := Lib.hid hs2
      have HBX := Lib.hid hbx
      obtain ⟨⟨a0, a1, a2, a3, a4, a5, a6⟩, _⟩ := blk7 hbx
      clear hown2 hgrow2 hs2 hbx HS c0 c1 c2 c3 c4 c5 c6
      generalize wr.heap.size = bx at *
      have hidx : ∀ (W : World) (j z : Nat), S6[j]? = some z → (Instr.index 70 (.agg #[.int .i64 ka, .int .i64 kb, .int .i64 kn, .int .i64 tt, .int .i64 td, .int .i64 (ar.length : Int)]) (.int .i64 j)).run Tryz.prog W = .ok (.int .i64 (z : Int)) W := fun W j z hz => by
        have h1 := idx_six W S6 j z H6L.out hz
        rw [H6.out] at h1
        exact h1
      have HIDX := Lib.hid hidx
      clear hidx
      go_wp2_with fail
      clear a0 a1 a2 a3 a4 a5 a6
      go_loopw [3, 45] (fun v i wr => ∃ j : Nat, j ≤ 6 ∧ i = .int .i64 j ∧ BSt w wr v (L0 ++ [kd] ++ (S6.take j).flatMap ChoP.putL) ∧ wr.heap[bx]? = some (.cells #[.int .u8 (kd : Int), .int .i64 ka, .int .i64 kb, .int .i64 kn, .int .i64 tt, .int .i64 td, .slice rp ar.length rc] 59 (0, 0))) (fun _ i _ => 6 - (intOf i).toNat)
      case atStart => exact ⟨0, Nat.zero_le _, rfl, by simpa using HS2.out, HBX.out⟩
      case round =>
        clear HS2 HBX
        obtain ⟨j, hj, rfl, hs, hbx⟩ := hrel
        have hL1 : (L0 ++ [kd] ++ (S6.take j).flatMap ChoP.putL).length ≤ L0.length + 1 + 66 := by
          have h1 := ChoP.flat_le ChoP.putL 11 (S6.take j) (fun v _ => ChoP.putL_len v)
          have h2 : (S6.take j).length ≤ 6 := by rw [List.length_take]; have := H6L.out; omega
          have h3 := Nat.mul_le_mul_right 11 h2
          simp only [List.length_append, List.length_cons, List.length_nil] at *
          omega
        by_cases hlj : j < 6
        · obtain ⟨z, hz⟩ : ∃ z, S6[j]? = some z := ⟨_, List.getElem?_eq_getElem (by rw [H6L.out]; exact hlj)⟩
          have hzb := H6B.out z (List.mem_of_getElem? hz)
          have hix := fun W => HIDX.out W j z hz
          have hst : L0 ++ [kd] ++ (S6.take (j + 1)).flatMap ChoP.putL = (L0 ++ [kd] ++ (S6.take j).flatMap ChoP.putL) ++ ChoP.putL z := by rw [List.take_add_one, hz]; simp
          generalize L0 ++ [kd] ++ (S6.take j).flatMap ChoP.putL = L1 at *
          obtain ⟨A1, d1, rfl, hl1⟩ := hs.slice
          have HST := Lib.hid hst
          have HS := Lib.hid hs
          have HL1 := Lib.hid hl1
          have HBX := Lib.hid hbx
          clear hst hs hl1 hbx hz
          go_wp2_with fail
          refine (putUint_any A1 d1 (natC L1) z _ (by omega) HL1.out (natC_one _) (by rw [natC_len]; omega)).mono ?_
          rintro e w3 ⟨v3, rfl, ho, hb⟩
          have HS3 := Lib.hid (HS.out.put ho hb)
          have HBX3 := Lib.hid ((hb.block bx ((Array.getElem?_eq_some_iff.1 HBX.out).1)).trans HBX.out)
          clear ho hb hix
          go_wp2_with fail
          go_roundw
          case rel => exact ⟨j + 1, by omega, by go_num, by rw [HST.out]; exact HS3.out, HBX3.out⟩
          case measure => simp [intOf]; omega
        · obtain rfl : j = 6 := by omega
          have e6 : S6.take 6 = S6 := List.take_of_length_le (by rw [H6L.out]; omega)
          rw [e6] at hs hL1
          generalize hL2 : L0 ++ [kd] ++ S6.flatMap ChoP.putL = L2 at *
          have HL2 := Lib.hid hL2
          have HS := Lib.hid hs
          obtain ⟨⟨a0, a1, a2, a3, a4, a5, a6⟩, _⟩ := blk7 hbx
          clear hs hbx e6 hL2 a0 a1 a2 a3 a4 a5
          go_wp2_with fail
          clear a6
          go_loopw [3, 56] (fun v i wr => ∃ j : Nat, j ≤ ar.length ∧ i = .int .i64 j ∧ BSt w wr v (L2 ++ (ar.take j).flatMap (fun v => ChoP.putL (ChoP.zig v)))) (fun _ i _ => ar.length - (intOf i).toNat)
          case atStart => exact ⟨0, Nat.zero_le _, rfl, by simpa using HS.out⟩
          case round =>
            clear HS
            obtain ⟨j, hj, rfl, hs⟩ := hrel
            have hL3 : (L2 ++ (ar.take j).flatMap (fun v => ChoP.putL (ChoP.zig v))).length ≤ L2.length + 44 := by
              have h1 := ChoP.flat_le (fun v => ChoP.putL (ChoP.zig v)) 11 (ar.take j) (fun v _ => ChoP.putL_len _)
              have h2 : (ar.take j).length ≤ 4 := by rw [List.length_take]; omega
              have h3 := Nat.mul_le_mul_right 11 h2
              simp only [List.length_append] at *
              omega
            by_cases hlj : j < ar.length
            · obtain ⟨z, hz⟩ : ∃ z, ar[j]? = some z := ⟨_, List.getElem?_eq_getElem hlj⟩
              obtain ⟨hz0', hz1'⟩ := HIN.out z (List.mem_of_getElem? hz)
              have hst : L2 ++ (ar.take (j + 1)).flatMap (fun v => ChoP.putL (ChoP.zig v)) = (L2 ++ (ar.take j).flatMap (fun v => ChoP.putL (ChoP.zig v))) ++ ChoP.putL (ChoP.zig z) := by rw [List.take_add_one, hz]; simp
              generalize L2 ++ (ar.take j).flatMap (fun v => ChoP.putL (ChoP.zig v)) = L3 at *
              obtain ⟨b, o, rfl, hbl, hc⟩ := HLIE.out.at_ j (.int .i64 z) (by simp [intV, hz])
              have hcell : wr.cell? ⟨b, o + j, none⟩ = some (.int .i64 z) := (hs.below.cell (p := ⟨b, o + j, none⟩) hbl).trans hc
              obtain ⟨A1, d1, rfl, hl1⟩ := hs.slice
              have HST := Lib.hid hst
              have HS := Lib.hid hs
              have HL1 := Lib.hid hl1
              clear hst hs hl1 hz hc
              go_wp2_with fail
              refine (putInt_any A1 d1 (natC L3) z _ hz0' hz1' HL1.out (natC_one _) (by rw [natC_len]; omega)).mono ?_
              rintro e w3 ⟨v3, rfl, ho, hb⟩
              have HS3 := Lib.hid (HS.out.put ho hb)
              clear ho hb hcell
              go_wp2_with fail
              go_roundw
              case rel => (repeat apply Exists.intro); exact ⟨⟨j + 1, by omega, by go_num, by rw [HST.out]; exact HS3.out⟩, rfl⟩
              case measure => simp [intOf]; omega
            · obtain rfl : j = ar.length := by omega
              rw [List.take_length] at hs
              have HS := Lib.hid hs
              clear hs
              go_wp2_with fail
              go_roundw
              case rel => exact ⟨k + 1, by omega, by go_num, by rw [HSN.out, HCE.out, ← List.append_assoc, ← List.append_assoc, HL2.out]; exact HS.out⟩
              case measure => simp [intOf]; omega
    · go_wp2_with fail
      go_ret
      have hT : (cho ps).take k = cho ps := List.take_of_length_le (by simp [cho]; omega)
      rw [hT] at hs
      exact ⟨_, rfl, by have e : (cho ps).length = ps.length := by simp [cho]
                        rw [ChoP.setBytes, e]; exact hs⟩
end Go.Proofs.YtpniilgkceadeaaGreatDoor
