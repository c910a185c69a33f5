/- The reference's bytes of a set: put, Bytes. -/
import Derived.Test.YtpniilgkceadeaaGreatDoorChoBytes
import Derived.Maps.AppendAt
namespace ChoP
theorem mod128 (z : Nat) : (z % 128 + 128) % 256 = z % 128 + 128 := by omega
end ChoP
namespace Go.Proofs.YtpniilgkceadeaaGreatDoor
open Go.RowKit
/-- what appends to a row leave: the row's own block alone has turned, or the row lies in a new one -/
structure Kept (w w' : World) (r r' : Option Nat) : Prop where
  size : w.heap.size ≤ w'.heap.size
  block : ∀ k, k < w.heap.size → some k ≠ r → w'.heap[k]? = w.heap[k]?
  at_ : r' = r ∨ ∃ b, r' = some b ∧ w.heap.size ≤ b
theorem Kept.refl (w : World) (r : Option Nat) : Kept w w r r := ⟨Nat.le_refl _, fun _ _ _ => rfl, .inl rfl⟩
theorem Kept.alloc {w w1 : World} {r r1 : Option Nat} (h : Kept w w1 r r1) (o : Obj) : Kept w (w1.alloc o) r r1 :=
  ⟨by rw [World.size_alloc]; have := h.size; omega, fun k hk hr => (Below.heap_alloc w1 o k (by have := h.size; omega)).trans (h.block k hk hr), h.at_⟩
theorem Kept.drew {w w1 : World} {r r1 : Option Nat} (h : Kept w w1 r r1) : Kept w w1.drew r r1 := ⟨h.size, h.block, h.at_⟩
theorem Kept.grown {w w1 w2 : World} {r r1 r2 : Option Nat} (h : Kept w w1 r r1) (hg : w1.grownBy w2 r1) (ha : r2 = r1 ∨ r2 = some w1.heap.size) : Kept w w2 r r2 := by
  refine ⟨Nat.le_trans h.size hg.size, fun k hk hr => (hg.block k (by have := h.size; omega) (fun e => ?_)).trans (h.block k hk hr), ?_⟩
  · rcases h.at_ with e1 | ⟨b, e1, hb⟩
    · exact hr (e.trans e1)
    · rw [e1] at e
      injection e with e
      omega
  · rcases ha with e | e
    · rw [e]; exact h.at_
    · exact .inr ⟨_, e, h.size⟩
theorem Kept.trans {w w1 w2 : World} {r r1 r2 : Option Nat} (h : Kept w w1 r r1) (h' : Kept w1 w2 r1 r2) : Kept w w2 r r2 := by
  refine ⟨Nat.le_trans h.size h'.size, fun k hk hr => (h'.block k (by have := h.size; omega) (fun e => ?_)).trans (h.block k hk hr), ?_⟩
  · rcases h.at_ with e1 | ⟨b, e1, hb⟩
    · exact hr (e.trans e1)
    · rw [e1] at e
      injection e with e
      omega
  · rcases h'.at_ with e | ⟨b, e, hb⟩
    · rw [e]; exact h.at_
    · exact .inr ⟨b, e, by have := h.size; omega⟩
/-- a row's own block is not one of another type -/
theorem own_blk_ne {w : World} {base e size n : Nat} {v : Value} {xs : List Value} (h : w.ownsRow base e size v n xs) {g : Nat} {cs : Array Value} {t : TypeId} {fr : Nat × Nat} (hg : w.heap[g]? = some (.cells cs t fr)) (hne : e ≠ t) : some g ≠ v.ownBlock := by
  rcases h.2 with ⟨rfl, _⟩ | ⟨g', cap, cur, rfl, _, hh, _⟩
  · simp [Value.ownBlock]
  · intro he
    have he : g = g' := by simpa [Value.ownBlock] using he
    subst he
    rw [hh] at hg
    injection hg with hg
    injection hg with _ ht
    exact hne ht
def PutKPost (base n : Nat) (v : Value) (xs : List Value) (l : List Nat) (w : World) (e : Ending) (w' : World) : Prop := ∃ v', e = .returned v' ∧ w'.ownsRow base 5 1 v' (n + l.length) (xs ++ natC l) ∧ Below base w w' ∧ Kept w w' v.ownBlock v'.ownBlock
set_option maxRecDepth 100000 in
set_option maxHeartbeats 1000000 in
theorem refPut_any (base n : Nat) (v : Value) (xs : List Value) (x : Nat) (w : World) (hx : x < 18446744073709551616) (hown : w.ownsRow base 5 1 v n xs) (hn : n ≤ 1048576) (hb : base ≤ w.heap.size) :
    Calls Tryz.prog 35 #[v, .int .u64 (x : Int)] w (PutKPost base n v xs (ChoP.putL x) w) := by
  obtain ⟨i0, hi0, hz0, hz1, hz2⟩ := info_parts info_u8
  have HO := Lib.hid hown
  have HX := Lib.hid hx
  clear hown hx
  go_enter Tryz.func35, Tryz.ntmps35
  go_wp2_with fail
  go_loopw [0, 1] (fun p y wr => ∃ (f : Nat) (z : Nat) (pre : List Nat), y = .int .u64 (z : Int) ∧ z < 128 ^ (f + 1) ∧ U64 z ∧ f ≤ 10 ∧ pre ++ ChoP.putF f z = ChoP.putL x ∧ wr.ownsRow base 5 1 p (n + pre.length) (xs ++ natC pre) ∧ Below base w wr ∧ Kept w wr v.ownBlock p.ownBlock) (fun _ y _ => (intOf y).toNat)
  case atStart => exact ⟨10, x, [], rfl, by have := HX.out; omega, HX.out, by omega, rfl, by simpa [natC] using HO.out, Below.refl _ _, Kept.refl _ _⟩
  case round =>
    obtain ⟨f, z, pre, rfl, hz, hz64, hf, hpre, hown, hbr, hkr⟩ := hrel
    have HO1 := Lib.hid hown
    have HB1 := Lib.hid hbr
    have HK1 := Lib.hid hkr
    have HP := Lib.hid hpre
    have hwz := Nat.le_trans hb hbr.size
    have hpl : pre.length ≤ 11 := by
      have h1 := congrArg List.length hpre
      have h2 := ChoP.putL_len x
      rw [List.length_append] at h1
      omega
    have HZ := Lib.hid hz
    have HZ64 := Lib.hid hz64
    clear hown hbr hpre hz hz64 hkr
    by_cases hlt : 128 ≤ z
    · have hfs : ∃ g, f = g + 1 := by
        cases f with
        | zero => have := HZ.out; simp at this; omega
        | succ g => exact ⟨g, rfl⟩
      obtain ⟨g, rfl⟩ := hfs
      obtain ⟨c, hcb⟩ : ∃ c : Nat, c = z % 128 + 128 := ⟨_, rfl⟩
      have hcc : (z : Int) % 128 + 128 = (c : Int) := by omega
      have hcc2 : ((z : Int) % 128 + 128) % 256 = (c : Int) := by omega
      have hgt : (127 : Int) < (z : Int) := by omega
      have HCB := Lib.hid hcb
      have hc256 : c < 256 := by omega
      have hq : IntKind.u64.wrap ((z : Int) / 128) = ((z / 128 : Nat) : Int) := by
        have h1 : z < 18446744073709551616 := HZ64.out
        simp [IntKind.wrap, IntKind.bits, IntKind.signed]
        omega
      clear hcb
      go_wp2_with (at_builtin; refine wpList_append_own_at _ rfl _ _ 32 rfl base 5 i0 _ 1 1 Tryz.underlying32 hi0 hz0 hz1 hz2 rfl (by decide) _ _ _ rfl (HO1.out.alloc _) ⟨wr.heap.size, 0, none⟩ 1 1 [.int .u8 (c : Int)] rfl rfl (cell_one_new _ _ _) ?c2 ?c3 ?c4 ?c5 ?_)
      case c2 => simp [Value.oneCell']
      case c3 => unfold maxLen; omega
      case c4 => omega
      case c5 => simp; omega
      intro v1 w1 hown hgrow _ hat
      have HO2 := Lib.hid (own_snoc hown)
      have HB2 := Lib.hid ((HB1.out.alloc hwz _).grown hgrow (by simp; omega) (own_ge HO1.out))
      have HK2 := Lib.hid ((HK1.out.alloc _).grown hgrow (by rw [World.size_alloc]; exact hat))
      clear hown hgrow hcc hcc2 hat
      go_wp2_with fail
      refine ⟨⟨g, z / 128, pre ++ [c], by go_num, ?_, ?_, by omega, ?_, HO2.out, HB2.out, HK2.out⟩, ?_⟩
      · have h1 := HZ.out
        rw [Nat.pow_succ] at h1
        exact Nat.div_lt_of_lt_mul (by rw [Nat.mul_comm]; exact h1)
      · have h1 : z < 18446744073709551616 := HZ64.out
        show z / 128 < 18446744073709551616
        omega
      · rw [← HP.out, ChoP.putF, if_neg (by omega), HCB.out]
        simp
      · simp [intOf]
        omega
    · have hfin : ChoP.putF f z = [z] := by
        cases f with
        | zero => rfl
        | succ g => rw [ChoP.putF, if_pos (by omega)]
      have hgt : ¬ (127 : Int) < (z : Int) := by omega
      have HF := Lib.hid hfin
      clear hfin
      go_wp2_with (at_builtin; refine wpList_append_own_at _ rfl _ _ 32 rfl base 5 i0 _ 1 1 Tryz.underlying32 hi0 hz0 hz1 hz2 rfl (by decide) _ _ _ rfl (HO1.out.alloc _) ⟨wr.heap.size, 0, none⟩ 1 1 [.int .u8 (z : Int)] rfl rfl (cell_one_new _ _ _) ?d2 ?d3 ?d4 ?d5 ?_)
      case d2 => simp [Value.oneCell']
      case d3 => unfold maxLen; omega
      case d4 => omega
      case d5 => omega
      intro v1 w1 hown hgrow _ hat
      have hfo : w1.ownsRow base 5 1 v1 (n + (ChoP.putL x).length) (xs ++ natC (ChoP.putL x)) := by
        rw [← HP.out, HF.out]
        exact own_snoc hown
      have HFO := Lib.hid hfo
      have HB2 := Lib.hid ((HB1.out.alloc hwz _).grown hgrow (by simp; omega) (own_ge HO1.out))
      have HK2 := Lib.hid ((HK1.out.alloc _).grown hgrow (by rw [World.size_alloc]; exact hat))
      clear hown hgrow hfo hat
      go_wp2_with fail
      go_ret
      exact ⟨_, rfl, HFO.out, HB2.out, HK2.out⟩
/-- a row of bytes of the call's own, and two blocks beside it -/
theorem BSt.putK {w wr w1 : World} {v v1 : Value} {l m : List Nat} (h : BSt w wr v l) (ho : w1.ownsRow w.heap.size 5 1 v1 (l.length + m.length) (natC l ++ natC m)) (hb : Below w.heap.size wr w1) : BSt w w1 v1 (l ++ m) := by
  refine ⟨?_, h.below.trans hb⟩
  have e1 : natC (l ++ m) = natC l ++ natC m := by simp [natC]
  rw [e1, List.length_append]
  exact ho
theorem BSt.blk {w wr w1 : World} {v v1 : Value} {l : List Nat} (h : BSt w wr v l) (hk : Kept wr w1 v.ownBlock v1.ownBlock) {g : Nat} {cs : Array Value} {t : TypeId} {fr : Nat × Nat} (hg : wr.heap[g]? = some (.cells cs t fr)) (hne : 5 ≠ t) : w1.heap[g]? = some (.cells cs t fr) :=
  (hk.block g ((Array.getElem?_eq_some_iff.1 hg).1) (own_blk_ne h.own hg hne)).trans hg
theorem neg_zig (z : Int) (hn : z < 0) : 2 * (-(z + 1)) + 1 = (ChoP.zig z : Int) := by
  unfold ChoP.zig
  rw [if_pos hn]
  omega
theorem pos_zig (z : Int) (hn : ¬ z < 0) : 2 * z = (ChoP.zig z : Int) := by
  unfold ChoP.zig
  rw [if_neg hn]
  omega
theorem info_int : (Tryz.prog.info? 3).map (fun i => (i.zero, i.size, i.bytes)) = some (some (.int .i64 0), 1, 8) := by kernel_rfl
set_option maxRecDepth 100000 in
set_option maxHeartbeats 4000000 in
theorem refBytes_any (A : Option Addr) (ps : List Pair) (c : Nat) (w : World) (h : Chos w w.heap.size A ps) (hok : ∀ p ∈ ps, ChoP.okC p.2 = true ∧ ChoP.InR p.2) (hn : ps.length ≤ 1000) : Calls Tryz.prog 12 #[.slice A ps.length c] w (BytesPost (ChoP.setBytes (cho ps)) w) := by
  obtain ⟨i0, hi0, hz0, hz1, hz2⟩ := info_parts info_u8
  have H := Lib.hid h
  have HOK := Lib.hid hok
  clear h hok
  go_enter Tryz.func12, Tryz.ntmps12
  go_wp2_with fail
  refine (refPut_any w.heap.size 0 (.slice none 0 0) [] ps.length w (by omega) ⟨rfl, .inl ⟨rfl, rfl⟩⟩ (by omega) (Nat.le_refl _)).mono ?_
  rintro e w1 ⟨v1, rfl, ho, hb, _⟩
  have HS : Hid (BSt w w1 v1 (ChoP.putL ps.length)) := Lib.hid ⟨by simpa using ho, hb⟩
  clear ho hb
  go_wp2_with fail
  go_loopw [3, 16] (fun v i wr => ∃ k : Nat, k ≤ ps.length ∧ i = .int .i64 k ∧ BSt w wr v (ChoP.putL ps.length ++ ((cho ps).take k).flatMap ChoP.choBytes)) (fun _ i _ => ps.length - (intOf i).toNat)
  case atStart => exact ⟨0, Nat.zero_le _, rfl, by simpa using HS.out⟩
  case round =>
    clear HS
    obtain ⟨k, hk, rfl, hs⟩ := hrel
    have hLl : (ChoP.putL ps.length ++ ((cho ps).take k).flatMap ChoP.choBytes).length ≤ 11 + k * 111 := by
      have h1 := ChoP.putL_len ps.length
      have h2 := ChoP.flat_le ChoP.choBytes 111 ((cho ps).take k) (fun x hx => by
        obtain ⟨p, hp, rfl⟩ := List.mem_map.1 (List.mem_of_mem_take hx)
        exact ChoP.choBytes_le _ (okC_args (HOK.out p hp).1))
      have h3 : ((cho ps).take k).length * 111 ≤ k * 111 := Nat.mul_le_mul_right _ (by rw [List.length_take]; exact Nat.min_le_left _ _)
      rw [List.length_append]
      omega
    by_cases hlt : k < ps.length
    · obtain ⟨p, hpk⟩ : ∃ p, ps[k]? = some p := ⟨_, List.getElem?_eq_getElem hlt⟩
      have hrow := H.out.row p (List.mem_of_getElem? hpk)
      have hokp := HOK.out p (List.mem_of_getElem? hpk)
      have hxk : (cho ps)[k]? = some p.2 := by simp [cho, hpk]
      have hsn : ChoP.putL ps.length ++ ((cho ps).take (k + 1)).flatMap ChoP.choBytes = (ChoP.putL ps.length ++ ((cho ps).take k).flatMap ChoP.choBytes) ++ ChoP.choBytes p.2 := by rw [List.take_add_one, hxk]; simp
      generalize ChoP.putL ps.length ++ ((cho ps).take k).flatMap ChoP.choBytes = L0 at *
      obtain ⟨hkey, ⟨bt0, bt1⟩, ⟨bd0, bd1⟩⟩ := ChoP.okC_bounds hokp.1
      obtain ⟨⟨bk0, bk1⟩, ⟨ba0, ba1⟩, ⟨bb0, bb1⟩, bn0, bn1⟩ := ChoP.keyOK_bounds hkey
      have hargs := okC_args hokp.1
      obtain ⟨b, o, rfl, hb0, hc⟩ := H.out.at_ k p hpk
      have hcell : ∀ j u, p.1.vs[j]? = some u → wr.cell? ⟨b, o + k * 7 + j, none⟩ = some u := fun j u hu => (hs.below.cell (p := ⟨b, o + k * 7 + j, none⟩) hb0).trans (hc j u hu)
      have c0 : wr.cell? ⟨b, o + k * 7, none⟩ = some (.int .u8 p.1.key.kind) := hcell 0 _ rfl
      have c1 := hcell 1 _ rfl
      have c2 := hcell 2 _ rfl
      have c3 := hcell 3 _ rfl
      have c4 := hcell 4 _ rfl
      have c5 := hcell 5 _ rfl
      have c6 := hcell 6 _ rfl
      rw [hrow.key] at c0 c1 c2 c3
      rw [hrow.t] at c4
      rw [hrow.d] at c5
      rw [hrow.n] at c6
      have HLIE := Lib.hid hrow.lie
      have hin : ∀ v ∈ p.2.args, -9223372036854775808 ≤ v ∧ v ≤ 9223372036854775807 := hokp.2
      have HIN := Lib.hid hin
      clear hin
      have hce := ChoP.choBytes_eq p.2
      have h6 : (ChoP.six p.2).map (fun (n : Nat) => Value.int .i64 (n : Int)) = [.int .i64 p.2.key.a, .int .i64 p.2.key.b, .int .i64 p.2.key.n, .int .i64 p.2.t, .int .i64 p.2.d, .int .i64 (p.2.args.length : Int)] := by
        simp only [ChoP.six, List.map_cons, List.map_nil]
        rw [Int.toNat_of_nonneg ba0, Int.toNat_of_nonneg bb0, Int.toNat_of_nonneg bn0, Int.toNat_of_nonneg bt0, Int.toNat_of_nonneg bd0]
      have h6l : (ChoP.six p.2).length = 6 := rfl
      have h6b : ∀ z ∈ ChoP.six p.2, z ≤ 65535 := by
        intro z hz
        simp only [ChoP.six, List.mem_cons, List.not_mem_nil, or_false] at hz
        omega
      generalize ChoP.six p.2 = S6 at *
      generalize p.2.args = ar at *
      generalize p.2.t = tt at *
      generalize p.2.d = td at *
      generalize p.2.key.a = ka at *
      generalize p.2.key.b = kb at *
      generalize p.2.key.n = kn at *
      obtain ⟨kd, hkd⟩ := Int.eq_ofNat_of_zero_le (show 0 ≤ p.2.key.kind by omega)
      rw [hkd] at c0 hce
      rw [Int.toNat_natCast] at hce
      generalize p.1.p = rp at *
      generalize p.1.c = rc at *
      have HSN := Lib.hid hsn
      have HCE := Lib.hid hce
      have H6 := Lib.hid h6
      have H6L := Lib.hid h6l
      have H6B := Lib.hid h6b
      have HS := Lib.hid hs
      have hwz := hs.below.size
      clear hsn hce h6 h6l h6b hs hrow hokp hkd hcell hc hpk hxk hkey
      go_wp2_with (at_builtin; refine wpList_append_own_at _ rfl _ _ 32 rfl w.heap.size 5 i0 _ 1 1 Tryz.underlying32 hi0 hz0 hz1 hz2 rfl (by decide) _ _ _ rfl ((HS.out.own.alloc _).alloc _) ⟨wr.heap.size + 1, 0, none⟩ 1 1 [.int .u8 (kd : Int)] rfl rfl ?c1 ?c2 ?c3 ?c4 ?c5 ?_)
      case c1 =>
        have := cell_one_new (wr.alloc (.cells #[.int .u8 (kd : Int), .int .i64 ka, .int .i64 kb, .int .i64 kn, .int .i64 tt, .int .i64 td, .slice rp ar.length rc] 59)) (.int .u8 (kd : Int)) 5
        rwa [World.size_alloc] at this
      case c2 => simp [Value.oneCell']
      case c3 => unfold maxLen; omega
      case c4 => omega
      case c5 => simp; omega
      intro v2 w2 hown2 hgrow2 _ _
      have hs2 : BSt w w2 v2 (L0 ++ [kd]) := by
        refine ⟨?_, (((HS.out.below.alloc hwz _).alloc (by simp; omega) _).grown hgrow2 (by simp; omega) (own_ge HS.out.own))⟩
        have e1 : natC (L0 ++ [kd]) = natC L0 ++ [.int .u8 (kd : Int)] := by simp [natC]
        have e2 : (L0 ++ [kd]).length = L0.length + 1 := by simp
        rw [e1, e2]
        exact hown2
      have hbx : w2.heap[wr.heap.size]? = some (.cells #[.int .u8 (kd : Int), .int .i64 ka, .int .i64 kb, .int .i64 kn, .int .i64 tt, .int .i64 td, .slice rp ar.length rc] 59 (0, 0)) :=
        (hgrow2.block wr.heap.size (by simp; omega) (fun e => by have := own_lt HS.out.own _ e.symm; omega)).trans ((Below.heap_alloc _ _ _ (by simp)).trans (heap_alloc_new wr _))
      have HS2 := Lib.hid hs2
      have HBX := Lib.hid hbx
      obtain ⟨⟨a0, a1, a2, a3, a4, a5, a6⟩, _⟩ := blk7 hbx
      clear hown2 hgrow2 hs2 hbx HS c0 c1 c2 c3 c4 c5 c6
      generalize wr.heap.size = bx at *
      go_wp2_with fail
      clear a0 a1 a2 a3 a4 a5 a6
      have hb6 : (w2.alloc (.cells #[.int .i64 ka, .int .i64 kb, .int .i64 kn, .int .i64 tt, .int .i64 td, .int .i64 (ar.length : Int)] 3)).heap[w2.heap.size]? = some (.cells (S6.map fun (n : Nat) => Value.int .i64 (n : Int)).toArray 3 (0, 0)) := by
        rw [H6.out]
        exact heap_alloc_new w2 _
      have HB6 := Lib.hid hb6
      have HS3 : Hid (BSt w (w2.alloc (.cells #[.int .i64 ka, .int .i64 kb, .int .i64 kn, .int .i64 tt, .int .i64 td, .int .i64 (ar.length : Int)] 3)) v2 (L0 ++ [kd])) := Lib.hid ⟨HS2.out.own.alloc _, HS2.out.below.alloc HS2.out.below.size _⟩
      have HBX3 := Lib.hid ((Below.heap_alloc w2 (.cells #[.int .i64 ka, .int .i64 kb, .int .i64 kn, .int .i64 tt, .int .i64 td, .int .i64 (ar.length : Int)] 3) bx ((Array.getElem?_eq_some_iff.1 HBX.out).1)).trans HBX.out)
      clear hb6 HS2 HBX
      generalize w2.alloc (.cells #[.int .i64 ka, .int .i64 kb, .int .i64 kn, .int .i64 tt, .int .i64 td, .int .i64 (ar.length : Int)] 3) = w3 at *
      generalize w2.heap.size = b6 at *
      go_loopw [3, 44] (fun v i wr => ∃ j : Nat, j ≤ 6 ∧ i = .int .i64 j ∧ BSt w wr v (L0 ++ [kd] ++ (S6.take j).flatMap ChoP.putL) ∧ wr.heap[bx]? = some (.cells #[.int .u8 (kd : Int), .int .i64 ka, .int .i64 kb, .int .i64 kn, .int .i64 tt, .int .i64 td, .slice rp ar.length rc] 59 (0, 0)) ∧ wr.heap[b6]? = some (.cells (S6.map fun (n : Nat) => Value.int .i64 (n : Int)).toArray 3 (0, 0))) (fun _ i _ => 6 - (intOf i).toNat)
      case atStart => exact ⟨0, Nat.zero_le _, rfl, by simpa using HS3.out, HBX3.out, HB6.out⟩
      case round =>
        clear HS3 HBX3 HB6
        obtain ⟨j, hj, rfl, hs, hbx, hb6⟩ := hrel
        have hL1 : (L0 ++ [kd] ++ (S6.take j).flatMap ChoP.putL).length ≤ L0.length + 1 + 66 := by
          have h1 := ChoP.flat_le ChoP.putL 11 (S6.take j) (fun v _ => ChoP.putL_len v)
          have h2 : (S6.take j).length ≤ 6 := by rw [List.length_take]; have := H6L.out; omega
          have h3 := Nat.mul_le_mul_right 11 h2
          simp only [List.length_append, List.length_cons, List.length_nil] at *
          omega
        by_cases hlj : j < 6
        · obtain ⟨z, hz⟩ : ∃ z, S6[j]? = some z := ⟨_, List.getElem?_eq_getElem (by rw [H6L.out]; exact hlj)⟩
          have hzb := H6B.out z (List.mem_of_getElem? hz)
          have q6 : wr.cell? ⟨b6, j, none⟩ = some (.int .i64 (z : Int)) := cell_at hb6 j _ (by simp [hz])
          have hst : L0 ++ [kd] ++ (S6.take (j + 1)).flatMap ChoP.putL = (L0 ++ [kd] ++ (S6.take j).flatMap ChoP.putL) ++ ChoP.putL z := by rw [List.take_add_one, hz]; simp
          generalize L0 ++ [kd] ++ (S6.take j).flatMap ChoP.putL = L1 at *
          have HST := Lib.hid hst
          have HS := Lib.hid hs
          have HBX := Lib.hid hbx
          have HB6 := Lib.hid hb6
          clear hst hs hbx hz hb6
          go_wp2_with fail
          refine (refPut_any w.heap.size L1.length _ (natC L1) z wr (by omega) HS.out.own (by omega) HS.out.below.size).mono ?_
          rintro e w3 ⟨v3, rfl, ho, hb, hk⟩
          have HS3 := Lib.hid (HS.out.putK ho hb)
          have HBX3 := Lib.hid (HS.out.blk hk HBX.out (by decide))
          have HB63 := Lib.hid (HS.out.blk hk HB6.out (by decide))
          clear ho hb q6 hk
          go_wp2_with fail
          go_roundw
          case rel => exact ⟨j + 1, by omega, by go_num, by rw [HST.out]; exact HS3.out, HBX3.out, HB63.out⟩
          case measure => simp [intOf]; omega
        · obtain rfl : j = 6 := by omega
          have e6 : S6.take 6 = S6 := List.take_of_length_le (by rw [H6L.out]; omega)
          rw [e6] at hs hL1
          generalize hL2 : L0 ++ [kd] ++ S6.flatMap ChoP.putL = L2 at *
          have HL2 := Lib.hid hL2
          have HS := Lib.hid hs
          obtain ⟨⟨a0, a1, a2, a3, a4, a5, a6⟩, _⟩ := blk7 hbx
          clear hs hbx e6 hL2 a0 a1 a2 a3 a4 a5 hb6
          go_wp2_with fail
          clear a6
          go_loopw [3, 56] (fun v i wr => ∃ j : Nat, j ≤ ar.length ∧ i = .int .i64 j ∧ BSt w wr v (L2 ++ (ar.take j).flatMap (fun v => ChoP.putL (ChoP.zig v)))) (fun _ i _ => ar.length - (intOf i).toNat)
          case atStart => exact ⟨0, Nat.zero_le _, rfl, by simpa using HS.out⟩
          case round =>
            clear HS
            obtain ⟨j, hj, rfl, hs⟩ := hrel
            have hL3 : (L2 ++ (ar.take j).flatMap (fun v => ChoP.putL (ChoP.zig v))).length ≤ L2.length + 44 := by
              have h1 := ChoP.flat_le (fun v => ChoP.putL (ChoP.zig v)) 11 (ar.take j) (fun v _ => ChoP.putL_len _)
              have h2 : (ar.take j).length ≤ 4 := by rw [List.length_take]; omega
              have h3 := Nat.mul_le_mul_right 11 h2
              simp only [List.length_append] at *
              omega
            by_cases hlj : j < ar.length
            · obtain ⟨z, hz⟩ : ∃ z, ar[j]? = some z := ⟨_, List.getElem?_eq_getElem hlj⟩
              obtain ⟨hz0', hz1'⟩ := HIN.out z (List.mem_of_getElem? hz)
              have hst : L2 ++ (ar.take (j + 1)).flatMap (fun v => ChoP.putL (ChoP.zig v)) = (L2 ++ (ar.take j).flatMap (fun v => ChoP.putL (ChoP.zig v))) ++ ChoP.putL (ChoP.zig z) := by rw [List.take_add_one, hz]; simp
              generalize L2 ++ (ar.take j).flatMap (fun v => ChoP.putL (ChoP.zig v)) = L3 at *
              obtain ⟨b, o, rfl, hbl, hc⟩ := HLIE.out.at_ j (.int .i64 z) (by simp [intV, hz])
              have hcell : wr.cell? ⟨b, o + j, none⟩ = some (.int .i64 z) := (hs.below.cell (p := ⟨b, o + j, none⟩) hbl).trans hc
              have HST := Lib.hid hst
              have HS := Lib.hid hs
              have hzl := zig_lt z hz0' hz1'
              have HZL := Lib.hid hzl
              clear hst hs hz hc hzl
              by_cases hzn : z < 0
              · have e1 : IntKind.i64.wrap (z + 1) = z + 1 := IntWalk.i64_in _ ⟨by omega, by omega⟩
                have e2 : IntKind.i64.wrap (-(z + 1)) = -(z + 1) := IntWalk.i64_in _ ⟨by omega, by omega⟩
                have e3 : IntKind.u64.wrap (-(z + 1)) = -(z + 1) := by simp [IntKind.wrap, IntKind.bits, IntKind.signed]; omega
                have e4 : IntKind.u64.wrap (2 * -(z + 1)) = 2 * -(z + 1) := by simp [IntKind.wrap, IntKind.bits, IntKind.signed]; omega
                have e5 : IntKind.u64.wrap (2 * -(z + 1) + 1) = (ChoP.zig z : Int) := by
                  rw [← neg_zig z hzn]
                  simp [IntKind.wrap, IntKind.bits, IntKind.signed]
                  omega
                go_wp2_with fail
                refine (refPut_any w.heap.size L3.length _ (natC L3) (ChoP.zig z) wr HZL.out HS.out.own (by omega) HS.out.below.size).mono ?_
                rintro e w3 ⟨v3, rfl, ho, hb, hk⟩
                have HS3 := Lib.hid (HS.out.putK ho hb)
                clear ho hb hcell hk
                go_wp2_with fail
                go_roundw
                case rel => (repeat apply Exists.intro); exact ⟨⟨j + 1, by omega, by go_num, by rw [HST.out]; exact HS3.out⟩, rfl⟩
                case measure => simp [intOf]; omega
              · have e1 : IntKind.u64.wrap z = z := by simp [IntKind.wrap, IntKind.bits, IntKind.signed]; omega
                have e2 : IntKind.u64.wrap (2 * z) = (ChoP.zig z : Int) := by
                  rw [← pos_zig z hzn]
                  simp [IntKind.wrap, IntKind.bits, IntKind.signed]
                  omega
                have e3 : 2 * z = (ChoP.zig z : Int) := pos_zig z hzn
                go_wp2_with fail
                refine (refPut_any w.heap.size L3.length _ (natC L3) (ChoP.zig z) wr HZL.out HS.out.own (by omega) HS.out.below.size).mono ?_
                rintro e w3 ⟨v3, rfl, ho, hb, hk⟩
                have HS3 := Lib.hid (HS.out.putK ho hb)
                clear ho hb hcell hk
                go_wp2_with fail
                go_roundw
                case rel => (repeat apply Exists.intro); exact ⟨⟨j + 1, by omega, by go_num, by rw [HST.out]; exact HS3.out⟩, rfl⟩
                case measure => simp [intOf]; omega
            · obtain rfl : j = ar.length := by omega
              rw [List.take_length] at hs
              have HS := Lib.hid hs
              clear hs
              go_wp2_with fail
              go_roundw
              case rel => exact ⟨k + 1, by omega, by go_num, by rw [HSN.out, HCE.out, ← List.append_assoc, ← List.append_assoc, HL2.out]; exact HS.out⟩
              case measure => simp [intOf]; omega
    · go_wp2_with fail
      go_ret
      have hT : (cho ps).take k = cho ps := List.take_of_length_le (by simp [cho]; omega)
      rw [hT] at hs
      exact ⟨_, rfl, by have e : (cho ps).length = ps.length := by simp [cho]
                        rw [ChoP.setBytes, e]; exact hs⟩
end Go.Proofs.YtpniilgkceadeaaGreatDoor
