/- (choice.Set).All: the set's choices, in new blocks. -/
import Derived.Test.YtpniilgkceadeaaGreatDoorChoNewF
import Derived.Test.YtpniilgkceadeaaGreatDoorChoRefIns
namespace Go.Proofs.YtpniilgkceadeaaGreatDoor
open Go.RowKit Go.Sort
set_option maxRecDepth 100000 in
set_option maxHeartbeats 2000000 in
theorem all_any (A : Option Addr) (ps : List Pair) (c : Nat) (w : World) (h : Chos w w.heap.size A ps) (hn : ps.length ≤ 96) (hok : ∀ p ∈ ps, ChoP.okC p.2 = true) : Calls Tryz.prog 20 #[.agg #[.slice A ps.length c]] w (ChosPost (cho ps) w) := by
  obtain ⟨i0, hi0, hz0, hz1, hz2⟩ := info_parts info_cho
  have H := Lib.hid h
  have HOK := Lib.hid hok
  clear h hok
  go_enter Tryz.func20, Tryz.ntmps20
  go_wp2_with (at_make; refine wpList_make_own _ rfl _ _ 22 rfl (w.heap.size + 1) 59 i0 _ 7 Tryz.underlying22 hi0 hz0 hz1 .i64 .i64 _ ps.length rfl rfl rfl (by rw [hz2]; omega) (by unfold maxLen; omega) (by simp) ?_; intro w0 hown0 hgrow0; have r0 : w0.cell? ⟨w.heap.size, 0, none⟩ = some (.slice A ps.length c) := cell_at ((hgrow0.block w.heap.size (by simp) (by simp)).trans (heap_alloc_new w _)) 0 _ rfl)
  have HB0 : Hid (RowKit.Below w.heap.size w w0) := Lib.hid (((RowKit.Below.refl w.heap.size w).alloc (Nat.le_refl _) _).grown hgrow0 (by simp) (fun k e => by cases e))
  have hGw : w.heap.size + 1 < w0.heap.size := by
    rw [World.size_alloc] at hown0
    exact own_lt hown0 _ rfl
  obtain ⟨G, hG⟩ : ∃ G, G = w.heap.size + 1 := ⟨_, rfl⟩
  have HL2 : Hid (L2 ps (w.heap.size + 1) G 0 w0 []) := Lib.hid ⟨rfl, rfl, by rw [hG]; rw [World.size_alloc] at hown0; exact hown0, by simp⟩
  rw [← hG]
  have hG1 : w.heap.size < G := by omega
  clear hown0 hgrow0 r0 hG
  go_loopw [3, 13] (fun v i wr => ∃ (k : Nat) (qs : List Pair), k ≤ ps.length ∧ i = .int .i64 k ∧ v = .slice (some ⟨G, 0, none⟩) k ps.length ∧ L2 ps (w.heap.size + 1) G k wr qs ∧ RowKit.Below w.heap.size w wr) (fun _ i _ => ps.length - (intOf i).toNat)
  case atStart => exact ⟨0, [], Nat.zero_le _, rfl, rfl, HL2.out, HB0.out⟩
  case round =>
    clear HL2 HB0
    obtain ⟨k, qs, hk, rfl, rfl, hl2, hb⟩ := hrel
    have HL2 := Lib.hid hl2
    have HB := Lib.hid hb
    have hwz := hb.size
    have hGr := own_lt hl2.own G rfl
    clear hl2 hb
    by_cases hlt : k < ps.length
    · obtain ⟨p, hpk⟩ : ∃ p, ps[k]? = some p := ⟨_, List.getElem?_eq_getElem hlt⟩
      have hrow := H.out.row p (List.mem_of_getElem? hpk)
      have hargs := okC_args (HOK.out p (List.mem_of_getElem? hpk))
      obtain ⟨b, o, rfl, hb0, hc⟩ := H.out.at_ k p hpk
      have hcell : ∀ j u, p.1.vs[j]? = some u → wr.cell? ⟨b, o + k * 7 + j, none⟩ = some u := fun j u hu => (HB.out.cell (p := ⟨b, o + k * 7 + j, none⟩) hb0).trans (hc j u hu)
      have c0 : wr.cell? ⟨b, o + k * 7, none⟩ = some (.int .u8 p.1.key.kind) := hcell 0 _ rfl
      have c1 := hcell 1 _ rfl
      have c2 := hcell 2 _ rfl
      have c3 := hcell 3 _ rfl
      have c4 := hcell 4 _ rfl
      have c5 := hcell 5 _ rfl
      have c6 := hcell 6 _ rfl
      have hxk : (cho ps)[k]? = some p.2 := by simp [cho, hpk]
      have HXK := Lib.hid hxk
      have hbw : RowKit.Below w.heap.size w wr := HB.out
      have hck := fun (o : Obj) => clone_any p.1 p.2 (wr.alloc o) (by rw [World.size_alloc]; exact hrow.below (hbw.alloc (by omega) _) (by omega)) (by omega)
      have e1 : choV p.1 = .agg #[.int .u8 p.1.key.kind, .int .i64 p.1.key.a, .int .i64 p.1.key.b, .int .i64 p.1.key.n, .int .i64 p.1.t, .int .i64 p.1.d, .slice p.1.p p.1.n p.1.c] := rfl
      rw [e1] at hck
      have HCK := Lib.hid hck
      clear hck e1 hrow hcell hc hpk hxk hbw
      go_wp2_with fail
      refine (HCK.out _).mono ?_
      rintro e w1 ⟨r, rfl, hr, hge, hb1⟩
      have hb2 : RowKit.Below wr.heap.size wr w1 := by
        rw [World.size_alloc] at hb1
        exact ((RowKit.Below.refl wr.heap.size wr).alloc (Nat.le_refl _) _).trans (hb1.mono (by omega))
      have e2 : choV r = .agg #[.int .u8 r.key.kind, .int .i64 r.key.a, .int .i64 r.key.b, .int .i64 r.key.n, .int .i64 r.t, .int .i64 r.d, .slice r.p r.n r.c] := rfl
      rw [e2]
      have HB1 := Lib.hid hb2
      have HR := Lib.hid hr
      have hG : G < wr.heap.size := own_lt HL2.out.own G rfl
      have hge' : ∀ b o, r.p = some ⟨b, o, none⟩ → G < b := fun b o e => by have := hge b o e; rw [World.size_alloc] at this; omega
      have HGE := Lib.hid hge'
      have hw1 := hb2.size
      clear hb1 hr hge hge' c0 c1 c2 c3 c4 c5 c6 HCK e2 hb2
      go_wp2_with (at_builtin; refine wpList_append_fits _ rfl _ _ 22 rfl (w.heap.size + 1) 59 i0 7 Tryz.underlying22 hi0 hz1 G k ps.length (cellsP qs) rfl ((own_below HL2.out.own HB1.out).alloc _) ⟨w1.heap.size, 0, none⟩ 1 1 r.vs rfl rfl ?c1 ?c2 ?c3 ?_)
      case c1 => exact cells_new w1 r.vs 59
      case c2 => simp [Row.vs, Value.oneCell']
      case c3 => omega
      intro w2 hown2 hgrow2
      have HL3 := Lib.hid (HL2.out.step HXK.out HB1.out HR.out HGE.out hgrow2 hown2)
      have HB4 : Hid (RowKit.Below w.heap.size w w2) := Lib.hid (((HB.out.trans (HB1.out.mono hwz)).alloc (by omega) _).grown hgrow2 (by simp; omega) (fun k e => by cases e; have := own_ge HL2.out.own _ rfl; omega))
      clear hown2 hgrow2
      go_wp2_with fail
      go_roundw
      case rel => exact ⟨k + 1, _, by omega, by go_num, rfl, HL3.out, HB4.out⟩
      case measure => simp [intOf]; omega
    · obtain rfl : k = ps.length := by omega
      have hlq : qs.length = ps.length := HL2.out.len
      have hf : ChosPost (cho ps) w (.returned (.slice (some ⟨G, 0, none⟩) ps.length ps.length)) wr :=
        ⟨_, qs, ps.length, by rw [hlq], by rw [HL2.out.cho, List.take_of_length_le (by simp [cho])], ⟨Lie.of_own HL2.out.own, fun q hq => (HL2.out.row q hq).1⟩, by omega, by omega, NewA.own HL2.out.own (by omega), HB.out⟩
      have HF := Lib.hid hf
      clear hf
      go_wp2_with fail
      go_ret
      exact HF.out
end Go.Proofs.YtpniilgkceadeaaGreatDoor
