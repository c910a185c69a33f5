/- A choice whose arguments are cut; the errors' numbers. -/
import Derived.Test.YtpniilgkceadeaaGreatDoorChoRefWith
import Derived.Test.YtpniilgkceadeaaGreatDoorChoNewF
import Derived.Lib.QuietBelow
import Derived.Test.YtpniilgkceadeaaGreatDoorChoPlain
namespace Go.Proofs.YtpniilgkceadeaaGreatDoor
open Go.RowKit Go.Sort
theorem errNew_bounds (l : List ChoP.Cho) : 0 ≤ ChoP.errNew l ∧ ChoP.errNew l ≤ 5 := by
  unfold ChoP.errNew
  split
  · decide
  · split
    · decide
    · split <;> decide
theorem RowIs.cut {w : World} {B : Nat} {r : Row} {x : ChoP.Cho} (h : RowIs w B r x) (m : Nat) (hm : m ≤ r.n) : RowIs w B ⟨r.key, r.t, r.d, r.p, m, r.c⟩ ⟨x.key, x.t, x.d, x.args.take m⟩ := by
  refine ⟨h.key, h.t, h.d, ?_, ?_, h.m, ?_⟩
  · have := h.n
    rw [List.length_take]
    show m = _
    omega
  · have := h.c
    show m ≤ r.c
    omega
  · have e : intV (x.args.take m) = (intV x.args).take m := by simp [intV, List.map_take]
    show Lie w B r.p (intV (x.args.take m))
    rw [e]
    exact h.lie.take m
end Go.Proofs.YtpniilgkceadeaaGreatDoor
/- rootcauselaw14.few: at most 100 choices, each with at most 6 arguments. -/
namespace Go.Proofs.YtpniilgkceadeaaGreatDoor
open Go.RowKit Go.Sort
def cut6 (x : ChoP.Cho) : ChoP.Cho := ⟨x.key, x.t, x.d, x.args.take 6⟩
def cutP (p : Pair) : Pair := (⟨p.1.key, p.1.t, p.1.d, p.1.p, (min (p.1.n : Int) 6).toNat, p.1.c⟩, cut6 p.2)
theorem cutP_row {w : World} {B : Nat} {p : Pair} (h : RowIs w B p.1 p.2) : RowIs w B (cutP p).1 (cutP p).2 := by
  have h1 := h.cut (min (p.1.n : Int) 6).toNat (by omega)
  have e : p.2.args.take (min (p.1.n : Int) 6).toNat = p.2.args.take 6 := by
    have := h.n
    by_cases h6 : p.1.n ≤ 6
    · rw [show (min (p.1.n : Int) 6).toNat = p.1.n by omega, List.take_of_length_le (by omega), List.take_of_length_le (by omega)]
    · rw [show (min (p.1.n : Int) 6).toNat = 6 by omega]
  rw [e] at h1
  exact h1
set_option maxRecDepth 100000 in
set_option maxHeartbeats 2000000 in
theorem few_any (A : Option Addr) (ps : List Pair) (c : Nat) (w : World) (h : Chos w w.heap.size A ps) (hc : ps.length ≤ c) (hc2 : c ≤ 9223372036854775807) : Calls Tryz.prog 8 #[.slice A ps.length c] w (ChosPost ((cho ps).take 100 |>.map cut6) w) := by
  obtain ⟨i0, hi0, hz0, hz1, hz2⟩ := info_parts info_cho
  have H := Lib.hid h
  clear h
  go_enter Tryz.func8, Tryz.ntmps8
  go_wp2_with fail
  obtain ⟨M, hM⟩ : ∃ M : Nat, min (ps.length : Int) 100 = M := ⟨(min (ps.length : Int) 100).toNat, by omega⟩
  have hM1 : M ≤ ps.length := by omega
  have hM2 : M ≤ 100 := by omega
  have hM3 : max (M : Int) 0 = M := by omega
  have hM4 : ps.take M = ps.take 100 := by
    by_cases h6 : ps.length ≤ 100
    · rw [List.take_of_length_le (by omega), List.take_of_length_le (by omega)]
    · rw [show M = 100 by omega]
  rw [hM, hM3, Int.toNat_natCast]
  have HM4 := Lib.hid hM4
  clear hM hM3 hM4
  go_loopw [3, 12] (fun v i wr => ∃ k : Nat, k ≤ M ∧ i = .int .i64 k ∧ wr.ownsRow w.heap.size 59 7 v k (cellsP ((ps.take k).map cutP)) ∧ RowKit.Below w.heap.size w wr) (fun _ i _ => M - (intOf i).toNat)
  case atStart => exact ⟨0, Nat.zero_le _, rfl, ⟨rfl, .inl ⟨rfl, rfl⟩⟩, Below.refl _ _⟩
  case round =>
    obtain ⟨k, hk, rfl, hown, hb⟩ := hrel
    have HO := Lib.hid hown
    have HB := Lib.hid hb
    have hwz := hb.size
    clear hown hb
    by_cases hlt : k < M
    · obtain ⟨p, hpk⟩ : ∃ p, ps[k]? = some p := ⟨_, List.getElem?_eq_getElem (by omega)⟩
      have hrow := H.out.row p (List.mem_of_getElem? hpk)
      obtain ⟨b, o, rfl, hb0, hcl⟩ := H.out.at_ k p hpk
      have hcell : ∀ j u, p.1.vs[j]? = some u → wr.cell? ⟨b, o + k * 7 + j, none⟩ = some u := fun j u hu => (HB.out.cell (p := ⟨b, o + k * 7 + j, none⟩) hb0).trans (hcl j u hu)
      have c0 : wr.cell? ⟨b, o + k * 7, none⟩ = some (.int .u8 p.1.key.kind) := hcell 0 _ rfl
      have c1 := hcell 1 _ rfl
      have c2 := hcell 2 _ rfl
      have c3 := hcell 3 _ rfl
      have c4 := hcell 4 _ rfl
      have c5 := hcell 5 _ rfl
      have c6 := hcell 6 _ rfl
      have hst : cellsP ((ps.take (k + 1)).map cutP) = cellsP ((ps.take k).map cutP) ++ (cutP p).1.vs := by
        rw [List.take_add_one, hpk, List.map_append, cellsP_append]
        simp [cellsP, encP]
      have HST := Lib.hid hst
      have hrc := hrow.c
      have hrm := hrow.m
      clear hst hrow hcell hcl hpk
      go_wp2_with (at_builtin; refine wpList_append_own _ rfl _ _ 22 rfl w.heap.size 59 i0 _ 7 72 Tryz.underlying22 hi0 hz0 hz1 hz2 rfl (by decide) _ k (cellsP ((ps.take k).map cutP)) rfl ?c0 ⟨wr.heap.size + 1, 0, none⟩ 1 1 (cutP p).1.vs rfl rfl ?c1 ?c2 ?c3 ?c4 ?c5 ?_)
      case c0 => exact (HO.out.alloc _).alloc _
      case c1 =>
        have := cells_new (wr.alloc (.cells #[.int .u8 p.1.key.kind, .int .i64 p.1.key.a, .int .i64 p.1.key.b, .int .i64 p.1.key.n, .int .i64 p.1.t, .int .i64 p.1.d, .slice p.1.p (min (p.1.n : Int) 6).toNat p.1.c] 59)) (cutP p).1.vs 59
        rw [World.size_alloc] at this
        exact this
      case c2 => simp [Value.oneCell', Row.vs]
      case c3 => unfold maxLen; omega
      case c4 => omega
      case c5 => simp; omega
      intro v2 w2 hown2 hgrow2 _
      have HO2 : Hid (w2.ownsRow w.heap.size 59 7 v2 (k + 1) (cellsP ((ps.take (k + 1)).map cutP))) := Lib.hid (by rw [HST.out, List.map_take]; exact hown2)
      have HB2 : Hid (RowKit.Below w.heap.size w w2) := Lib.hid (((HB.out.alloc hwz _).alloc (by simp; omega) _).grown hgrow2 (by simp; omega) (own_ge HO.out))
      clear hown2 hgrow2 c0 c1 c2 c3 c4 c5 c6
      go_wp2_with fail
      go_roundw
      case rel => exact ⟨k + 1, by omega, by go_num, HO2.out, HB2.out⟩
      case measure => simp [intOf]; omega
    · obtain rfl : k = M := by omega
      obtain ⟨A2, c2, rfl, hcc, hcm, hsl⟩ := own_form HO.out
      have hl : ((ps.take k).map cutP).length = k := by simp; omega
      have hf : ChosPost ((cho ps).take 100 |>.map cut6) w (.returned (.slice A2 k c2)) wr := by
        refine ⟨A2, (ps.take k).map cutP, c2, by rw [hl], ?_, ⟨hsl.2, fun q hq => ?_⟩, by omega, hcm, NewA.own HO.out (Nat.le_refl _), HB.out⟩
        · rw [HM4.out]
          simp [cho, List.map_take, cutP, Function.comp_def]
        · obtain ⟨p, hp, rfl⟩ := List.mem_map.1 hq
          exact cutP_row ((H.out.row p (List.mem_of_mem_take hp)).below HB.out hwz)
      have HF := Lib.hid hf
      clear hf hsl HO
      go_wp2_with fail
      go_ret
      exact HF.out
end Go.Proofs.YtpniilgkceadeaaGreatDoor
/- rootcauselaw14.Valid: the valid choices with different keys, at most n. -/
namespace ChoP
theorem stepV_full {n : Nat} {acc : List Cho} {c : Cho} (h : acc.length ≠ n) (he : errNew (acc ++ [c]) = 0) : stepV n acc c = setL (acc ++ [c]) := by
  unfold stepV
  rw [if_neg h, if_pos he]
theorem stepV_bad {n : Nat} {acc : List Cho} {c : Cho} (h : acc.length ≠ n) (he : errNew (acc ++ [c]) ≠ 0) : stepV n acc c = acc := by
  unfold stepV
  rw [if_neg h, if_neg he]
end ChoP
namespace Go.Proofs.YtpniilgkceadeaaGreatDoor
open Go.RowKit Go.Sort
set_option maxRecDepth 100000 in
set_option maxHeartbeats 2000000 in
theorem valid_any (A : Option Addr) (ps : List Pair) (c n : Nat) (w : World) (h : Chos w w.heap.size A ps) (hl : ps.length ≤ 60000) (hn : n ≤ 96) : Calls Tryz.prog 7 #[.slice A ps.length c, .int .i64 n] w (ChosPost (ChoP.validL (cho ps) n) w) := by
  have H := Lib.hid h
  clear h
  go_enter Tryz.func7, Tryz.ntmps7
  go_wp2_with fail
  go_loopw [5, 12] (fun v i wr => ∃ k : Nat, k ≤ ps.length ∧ i = .int .i64 k ∧ IsL w wr v (ChoP.validL ((cho ps).take k) n) ∧ RowKit.Below w.heap.size w wr) (fun _ i _ => ps.length - (intOf i).toNat)
  case atStart => exact ⟨0, Nat.zero_le _, rfl, ⟨none, [], 0, rfl, rfl, chos_nil _ _ _, Nat.le_refl _, by omega, NewA.none _⟩, Below.refl _ _⟩
  case round =>
    obtain ⟨k, hk, rfl, ⟨A2, qs, c2', rfl, hq, hcq, hqc, hqc2, hna⟩, hb⟩ := hrel
    have hql : qs.length ≤ n := by
      have h1 := congrArg List.length hq
      have h2 := ChoP.validL_le ((cho ps).take k) n
      simp only [cho, List.length_map] at h1
      simp only [cho] at h2
      omega
    have HB := Lib.hid hb
    have HQ := Lib.hid hq
    have HCQ := Lib.hid hcq
    have HNA := Lib.hid hna
    have hwz := hb.size
    clear hb hq hcq hna
    by_cases hlt : k < ps.length
    · obtain ⟨p, hpk⟩ : ∃ p, ps[k]? = some p := ⟨_, List.getElem?_eq_getElem hlt⟩
      have hrow := H.out.row p (List.mem_of_getElem? hpk)
      obtain ⟨b, o, rfl, hb0, hcl⟩ := H.out.at_ k p hpk
      have hcell : ∀ j u, p.1.vs[j]? = some u → wr.cell? ⟨b, o + k * 7 + j, none⟩ = some u := fun j u hu => (HB.out.cell (p := ⟨b, o + k * 7 + j, none⟩) hb0).trans (hcl j u hu)
      have c0 : wr.cell? ⟨b, o + k * 7, none⟩ = some (.int .u8 p.1.key.kind) := hcell 0 _ rfl
      have c1 := hcell 1 _ rfl
      have c2 := hcell 2 _ rfl
      have c3 := hcell 3 _ rfl
      have c4 := hcell 4 _ rfl
      have c5 := hcell 5 _ rfl
      have c6 := hcell 6 _ rfl
      have hxk : (cho ps)[k]? = some p.2 := by simp [cho, hpk]
      have HXK := Lib.hid hxk
      by_cases hfull : qs.length = n
      · subst hfull
        have hf : ∀ o : Obj, ChosPost (ChoP.validL (cho ps) qs.length) w (.returned (.slice A2 qs.length c2')) (wr.alloc o) := fun o => by
          refine ⟨A2, qs, c2', rfl, ?_, by rw [World.size_alloc]; exact HCQ.out.below ((RowKit.Below.refl _ _).alloc (Nat.le_refl _) _) (by omega), hqc, hqc2, HNA.out, HB.out.alloc hwz _⟩
          rw [ChoP.valid_full (cho ps) qs.length k (by rw [← HQ.out]; simp [cho])]
          exact HQ.out
        have HF := Lib.hid hf
        clear hf hrow hcell hcl hpk hxk
        go_wp2_with fail
        go_ret
        exact HF.out _
      · have hw := fun (o : Obj) => refWith_any A2 qs c2' p.1 p.2 (wr.alloc o) (by rw [World.size_alloc]; exact HCQ.out.below ((RowKit.Below.refl _ _).alloc (Nat.le_refl _) _) (by omega)) (by omega) (by rw [World.size_alloc]; exact hrow.below (HB.out.alloc hwz _) (by omega))
        have e1 : choV p.1 = .agg #[.int .u8 p.1.key.kind, .int .i64 p.1.key.a, .int .i64 p.1.key.b, .int .i64 p.1.key.n, .int .i64 p.1.t, .int .i64 p.1.d, .slice p.1.p p.1.n p.1.c] := rfl
        rw [e1] at hw
        have HW := Lib.hid hw
        have f1 : (qs.length == n) = false := by simpa using hfull
        have f2 : ((qs.length : Int) == (n : Int)) = false := by simpa using (by omega : ¬ (qs.length : Int) = (n : Int))
        have f3 : ¬ ((qs.length : Int) = (n : Int)) := by omega
        have hlen : (ChoP.validL ((cho ps).take k) n).length ≠ n := by rw [← HQ.out]; simpa [cho] using hfull
        have HLEN := Lib.hid hlen
        clear hw e1 hrow hcell hcl hpk hxk hlen
        go_wp2_with fail
        refine (HW.out _).mono ?_
        rintro e w1 ⟨A3, qs3, c3', rfl, hq3, hcq3, hqc3, hqc3', hna3, hb1⟩
        rw [World.size_alloc] at hb1
        rw [HQ.out] at hq3 ⊢
        obtain ⟨E, hE⟩ : ∃ E, ChoP.errNew (ChoP.validL ((cho ps).take k) n ++ [p.2]) = E := ⟨_, rfl⟩
        rw [hE]
        have hst := ChoP.valid_take (cho ps) n k p.2 HXK.out
        have hb2 : RowKit.Below wr.heap.size wr w1 := ((RowKit.Below.refl wr.heap.size wr).alloc (Nat.le_refl _) _).trans (hb1.mono (by omega))
        have HB1 := Lib.hid (HB.out.trans (hb2.mono hwz))
        by_cases hE0 : E = 0
        · have HL3 : Hid (IsL w w1 (.slice A3 qs3.length c3') (ChoP.validL ((cho ps).take (k + 1)) n)) := Lib.hid ⟨A3, qs3, c3', rfl, by rw [hst, ChoP.stepV_full HLEN.out (hE.trans hE0)]; exact hq3, hcq3, hqc3, hqc3', hna3.mono (by rw [World.size_alloc]; omega)⟩
          subst hE0
          clear hq3 hcq3 hna3 hb1 hb2 hE hst c0 c1 c2 c3 c4 c5 c6 HW f1 f2 f3
          go_wp2_with fail
          go_roundw
          case rel => exact ⟨k + 1, by omega, by go_num, HL3.out, HB1.out⟩
          case measure => simp [intOf]; omega
        · have HL3 : Hid (IsL w w1 (.slice A2 qs.length c2') (ChoP.validL ((cho ps).take (k + 1)) n)) := Lib.hid ⟨A2, qs, c2', rfl, by rw [hst, ChoP.stepV_bad HLEN.out (by rw [hE]; exact hE0)]; exact HQ.out, HCQ.out.below hb2 hb2.size, hqc, hqc2, HNA.out⟩
          have g1 : (E == 0) = false := by simpa using hE0
          clear hq3 hcq3 hna3 hb1 hb2 hE hst hE0 c0 c1 c2 c3 c4 c5 c6 HW f1 f2 f3
          go_wp2_with fail
          go_roundw
          case rel => exact ⟨k + 1, by omega, by go_num, HL3.out, HB1.out⟩
          case measure => simp [intOf]; omega
    · have hf : ChosPost (ChoP.validL (cho ps) n) w (.returned (.slice A2 qs.length c2')) wr := by
        refine ⟨A2, qs, c2', rfl, ?_, HCQ.out, hqc, hqc2, HNA.out, HB.out⟩
        have h := HQ.out
        rw [List.take_of_length_le (by simp [cho]; omega)] at h
        exact h
      have HF := Lib.hid hf
      clear hf
      go_wp2_with fail
      go_ret
      exact HF.out
end Go.Proofs.YtpniilgkceadeaaGreatDoor
