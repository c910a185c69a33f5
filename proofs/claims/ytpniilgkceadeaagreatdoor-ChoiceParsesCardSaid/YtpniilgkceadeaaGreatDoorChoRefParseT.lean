/- The reference's Parse: a set out of a text. -/
import Derived.Test.YtpniilgkceadeaaGreatDoorChoRefParse
import Derived.Test.YtpniilgkceadeaaGreatDoorChoRefSplit
import Derived.Test.YtpniilgkceadeaaGreatDoorChoRefNew
import Derived.Test.YtpniilgkceadeaaGreatDoorChoParseP
import Derived.Test.YtpniilgkceadeaaGreatDoorChoRL
import Derived.Test.YtpniilgkceadeaaGreatDoorChoSplit
namespace ChoP
theorem tw_step {d : List UInt8} {m : Nat} (h : m ≤ (d.takeWhile (· != 10)).length) (hm : m < d.length) (hx : d[m] ≠ 10) : m + 1 ≤ (d.takeWhile (· != 10)).length := by
  induction d generalizing m with
  | nil => simp at hm
  | cons b l ih =>
    rw [List.takeWhile_cons] at h ⊢
    cases m with
    | zero =>
      have : (b != 10) = true := by simpa using hx
      rw [if_pos this]
      simp
    | succ m =>
      split at h
      · rename_i hb
        rw [if_pos hb]
        simp at h hx hm ⊢
        exact ih h hm hx
      · simp at h
theorem tw_stop {d : List UInt8} {m : Nat} (h : m ≤ (d.takeWhile (· != 10)).length) (hx : d.length ≤ m ∨ ∃ hm : m < d.length, d[m] = 10) : (d.takeWhile (· != 10)).length = m := by
  have hle : (d.takeWhile (· != 10)).length ≤ d.length := (List.takeWhile_sublist _).length_le
  rcases hx with hx | ⟨hm, hx⟩
  · omega
  · induction d generalizing m with
    | nil => simp at hm
    | cons b l ih =>
      rw [List.takeWhile_cons] at h ⊢
      cases m with
      | zero =>
        have hb : b = 10 := hx
        subst hb
        rfl
      | succ m =>
        split at h
        · rename_i hb
          rw [if_pos hb]
          simp at h hx hm ⊢
          exact ih h ((List.takeWhile_sublist _).length_le) hm hx
        · simp at h
theorem drop_at (s : ByteArray) (k n : Nat) (h : n < s.size) (hk : k ≤ n) : ∃ hm : n - k < (s.data.toList.drop k).length, (s.data.toList.drop k)[n - k] = s[n] := by
  have hl : s.data.toList.length = s.size := by simp
  refine ⟨by rw [List.length_drop, hl]; omega, ?_⟩
  rw [List.getElem_drop]
  simp only [show k + (n - k) = n by omega]
  rfl
theorem line_step {s : ByteArray} {k n : Nat} (h : n < s.size) (hk : k ≤ n) (hm : n - k ≤ (lineAt s.data.toList k).length) (hx : s[n] ≠ 10) : n + 1 - k ≤ (lineAt s.data.toList k).length := by
  obtain ⟨h1, h2⟩ := drop_at s k n h hk
  have := tw_step hm h1 (by rw [h2]; exact hx)
  unfold lineAt
  omega
theorem line_end {s : ByteArray} {k n : Nat} (hk : k ≤ n) (hm : n - k ≤ (lineAt s.data.toList k).length) (hx : s.size ≤ n ∨ ∃ h : n < s.size, s[n] = 10) : (lineAt s.data.toList k).length = n - k := by
  refine tw_stop hm ?_
  rcases hx with hx | ⟨h, hx⟩
  · left
    rw [List.length_drop]
    simp
    omega
  · obtain ⟨h1, h2⟩ := drop_at s k n h hk
    exact .inr ⟨h1, by rw [h2]; exact hx⟩
theorem line_cut {s : ByteArray} {k n : Nat} (hl : (lineAt s.data.toList k).length = n - k) : (s.extract k n).data.toList = lineAt s.data.toList k := by
  rw [Go.Lib.extract_data, ← hl]
  exact takeWhile_take _
end ChoP
namespace Go.Proofs.YtpniilgkceadeaaGreatDoor
open Go.RowKit Go.Sort
theorem rcho_app1 (ps : List Pair) (r : Row) (c : ChoP.Cho) : cho (ps ++ [(r, c)]) = cho ps ++ [c] := by simp [cho]
/-- what the reference's Parse returns -/
def RParsePost (l : List UInt8) (w : World) (e : Ending) (w' : World) : Prop :=
  ∃ (A : Option Addr) (ps : List Pair) (c : Nat), e = .returned (.tuple #[.slice A ps.length c, .int .i64 ((ChoP.parseT l).at_ : Int), .int .i64 (ChoP.parseT l).err]) ∧ cho ps = (ChoP.parseT l).l ∧ Chos w' w'.heap.size A ps ∧ ps.length ≤ c ∧ c ≤ 9223372036854775807 ∧ Below w.heap.size w w'
theorem rparse_ret {w wr : World} {l : List UInt8} {k : Nat} {er : Int} (hb : Below w.heap.size w wr) (hres : ChoP.parseT l = ⟨[], k, er⟩) : RParsePost l w (.returned (.tuple #[.slice none 0 0, .int .i64 (k : Int), .int .i64 er])) wr :=
  ⟨none, [], 0, by rw [hres]; rfl, by rw [hres]; rfl, chos_nil _ _ _, Nat.le_refl _, by omega, hb⟩
set_option maxRecDepth 100000 in
set_option maxHeartbeats 8000000 in
theorem refParseT_any (s : ByteArray) (w : World) (hs : s.size ≤ 1000000) : Calls Tryz.prog 16 #[.string s] w (RParsePost s.data.toList w) := by
  obtain ⟨i0, hi0, hz0, hz1, hz2⟩ := info_parts info_cho
  have hsl : s.data.toList.length = s.size := by simp
  have HSL := Lib.hid hsl
  clear hsl
  go_enter Tryz.func16, Tryz.ntmps16
  go_wp2_with fail
  go_loopw [5, 6] (fun v at_ wr => ∃ (ps : List Pair) (k f : Nat), at_ = .int .i64 k ∧ k ≤ s.size ∧ ChoP.parseF f s.data.toList (cho ps, k) = ChoP.parseT s.data.toList ∧ s.size + 1 ≤ f + k ∧ ChoP.errNew (cho ps) = 0 ∧ RL wr w.heap.size v ps ∧ Below w.heap.size w wr) (fun _ i _ => s.size - (intOf i).toNat)
  case atStart => exact ⟨[], 0, s.size + 1, rfl, by omega, by unfold ChoP.parseT; rw [HSL.out]; rfl, by omega, rfl, ⟨⟨rfl, .inl ⟨rfl, rfl⟩⟩, by simp⟩, Below.refl _ _⟩
  case round =>
    obtain ⟨ps, k, f, rfl, hk, hpf, hf, hen, hrl, hbw⟩ := hrel
    have HPF := Lib.hid hpf
    have HEN := Lib.hid hen
    have HRL := Lib.hid hrl
    have HBW := Lib.hid hbw
    have HOLD := Lib.hid (own_lt hrl.own)
    have hsz := hbw.size
    have hps : ps.length ≤ 96 := by
      have h1 := ChoP.errNew_le hen
      simpa [cho] using h1
    obtain ⟨g, rfl⟩ : ∃ g, f = g + 1 := ⟨f - 1, by omega⟩
    clear hpf hen hrl hbw
    by_cases hlt : k < s.size
    · go_wp2_with fail
      obtain ⟨wo, hwo⟩ : ∃ wo : World, wo = wr := ⟨_, rfl⟩
      subst hwo
      go_loopw [7] (fun e wi => ∃ n : Nat, e = .int .i64 n ∧ k ≤ n ∧ n ≤ s.size ∧ n - k ≤ (ChoP.lineAt s.data.toList k).length ∧ wi = wo) (fun i _ => s.size - (intOf i).toNat)
      case atStart => exact ⟨k, rfl, Nat.le_refl _, hk, by omega, rfl⟩
      case round =>
        obtain ⟨n, rfl, hkn, hns, hm, rfl⟩ := hrel
        have HM := Lib.hid hm
        clear hm
        have hkn0 : (0 : Int) ≤ (n : Int) := by omega
        have hkn1 : (k : Int) ≤ (n : Int) := by omega
        by_cases hlt2 : n < s.size
        · by_cases hx : s[n] = 10
          · have hx2 : ((s[n].toNat : Int) == 10) = true := by rw [hx]; rfl
            have hle := ChoP.line_end hkn HM.out (.inr ⟨hlt2, hx⟩)
            have hde := ChoP.line_cut hle
            have hp0 : ∀ e : Int, ChoP.errLine (cho ps) (ChoP.lineAt s.data.toList k) = e → e ≠ 0 → ChoP.parseT s.data.toList = ⟨[], k, e⟩ := fun e he h0 => by
              rw [← HPF.out]
              exact ChoP.parse_err (by rw [HSL.out]; exact hlt) (by rw [HSL.out]; omega) he h0
            have hp1 : ∀ c, ChoP.errLine (cho ps) (ChoP.lineAt s.data.toList k) = 0 → ChoP.lineC (ChoP.lineAt s.data.toList k) = some c → ChoP.parseF g s.data.toList (cho ps ++ [c], n + 1) = ChoP.parseT s.data.toList := fun c he hc => by
              rw [← HPF.out, ChoP.parse_ok (by rw [HSL.out]; exact hlt) (by rw [HSL.out]; omega) he hc, hle, show k + (n - k) + 1 = n + 1 by omega]
            have hlr := ChoP.lineC_ref (ChoP.lineAt s.data.toList k)
            have hsp := fun W => refSplit_any (s.extract k n) W (by rw [ByteArray.size_extract]; omega)
            rw [hde] at hsp
            generalize ChoP.lineAt s.data.toList k = ln at *
            have hll : ln.length ≤ 1000000 := by omega
            have hcnt := ChoP.split_cnt 32 ln
            have hprt : ∀ x ∈ ChoP.splitC 32 ln, x.length ≤ 1000000 := fun x hx => by have := ChoP.split_part 32 ln x hx; omega
            obtain ⟨x, rs, hxr⟩ : ∃ x rs, ChoP.splitC 32 ln = x :: rs := by
              cases h : ChoP.splitC 32 ln with
              | nil => exact absurd h (ChoP.splitC_ne 32 ln)
              | cons x rs => exact ⟨x, rs, rfl⟩
            unfold SplitPost at hsp
            rw [hxr] at hsp hlr hcnt hprt
            have HSP := Lib.hid hsp
            have HLR := Lib.hid hlr
            have HP0 := Lib.hid hp0
            have HP1 := Lib.hid hp1
            have HPRT := Lib.hid hprt
            have hrl : rs.length + 1 ≤ ln.length + 1 := by simpa using hcnt
            clear hsp hlr hp0 hp1 hprt hde hx HPF HM hxr hcnt
            go_wp2_with fail
            refine (HSP.out _).mono ?_
            rintro e w1 ⟨v, rfl, hwd, hb1⟩
            obtain ⟨A1, c1, rfl, hc1, hm1, hsl1⟩ := own_form hwd
            have hpc := refParse_any false A1 c1 x rs w1 hsl1.2 (by simpa using hc1) hm1 HPRT.out (by omega)
            rw [show ChoP.refP false (x :: rs) = ChoP.lineC ln by rw [HLR.out]; rfl] at hpc
            have HPC := Lib.hid hpc
            have HB1 := Lib.hid hb1
            have hsz1 := hb1.size
            clear hpc hsl1 hwd hc1 hb1 HLR
            go_wp2_with fail
            refine HPC.out.mono ?_
            rintro e w2 ⟨r, rfl, hrow, hb2⟩
            obtain ⟨⟨kd, ka, kb, kn⟩, rt, rd, rp, rn, rc⟩ := r
            have e1 : choV ⟨⟨kd, ka, kb, kn⟩, rt, rd, rp, rn, rc⟩ = .agg #[.int .u8 kd, .int .i64 ka, .int .i64 kb, .int .i64 kn, .int .i64 rt, .int .i64 rd, .slice rp rn rc] := rfl
            rw [e1]
            have hsz2 := hb2.size
            have hb12 := HB1.out.trans (hb2.mono hsz1)
            have hw2 := HBW.out.trans (hb12.mono hsz)
            have hrl2 := HRL.out.below hb12
            have HROW := Lib.hid hrow
            have HW2 := Lib.hid hw2
            have HRL2 := Lib.hid hrl2
            clear hb2 hb12 hw2 hrl2 hrow e1 HPC HSP HRL
            have hne : ¬ (n = s.size) := by omega
            have hne2 : ((n : Int) == (s.size : Int)) = false := by rw [beq_eq_false_iff_ne]; omega
            cases hlc : ChoP.lineC ln with
            | none =>
              have hres := HP0.out 6 (ChoP.err_form hlc) (by decide)
              have HRES := Lib.hid hres
              clear hres HP0 HP1 hlc HROW
              go_wp2_with fail
              go_ret3
              exact rparse_ret (HW2.out.alloc HW2.out.size _) HRES.out
            | some c =>
              have hr := HROW.out c hlc
              obtain ⟨ck, ct, cd, ar⟩ := c
              obtain rfl : ⟨kd, ka, kb, kn⟩ = ck := hr.1.key
              obtain rfl : rt = ct := hr.1.t
              obtain rfl : rd = cd := hr.1.d
              obtain rfl : rn = ar.length := hr.1.n
              have hrn : ar.length ≤ 9223372036854775807 := Nat.le_trans hr.1.c hr.1.m
              have hvd := fun W => refValid_any ⟨⟨kd, ka, kb, kn⟩, rt, rd, rp, ar.length, rc⟩ W hrn
              have e1 : choV ⟨⟨kd, ka, kb, kn⟩, rt, rd, rp, ar.length, rc⟩ = .agg #[.int .u8 kd, .int .i64 ka, .int .i64 kb, .int .i64 kn, .int .i64 rt, .int .i64 rd, .slice rp ar.length rc] := rfl
              rw [e1] at hvd
              have e2 : ChoP.choOK (⟨⟨kd, ka, kb, kn⟩, rt, rd, rp, ar.length, rc⟩ : Row).key rt rd ar.length = ChoP.okC ⟨⟨kd, ka, kb, kn⟩, rt, rd, ar⟩ := rfl
              have hvd2 : ∀ W, Calls Tryz.prog 49 #[.agg #[.int .u8 kd, .int .i64 ka, .int .i64 kb, .int .i64 kn, .int .i64 rt, .int .i64 rd, .slice rp ar.length rc]] W (BoolPost (ChoP.okC ⟨⟨kd, ka, kb, kn⟩, rt, rd, ar⟩) W) := hvd
              have HVD := Lib.hid hvd2
              have HLC := Lib.hid hlc
              have HROW2 := Lib.hid hr
              clear hvd hvd2 e1 e2 hlc hr HROW
              go_wp2_with fail
              refine (HVD.out _).mono ?_
              rintro e w3 ⟨rfl, hb3⟩
              rw [World.size_alloc] at hb3
              have hbk := (hb3.block w2.heap.size (by omega)).trans (heap_alloc_new w2 _)
              have hb23 : Below w2.heap.size w2 w3 := ((Below.refl _ _).alloc (Nat.le_refl _) _).trans (hb3.mono (by omega))
              have hsz3 : w2.heap.size + 1 ≤ w3.heap.size := by have := hb3.size; rw [World.size_alloc] at this; exact this
              obtain ⟨⟨k0, k1, k2, k3, k4, k5, k6⟩, _⟩ := blk7 hbk
              have HBK := Lib.hid hbk
              have HROW3 : Hid (RowIs w3 w3.heap.size ⟨⟨kd, ka, kb, kn⟩, rt, rd, rp, ar.length, rc⟩ ⟨⟨kd, ka, kb, kn⟩, rt, rd, ar⟩) := Lib.hid (HROW2.out.1.below hb23 (by omega))
              have HRL3 := Lib.hid (HRL2.out.below hb23)
              have HW3 := Lib.hid (HW2.out.trans (hb23.mono (by omega)))
              have HNEW : Hid (∀ b o, rp = some ⟨b, o, none⟩ → w1.heap.size ≤ b ∧ b < w2.heap.size) := Lib.hid (fun b o e => HROW2.out.2 b o e)
              clear hb3 hbk hb23 HVD HROW2 HRL2 HW2
              cases hok : ChoP.okC ⟨⟨kd, ka, kb, kn⟩, rt, rd, ar⟩
              · have hres := HP0.out 1 (ChoP.err_arg HLC.out hok) (by decide)
                have HRES := Lib.hid hres
                clear hres HP0 HP1 hok
                go_wp2_with fail
                go_ret3
                exact rparse_ret HW3.out HRES.out
              · obtain ⟨A3, c3, rfl, hcc3, hcm3, hsl3⟩ := own_form HRL3.out.own
                have hch : Chos w3 w3.heap.size A3 ps := ⟨hsl3.2, fun q hq => (HRL3.out.row q hq).1⟩
                have hfd := refFind_any A3 ps c3 ⟨kd, ka, kb, kn⟩ w3 hch (by omega)
                have e2 : keyV ⟨kd, ka, kb, kn⟩ = .agg #[.int .u8 kd, .int .i64 ka, .int .i64 kb, .int .i64 kn] := rfl
                rw [e2] at hfd
                have hfh := ChoP.findI_has (cho ps) ⟨kd, ka, kb, kn⟩
                have hfn := ChoP.findI_neg (cho ps) ⟨kd, ka, kb, kn⟩
                generalize ChoP.findI (cho ps) ⟨kd, ka, kb, kn⟩ = fi at *
                have HFD := Lib.hid hfd
                have HFH := Lib.hid hfh
                have HOK := Lib.hid hok
                clear hsl3 hch hfd hfh e2 hok
                go_wp2_with fail
                refine HFD.out.mono ?_
                rintro e w4 ⟨rfl, hb4⟩
                have hsz4 := hb4.size
                have hbk4 := (hb4.block w2.heap.size (by omega)).trans HBK.out
                obtain ⟨⟨k0', k1', k2', k3', k4', k5', k6'⟩, _⟩ := blk7 hbk4
                have HROW4 := Lib.hid (HROW3.out.below hb4 hsz4)
                have HRL4 := Lib.hid (HRL3.out.below hb4)
                have HW4 := Lib.hid (HW3.out.trans (hb4.mono (by omega)))
                clear hb4 hbk4 k0 k1 k2 k3 k4 k5 k6 HBK HROW3 HRL3 HW3 HFD
                by_cases hge : 0 ≤ fi
                · have hg := HFH.out.1 hge
                  have hres := HP0.out 5 (ChoP.err_dup HLC.out HOK.out hg) (by decide)
                  have HRES := Lib.hid hres
                  clear hres HP0 HP1 hg
                  go_wp2_with fail
                  go_ret3
                  exact rparse_ret HW4.out HRES.out
                · have hg : ((cho ps).any fun x => ChoP.eqB x.key ⟨kd, ka, kb, kn⟩) = false := by
                    cases h : ((cho ps).any fun x => ChoP.eqB x.key ⟨kd, ka, kb, kn⟩)
                    · rfl
                    · exact absurd (HFH.out.2 h) hge
                  have HG := Lib.hid hg
                  clear hg HFH
                  by_cases hfull : ps.length = 96
                  · have hres := HP0.out 3 (ChoP.err_full HLC.out HOK.out HG.out (by simp [cho]; omega)) (by decide)
                    have HRES := Lib.hid hres
                    have hf2 : ((ps.length : Int) == 96) = true := by rw [beq_iff_eq]; omega
                    clear hres HP0 HP1
                    go_wp2_with fail
                    go_ret3
                    exact rparse_ret HW4.out HRES.out
                  · have hen := ChoP.errNew_app HEN.out HOK.out HG.out (by simp [cho]; omega)
                    have hnx := HP1.out _ (ChoP.err_none HLC.out HOK.out HG.out (by simp [cho]; omega)) HLC.out
                    have hf2 : ((ps.length : Int) == 96) = false := by rw [beq_eq_false_iff_ne]; omega
                    have HEN4 := Lib.hid hen
                    have HNX := Lib.hid hnx
                    clear hen hnx HP0 HP1 HEN HG HOK HLC
                    go_wp2_with (at_builtin; refine wpList_append_lie rfl _ _ 22 rfl w.heap.size 59 i0 _ 7 72 Tryz.underlying22 hi0 hz0 hz1 hz2 rfl (by decide) (.slice A3 ps.length c3) ps.length (cellsP ps) rfl ?a1 (w4.heap.size + 1) (some ⟨w4.heap.size, 0, none⟩) 1 1 (Row.vs ⟨⟨kd, ka, kb, kn⟩, rt, rd, rp, ar.length, rc⟩) rfl ?a2 ?a3 ?a4 ?a5 ?a6 ?_)
                    case a1 => exact HRL4.out.own.alloc _
                    case a2 => exact newR w4 ⟨⟨kd, ka, kb, kn⟩, rt, rd, rp, ar.length, rc⟩
                    case a3 => simp [Value.oneCell', Row.vs]
                    case a4 => unfold maxLen; omega
                    case a5 => omega
                    case a6 => first | (rw [World.size_alloc]; omega) | omega | (simp; omega)
                    intro v7 w7 hown7 hgrow7 hat7
                    have hfar := own_ge HRL4.out.own
                    have hlow : ∀ z, (Value.slice A3 ps.length c3).ownBlock = some z → z < wr.heap.size := HOLD.out
                    have hb7 : Below w.heap.size w w7 := (HW4.out.alloc HW4.out.size _).grown hgrow7 (by rw [World.size_alloc]; omega) hfar
                    have hrl7 := RL.snoc HRL4.out HROW4.out (fun b o e => by have h1 := HNEW.out b o e; exact ⟨by omega, by omega, fun e2 => by have h3 := hlow b e2.symm; omega⟩) hown7 hgrow7 hat7
                    have HB7 := Lib.hid hb7
                    have HRL7 := Lib.hid hrl7
                    clear hfar hlow hb7 hrl7 hown7 hgrow7 hat7 k0' k1' k2' k3' k4' k5' k6'
                    go_wp2_with fail
                    go_roundw
                    case rel => exact ⟨ps ++ [(⟨⟨kd, ka, kb, kn⟩, rt, rd, rp, ar.length, rc⟩, ⟨⟨kd, ka, kb, kn⟩, rt, rd, ar⟩)], n + 1, g, by go_num, by omega, by rw [rcho_app1]; exact HNX.out, by omega, by rw [rcho_app1]; exact HEN4.out, HRL7.out, HB7.out⟩
                    case measure => simp [intOf]; omega
          · have hx2 : ((s[n].toNat : Int) == 10) = false := by
              rw [beq_eq_false_iff_ne]
              intro e
              have e2 : s[n].toNat = 10 := by omega
              exact hx (UInt8.toNat_inj.1 e2)
            have hst := ChoP.line_step hlt2 hkn HM.out hx
            have HST := Lib.hid hst
            clear hst hx
            go_wp2_with fail
            go_roundw
            case rel => exact ⟨n + 1, by go_num, by omega, by omega, HST.out, by first | rfl | trivial⟩
            case measure => simp [intOf]; omega
        · obtain rfl : n = s.size := by omega
          have hle := ChoP.line_end hkn HM.out (.inl (Nat.le_refl _))
          have hde := ChoP.line_cut hle
          have hres : ChoP.parseT s.data.toList = ⟨[], k, 6⟩ := by
            rw [← HPF.out]
            exact ChoP.parse_none (by rw [HSL.out]; exact hlt) (by rw [HSL.out]; omega)
          have hsp := fun W => refSplit_any (s.extract k s.size) W (by rw [ByteArray.size_extract]; omega)
          rw [hde] at hsp
          generalize ChoP.lineAt s.data.toList k = ln at *
          have hcnt := ChoP.split_cnt 32 ln
          have hprt : ∀ x ∈ ChoP.splitC 32 ln, x.length ≤ 1000000 := fun x hx => by have := ChoP.split_part 32 ln x hx; omega
          obtain ⟨x, rs, hxr⟩ : ∃ x rs, ChoP.splitC 32 ln = x :: rs := by
            cases h : ChoP.splitC 32 ln with
            | nil => exact absurd h (ChoP.splitC_ne 32 ln)
            | cons x rs => exact ⟨x, rs, rfl⟩
          unfold SplitPost at hsp
          rw [hxr] at hsp hcnt hprt
          have HSP := Lib.hid hsp
          have HRES := Lib.hid hres
          have HPRT := Lib.hid hprt
          have hrl : rs.length + 1 ≤ ln.length + 1 := by simpa using hcnt
          clear hsp hres hprt hde HPF HM hxr hcnt
          go_wp2_with fail
          refine (HSP.out _).mono ?_
          rintro e w1 ⟨v, rfl, hwd, hb1⟩
          obtain ⟨A1, c1, rfl, hc1, hm1, hsl1⟩ := own_form hwd
          have hpc := refParse_any false A1 c1 x rs w1 hsl1.2 (by simpa using hc1) hm1 HPRT.out (by omega)
          have HPC := Lib.hid hpc
          have HB1 := Lib.hid hb1
          have hsz1 := hb1.size
          clear hpc hsl1 hwd hc1 hb1
          go_wp2_with fail
          refine HPC.out.mono ?_
          rintro e w2 ⟨r, rfl, hrow, hb2⟩
          obtain ⟨⟨kd, ka, kb, kn⟩, rt, rd, rp, rn, rc⟩ := r
          have e1 : choV ⟨⟨kd, ka, kb, kn⟩, rt, rd, rp, rn, rc⟩ = .agg #[.int .u8 kd, .int .i64 ka, .int .i64 kb, .int .i64 kn, .int .i64 rt, .int .i64 rd, .slice rp rn rc] := rfl
          rw [e1]
          have hsz2 := hb2.size
          have HW2 := Lib.hid (HBW.out.trans ((HB1.out.trans (hb2.mono hsz1)).mono hsz))
          have hne2 : ((s.size : Int) == (s.size : Int)) = true := by simp
          clear hb2 hrow e1 HPC HSP HRL
          cases ho : (ChoP.refP false (x :: rs)).isSome
          all_goals
            go_wp2_with fail
            go_ret3
            exact rparse_ret (HW2.out.alloc HW2.out.size _) HRES.out
    · obtain rfl : k = s.size := by omega
      have hres : ChoP.parseT s.data.toList = ⟨ChoP.setL (cho ps), 0, 0⟩ := by
        rw [← HPF.out]
        exact ChoP.parse_end (by rw [HSL.out]; exact Nat.le_refl _)
      obtain ⟨A3, c3, rfl, hcc3, hcm3, hsl3⟩ := own_form HRL.out.own
      have hch : Chos wr wr.heap.size A3 ps := ⟨hsl3.2, fun q hq => (HRL.out.row q hq).1⟩
      have hnew := refNew_any A3 ps c3 wr hch (by omega) hcc3 hcm3
      have HNEW := Lib.hid hnew
      have HRES := Lib.hid hres
      clear hsl3 hch hnew hres HPF
      go_wp2_with fail
      refine HNEW.out.mono ?_
      rintro e w2 ⟨A, ss, c, rfl, hss, hcs, hsc, hsc2, hfr, hb2⟩
      have hf : RParsePost s.data.toList w (.returned (.tuple #[.slice A ss.length c, .int .i64 0, .int .i64 0])) w2 := ⟨A, ss, c, by rw [HRES.out]; rfl, by rw [HRES.out, hss], hcs, hsc, hsc2, HBW.out.trans (hb2.mono hsz)⟩
      have HF := Lib.hid hf
      clear hss hcs hb2 hfr HNEW hf
      go_wp2_with fail
      go_ret3
      exact HF.out
set_option maxRecDepth 100000 in
set_option maxHeartbeats 4000000 in
theorem refParseKey_any (s : ByteArray) (w : World) (hs : s.size ≤ 1000000) : Calls Tryz.prog 18 #[.string s] w (PKPost (ChoP.parseK s.data.toList).1 (ChoP.parseK s.data.toList).2 w) := by
  have hsl : s.data.toList.length = s.size := by simp
  have hcnt := ChoP.split_cnt 32 s.data.toList
  have hprt : ∀ x ∈ ChoP.splitC 32 s.data.toList, x.length ≤ 1000000 := fun x hx => by have := ChoP.split_part 32 s.data.toList x hx; omega
  have hkr := ChoP.keyC_ref s.data.toList
  have hsp := fun W => refSplit_any s W hs
  have hpk : ChoP.parseK s.data.toList = match ChoP.keyC s.data.toList with | none => (⟨0, 0, 0, 0⟩, 6) | some k => if ChoP.keyOK k = true then (k, 0) else (⟨0, 0, 0, 0⟩, 1) := rfl
  obtain ⟨x, rs, hxr⟩ : ∃ x rs, ChoP.splitC 32 s.data.toList = x :: rs := by
    cases h : ChoP.splitC 32 s.data.toList with
    | nil => exact absurd h (ChoP.splitC_ne 32 _)
    | cons x rs => exact ⟨x, rs, rfl⟩
  unfold SplitPost at hsp
  rw [hxr] at hsp hkr hcnt hprt
  have hrl : rs.length ≤ 1000000 := by
    have : rs.length + 1 ≤ s.data.toList.length + 1 := by simpa using hcnt
    omega
  have HSP := Lib.hid hsp
  have HPK := Lib.hid hpk
  have HKR := Lib.hid hkr
  have HPRT := Lib.hid hprt
  clear hsp hpk hkr hprt hcnt hxr hsl
  generalize ChoP.parseK s.data.toList = pk at *
  generalize ChoP.keyC s.data.toList = kc at *
  go_enter Tryz.func18, Tryz.ntmps18
  go_wp2_with fail
  refine (HSP.out _).mono ?_
  rintro e w1 ⟨v, rfl, hwd, hb1⟩
  have hz1 : w1.heap[w.heap.size]? = some (.cells #[.int .u8 0, .int .i64 0, .int .i64 0, .int .i64 0] 44 (0, 0)) := (hb1.block _ (by rw [World.size_alloc]; omega)).trans (heap_alloc_new w _)
  have hb1' : Below w.heap.size w w1 := ((Below.refl _ _).alloc (Nat.le_refl _) _).trans (hb1.mono (by rw [World.size_alloc]; omega))
  have hs1 := hb1.size
  rw [World.size_alloc] at hs1
  obtain ⟨A1, c1, rfl, hc1, hm1, hsl1⟩ := own_form hwd
  have hpc := refParse_any true A1 c1 x rs w1 hsl1.2 (by simpa using hc1) hm1 HPRT.out hrl
  rw [show ChoP.refP true (x :: rs) = kc.map fun k => ⟨k, 0, 0, []⟩ by rw [HKR.out]; rfl] at hpc
  have HPC := Lib.hid hpc
  have HB1 := Lib.hid hb1'
  have HZ1 := Lib.hid hz1
  clear hpc hsl1 hwd hc1 hb1 hb1' hz1 HKR
  go_wp2_with fail
  refine HPC.out.mono ?_
  rintro e w2 ⟨r, rfl, hrow, hb2⟩
  obtain ⟨⟨kd, ka, kb, kn⟩, rt, rd, rp, rn, rc⟩ := r
  have e1 : choV ⟨⟨kd, ka, kb, kn⟩, rt, rd, rp, rn, rc⟩ = .agg #[.int .u8 kd, .int .i64 ka, .int .i64 kb, .int .i64 kn, .int .i64 rt, .int .i64 rd, .slice rp rn rc] := rfl
  rw [e1]
  have hz2 := (hb2.block w.heap.size (by omega)).trans HZ1.out
  have hb2' := HB1.out.trans (hb2.mono (by omega))
  have hs2 := hb2.size
  have hzl : w.heap.size < w2.heap.size := by omega
  have HB2 := Lib.hid hb2'
  have HZ2 := Lib.hid hz2
  obtain ⟨z0, z1, z2, z3⟩ := blk4 hz2
  have y0 := frozen_at hz2 0
  have y1 := frozen_at hz2 1
  have y2 := frozen_at hz2 2
  have y3 := frozen_at hz2 3
  clear hb2 hb2' hz2 e1 HZ1 HPC HSP
  cases kc with
  | none =>
    have hpk := HPK.out
    dsimp only at hpk
    have HPK2 := Lib.hid hpk
    clear hpk HPK hrow
    go_wp2_with fail
    rw [HPK2.out]
    exact bodyPost_ret (v := .tuple #[keyV ⟨0, 0, 0, 0⟩, .int .i64 6]) (by simp [results, Tryz.results18, go_sem, World.cell?_alloc_lt, World.size_setCell, hzl, z0, z1, z2, z3, keyV]) rfl ⟨rfl, (below_set4 HB2.out _ _ _ _).alloc (by simp only [World.size_setCell]; omega) _⟩
  | some k =>
    obtain rfl : (⟨kd, ka, kb, kn⟩ : ChoP.Key) = k := (hrow _ rfl).1.key
    have hpk := HPK.out
    dsimp only at hpk
    have HPK2 := Lib.hid hpk
    have hvk := fun W => validKey_any ⟨kd, ka, kb, kn⟩ W
    have e2 : keyV ⟨kd, ka, kb, kn⟩ = .agg #[.int .u8 kd, .int .i64 ka, .int .i64 kb, .int .i64 kn] := rfl
    rw [e2] at hvk
    have HVK := Lib.hid hvk
    clear hpk HPK hrow hvk e2
    go_wp2_with fail
    refine (HVK.out _).mono ?_
    rintro e w5 ⟨rfl, hb5⟩
    rw [World.size_alloc] at hb5
    have hba := heap_alloc_new w2 (.cells #[.int .u8 kd, .int .i64 ka, .int .i64 kb, .int .i64 kn, .int .i64 rt, .int .i64 rd, .slice rp rn rc] 59)
    have hbk := (hb5.block w2.heap.size (by omega)).trans hba
    have hbz := (hb5.block w.heap.size (by omega)).trans ((heap_alloc_old w2 _ hzl).trans HZ2.out)
    obtain ⟨⟨k0, k1, k2, k3, k4, k5, k6⟩, _⟩ := blk7 hbk
    clear z0 z1 z2 z3 y0 y1 y2 y3
    obtain ⟨z0, z1, z2, z3⟩ := blk4 hbz
    have y0 := frozen_at hbz 0
    have y1 := frozen_at hbz 1
    have y2 := frozen_at hbz 2
    have y3 := frozen_at hbz 3
    have HB5 := Lib.hid ((HB2.out.alloc HB2.out.size _).trans (hb5.mono (by omega)))
    clear hb5 hba hbk hbz HVK
    have hneq : w2.heap.size ≠ w.heap.size := by omega
    cases hok : ChoP.keyOK ⟨kd, ka, kb, kn⟩
    · have hpk := HPK2.out
      rw [hok, if_neg (by simp)] at hpk
      have HPK3 := Lib.hid hpk
      clear hpk HPK2
      go_wp2_with fail
      rw [HPK3.out]
      exact bodyPost_ret (v := .tuple #[keyV ⟨0, 0, 0, 0⟩, .int .i64 1]) (by simp [results, Tryz.results18, go_sem, z0, z1, z2, z3, keyV]) rfl ⟨rfl, below_set4 HB5.out _ _ _ _⟩
    · have hpk := HPK2.out
      rw [hok, if_pos rfl] at hpk
      have HPK3 := Lib.hid hpk
      clear hpk HPK2
      go_wp2_with fail
      rw [HPK3.out]
      exact bodyPost_ret (v := .tuple #[keyV ⟨kd, ka, kb, kn⟩, .int .i64 0]) (by simp [results, Tryz.results18, go_sem, z0, z1, z2, z3, keyV]) rfl ⟨rfl, below_set4 HB5.out _ _ _ _⟩
end Go.Proofs.YtpniilgkceadeaaGreatDoor
