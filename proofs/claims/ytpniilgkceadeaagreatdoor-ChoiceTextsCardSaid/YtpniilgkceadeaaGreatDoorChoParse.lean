/- choice.Parse: a set out of a text. -/
import Derived.Test.YtpniilgkceadeaaGreatDoorChoSplit
import Derived.Test.YtpniilgkceadeaaGreatDoorChoParseP
import Derived.Test.YtpniilgkceadeaaGreatDoorChoMap
import Derived.Test.YtpniilgkceadeaaGreatDoorChoRL
import Derived.Test.YtpniilgkceadeaaGreatDoorChoRefIns
import Derived.Test.YtpniilgkceadeaaGreatDoorChoNewF
import Derived.Carry
namespace Go.Proofs.YtpniilgkceadeaaGreatDoor
open Go.RowKit Go.Sort
theorem cho_app1 (ps : List Pair) (r : Row) (c : ChoP.Cho) : cho (ps ++ [(r, c)]) = cho ps ++ [c] := by simp [cho]
/-- what Parse returns -/
def ParsePost (l : List UInt8) (w : World) (e : Ending) (w' : World) : Prop :=
  ∃ (A : Option Addr) (ps : List Pair) (c : Nat), e = .returned (.tuple #[.agg #[.slice A ps.length c], .int .i64 ((ChoP.parseT l).at_ : Int), .int .i64 (ChoP.parseT l).err]) ∧ cho ps = (ChoP.parseT l).l ∧ ChoP.IsSet (cho ps) ∧ Chos w' w'.heap.size A ps ∧ ps.length ≤ c ∧ c ≤ 9223372036854775807 ∧ Below w.heap.size w w'
/-- while a text is parsed: the choices so far, the map of their keys, the result's block -/
structure PL (w wr : World) (v : Value) (ps : List Pair) : Prop where
  rl : RL wr (w.heap.size + 2) v ps
  seen : Seen wr (w.heap.size + 1) (cho ps)
  z : wr.heap[w.heap.size]? = some (.cells #[.slice none 0 0] 27 (0, 0))
  below : Below w.heap.size w wr
  laid : LaidP wr
theorem PL.sz {w wr : World} {v : Value} {ps : List Pair} (h : PL w wr v ps) : w.heap.size + 2 ≤ wr.heap.size := by
  obtain ⟨es, clock, hb, _⟩ := h.seen.at_
  have := (Array.getElem?_eq_some_iff.1 hb).1
  omega
theorem PL.next {w wr w2 : World} {v : Value} {ps : List Pair} (h : PL w wr v ps) (hb : Below wr.heap.size wr w2) : PL w w2 v ps := by
  have hs := h.sz
  exact ⟨h.rl.below hb, h.seen.kept (hb.block _ (by omega)), (hb.block _ (by omega)).trans h.z, h.below.trans (hb.mono (by omega)), h.laid.below hb⟩
theorem parse_ret {w wr : World} {l : List UInt8} {k : Nat} {er : Int} (hb : Below w.heap.size w wr) (hres : ChoP.parseT l = ⟨[], k, er⟩) : ParsePost l w (.returned (.tuple #[.agg #[.slice none 0 0], .int .i64 (k : Int), .int .i64 er])) wr :=
  ⟨none, [], 0, by rw [hres]; rfl, by rw [hres]; rfl, ChoP.IsSet.nil, chos_nil _ _ _, Nat.le_refl _, by omega, hb⟩
set_option maxRecDepth 100000 in
set_option maxHeartbeats 8000000 in
theorem parse_any (s : ByteArray) (w : World) (hL : LaidP w) (hs : s.size ≤ 1000000) : Calls Tryz.prog 15 #[.string s] w (ParsePost s.data.toList w) := by
  obtain ⟨i0, hi0, hz0, hz1, hz2⟩ := info_parts info_cho
  have hmm := @run_makeMap Tryz.prog
  have HL := Lib.hid hL
  clear hL
  go_enter Tryz.func15, Tryz.ntmps15
  go_wp2_with fail
  have hsl : s.data.toList.length = s.size := by simp
  have hstart : PL w ((w.alloc (.cells #[.slice none 0 0] 27)).alloc (.map #[] 0)) (.slice none 0 0) [] := by
    refine ⟨⟨⟨rfl, .inl ⟨rfl, rfl⟩⟩, by simp⟩, ?_, (heap_alloc_old _ _ (by simp)).trans (heap_alloc_new w _), ((Below.refl _ _).alloc (Nat.le_refl _) _).alloc (by simp) _, ?_⟩
    · have := Seen.made (w.alloc (.cells #[.slice none 0 0] 27))
      rwa [World.size_alloc] at this
    · exact HL.out.below (((Below.refl _ _).alloc (Nat.le_refl _) _).alloc (by simp) _)
  have HST := Lib.hid hstart
  have HSL := Lib.hid hsl
  clear hstart hsl hmm
  go_loopw [5, 7] (fun v at_ wr => ∃ (ps : List Pair) (k f : Nat), at_ = .int .i64 k ∧ k ≤ s.size ∧ ChoP.parseF f s.data.toList (cho ps, k) = ChoP.parseT s.data.toList ∧ s.size + 1 ≤ f + k ∧ ChoP.errNew (cho ps) = 0 ∧ PL w wr v ps) (fun _ i _ => s.size - (intOf i).toNat)
  case atStart => exact ⟨[], 0, s.size + 1, rfl, by omega, by unfold ChoP.parseT; rw [HSL.out]; rfl, by omega, rfl, HST.out⟩
  case round =>
    clear HST
    obtain ⟨ps, k, f, rfl, hk, hpf, hf, hen, hpl⟩ := hrel
    have HPF := Lib.hid hpf
    have HEN := Lib.hid hen
    have HPL := Lib.hid hpl
    have hsz := hpl.sz
    have hps : ps.length ≤ 96 := by
      have h1 := ChoP.errNew_le hen
      simpa [cho] using h1
    obtain ⟨g, rfl⟩ : ∃ g, f = g + 1 := ⟨f - 1, by omega⟩
    clear hpf hen hpl
    by_cases hlt : k < s.size
    · have hd : (s.extract k s.size).data.toList = s.data.toList.drop k := Lib.extract_to_end s k
      have hix := fun W => Tryz.strings_IndexByte (s.extract k s.size) 10 W
      rw [hd, show ((10 : Int).toNat.toUInt8) = 10 from rfl] at hix
      have hla : ChoP.lineAt s.data.toList k = (s.data.toList.drop k).takeWhile (· != 10) := rfl
      have hdl : (s.data.toList.drop k).length = s.size - k := by rw [List.length_drop, HSL.out]
      obtain ⟨⟨z0, _⟩, y0⟩ : ((wr.cell? ⟨w.heap.size, 0, none⟩ = some (.slice none 0 0)) ∧ True) ∧ wr.frozen? ⟨w.heap.size, 0, none⟩ = false := ⟨⟨cell_at HPL.out.z 0 _ rfl, trivial⟩, frozen_at HPL.out.z 0⟩
      rcases ChoP.idx_line (s.data.toList.drop k) with ⟨e1, e2⟩ | ⟨e1, e2⟩
      · rw [e1] at hix
        have hres : ChoP.parseT s.data.toList = ⟨[], k, 6⟩ := by
          rw [← HPF.out]
          exact ChoP.parse_none (by rw [HSL.out]; exact hlt) (by rw [hla, e2, hdl, HSL.out]; omega)
        have HIX := Lib.hid hix
        have HRES := Lib.hid hres
        clear hix hla hdl hd e1 e2 hres HPF HEN
        go_wp2_with fail
        refine (HIX.out _).mono ?_
        rintro e w' ⟨rfl, rfl⟩
        go_wp2_with fail
        exact bodyPost_ret (v := .tuple #[.agg #[.slice none 0 0], .int .i64 (k : Int), .int .i64 6]) (by simp [results, Tryz.results15, go_sem, z0]) rfl (parse_ret (HPL.out.below.setCell (Nat.le_refl _) _) HRES.out)
      · rw [e1] at hix
        rw [← hla] at hix e2
        have hln : (ChoP.lineAt s.data.toList k).length < s.size - k := by omega
        have hde : (s.extract k (k + (ChoP.lineAt s.data.toList k).length)).data.toList = ChoP.lineAt s.data.toList k := by
          rw [Lib.extract_data, show k + (ChoP.lineAt s.data.toList k).length - k = (ChoP.lineAt s.data.toList k).length by omega, hla]
          exact ChoP.takeWhile_take _
        have hp0 : ∀ e : Int, ChoP.errLine (cho ps) (ChoP.lineAt s.data.toList k) = e → e ≠ 0 → ChoP.parseT s.data.toList = ⟨[], k, e⟩ := fun e he h0 => by
          rw [← HPF.out]
          exact ChoP.parse_err (by rw [HSL.out]; exact hlt) (by rw [HSL.out]; omega) he h0
        have hp1 : ∀ c, ChoP.errLine (cho ps) (ChoP.lineAt s.data.toList k) = 0 → ChoP.lineC (ChoP.lineAt s.data.toList k) = some c → ChoP.parseF g s.data.toList (cho ps ++ [c], k + (ChoP.lineAt s.data.toList k).length + 1) = ChoP.parseT s.data.toList := fun c he hc => by
          rw [← HPF.out]
          exact (ChoP.parse_ok (by rw [HSL.out]; exact hlt) (by rw [HSL.out]; omega) he hc).symm
        generalize ChoP.lineAt s.data.toList k = ln at *
        have hsp := fun W (hW : LaidP W) => split_any (s.extract k (k + ln.length)) W hW (by rw [ByteArray.size_extract]; omega)
        rw [hde] at hsp
        have hlc : ChoP.lineC ln = if (ChoP.choS ⟨ChoP.splitC 32 ln, false⟩).2.bad = true then none else some (ChoP.choS ⟨ChoP.splitC 32 ln, false⟩).1 := rfl
        have hcs : (ChoP.choS ⟨ChoP.splitC 32 ln, false⟩).1 = ⟨(ChoP.keyS ⟨ChoP.splitC 32 ln, false⟩).1, (ChoP.choT ⟨ChoP.splitC 32 ln, false⟩).1, (ChoP.choD ⟨ChoP.splitC 32 ln, false⟩).1, (ChoP.choA ⟨ChoP.splitC 32 ln, false⟩).1⟩ := rfl
        have hkb : KeyB (ChoP.choS ⟨ChoP.splitC 32 ln, false⟩).1.key := by
          have := ChoP.keyS_in ⟨ChoP.splitC 32 ln, false⟩
          exact ⟨⟨this.1.1, by show (ChoP.keyS ⟨ChoP.splitC 32 ln, false⟩).1.kind ≤ 255; omega⟩, this.2.1, this.2.2.1, this.2.2.2⟩
        have hcnt := ChoP.split_cnt 32 ln
        have hprt : ∀ x ∈ ChoP.splitC 32 ln, x.length ≤ 1000000 := fun x hx => by have := ChoP.split_part 32 ln x hx; omega
        have hcl : (ChoP.choA ⟨ChoP.splitC 32 ln, false⟩).1.length ≤ 1000001 := by
          have h1 := ChoP.choD_len ⟨ChoP.splitC 32 ln, false⟩
          have h2 : (ChoP.splitC 32 ln).length ≤ 1000000 := by omega
          unfold ChoP.choA
          split
          · simp [ChoP.argF]
            simp at h1
            omega
          · simp
        have HIX := Lib.hid hix
        have HSP := Lib.hid hsp
        have HLC := Lib.hid hlc
        have HP0 := Lib.hid hp0
        have HP1 := Lib.hid hp1
        clear hix hla hdl hd e1 e2 hde hp0 hp1 hsp hlc hcs HPF hcl
        have hi1 : (0 : Int) ≤ (ln.length : Int) := by omega
        go_wp2_with fail
        refine (HIX.out _).mono ?_
        rintro e w' ⟨rfl, rfl⟩
        go_wp2_with fail
        refine (HSP.out _ HPL.out.laid).mono ?_
        rintro e w1 ⟨rfl, rfl⟩
        obtain ⟨A3, c3, rfl, hcc3, hcm3, hsl3⟩ := own_form HPL.out.rl.own
        have HOLD : Hid (∀ z, (Value.slice A3 ps.length c3).ownBlock = some z → z < w'.heap.size) := Lib.hid (own_lt HPL.out.rl.own)
        have HPRT := Lib.hid hprt
        clear hsl3 hprt
        go_wp2_with fail
        have hblk : (w'.alloc (.cells (strs (ChoP.splitC 32 ln)).toArray 9)).heap[w'.heap.size]? = some (.cells (strs (ChoP.splitC 32 ln)).toArray 9 (0, 0)) := heap_alloc_new w' _
        have hsc := SC.made _ _ (ChoP.splitC 32 ln) hblk HPRT.out (by omega)
        rw [World.size_alloc] at hsc
        have hb3 : Below w'.heap.size w' ((w'.alloc (.cells (strs (ChoP.splitC 32 ln)).toArray 9)).alloc (.cells #[.slice (some ⟨w'.heap.size, 0, none⟩) (ChoP.splitC 32 ln).length (ChoP.splitC 32 ln).length, .bool false] 86)) := ((Below.refl _ _).alloc (Nat.le_refl _) _).alloc (by simp) _
        have hs3 : ((w'.alloc (.cells (strs (ChoP.splitC 32 ln)).toArray 9)).alloc (.cells #[.slice (some ⟨w'.heap.size, 0, none⟩) (ChoP.splitC 32 ln).length (ChoP.splitC 32 ln).length, .bool false] 86)).heap.size = w'.heap.size + 1 + 1 := by simp
        have hch := sChoice_any _ _ _ hsc (HPL.out.laid.below hb3) (HPL.out.laid.low.mono (by omega)) (by show (ChoP.splitC 32 ln).length ≤ _; omega)
        have hlc := HLC.out
        generalize ChoP.splitC 32 ln = ws at *
        generalize ((w'.alloc (.cells (strs ws).toArray 9)).alloc (.cells #[.slice (some ⟨w'.heap.size, 0, none⟩) ws.length ws.length, .bool false] 86)) = w3 at *
        generalize ChoP.choS ⟨ws, false⟩ = cS at *
        obtain ⟨⟨ck, ct, cd, ar⟩, ⟨ws1, bad1⟩⟩ := cS
        dsimp only at hkb hlc
        have HCH := Lib.hid hch
        have HLC2 := Lib.hid hlc
        have HB3 := Lib.hid hb3
        have HKB := Lib.hid hkb
        clear hblk hsc hch hb3 hlc HSP HLC hcnt HPRT hkb HIX
        refine HCH.out.mono ?_
        rintro e w4 ⟨r, rfl, hrow, hnew, hsc4, hg4⟩
        obtain ⟨rk, rt, rd, rp, rn, rc⟩ := r
        obtain rfl : rk = ck := hrow.key
        obtain rfl : rt = ct := hrow.t
        obtain rfl : rd = cd := hrow.d
        obtain rfl : rn = ar.length := hrow.n
        obtain ⟨kd, ka, kb, kn⟩ := rk
        have e1 : choV ⟨⟨kd, ka, kb, kn⟩, rt, rd, rp, ar.length, rc⟩ = .agg #[.int .u8 kd, .int .i64 ka, .int .i64 kb, .int .i64 kn, .int .i64 rt, .int .i64 rd, .slice rp ar.length rc] := rfl
        rw [e1]
        have hb4 : Below w'.heap.size w' w4 := HB3.out.trans ⟨hg4.os, hg4.tape, hg4.output, hg4.size, fun b hb => hg4.block b (by rw [hs3]; omega) (by simp; omega)⟩
        have hrn : ar.length ≤ 9223372036854775807 := Nat.le_trans hrow.c hrow.m
        have hpl4 := HPL.out.next hb4
        obtain ⟨X, c, hblk, hX1, hX2, hX3⟩ := hsc4.at_
        obtain ⟨⟨_, q1⟩, _⟩ := blk2 hblk
        have hq4 := hsc4.lt
        have z4 := cell_at hpl4.z 0 _ rfl
        have y4 := frozen_at hpl4.z 0
        have hck := fun W => check_any ⟨⟨kd, ka, kb, kn⟩, rt, rd, rp, ar.length, rc⟩ W hrn
        rw [e1] at hck
        have hsz4 := hb4.size
        have HCK := Lib.hid hck
        have HPL4 := Lib.hid hpl4
        have HB4 := Lib.hid hb4
        have HROW := Lib.hid hrow
        have hnw : ∀ b o, rp = some ⟨b, o, none⟩ → w'.heap.size ≤ b ∧ b < w4.heap.size := fun b o e => by have := hnew b o e; rw [hs3] at this; omega
        have HNEW := Lib.hid hnw
        clear hb4 hpl4 hblk hX1 hX2 hX3 hsc4 hg4 hck e1 hrow hnew hnw HCH HB3 hs3 z0 y0
        have hlc := HLC2.out
        have hzl : w.heap.size < w4.heap.size := by omega
        cases bad1
        · rw [if_neg (by simp)] at hlc
          have HLC3 := Lib.hid hlc
          clear hlc HLC2
          go_wp2_with fail
          refine (HCK.out _).mono ?_
          rintro e w5 ⟨rfl, hb5⟩
          rw [World.size_alloc] at hb5
          have hbk := (hb5.block w4.heap.size (by omega)).trans (heap_alloc_new w4 _)
          have hb45 : Below w4.heap.size w4 w5 := ((Below.refl _ _).alloc (Nat.le_refl _) _).trans (hb5.mono (by omega))
          have hpl5 := HPL4.out.next hb45
          have z5 := cell_at hpl5.z 0 _ rfl
          have y5 := frozen_at hpl5.z 0
          obtain ⟨⟨k0, k1, k2, k3, k4, k5, k6⟩, _⟩ := blk7 hbk
          have hsz5 := hb45.size
          have hsz45 : w4.heap.size + 1 ≤ w5.heap.size := by have := hb5.size; rw [World.size_alloc] at this; exact this
          have HPL5 := Lib.hid hpl5
          have HBK := Lib.hid hbk
          have HROW5 := Lib.hid (HROW.out.below hb45 hsz5)
          have her : errR ⟨⟨kd, ka, kb, kn⟩, rt, rd, rp, ar.length, rc⟩ = if ChoP.okC ⟨⟨kd, ka, kb, kn⟩, rt, rd, ar⟩ = true then 0 else 1 := rfl
          have HER := Lib.hid her
          clear hb5 hbk hb45 hpl5 q1 z4 y4 HCK HPL4 HROW HPL her
          rw [HER.out]
          have hneq : w4.heap.size ≠ w.heap.size := by omega
          cases hok : ChoP.okC ⟨⟨kd, ka, kb, kn⟩, rt, rd, ar⟩
          · rw [if_neg (by simp)]
            have hres := HP0.out 1 (ChoP.err_arg HLC3.out hok) (by decide)
            have HRES := Lib.hid hres
            clear hres HP0 HP1 HER
            go_wp2_with fail
            exact bodyPost_ret (v := .tuple #[.agg #[.slice none 0 0], .int .i64 (k : Int), .int .i64 1]) (by simp [results, Tryz.results15, go_sem, z5]) rfl (parse_ret (HPL5.out.below.setCell (Nat.le_refl _) _) HRES.out)
          · rw [if_pos rfl]
            have hlk := HPL5.out.seen.look ⟨kd, ka, kb, kn⟩ HKB.out
            cases hg : ((cho ps).any fun x => ChoP.eqB x.key ⟨kd, ka, kb, kn⟩)
            · rw [hg] at hlk
              by_cases hfull : 96 ≤ ps.length
              · have hres := HP0.out 3 (ChoP.err_full HLC3.out hok hg (by simpa [cho] using hfull)) (by decide)
                have HRES := Lib.hid hres
                clear hres HP0 HP1 HER hg hok
                go_wp2_with fail
                exact bodyPost_ret (v := .tuple #[.agg #[.slice none 0 0], .int .i64 (k : Int), .int .i64 3]) (by simp [results, Tryz.results15, go_sem, z5]) rfl (parse_ret (HPL5.out.below.setCell (Nat.le_refl _) _) HRES.out)
              · have hen := ChoP.errNew_app HEN.out hok hg (by simp [cho]; omega)
                have hnx := HP1.out _ (ChoP.err_none HLC3.out hok hg (by simp [cho]; omega)) HLC3.out
                have hpos : k + ln.length + 1 ≤ s.size := by omega
                obtain ⟨w6, hrun, hseen6, hg6, hs6⟩ := HPL5.out.seen.put ⟨⟨kd, ka, kb, kn⟩, rt, rd, ar⟩ HKB.out hg
                have hbk6 := (hg6.block w4.heap.size (by omega) (by simp; omega)).trans HBK.out
                have hrl6 := HPL5.out.rl.grown hg6 (by omega)
                have hz6 := (hg6.block w.heap.size (by omega) (by simp)).trans HPL5.out.z
                have hl6 : LaidP w6 := HPL5.out.laid.keep (B := w.heap.size + 1) (HL.out.low.mono (by omega)) ⟨hg6.os, hg6.tape, hg6.output, hg6.size, fun b hb => hg6.block b (by omega) (by simp; omega)⟩
                have hbw6 : Below w.heap.size w w6 := HPL5.out.below.trans ⟨hg6.os, hg6.tape, hg6.output, hg6.size, fun b hb => hg6.block b (by omega) (by simp; omega)⟩
                have hrow6 := HROW5.out.grown hg6 (Nat.le_refl _) (fun b o e _ => by have := HNEW.out b o e; simp; omega)
                obtain ⟨⟨k0, k1, k2, k3, k4, k5, k6⟩, _⟩ := blk7 hbk6
                have HEN6 := Lib.hid hen
                have HNX := Lib.hid hnx
                have HSEEN6 := Lib.hid hseen6
                have HRL6 := Lib.hid hrl6
                have HZ6 := Lib.hid hz6
                have HL6 := Lib.hid hl6
                have HBW6 := Lib.hid hbw6
                have HROW6 := Lib.hid hrow6
                have HRUN := Lib.hid hrun
                have HS6 := Lib.hid hs6
                have hz56 : w5.heap.size ≤ w6.heap.size := by omega
                clear hen hnx hrun hseen6 hbk6 hrl6 hz6 hl6 hbw6 hrow6 HP0 HP1 HER hg hok hg6 hs6 HEN
                go_wp2_with (first
                  | (at_mapUpdate; refine wpList_mapUpdate_run rfl _ _ _ _ rfl _ _ _ rfl rfl rfl HRUN.out ?_)
                  | (at_builtin; refine wpList_append_lie rfl _ _ 22 rfl (w.heap.size + 2) 59 i0 _ 7 72 Tryz.underlying22 hi0 hz0 hz1 hz2 rfl (by decide) (.slice A3 ps.length c3) ps.length (cellsP ps) rfl ?a1 (w6.heap.size + 1) (some ⟨w6.heap.size, 0, none⟩) 1 1 (Row.vs ⟨⟨kd, ka, kb, kn⟩, rt, rd, rp, ar.length, rc⟩) rfl ?a2 ?a3 ?a4 ?a5 ?a6 ?_))
                case a1 => exact HRL6.out.own.alloc _
                case a2 => exact newR w6 ⟨⟨kd, ka, kb, kn⟩, rt, rd, rp, ar.length, rc⟩
                case a3 => simp [Value.oneCell', Row.vs]
                case a4 => unfold maxLen; omega
                case a5 => omega
                case a6 => first | omega | (simp; omega)
                intro v7 w7 hown7 hgrow7 hat7
                have hfar : ∀ z, (Value.slice A3 ps.length c3).ownBlock = some z → w.heap.size + 2 ≤ z := own_ge HRL6.out.own
                have hkeep : ∀ b, b < w.heap.size + 2 → w7.heap[b]? = w6.heap[b]? := fun b hb => (hgrow7.block b (by rw [World.size_alloc]; omega) (fun e => by have := hfar b e.symm; omega)).trans (heap_alloc_old w6 _ (by omega))
                have hbw7 : Below w.heap.size w w7 := (HBW6.out.alloc HBW6.out.size _).grown hgrow7 (by rw [World.size_alloc]; omega) (fun z e => by have := hfar z e; omega)
                have hlw := HPL5.out.rl.own
                have hrl7 := RL.snoc HRL6.out HROW6.out (fun b o e => by have h1 := HNEW.out b o e; have h2 := HS6.out; exact ⟨by omega, by omega, fun e2 => by have h3 := HOLD.out b e2.symm; omega⟩) hown7 hgrow7 hat7
                have hl7 : LaidP w7 := HL6.out.keep (B := w.heap.size + 2) (HL.out.low.mono (by omega)) ⟨(hgrow7.os : _), hgrow7.tape, hgrow7.output, by have := hgrow7.size; rw [World.size_alloc] at this; omega, hkeep⟩
                have hpl7 : PL w w7 v7 (ps ++ [(⟨⟨kd, ka, kb, kn⟩, rt, rd, rp, ar.length, rc⟩, ⟨⟨kd, ka, kb, kn⟩, rt, rd, ar⟩)]) := ⟨hrl7, by rw [cho_app1]; exact HSEEN6.out.kept (hkeep _ (by omega)), (hkeep _ (by omega)).trans HZ6.out, hbw7, hl7⟩
                have HPL7 := Lib.hid hpl7
                clear hfar hkeep hbw7 hlw hrl7 hl7 hpl7 hown7 hgrow7 hat7 k0 k1 k2 k3 k4 k5 k6 hlk
                go_wp2_with fail
                go_roundw
                case rel => exact ⟨ps ++ [(⟨⟨kd, ka, kb, kn⟩, rt, rd, rp, ar.length, rc⟩, ⟨⟨kd, ka, kb, kn⟩, rt, rd, ar⟩)], k + ln.length + 1, g, by go_num, by omega, by rw [cho_app1]; exact HNX.out, by omega, by rw [cho_app1]; exact HEN6.out, HPL7.out⟩
                case measure => simp [intOf]; omega
            · rw [hg] at hlk
              have hres := HP0.out 5 (ChoP.err_dup HLC3.out hok hg) (by decide)
              have HRES := Lib.hid hres
              clear hres HP0 HP1 HER hg hok
              go_wp2_with fail
              exact bodyPost_ret (v := .tuple #[.agg #[.slice none 0 0], .int .i64 (k : Int), .int .i64 5]) (by simp [results, Tryz.results15, go_sem, z5]) rfl (parse_ret (HPL5.out.below.setCell (Nat.le_refl _) _) HRES.out)
        · rw [if_pos rfl] at hlc
          have hres := HP0.out 6 (ChoP.err_form hlc) (by decide)
          have HRES := Lib.hid hres
          clear hlc HLC2 hres HCK HP0 HP1
          go_wp2_with fail
          refine bodyPost_ret (v := .tuple #[.agg #[.slice none 0 0], .int .i64 (k : Int), .int .i64 6]) ?_ rfl (parse_ret ?_ HRES.out)
          · simp [results, Tryz.results15, go_sem, World.cell?_alloc_lt, World.size_setCell, z4, hzl]
          · exact (HPL4.out.below.setCell (p := ⟨w.heap.size, 0, none⟩) (Nat.le_refl _) _).alloc (by simp only [World.size_setCell]; omega) _
    · obtain rfl : k = s.size := by omega
      have hres : ChoP.parseT s.data.toList = ⟨ChoP.setL (cho ps), 0, 0⟩ := by
        rw [← HPF.out]
        exact ChoP.parse_end (by rw [HSL.out]; exact Nat.le_refl _)
      obtain ⟨A3, c3, rfl, hcc3, hcm3, hsl3⟩ := own_form HPL.out.rl.own
      have hch : Chos wr wr.heap.size A3 ps := ⟨hsl3.2, fun q hq => (HPL.out.rl.row q hq).1⟩
      have hnew := new_fresh A3 ps c3 wr hch (by omega)
      have HNEW := Lib.hid hnew
      have HRES := Lib.hid hres
      clear hsl3 hch hnew hres HPF
      go_wp2_with fail
      refine HNEW.out.mono ?_
      rintro e w2 ⟨A, ss, c, rfl, hss, hcs, hsc, hsc2, hfr, hb2⟩
      have hcs2 : ∀ u, Chos (w2.setCell ⟨w.heap.size, 0, none⟩ u) w2.heap.size A ss := fun u => hcs.set _ u (fun b o e => by have := hfr.1 b o e; show b ≠ w.heap.size; omega) (fun z hz b o e => by have := hfr.2 z hz b o e; show b ≠ w.heap.size; omega)
      have hpl2 := HPL.out.next hb2
      have z2 := cell_at hpl2.z 0 _ rfl
      have y2 := frozen_at hpl2.z 0
      have hz2 : w.heap.size < w2.heap.size := by have := hpl2.sz; omega
      rw [HEN.out]
      have HSS := Lib.hid hss
      have HCS := Lib.hid hcs2
      have HPL2 := Lib.hid hpl2
      clear hss hcs hcs2 hb2 hpl2 HNEW HPL hfr
      go_wp2_with fail
      refine bodyPost_ret (v := .tuple #[.agg #[.slice A ss.length c], .int .i64 0, .int .i64 0]) ?_ rfl ?_
      · simp [results, Tryz.results15, go_sem, World.cell?_alloc_lt, World.size_setCell, z2, hz2]
      · refine ⟨A, ss, c, by rw [HRES.out]; rfl, by rw [HRES.out, HSS.out], by rw [HSS.out]; exact ChoP.setL_isSet _, ?_, hsc, hsc2, ?_⟩
        · have hs : (w2.setCell ⟨w.heap.size, 0, none⟩ (.slice A ss.length c)).heap.size = w2.heap.size := World.size_setCell _ _ _
          have h1 := HCS.out (.slice A ss.length c)
          rw [← hs] at h1
          exact h1.below ((Below.refl _ _).alloc (Nat.le_refl _) _) (by rw [World.size_alloc]; omega)
        · exact (HPL2.out.below.setCell (p := ⟨w.heap.size, 0, none⟩) (Nat.le_refl _) _).alloc (by simp only [World.size_setCell]; omega) _
end Go.Proofs.YtpniilgkceadeaaGreatDoor
