/- The walk of the law that tokens, blanks and comments cover the text. -/
import Derived.Test.YtdhllkbcheokfaaDoorLexRefSkip
import Derived.Test.YtdhllkbcheokfaaDoorLexSame
import Derived.Test.YtdhllkbcheokfaaDoorLexValue
import Derived.OwnWalk
import Derived.IntWalk
namespace LexP
/-- the token behind the last -/
def sent (s : ByteArray) : Tok := ⟨0, ⟨#[]⟩, s.size⟩
/-- what is still to come, the text before 'e' being covered -/
def rest (s : ByteArray) (e : Nat) : List Tok := toksFrom s (e + skipAt s e) ++ [sent s]
theorem rest_zero (s : ByteArray) : rest s 0 = lexB s ++ [sent s] := by unfold rest lexB; rw [Nat.zero_add]
theorem rest_cons (s : ByteArray) (e : Nat) (h : e ≤ s.size) : ∃ (kd n : Nat) (tail : List Tok), rest s e = ⟨kd, s.extract (e + skipAt s e) (e + skipAt s e + n), e + skipAt s e⟩ :: tail ∧ kd ≤ 5 ∧
    e + skipAt s e + n ≤ s.size ∧ (n = 0 → e + skipAt s e = s.size) ∧ (tail = [] ∨ tail = rest s (e + skipAt s e + n)) := by
  have hle := skipAt_le s e h
  by_cases hlt : e + skipAt s e < s.size
  · have hb := readAt_bounds s _ hlt
    refine ⟨(readAt s (e + skipAt s e)).1, (readAt s (e + skipAt s e)).2, rest s (e + skipAt s e + (readAt s (e + skipAt s e)).2), ?_, (read_kind _).2, hb.2, by omega, .inr rfl⟩
    unfold rest
    rw [toksFrom_step s _ hlt]
    rfl
  · have e1 : e + skipAt s e = s.size := by omega
    refine ⟨0, 0, [], ?_, by omega, by omega, fun _ => e1, .inl rfl⟩
    unfold rest
    rw [toksFrom_end s _ hlt, e1]
    show [sent s] = _
    unfold sent
    congr 2
    apply ByteArray.ext
    simp
theorem skip_pos_cases (s : ByteArray) (e : Nat) (h : 0 < skipAt s e) : ∃ hlt : e < s.size, (blankI (s[e]).toNat = true) ∨ (blankI (s[e]).toNat = false ∧ pfx (s.data.toList.drop e) [47, 47] = true ∧ 2 ≤ skipAt s e) := by
  by_cases hlt : e < s.size
  · refine ⟨hlt, ?_⟩
    cases hb : blankI (s[e]).toNat
    · right
      cases hp : pfx (s.data.toList.drop e) [47, 47]
      · have := skip_end1 s e hlt hb hp; omega
      · refine ⟨rfl, rfl, ?_⟩
        have h2 := two_le_pre _ hp
        have h3 := skip_comment _ hp
        unfold skipAt
        omega
    · exact .inl rfl
  · have := skip_size s e hlt; omega
theorem note_zero (s : ByteArray) (e : Nat) (h : noteAt s e = 0) : skipAt s e = 0 := by
  by_cases hlt : e < s.size
  · exfalso
    unfold noteAt at h
    rw [drop_cons s e hlt, skipL] at h
    split at h <;> omega
  · exact skip_size s e hlt
end LexP
namespace Go.Proofs.YtdhllkbcheokfaaDoor
open Go.RowKit Go.Shelf
theorem tokC_sent (s : ByteArray) : tokC (LexP.sent s) = [.int .u8 0, .string ⟨#[]⟩, .int .i64 (s.size : Nat)] := rfl
set_option maxRecDepth 100000 in
set_option maxHeartbeats 4000000 in
theorem lexerCovers_walk (s : ByteArray) (w : World) (hL : Laid w) (hs : s.size ≤ 140737488351232) :
    Calls Tryd.prog 6 #[.string s] w (TruePost w) := by
  have h2' : 2 ≤ w.heap.size := by
    obtain ⟨_, t, fr, e⟩ := hL
    have := (Array.getElem?_eq_some_iff.1 e).1
    omega
  obtain ⟨i0, hi, hz0, hz1, hz2⟩ := info_parts info_tok
  have HL := Lib.hid hL
  clear hL
  go_enter Tryd.func6, Tryd.ntmps6
  go_wp2_with fail
  refine (awake_any w HL.out h2').mono ?_
  rintro e w1 ⟨rfl, hb⟩
  have HB := Lib.hid hb
  have hz1' := hb.size
  clear hb
  go_wp2_with fail
  refine (short_any _ _).mono ?_
  rintro e w' ⟨rfl, rfl⟩
  generalize hS : s.extract 0 (min s.size 500) = S
  have hSs : S.size ≤ 500 := by rw [← hS]; simp; omega
  clear hS hs
  go_wp2_with fail
  refine (all_any S (by omega) w1 (HL.out.below HB.out h2') (by omega)).mono ?_
  rintro e w2 ⟨v2, rfl, hr2, hb2⟩
  have hz2' := hb2.size
  have HB2 := Lib.hid (HB.out.trans (hb2.mono hz1'))
  have HR2 := Lib.hid hr2
  have hlen := LexP.lexB_length S
  clear hb2 hr2
  go_wp2_with (at_builtin; refine wpList_append_own _ rfl _ _ 24 rfl w1.heap.size 31 i0 _ 3 32 Tryd.underlying24 hi hz0 hz1 hz2 rfl (by decide) _ _ _ rfl (HR2.out.alloc _) ⟨w2.heap.size, 0, none⟩ 1 1 [.int .u8 0, .string ⟨#[]⟩, .int .i64 (S.size : Nat)] rfl rfl ?c1 ?c2 ?c3 ?c4 ?c5 ?_)
  case c1 => exact cells_new _ _ _
  case c2 => simp [Value.oneCell']
  case c3 => unfold maxLen; omega
  case c4 => omega
  case c5 => simp; omega
  intro v' w3 hown' hgrow _
  have HB3 : Hid (Below w.heap.size w w3) := Lib.hid ((HB2.out.alloc (by omega) _).grown hgrow (by simp; omega) (fun k e => Nat.le_trans hz1' (ownsRow_ge HR2.out k e)))
  have hz3 : w2.heap.size ≤ w3.heap.size := by have := hgrow.size; simp at this; omega
  have hrow : rowT (LexP.lexB S) ++ [.int .u8 0, .string ⟨#[]⟩, .int .i64 (S.size : Nat)] = rowT (LexP.lexB S ++ [LexP.sent S]) := by rw [rowT_snoc, tokC_sent]
  rw [hrow] at hown'
  have hll : (LexP.lexB S).length + 1 = (LexP.lexB S ++ [LexP.sent S]).length := by simp
  rw [hll] at hown'
  have hl0 := LexP.rest_zero S
  rw [← hl0] at hown' hll
  have hT : (LexP.rest S 0).length ≤ 501 := by omega
  clear hrow hgrow hl0 hll hlen
  generalize hTT : LexP.rest S 0 = T at *
  have hTpos : 0 < T.length := by
    obtain ⟨kd, n, tail, e, _⟩ := LexP.rest_cons S 0 (Nat.zero_le _)
    rw [← hTT, e]; simp
  have HTT := Lib.hid hTT
  clear hTT
  obtain ⟨g, cap, rfl, hg, hg', hcap, hcl⟩ := row_cells hown' hTpos
  have HC := Lib.hid hcl
  clear hcl hown'
  go_wp2_with fail
  go_loopw [3, 5, 18] (fun e _ i wr => ∃ k en : Nat, k ≤ T.length ∧ en ≤ S.size ∧ e = .int .i64 en ∧ i = .int .i64 k ∧ (k < T.length → T.drop k = LexP.rest S en) ∧ Below w3.heap.size w3 wr) (fun _ _ i _ => T.length - (intOf i).toNat)
  case atStart => exact ⟨0, 0, Nat.zero_le _, Nat.zero_le _, rfl, rfl, fun _ => by rw [HTT.out]; rfl, Below.refl _ _⟩
  case round =>
    obtain ⟨k, en, hk, hen, rfl, rfl, hd, hbr⟩ := hrel
    have HBR := Lib.hid hbr
    have hzr := hbr.size
    by_cases hlt : k < T.length
    · obtain ⟨kd, n, tail, hrest, hkd, hon, hn0, htail⟩ := LexP.rest_cons S en hen
      have hdk := hd hlt
      rw [hrest] at hdk
      have hx : T[k]? = some ⟨kd, S.extract (en + LexP.skipAt S en) (en + LexP.skipAt S en + n), en + LexP.skipAt S en⟩ := by
        have := congrArg (·[0]?) hdk
        simpa using this
      have hdk1 : T.drop (k + 1) = tail := by
        have := congrArg (List.drop 1) hdk
        simpa [Nat.add_comm] using this
      obtain ⟨t1, t2, t3⟩ := rowT_at _ _ _ hx
      have c1 : wr.cell? ⟨g, k * 3, none⟩ = _ := (hbr.cell (p := ⟨g, k * 3, none⟩) hg').trans (HC.out _ _ t1)
      have c2 : wr.cell? ⟨g, k * 3 + 1, none⟩ = _ := (hbr.cell (p := ⟨g, k * 3 + 1, none⟩) hg').trans (HC.out _ _ t2)
      have c3 : wr.cell? ⟨g, k * 3 + 2, none⟩ = _ := (hbr.cell (p := ⟨g, k * 3 + 2, none⟩) hg').trans (HC.out _ _ t3)
      have HSK := Lib.hid (rfl : en + LexP.skipAt S en = en + LexP.skipAt S en)
      have HD1 := Lib.hid hdk1
      have HTA := Lib.hid htail
      have hen2 : en ≤ en + LexP.skipAt S en := by omega
      simp only at c1 c2 c3
      generalize ho : en + LexP.skipAt S en = o at *
      have HO := Lib.hid ho
      clear ho hdk1 htail hdk hrest hd t1 t2 t3 hx hbr
      have hsz : (S.extract o (o + n)).size = n := by simp; omega
      have hC : ((S.extract o (o + n)).toList != (S.extract o (o + n)).toList) = false := by simp
      have hemp : (n = 0 ∧ (S.extract o (o + n)).toList = [] ∧ ((o : Int) != (S.size : Int)) = false) ∨ (0 < n ∧ (S.extract o (o + n)).toList.isEmpty = false ∧ (S.extract o (o + n)).toList ≠ []) := by
        have hl : (S.extract o (o + n)).toList.length = n := by rw [ByteArray.toList_eq, Array.length_toList, ByteArray.size_data]; exact hsz
        rcases Nat.eq_zero_or_pos n with h | h
        · left
          refine ⟨h, List.length_eq_zero_iff.1 (by omega), ?_⟩
          have := hn0 h
          rw [this]; simp
        · right
          have hne : (S.extract o (o + n)).toList ≠ [] := fun e => by rw [e] at hl; simp at hl; omega
          exact ⟨h, by simpa using hne, hne⟩
      clear hn0
      generalize htx : S.extract o (o + n) = tx at *
      go_wp2_with fail
      clear hC
      have hA : decide ((o : Int) < (en : Int)) = false := by simp; omega
      have hA2 : decide (o < en) = false := by simp; omega
      have hB : decide ((S.size : Int) < (o : Int) + (n : Int)) = false := by simp; omega
      have hB0 : (0 : Int) ≤ (o : Int) + (n : Int) := by omega
      have hB1 : ((o : Int) + (n : Int)).toNat = o + n := by omega
      have hB2 : (o : Int) ≤ (o : Int) + (n : Int) := by omega
      have hB3 : (o : Int) + (n : Int) ≤ (S.size : Int) := by omega
      have hB4 : IntKind.i64.wrap ((o : Int) + (n : Int)) = (o : Int) + (n : Int) := IntWalk.i64_in _ (by omega)
      have hos : o ≤ S.size := by omega
      rcases hemp with ⟨h1, h2, h3⟩ | ⟨h1, h2, h3⟩
      all_goals
        clear h1
        go_quiet (fail)
        clear hB4 hB hB0 hB1 hB2 hB3 hA hA2 h2 h3
        have HTX := Lib.hid htx
        have HZ := Lib.hid hsz
        clear htx hsz
        go_wp2_with fail
        obtain ⟨wo, hwo⟩ : ∃ wo : World, wo = (wr.alloc (Obj.cells #[Value.int IntKind.u8 (kd : Nat), Value.string tx, Value.int IntKind.i64 (o : Nat)] 31)).drewN nq := ⟨_, rfl⟩
        have x1 : wo.cell? ⟨wr.heap.size, 1, none⟩ = some (.string tx) := by rw [hwo]; exact cell_at (World.alloc_heap_new wr _) 1 _ rfl
        have x2 : wo.cell? ⟨wr.heap.size, 2, none⟩ = some (.int .i64 (o : Nat)) := by rw [hwo]; exact cell_at (World.alloc_heap_new wr _) 2 _ rfl
        have HBO : Hid (Below w3.heap.size w3 wo) := Lib.hid (by rw [hwo]; exact (HBR.out.alloc hzr _).trans ((below_dr _ _ nq (Below.refl _ _)).mono (by simp; omega)))
        rw [← hwo]
        clear hwo c1 c2 c3
        go_loop [3] (fun v => ∃ e : Nat, en ≤ e ∧ e ≤ o ∧ v = .int .i64 e ∧ e + LexP.skipAt S e = o) (fun v => o - (intOf v).toNat)
        case atStart => exact ⟨en, Nat.le_refl _, hen2, rfl, HO.out⟩
        case round =>
          obtain ⟨e, he1, he2, rfl, heo⟩ := hrel
          have HE := Lib.hid heo
          by_cases hlt2 : e < o
          · obtain ⟨hes, hor⟩ := LexP.skip_pos_cases S e (by omega)
            clear heo
            rcases hor with hb | ⟨hb, hp, hs2⟩
            · have hstep := Lib.hid (LexP.skip_blank1 S e hes hb)
              have hor := LexP.blank_cases _ hb
              clear hb
              rcases hor with b1 | ⟨b1, b2⟩ | ⟨b1, b2, b3⟩ | ⟨b1, b2, b3, b4⟩
              all_goals
                go_wp2_with fail
                go_round
                case rel => exact ⟨e + 1, by omega, by omega, by go_num, by have := HE.out; have := hstep.out; omega⟩
                case measure => simp [intOf]; omega
            · obtain ⟨b1, b2, b3, b4⟩ := LexP.not_blank _ hb
              have hst := Lib.hid (LexP.note_start S e hp)
              have hpf := LexP.pfx_at S e hes
              rw [hp] at hpf
              have he1s : e + 1 < S.size := by
                cases hd : decide (e + 1 < S.size)
                · rw [hd] at hpf; simp at hpf
                · exact of_decide_eq_true hd
              rw [getElem?_pos S (e + 1) he1s, Option.getD_some] at hpf
              have q2 : ((S[e].toNat : Int) == 47) = true := by
                cases hd : ((S[e].toNat : Int) == 47)
                · rw [hd] at hpf; simp at hpf
                · rfl
              have q3 : ((S[e + 1].toNat : Int) == 47) = true := by
                cases hd : ((S[e + 1].toNat : Int) == 47)
                · rw [hd] at hpf; simp at hpf
                · rfl
              have hee := HE.out
              have he1o : e + 1 < o := by omega
              have hne : (((S[e]).toNat : Int) != 10) = true := by rw [beq_iff_eq] at q2; rw [q2]; rfl
              have HNE := Lib.hid hne
              clear hpf hp hb hs2 hee hne
              go_wp2_with fail
              go_loop [3] (fun v => ∃ j : Nat, e ≤ j ∧ j ≤ o ∧ v = .int .i64 j ∧ j + LexP.noteAt S j = o) (fun v => o - (intOf v).toNat)
              case atStart => exact ⟨e, Nat.le_refl _, he2, rfl, by rw [← hst.out]; exact HE.out⟩
              case round =>
                obtain ⟨j, hj1, hj2, rfl, hjo⟩ := hrel
                have HJ := Lib.hid hjo
                by_cases hjl : j < o
                · have hjs : j < S.size := by omega
                  clear hjo
                  cases hn : ((S[j].toNat : Int) != 10)
                  · have hej : e < j := by
                      rcases Nat.lt_or_ge e j with h | h
                      · exact h
                      · obtain rfl : e = j := by omega
                        have := HNE.out
                        rw [hn] at this; cases this
                    have hx2 := Lib.hid (LexP.note_end S j hjs hn)
                    go_wp2_with fail
                    go_round
                    case rel => exact ⟨j, by omega, by omega, rfl, by rw [← hx2.out]; exact HJ.out⟩
                    case measure => simp [intOf]; omega
                  · have hx2 := Lib.hid (LexP.note_step S j hjs hn)
                    go_wp2_with fail
                    go_round
                    case rel => exact ⟨j + 1, by omega, by omega, by go_num, by have := HJ.out; have := hx2.out; omega⟩
                    case measure => simp [intOf]; omega
                · have hz := Lib.hid (LexP.note_zero S j (by omega))
                  have hjeq : j = o := by omega
                  clear hjo
                  have hjl2 : o ≤ j := by omega
                  have HJE := Lib.hid hjeq
                  clear hjeq
                  go_wp2_with fail
                  go_round
                  case rel => exact ⟨j, by omega, by omega, rfl, by rw [hz.out]; have := HJE.out; omega⟩
                  case measure => simp [intOf]; omega
          · have hsz3 : o + tx.size ≤ S.size := by rw [HZ.out]; omega
            clear heo
            go_wp2_with fail
            go_roundw
            case rel =>
              refine ⟨k + 1, o + n, by omega, hon, by rw [HZ.out]; go_num, by go_num, fun hk1 => ?_, HBO.out⟩
              rw [HD1.out]
              rcases HTA.out with h | h
              · exfalso
                have := congrArg List.length HD1.out
                rw [h] at this
                simp at this
                omega
              · exact h
            case measure => simp [intOf]; omega
    · clear hd hbr
      go_wp2_with fail
      go_ret
      exact ⟨rfl, HB3.out.trans (HBR.out.mono (by omega))⟩
end Go.Proofs.YtdhllkbcheokfaaDoor
