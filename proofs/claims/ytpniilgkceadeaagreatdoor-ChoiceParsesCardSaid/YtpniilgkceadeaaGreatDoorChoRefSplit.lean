/- The reference's words of a line: split. -/
import Derived.Test.YtpniilgkceadeaaGreatDoorChoRefNum
import Derived.Test.YtpniilgkceadeaaGreatDoorChoSplit
import Derived.RegionTactic
import Derived.BigRegion
import Derived.BigQuiet
import Derived.IntWalk
namespace ChoP
open Go
theorem take_snoc (s : ByteArray) (k : Nat) (h : k < s.size) : s.data.toList.take (k + 1) = s.data.toList.take k ++ [s[k]] := by
  rw [List.take_succ_eq_append_getElem (by simpa using h)]
  rfl
theorem extract_one (s : ByteArray) (k : Nat) (h : k < s.size) : s.extract k (k + 1) = ⟨[s[k]].toArray⟩ := by
  refine ByteArray.ext (Array.toList_inj.1 ?_)
  have h1 : k < s.data.toList.length := by simpa using h
  rw [Lib.extract_data, show k + 1 - k = 1 by omega, List.drop_eq_getElem_cons h1]
  rfl
theorem set_last {α : Type} (ws : List α) (n : Nat) (y : α) (h : ws.length = n + 1) : ws.set n y = ws.dropLast ++ [y] := by
  have hne : ws ≠ [] := by rintro rfl; simp at h
  have hd : ws.dropLast.length = n := by rw [List.length_dropLast, h]; rfl
  conv => lhs; rw [← List.dropLast_concat_getLast hne]
  rw [List.set_append_right _ _ (by omega), hd, Nat.sub_self]
  rfl
end ChoP
namespace Go.Proofs.YtpniilgkceadeaaGreatDoor
open Go.RowKit
def SplitPost (l : List UInt8) (w : World) (e : Ending) (w' : World) : Prop := ∃ v, e = .returned v ∧ Words w' w.heap.size v (ChoP.splitC 32 l) ∧ Below w.heap.size w w'
set_option maxRecDepth 100000 in
set_option maxHeartbeats 4000000 in
theorem refSplit_any (s : ByteArray) (w : World) (hs : s.size ≤ 1000000) : Calls Tryz.prog 48 #[.string s] w (SplitPost s.data.toList w) := by
  obtain ⟨i0, hi0, hz0, hz1, hz2⟩ := info_parts info_str
  have hsl : s.data.toList.length = s.size := by simp
  have HSL := Lib.hid hsl
  clear hsl
  go_enter Tryz.func48, Tryz.ntmps48
  go_wp2_with fail
  have hst : Words (w.alloc (.cells #[.string ⟨#[]⟩] 9)) w.heap.size (.slice (some ⟨w.heap.size, 0, none⟩) 1 1) [[]] := words_new w w.heap.size [[]] (Nat.le_refl _) (by simp)
  have HST := Lib.hid hst
  clear hst
  go_loopw [3, 4] (fun v i wr => ∃ k : Nat, k ≤ s.size ∧ i = .int .i64 k ∧ Words wr w.heap.size v (ChoP.splitC 32 (s.data.toList.take k)) ∧ Below w.heap.size w wr) (fun _ i _ => s.size - (intOf i).toNat)
  case atStart => exact ⟨0, Nat.zero_le _, rfl, HST.out, (Below.refl _ _).alloc (Nat.le_refl _) _⟩
  case round =>
    clear HST
    obtain ⟨k, hk, rfl, hw, hb⟩ := hrel
    have hcnt := ChoP.split_cnt 32 (s.data.toList.take k)
    have htk : (s.data.toList.take k).length ≤ k := List.length_take_le _ _
    have HB := Lib.hid hb
    have HPRT := Lib.hid (ChoP.split_part 32 (s.data.toList.take k))
    have hsz := hb.size
    clear hb
    by_cases hlt : k < s.size
    · have hsn := ChoP.splitC_snoc 32 s[k] (s.data.toList.take k)
      rw [← ChoP.take_snoc s k hlt] at hsn
      have hne := ChoP.splitC_ne 32 (s.data.toList.take k)
      generalize ChoP.splitC 32 (s.data.toList.take k) = ws at *
      generalize h2 : ChoP.splitC 32 (s.data.toList.take (k + 1)) = ws2 at *
      have H2 := Lib.hid h2
      clear h2
      have hn0 : 0 < ws.length := List.length_pos_iff.2 hne
      obtain ⟨g, cap, rfl, hgb, hglt⟩ := World.ownsRow.form hw hn0
      have HW := Lib.hid hw
      clear hw hne
      by_cases hx : s[k] = 32
      · rw [if_pos hx] at hsn
        have HSN := Lib.hid hsn
        have hx2 : ((s[k].toNat : Int) == 32) = true := by rw [hx]; rfl
        clear hsn hx
        go_wp2_with (at_builtin; refine wpList_append_own _ rfl _ _ 83 rfl w.heap.size 9 i0 _ 1 16 Tryz.underlying83 hi0 hz0 hz1 hz2 rfl (by decide) _ _ _ rfl (HW.out.alloc _) ⟨wr.heap.size, 0, none⟩ 1 1 [.string ⟨#[]⟩] rfl rfl ?c1 ?c2 ?c3 ?c4 ?c5 ?_)
        case c1 => exact cells_new wr [.string ⟨#[]⟩] 9
        case c2 => simp [Value.oneCell']
        case c3 => unfold maxLen; omega
        case c4 => omega
        case c5 => simp; omega
        intro v1 w1 hown hgrow _
        have hw1 : Words w1 w.heap.size v1 ws2 := by
          rw [HSN.out]
          unfold Words
          have e1 : (ws ++ [[]]).length = ws.length + 1 := by simp
          have e2 : strs (ws ++ [[]]) = strs ws ++ [.string ⟨#[]⟩] := by simp [strs]
          rw [e1, e2]
          exact hown
        have HW1 := Lib.hid hw1
        have HB1 := Lib.hid ((HB.out.alloc hsz _).grown hgrow (by simp; omega) (own_ge HW.out))
        clear hown hgrow hw1
        go_wp2_with fail
        go_roundw
        case rel => exact ⟨k + 1, by omega, by go_num, by rw [H2.out]; exact HW1.out, HB1.out⟩
        case measure => simp [intOf]; omega
      · rw [if_neg hx] at hsn
        obtain ⟨n, hn⟩ : ∃ n, ws.length = n + 1 := ⟨ws.length - 1, by omega⟩
        obtain ⟨x, hxl⟩ : ∃ x, ws[n]? = some x := ⟨_, List.getElem?_eq_getElem (by omega)⟩
        have hlast : ws.getLastD [] = x := by
          rw [List.getLastD_eq_getLast?, List.getLast?_eq_getElem?, hn, Nat.add_sub_cancel, hxl]
          rfl
        rw [hlast] at hsn
        have hxs : x.length ≤ 1000000 := by have := HPRT.out x (List.mem_of_getElem? hxl); omega
        have hcell : wr.cell? ⟨g, n, none⟩ = some (strV x) := by
          rw [World.ownsRow.cellAt HW.out n (by omega), strs, List.getElem?_map, hxl]
          rfl
        have hfz : wr.frozen? ⟨g, n, none⟩ = false := World.ownsRow.frozenAt HW.out n
        have hx2 : ((s[k].toNat : Int) == 32) = false := by
          rw [beq_eq_false_iff_ne]
          intro e
          have e2 : s[k].toNat = 32 := by omega
          exact hx (UInt8.toNat_inj.1 e2)
        have hst := World.ownsRow.stored HW.out n (.string (⟨x.toArray⟩ ++ s.extract k (k + 1)))
        have HSN := Lib.hid hsn
        have HST := Lib.hid hst
        have HWW := HW
        rw [hn] at HWW
        have w1 : IntKind.i64.wrap ((n : Int) + 1 - 1) = (n : Int) := by rw [show (n : Int) + 1 - 1 = n by omega]; exact IntWalk.i64_in _ ⟨by omega, by omega⟩
        have w2 : IntKind.i64.wrap ((k : Int) + 1) = (k : Int) + 1 := IntWalk.i64_in _ ⟨by omega, by omega⟩
        rw [hn]
        clear hsn hst hx hlast hxl HW
        go_wp2_with fail
        go_region
        all_goals
          have hw1 : Words (wr.setCell ⟨g, n, none⟩ (.string (⟨x.toArray⟩ ++ s.extract k (k + 1)))) w.heap.size (.slice (some ⟨g, 0, none⟩) (n + 1) cap) ws2 := by
            rw [HSN.out]
            unfold Words
            have e1 : (ws.dropLast ++ [x ++ [s[k]]]).length = n + 1 := by simp [hn]
            have e2 : strs (ws.dropLast ++ [x ++ [s[k]]]) = (strs ws).set n (.string (⟨x.toArray⟩ ++ s.extract k (k + 1))) := by
              rw [← ChoP.set_last ws n _ hn, strs, List.map_set, ChoP.extract_one s k hlt, cat_str]
              rfl
            rw [e1, e2]
            have := HST.out.1
            rwa [hn] at this
          have HW1 := Lib.hid hw1
          have HB1 := Lib.hid (HB.out.setCell (p := ⟨g, n, none⟩) hgb (.string (⟨x.toArray⟩ ++ s.extract k (k + 1))))
          clear hw1
          go_wp2_with fail
          go_roundw
          case rel => exact ⟨k + 1, by omega, by go_num, by rw [H2.out]; exact HW1.out, HB1.out.drew⟩
          case measure => simp [intOf]; omega
    · obtain rfl : k = s.size := by omega
      have hT : s.data.toList.take s.size = s.data.toList := List.take_of_length_le (by rw [HSL.out]; omega)
      rw [hT] at hw
      have HW := Lib.hid hw
      clear hw hT
      go_wp2_with fail
      go_ret
      exact ⟨_, rfl, HW.out, HB.out⟩
end Go.Proofs.YtpniilgkceadeaaGreatDoor
