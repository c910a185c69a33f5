/- The reference's parse: its tails: from the arguments on, from D on, from the key on. -/
import Derived.Test.YtpniilgkceadeaaGreatDoorChoRefParseL
namespace Go.Proofs.YtpniilgkceadeaaGreatDoor
open Go.RowKit
set_option maxRecDepth 100000 in
set_option maxHeartbeats 8000000 in
theorem refParse_args (x : List UInt8) (rs : List (List UInt8)) (w wc : World) (K : Nat) (fa kb fn : Int) (t d : Int) (r3 : List (List UInt8)) (v11 : Value) (hneGZ : w.heap.size + 1 ≠ w.heap.size) (hrpf3 : ChoP.refP false (x :: rs) = (ChoP.refA (K : Int) r3).map fun a => ⟨⟨K, fa, kb, fn⟩, t, d, a⟩) (hw6 : WSl w w.heap.size v11 r3) (hln6 : ∀ y ∈ r3, y.length ≤ 1000000) (hr6 : RPS w wc #[.int .u8 (K : Int), .int .i64 fa, .int .i64 kb, .int .i64 fn, .int .i64 t, .int .i64 d, .slice none 0 0]) (hr3l : r3.length ≤ 1000000) (u0 u1 u2 u3 u5 u7 u8 u9 u10 u12 u13 u14 u15 u16 u17 u18 u19 u20 u21 u22 u23 u24 u25 u26 u27 u28 u29 u30 u31 u32 u33 u34 u35 u36 u37 u38 u39 u40 u41 u42 u43 u44 u45 u46 u47 u48 u49 u50 u51 u52 u53 u54 u55 u56 u57 u58 u59 u60 u61 u62 u63 u64 u65 u66 u67 u68 u69 u70 u71 u72 u73 u74 u75 u76 u77 u78 u79 u80 u81 u82 u83 u84 u85 u86 u87 u88 u89 u90 u91 u92 u93 u94 u95 u96 u97 u98 u99 u100 u101 u102 u103 u104 u105 u106 u107 u108 u109 u110 u111 u112 u113 u114 u115 u116 u117 u118 u119 u120 u121 u122 u123 u124 u125 u126 u127 u128 u129 u130 u131 u132 u133 u134 u135 u136 u137 u138 u139 u140 u141 u142 u143 u144 u145 u146 u147 u148 u149 u150 u151 u152 u153 u154 u155 u156 u157 u158 u159 u160 u161 u162 u163 u164 u165 u166 u167 u168 u169 u170 u171 u172 u173 u174 u175 u176 u177 u178 u179 u180 u181 u182 u183 u184 u185 u186 u187 u188 : Value) :
    Code.wp Tryz.prog (parseFrom 48) (bodyPost Tryz.prog Tryz.f47 (RPPost (ChoP.refP false (x :: rs)) w)) ⟨(u0 :: u1 :: u2 :: u3 :: Value.pointer (some ⟨w.heap.size, 0, none⟩) :: u5 :: Value.pointer (some ⟨w.heap.size + 1, 0, none⟩) :: u7 :: u8 :: u9 :: u10 :: v11 :: u12 :: u13 :: u14 :: u15 :: u16 :: u17 :: u18 :: u19 :: u20 :: u21 :: u22 :: u23 :: u24 :: u25 :: u26 :: u27 :: u28 :: u29 :: u30 :: u31 :: u32 :: u33 :: u34 :: u35 :: u36 :: u37 :: u38 :: u39 :: u40 :: u41 :: u42 :: u43 :: u44 :: u45 :: u46 :: u47 :: u48 :: u49 :: u50 :: u51 :: u52 :: u53 :: u54 :: u55 :: u56 :: u57 :: u58 :: u59 :: u60 :: u61 :: u62 :: u63 :: u64 :: u65 :: u66 :: u67 :: u68 :: u69 :: u70 :: u71 :: u72 :: u73 :: u74 :: u75 :: u76 :: u77 :: u78 :: u79 :: u80 :: u81 :: u82 :: u83 :: u84 :: u85 :: u86 :: u87 :: u88 :: u89 :: u90 :: u91 :: u92 :: u93 :: u94 :: u95 :: u96 :: u97 :: u98 :: u99 :: u100 :: u101 :: u102 :: u103 :: u104 :: u105 :: u106 :: u107 :: u108 :: u109 :: u110 :: u111 :: u112 :: u113 :: u114 :: u115 :: u116 :: u117 :: u118 :: u119 :: u120 :: u121 :: u122 :: u123 :: u124 :: u125 :: u126 :: u127 :: u128 :: u129 :: u130 :: u131 :: u132 :: u133 :: u134 :: u135 :: u136 :: u137 :: u138 :: u139 :: u140 :: u141 :: u142 :: u143 :: u144 :: u145 :: u146 :: u147 :: u148 :: u149 :: u150 :: u151 :: u152 :: u153 :: u154 :: u155 :: u156 :: u157 :: u158 :: u159 :: u160 :: u161 :: u162 :: u163 :: u164 :: u165 :: u166 :: u167 :: u168 :: u169 :: u170 :: u171 :: u172 :: u173 :: u174 :: u175 :: u176 :: u177 :: u178 :: u179 :: u180 :: u181 :: u182 :: u183 :: u184 :: u185 :: u186 :: u187 :: u188 :: []).toArray, []⟩ wc := by
  obtain ⟨i0, hi0, hz0, hz1, hz2⟩ := info_parts info_i64
  have HRPF3 := Lib.hid hrpf3
  have HLN6 := Lib.hid hln6
  have HR6 := Lib.hid hr6
  obtain ⟨X6, c6, e6, hl6, hc6, hm6⟩ := hw6
  subst e6
  have HL6 := Lib.hid hl6
  clear hrpf3 hln6 hr6 hl6
  conv => arg 2; whnf
  have g0 := cell_at HR6.out.g 0 _ rfl
  have hsz6 := HR6.out.sz
  by_cases hk1 : K = 1
  · have hra : ChoP.refA (K : Int) r3 = if r3.all ChoP.numOk = true then some (r3.map ChoP.numV) else none := by unfold ChoP.refA; rw [if_pos (by omega)]
    have hk2 : ((K : Int) == 1) = true := by rw [beq_iff_eq]; omega
    have HRA := Lib.hid hra
    clear hra hk1
    go_wp2_with fail
    go_loopw [165] (fun i wr => ∃ (k : Nat) (v : Value), k ≤ r3.length ∧ i = .int .i64 k ∧ (∀ y ∈ r3.take k, ChoP.numOk y = true) ∧ wr.ownsRow (w.heap.size + 2) 2 1 v k (intV ((r3.take k).map ChoP.numV)) ∧ RPS w wr #[.int .u8 (K : Int), .int .i64 fa, .int .i64 kb, .int .i64 fn, .int .i64 t, .int .i64 d, v]) (fun i _ => r3.length - (intOf i).toNat)
    case atStart => exact ⟨0, .slice none 0 0, Nat.zero_le _, rfl, by simp, ⟨rfl, .inl ⟨rfl, rfl⟩⟩, HR6.out⟩
    case round =>
      clear HR6 g0
      obtain ⟨k, v, hk, rfl, hok0, hown, hrs⟩ := hrel
      obtain ⟨A3, c3, rfl, hcc3, hcm3, hsl3⟩ := own_form hown
      have HOK := Lib.hid hok0
      have HO := Lib.hid hown
      have HRS := Lib.hid hrs
      have HSL := Lib.hid hsl3
      have hszr := hrs.sz
      clear hok0 hown hrs hsl3
      by_cases hlt : k < r3.length
      · obtain ⟨y, hy⟩ : ∃ y, r3[k]? = some y := ⟨_, List.getElem?_eq_getElem hlt⟩
        have hym : y ∈ r3 := List.mem_of_getElem? hy
        have hyl := HLN6.out y hym
        obtain ⟨b4, o4, rfl, hb4, hc4⟩ := HL6.out (by simp [strs]; rintro rfl; simp at hlt)
        have hcy : wr.cell? ⟨b4, o4 + k, none⟩ = some (strV y) := (HRS.out.below.cell (p := ⟨b4, o4 + k, none⟩) hb4).trans (hc4 k (strV y) (by simp [strs, hy]))
        have hi1 : (0 : Int) ≤ (k : Int) := by omega
        have hi2 : (k : Int) < (r3.length : Int) := by omega
        have hnm := refNum_any ⟨y.toArray⟩ wr (by show y.toArray.size ≤ _; simpa using hyl)
        rw [show (⟨y.toArray⟩ : ByteArray).data.toList = y from rfl] at hnm
        have HNM := Lib.hid hnm
        have HRN := Lib.hid (ChoP.ref_num y)
        have HY := Lib.hid hy
        clear hnm hy hc4 hym hyl
        go_wp2_with fail
        refine HNM.out.mono ?_
        rintro e w2 ⟨v2, rfl, hv2, hb2⟩
        rw [HRN.out.1] at hv2 ⊢
        have HR2 := Lib.hid (HRS.out.next hb2)
        have HV2 := Lib.hid hv2
        have hsz2 := hb2.size
        have ho2 := own_below HO.out hb2
        have HO2 := Lib.hid ho2
        clear ho2 hb2 hv2 hcy HNM HRS HSL
        cases hok : ChoP.numOk y
        · have hrp : ChoP.refP false (x :: rs) = none := by
            rw [HRPF3.out, HRA.out, if_neg (ChoP.all_no HY.out hok)]
            rfl
          have HRP := Lib.hid hrp
          clear hrp
          obtain ⟨⟨f0, f1, f2, f3, f4, f5, f6⟩, _⟩ := blk7 (v0 := .int .u8 (K : Int)) (v1 := .int .i64 fa) (v2 := .int .i64 kb) (v3 := .int .i64 fn) (v4 := .int .i64 t) (v5 := .int .i64 d) (v6 := .slice A3 k c3) HR2.out.g
          obtain ⟨⟨z0, z1, z2, z3, z4, z5, z6⟩, ⟨x0, x1, x2, x3, x4, x5, x6⟩⟩ := blk7 (v0 := .int .u8 0) (v1 := .int .i64 0) (v2 := .int .i64 0) (v3 := .int .i64 0) (v4 := .int .i64 0) (v5 := .int .i64 0) (v6 := .slice none 0 0) HR2.out.z
          have hneGZ : w.heap.size + 1 ≠ w.heap.size := by omega
          go_wp2_with fail
          rw [HRP.out]
          exact bodyPost_ret (v := .tuple #[choV ⟨⟨(K : Int), fa, kb, fn⟩, t, d, A3, k, c3⟩, .bool false]) (by simp [results, Tryz.results47, go_sem, z0, z1, z2, z3, z4, z5, z6, choV]) rfl (HR2.out.no _ _ _ _ _ _ _ _)
        · obtain rfl : v2 = ChoP.numV y := by rw [HV2.out hok, HRN.out.2 hok]
          have htk := ChoP.take_one HY.out
          have hokk : ∀ z ∈ r3.take (k + 1), ChoP.numOk z = true := fun z hz => by
            rw [htk, List.mem_append, List.mem_singleton] at hz
            rcases hz with hz | rfl
            · exact HOK.out z hz
            · exact hok
          have hmap : (r3.take (k + 1)).map ChoP.numV = (r3.take k).map ChoP.numV ++ [ChoP.numV y] := by rw [htk, List.map_append]; rfl
          generalize ChoP.numV y = v2 at *
          have HOKK := Lib.hid hokk
          have HMAP := Lib.hid hmap
          have g6 := cell_at HR2.out.g 6 _ rfl
          have hn1' : k + 1 ≤ maxLen := by unfold maxLen; omega
          have hn2' : (k + 1) * 8 ≤ 140737488355328 := by omega
          clear hokk hmap htk HV2 HRN HOK HO
          go_wp2_with (at_builtin; refine wpList_append_lie rfl _ _ 57 rfl (w.heap.size + 2) 2 i0 _ 1 8 Tryz.underlying57 hi0 hz0 hz1 hz2 rfl (by decide) (.slice A3 k c3) k (intV ((r3.take k).map ChoP.numV)) rfl ?a1 (w2.heap.size + 1) (some ⟨w2.heap.size, 0, none⟩) 1 1 [.int .i64 v2] rfl ?a2 ?a3 ?a4 ?a5 ?a6 ?_)
          case a1 => exact HO2.out.alloc _
          case a2 => exact newI64 w2 v2
          case a3 => simp [Value.oneCell']
          case a4 => exact hn1'
          case a5 => exact hn2'
          case a6 => first | (rw [World.size_alloc]; omega) | omega | (simp; omega)
          intro v7 w7 hown7 hgrow7 hat7
          obtain ⟨A7, c7, rfl, hcc7, hcm7, _⟩ := own_form hown7
          have happ := (RPS.app HR2.out (o := .cells #[.int .i64 v2] 2) ⟨hgrow7.os, hgrow7.tape, hgrow7.output, hgrow7.size, hgrow7.block⟩ (fun z e => own_ge HO2.out z e)).1
          have n6 := cell_at happ.g 6 _ rfl
          have l6 := frozen_at happ.g 6
          have hset := happ.setG 6 (.slice A7 (k + 1) c7)
          have ho8 := hown7.kept (grown_set w7 (w.heap.size + 1) 6 (.slice A7 (k + 1) c7)) (.inr (fun e => by have := own_ge hown7 (w.heap.size + 1) e; omega))
          have HR8 := Lib.hid hset
          have HO8 : Hid ((w7.setCell ⟨w.heap.size + 1, 6, none⟩ (.slice A7 (k + 1) c7)).ownsRow (w.heap.size + 2) 2 1 (.slice A7 (k + 1) c7) (k + 1) (intV ((r3.take (k + 1)).map ChoP.numV))) := Lib.hid (by rw [HMAP.out, intV, List.map_append]; first | exact ho8 | (rw [List.map_take]; exact ho8))
          clear happ hset ho8 hown7 hgrow7 hat7 HO2 HR2 g6
          go_wp2_with fail
          go_roundw
          case rel => exact ⟨k + 1, _, by omega, by go_num, HOKK.out, HO8.out, HR8.out⟩
          case measure => simp [intOf]; omega
      · obtain rfl : k = r3.length := by omega
        have hall : r3.all ChoP.numOk = true := by
          rw [List.all_eq_true]
          have h := HOK.out
          rwa [List.take_length] at h
        have hrp : ChoP.refP false (x :: rs) = some ⟨⟨K, fa, kb, fn⟩, t, d, r3.map ChoP.numV⟩ := by
          rw [HRPF3.out, HRA.out, if_pos hall]
          rfl
        have hlie : Lie wr wr.heap.size A3 (intV (r3.map ChoP.numV)) := by
          have h := HSL.out.2
          rwa [List.take_length] at h
        have hna : ∀ b o, A3 = some ⟨b, o, none⟩ → w.heap.size + 2 ≤ b ∧ b < wr.heap.size := fun b o e => by
          subst e
          exact ⟨own_ge HO.out b rfl, own_lt HO.out b rfl⟩
        have HRP := Lib.hid hrp
        have HLIE := Lib.hid hlie
        have HNA := Lib.hid hna
        obtain ⟨⟨f0, f1, f2, f3, f4, f5, f6⟩, _⟩ := blk7 (v0 := .int .u8 (K : Int)) (v1 := .int .i64 fa) (v2 := .int .i64 kb) (v3 := .int .i64 fn) (v4 := .int .i64 t) (v5 := .int .i64 d) (v6 := .slice A3 r3.length c3) HRS.out.g
        obtain ⟨⟨z0, z1, z2, z3, z4, z5, z6⟩, ⟨x0, x1, x2, x3, x4, x5, x6⟩⟩ := blk7 (v0 := .int .u8 0) (v1 := .int .i64 0) (v2 := .int .i64 0) (v3 := .int .i64 0) (v4 := .int .i64 0) (v5 := .int .i64 0) (v6 := .slice none 0 0) HRS.out.z
        have hneGZ : w.heap.size + 1 ≠ w.heap.size := by omega
        clear hall hrp hlie hna HOK HSL HO HRPF3 HRA
        go_wp2_with fail
        rw [HRP.out]
        exact bodyPost_ret (v := .tuple #[choV ⟨⟨K, fa, kb, fn⟩, t, d, A3, r3.length, c3⟩, .bool true]) (by simp [results, Tryz.results47, go_sem, z0, z1, z2, z3, z4, z5, z6, choV]) rfl (HRS.out.yes (k := ⟨K, fa, kb, fn⟩) (by simp) hcc3 hcm3 HLIE.out HNA.out _ _ _ _ _ _ _)
  · have hra : ChoP.refA (K : Int) r3 = if r3 = [] then some [] else none := by unfold ChoP.refA; rw [if_neg (by omega)]
    have hk2 : ((K : Int) == 1) = false := by rw [beq_eq_false_iff_ne]; omega
    have hrp : ChoP.refP false (x :: rs) = if r3 = [] then some ⟨⟨K, fa, kb, fn⟩, t, d, []⟩ else none := by
      rw [HRPF3.out, hra]
      split <;> rfl
    obtain ⟨⟨f0, f1, f2, f3, f4, f5, f6⟩, _⟩ := blk7 (v0 := .int .u8 (K : Int)) (v1 := .int .i64 fa) (v2 := .int .i64 kb) (v3 := .int .i64 fn) (v4 := .int .i64 t) (v5 := .int .i64 d) (v6 := .slice none 0 0) HR6.out.g
    obtain ⟨⟨z0, z1, z2, z3, z4, z5, z6⟩, ⟨x0, x1, x2, x3, x4, x5, x6⟩⟩ := blk7 (v0 := .int .u8 0) (v1 := .int .i64 0) (v2 := .int .i64 0) (v3 := .int .i64 0) (v4 := .int .i64 0) (v5 := .int .i64 0) (v6 := .slice none 0 0) HR6.out.z
    have hneGZ : w.heap.size + 1 ≠ w.heap.size := by omega
    clear hra hk1 g0
    cases r3 with
    | nil =>
      rw [if_pos rfl] at hrp
      have HRP := Lib.hid hrp
      clear hrp
      go_wp2_with fail
      rw [HRP.out]
      exact bodyPost_ret (v := .tuple #[choV ⟨⟨K, fa, kb, fn⟩, t, d, none, 0, 0⟩, .bool true]) (by simp [results, Tryz.results47, go_sem, z0, z1, z2, z3, z4, z5, z6, choV]) rfl (HR6.out.yes (k := ⟨K, fa, kb, fn⟩) (A := none) (n := 0) (c := 0) (ar := []) rfl (Nat.le_refl _) (by omega) (Lie.nil _ _ _) (fun b o e => by cases e) _ _ _ _ _ _ _)
    | cons y r4 =>
      rw [if_neg (by simp)] at hrp
      have HRP := Lib.hid hrp
      have h01 : ((r4.length : Int) + 1 == 0) = false := by rw [beq_eq_false_iff_ne]; omega
      clear hrp
      go_wp2_with fail
      rw [HRP.out]
      exact bodyPost_ret (v := .tuple #[choV ⟨⟨K, fa, kb, fn⟩, t, d, none, 0, 0⟩, .bool false]) (by simp [results, Tryz.results47, go_sem, z0, z1, z2, z3, z4, z5, z6, choV]) rfl (HR6.out.no _ _ _ _ _ _ _ _)
set_option maxRecDepth 100000 in
set_option maxHeartbeats 8000000 in
theorem refParse_meas (x : List UInt8) (rs : List (List UInt8)) (w wc : World) (K : Nat) (fa kb fn : Int) (t : Int) (r2 : List (List UInt8)) (v11 : Value) (hn : rs.length ≤ 1000000) (hneGZ : w.heap.size + 1 ≠ w.heap.size) (hrpf2 : ChoP.refP false (x :: rs) = (ChoP.refD (K : Int) r2).bind fun d => (ChoP.refA (K : Int) d.2).map fun a => ⟨⟨K, fa, kb, fn⟩, t, d.1, a⟩) (hw4 : WSl w w.heap.size v11 r2) (hln4 : ∀ y ∈ r2, y.length ≤ 1000000) (hr4 : RPS w wc #[.int .u8 (K : Int), .int .i64 fa, .int .i64 kb, .int .i64 fn, .int .i64 t, .int .i64 0, .slice none 0 0]) (hrl2 : r2.length ≤ rs.length) (u0 u1 u2 u3 u5 u7 u8 u9 u10 u12 u13 u14 u15 u16 u17 u18 u19 u20 u21 u22 u23 u24 u25 u26 u27 u28 u29 u30 u31 u32 u33 u34 u35 u36 u37 u38 u39 u40 u41 u42 u43 u44 u45 u46 u47 u48 u49 u50 u51 u52 u53 u54 u55 u56 u57 u58 u59 u60 u61 u62 u63 u64 u65 u66 u67 u68 u69 u70 u71 u72 u73 u74 u75 u76 u77 u78 u79 u80 u81 u82 u83 u84 u85 u86 u87 u88 u89 u90 u91 u92 u93 u94 u95 u96 u97 u98 u99 u100 u101 u102 u103 u104 u105 u106 u107 u108 u109 u110 u111 u112 u113 u114 u115 u116 u117 u118 u119 u120 u121 u122 u123 u124 u125 u126 u127 u128 u129 u130 u131 u132 u133 u134 u135 u136 u137 u138 u139 u140 u141 u142 u143 u144 u145 u146 u147 u148 u149 u150 u151 u152 u153 u154 u155 u156 u157 u158 u159 u160 u161 u162 u163 u164 u165 u166 u167 u168 u169 u170 u171 u172 u173 u174 u175 u176 u177 u178 u179 u180 u181 u182 u183 u184 u185 u186 u187 u188 : Value) :
    Code.wp Tryz.prog (parseFrom 36) (bodyPost Tryz.prog Tryz.f47 (RPPost (ChoP.refP false (x :: rs)) w)) ⟨(u0 :: u1 :: u2 :: u3 :: Value.pointer (some ⟨w.heap.size, 0, none⟩) :: u5 :: Value.pointer (some ⟨w.heap.size + 1, 0, none⟩) :: u7 :: u8 :: u9 :: u10 :: v11 :: u12 :: u13 :: u14 :: u15 :: u16 :: u17 :: u18 :: u19 :: u20 :: u21 :: u22 :: u23 :: u24 :: u25 :: u26 :: u27 :: u28 :: u29 :: u30 :: u31 :: u32 :: u33 :: u34 :: u35 :: u36 :: u37 :: u38 :: u39 :: u40 :: u41 :: u42 :: u43 :: u44 :: u45 :: u46 :: u47 :: u48 :: u49 :: u50 :: u51 :: u52 :: u53 :: u54 :: u55 :: u56 :: u57 :: u58 :: u59 :: u60 :: u61 :: u62 :: u63 :: u64 :: u65 :: u66 :: u67 :: u68 :: u69 :: u70 :: u71 :: u72 :: u73 :: u74 :: u75 :: u76 :: u77 :: u78 :: u79 :: u80 :: u81 :: u82 :: u83 :: u84 :: u85 :: u86 :: u87 :: u88 :: u89 :: u90 :: u91 :: u92 :: u93 :: u94 :: u95 :: u96 :: u97 :: u98 :: u99 :: u100 :: u101 :: u102 :: u103 :: u104 :: u105 :: u106 :: u107 :: u108 :: u109 :: u110 :: u111 :: u112 :: u113 :: u114 :: u115 :: u116 :: u117 :: u118 :: u119 :: u120 :: u121 :: u122 :: u123 :: u124 :: u125 :: u126 :: u127 :: u128 :: u129 :: u130 :: u131 :: u132 :: u133 :: u134 :: u135 :: u136 :: u137 :: u138 :: u139 :: u140 :: u141 :: u142 :: u143 :: u144 :: u145 :: u146 :: u147 :: u148 :: u149 :: u150 :: u151 :: u152 :: u153 :: u154 :: u155 :: u156 :: u157 :: u158 :: u159 :: u160 :: u161 :: u162 :: u163 :: u164 :: u165 :: u166 :: u167 :: u168 :: u169 :: u170 :: u171 :: u172 :: u173 :: u174 :: u175 :: u176 :: u177 :: u178 :: u179 :: u180 :: u181 :: u182 :: u183 :: u184 :: u185 :: u186 :: u187 :: u188 :: []).toArray, []⟩ wc := by
  have HRPF2 := Lib.hid hrpf2
  have HW4 := Lib.hid hw4
  have HLN4 := Lib.hid hln4
  have HR4 := Lib.hid hr4
  have HRL2 := Lib.hid hrl2
  clear hrpf2 hw4 hln4 hr4 hrl2
  conv => arg 2; whnf
  have g0 := cell_at HR4.out.g 0 _ rfl
  go_step
  go_cut [11] (fun v wx => ∃ (d : Int) (r3 : List (List UInt8)), Hid (ChoP.refD (K : Int) r2 = some (d, r3)) ∧ Hid (WSl w w.heap.size v r3) ∧ Hid (∀ y ∈ r3, y.length ≤ 1000000) ∧ Hid (RPS w wx #[.int .u8 (K : Int), .int .i64 fa, .int .i64 kb, .int .i64 fn, .int .i64 t, .int .i64 d, .slice none 0 0]))
  case first =>
    go_upto_if 135 with fail
    go_cut [135] (fun bv wx => bv = .bool (ChoP.measuredB (K : Int)) ∧ wx = wc)
    case first =>
      clear g0
      have h6 : (((K : Int) == 2) = true ∧ ChoP.measuredB (K : Int) = true) ∨ (((K : Int) == 2) = false ∧ ((K : Int) == 3) = true ∧ ChoP.measuredB (K : Int) = true) ∨ (((K : Int) == 2) = false ∧ ((K : Int) == 3) = false ∧ ((K : Int) == 6) = true ∧ ChoP.measuredB (K : Int) = true) ∨ (((K : Int) == 2) = false ∧ ((K : Int) == 3) = false ∧ ((K : Int) == 6) = false ∧ ((K : Int) == 7) = true ∧ ChoP.measuredB (K : Int) = true) ∨ (((K : Int) == 2) = false ∧ ((K : Int) == 3) = false ∧ ((K : Int) == 6) = false ∧ ((K : Int) == 7) = false ∧ ((K : Int) == 9) = true ∧ ChoP.measuredB (K : Int) = true) ∨ (((K : Int) == 2) = false ∧ ((K : Int) == 3) = false ∧ ((K : Int) == 6) = false ∧ ((K : Int) == 7) = false ∧ ((K : Int) == 9) = false ∧ ChoP.measuredB (K : Int) = false) := ChoP.meas6 _
      rcases h6 with ⟨h1, hme⟩ | ⟨h1, h2, hme⟩ | ⟨h1, h2, h3, hme⟩ | ⟨h1, h2, h3, h4, hme⟩ | ⟨h1, h2, h3, h4, h5, hme⟩ | ⟨h1, h2, h3, h4, h5, hme⟩
      all_goals
        have HME := Lib.hid hme
        clear hme
        go_wp2_with fail
        go_meet
        exact ⟨by first | (rw [HME.out]; done) | (rw [HME.out, h1]; done) | (rw [HME.out, h2]; done) | (rw [HME.out, h3]; done) | (rw [HME.out, h4]; done) | (rw [HME.out, h5]; done), rfl⟩
    case rest =>
      obtain ⟨rfl, rfl⟩ := hcut
      obtain ⟨X5, c5, e5, hl5, hc5, hm5⟩ := HW4.out
      subst e5
      have HL5 := Lib.hid hl5
      have hszw := HR4.out.sz
      clear hl5 g0
      cases hme : ChoP.measuredB (K : Int)
      · have hrd : ChoP.refD (K : Int) r2 = some (0, r2) := by unfold ChoP.refD; rw [if_neg (by rw [hme]; simp)]
        have HRD := Lib.hid hrd
        clear hme hrd
        go_wp2_with fail
        go_meet
        exact ⟨0, r2, HRD, HW4, HLN4, HR4⟩
      · have hrd : ChoP.refD (K : Int) r2 = ChoP.takeN r2 := by unfold ChoP.refD; rw [if_pos hme]
        rcases r2 with _ | ⟨y, r3⟩
        · have hrp : ChoP.refP false (x :: rs) = none := by rw [HRPF2.out, hrd]; rfl
          have HRP := Lib.hid hrp
          clear hrp hrd hme
          obtain ⟨⟨f0, f1, f2, f3, f4, f5, f6⟩, _⟩ := blk7 (v0 := .int .u8 (K : Int)) (v1 := .int .i64 fa) (v2 := .int .i64 kb) (v3 := .int .i64 fn) (v4 := .int .i64 t) (v5 := .int .i64 0) (v6 := .slice none 0 0) HR4.out.g
          obtain ⟨⟨z0, z1, z2, z3, z4, z5, z6⟩, ⟨x0, x1, x2, x3, x4, x5, x6⟩⟩ := blk7 (v0 := .int .u8 0) (v1 := .int .i64 0) (v2 := .int .i64 0) (v3 := .int .i64 0) (v4 := .int .i64 0) (v5 := .int .i64 0) (v6 := .slice none 0 0) HR4.out.z
          have hneGZ : w.heap.size + 1 ≠ w.heap.size := by omega
          go_wp2_with fail
          rw [HRP.out]
          exact bodyPost_ret (v := .tuple #[choV ⟨⟨(K : Int), fa, kb, fn⟩, t, 0, none, 0, 0⟩, .bool false]) (by simp [results, Tryz.results47, go_sem, z0, z1, z2, z3, z4, z5, z6, choV]) rfl (HR4.out.no _ _ _ _ _ _ _ _)
        · obtain ⟨b4, o4, rfl, hb4, hc4⟩ := HL5.out (by simp [strs])
          have hcy : wc.cell? ⟨b4, o4, none⟩ = some (strV y) := (HR4.out.below.cell (p := ⟨b4, o4, none⟩) hb4).trans (by simpa using hc4 0 (strV y) rfl)
          have hl3 : (0 : Int) < (r3.length : Int) + 1 := by omega
          have hl4 : ((r3.length : Int) + 1 == 0) = false := by rw [beq_eq_false_iff_ne]; omega
          have hyl := HLN4.out y (by simp)
          have hnm := refNum_any ⟨y.toArray⟩ wc (by show y.toArray.size ≤ _; simpa using hyl)
          rw [show (⟨y.toArray⟩ : ByteArray).data.toList = y from rfl] at hnm
          have HNM := Lib.hid hnm
          have HRN := Lib.hid (ChoP.ref_num y)
          have HRD := Lib.hid hrd
          clear hnm hrd hme hc4
          go_wp2_with fail
          refine HNM.out.mono ?_
          rintro e w5 ⟨v5, rfl, hv5, hb5⟩
          rw [HRN.out.1] at hv5 ⊢
          have HR5 := Lib.hid (HR4.out.next hb5)
          have HV5 := Lib.hid hv5
          have hsz5 := hb5.size
          clear hb5 hv5 hcy HNM
          cases hok : ChoP.numOk y
          · have hrp : ChoP.refP false (x :: rs) = none := by
              rw [HRPF2.out, HRD.out, ChoP.takeN_no hok]
              rfl
            have HRP := Lib.hid hrp
            clear hrp
            obtain ⟨⟨f0, f1, f2, f3, f4, f5, f6⟩, _⟩ := blk7 (v0 := .int .u8 (K : Int)) (v1 := .int .i64 fa) (v2 := .int .i64 kb) (v3 := .int .i64 fn) (v4 := .int .i64 t) (v5 := .int .i64 0) (v6 := .slice none 0 0) HR5.out.g
            obtain ⟨⟨z0, z1, z2, z3, z4, z5, z6⟩, ⟨x0, x1, x2, x3, x4, x5, x6⟩⟩ := blk7 (v0 := .int .u8 0) (v1 := .int .i64 0) (v2 := .int .i64 0) (v3 := .int .i64 0) (v4 := .int .i64 0) (v5 := .int .i64 0) (v6 := .slice none 0 0) HR5.out.z
            have hneGZ : w.heap.size + 1 ≠ w.heap.size := by omega
            go_wp2_with fail
            rw [HRP.out]
            exact bodyPost_ret (v := .tuple #[choV ⟨⟨(K : Int), fa, kb, fn⟩, t, 0, none, 0, 0⟩, .bool false]) (by simp [results, Tryz.results47, go_sem, z0, z1, z2, z3, z4, z5, z6, choV]) rfl (HR5.out.no _ _ _ _ _ _ _ _)
          · obtain rfl : v5 = ChoP.numV y := by rw [HV5.out hok, HRN.out.2 hok]
            have hrd2 : ChoP.refD (K : Int) (y :: r3) = some (ChoP.numV y, r3) := by rw [HRD.out, ChoP.takeN_ok hok]
            generalize ChoP.numV y = v5 at *
            have HRD2 := Lib.hid hrd2
            have hset := HR5.out.setG 5 (.int .i64 v5)
            have HSET := Lib.hid hset
            have g5 := cell_at HR5.out.g 5 _ rfl
            have y5 := frozen_at HR5.out.g 5
            have hc5' : r3.length + 1 ≤ c5 := by simpa using hc5
            have hi1 : 1 ≤ c5 := by omega
            have hi2 : (1 : Int) ≤ (r3.length : Int) + 1 := by omega
            have hi3 : (r3.length : Int) + 1 ≤ (c5 : Int) := by omega
            have hwl2 := WSl.tail HL5.out hc5' hm5
            clear hrd2 hset HRD HV5 HRN
            by_cases hc2 : c5 = 1
            · rw [if_pos hc2] at hwl2
              have hr0 : r3 = [] := List.eq_nil_of_length_eq_zero (by omega)
              subst hr0
              subst hc2
              have HW2 := Lib.hid hwl2
              clear hwl2
              go_wp2_with fail
              go_region
              all_goals
                have HR6 : Hid (RPS w ((w5.setCell ⟨w.heap.size + 1, 5, none⟩ (.int .i64 v5)).drew) #[.int .u8 (K : Int), .int .i64 fa, .int .i64 kb, .int .i64 fn, .int .i64 t, .int .i64 v5, .slice none 0 0]) := Lib.hid ⟨HSET.out.z, HSET.out.g, HSET.out.below.drew⟩
                go_wp2_with fail
                go_meet
                exact ⟨v5, [], HRD2, HW2, Lib.hid (fun y hy => by cases hy), HR6⟩
            · rw [if_neg hc2] at hwl2
              have HW2 := Lib.hid hwl2
              clear hwl2
              go_wp2_with fail
              go_region
              all_goals
                have HR6 : Hid (RPS w ((w5.setCell ⟨w.heap.size + 1, 5, none⟩ (.int .i64 v5)).drew) #[.int .u8 (K : Int), .int .i64 fa, .int .i64 kb, .int .i64 fn, .int .i64 t, .int .i64 v5, .slice none 0 0]) := Lib.hid ⟨HSET.out.z, HSET.out.g, HSET.out.below.drew⟩
                go_wp2_with fail
                go_meet
                exact ⟨v5, r3, HRD2, HW2, Lib.hid (fun y' hy' => HLN4.out y' (List.mem_cons_of_mem _ hy')), HR6⟩
  case rest =>
    obtain ⟨d, r3, HRD, HW6, HLN6, HR6⟩ := hcut
    have hrpf3 : ChoP.refP false (x :: rs) = (ChoP.refA (K : Int) r3).map fun a => ⟨⟨K, fa, kb, fn⟩, t, d, a⟩ := by rw [HRPF2.out, HRD.out, Option.bind_some]
    have hr3l : r3.length ≤ 1000000 := Nat.le_trans (ChoP.refD_le HRD.out) (Nat.le_trans HRL2.out hn)
    go_step
    exact refParse_args x rs w _ K fa kb fn t d r3 _ hneGZ hrpf3 HW6.out HLN6.out HR6.out hr3l _ _ _ _ _ _ _ _ _ _ _ _ _ _ _ _ _ _ _ _ _ _ _ _ _ _ _ _ _ _ _ _ _ _ _ _ _ _ _ _ _ _ _ _ _ _ _ _ _ _ _ _ _ _ _ _ _ _ _ _ _ _ _ _ _ _ _ _ _ _ _ _ _ _ _ _ _ _ _ _ _ _ _ _ _ _ _ _ _ _ _ _ _ _ _ _ _ _ _ _ _ _ _ _ _ _ _ _ _ _ _ _ _ _ _ _ _ _ _ _ _ _ _ _ _ _ _ _ _ _ _ _ _ _ _ _ _ _ _ _ _ _ _ _ _ _ _ _ _ _ _ _ _ _ _ _ _ _ _ _ _ _ _ _ _ _ _ _ _ _ _ _ _ _ _ _ _ _ _ _ _ _ _ _ _ _
set_option maxRecDepth 100000 in
set_option maxHeartbeats 8000000 in
theorem refParse_key (x : List UInt8) (rs : List (List UInt8)) (w wc : World) (K : Nat) (fa kb fn : Int) (key : Bool) (hkl : K ≤ 10 - 1) (h00 : ((K : Int) == 0) = false) (r : List (List UInt8)) (X1 : Option Addr) (c1 : Nat) (hn : rs.length ≤ 1000000) (hc1 : r.length ≤ c1) (hm1 : c1 ≤ 9223372036854775807) (hln : ∀ y ∈ r, y.length ≤ 1000000) (hr3 : RPS w wc #[.int .u8 (K : Int), .int .i64 fa, .int .i64 kb, .int .i64 fn, .int .i64 0, .int .i64 0, .slice none 0 0]) (hrk : ChoP.refKey (x :: rs) = some (⟨K, fa, kb, fn⟩, r)) (hwl : WSl w w.heap.size (.slice X1 r.length c1) r) (u0 u2 u3 u5 u7 u8 u9 u10 u12 u13 u14 u15 u16 u17 u18 u19 u20 u21 u22 u23 u24 u25 u26 u27 u28 u29 u30 u31 u32 u33 u34 u35 u36 u37 u38 u39 u40 u41 u42 u43 u44 u45 u46 u47 u48 u49 u50 u51 u52 u53 u54 u55 u56 u57 u58 u59 u60 u61 u62 u63 u64 u65 u66 u67 u68 u69 u70 u71 u72 u73 u74 u75 u76 u77 u78 u79 u80 u81 u82 u83 u84 u85 u86 u87 u88 u89 u90 u91 u92 u93 u94 u95 u96 u97 u98 u99 u100 u101 u102 u103 u104 u105 u106 u107 u108 u109 u110 u111 u112 u113 u114 u115 u116 u117 u118 u119 u120 u121 u122 u123 u124 u125 u126 u127 u128 u129 u130 u131 u132 u133 u134 u135 u136 u137 u138 u139 u140 u141 u142 u143 u144 u145 u146 u147 u148 u149 u150 u151 u152 u153 u154 u155 u156 u157 u158 u159 u160 u161 u162 u163 u164 u165 u166 u167 u168 u169 u170 u171 u172 u173 u174 u175 u176 u177 u178 u179 u180 u181 u182 u183 u184 u185 u186 u187 u188 : Value) :
    Code.wp Tryz.prog (parseFrom 27) (bodyPost Tryz.prog Tryz.f47 (RPPost (ChoP.refP key (x :: rs)) w)) ⟨(u0 :: Value.bool key :: u2 :: u3 :: Value.pointer (some ⟨w.heap.size, 0, none⟩) :: u5 :: Value.pointer (some ⟨w.heap.size + 1, 0, none⟩) :: u7 :: u8 :: u9 :: u10 :: Value.slice X1 r.length c1 :: u12 :: u13 :: u14 :: u15 :: u16 :: u17 :: u18 :: u19 :: u20 :: u21 :: u22 :: u23 :: u24 :: u25 :: u26 :: u27 :: u28 :: u29 :: u30 :: u31 :: u32 :: u33 :: u34 :: u35 :: u36 :: u37 :: u38 :: u39 :: u40 :: u41 :: u42 :: u43 :: u44 :: u45 :: u46 :: u47 :: u48 :: u49 :: u50 :: u51 :: u52 :: u53 :: u54 :: u55 :: u56 :: u57 :: u58 :: u59 :: u60 :: u61 :: u62 :: u63 :: u64 :: u65 :: u66 :: u67 :: u68 :: u69 :: u70 :: u71 :: u72 :: u73 :: u74 :: u75 :: u76 :: u77 :: u78 :: u79 :: u80 :: u81 :: u82 :: u83 :: u84 :: u85 :: u86 :: u87 :: u88 :: u89 :: u90 :: u91 :: u92 :: u93 :: u94 :: u95 :: u96 :: u97 :: u98 :: u99 :: u100 :: u101 :: u102 :: u103 :: u104 :: u105 :: u106 :: u107 :: u108 :: u109 :: u110 :: u111 :: u112 :: u113 :: u114 :: u115 :: u116 :: u117 :: u118 :: u119 :: u120 :: u121 :: u122 :: u123 :: u124 :: u125 :: u126 :: u127 :: u128 :: u129 :: u130 :: u131 :: u132 :: u133 :: u134 :: u135 :: u136 :: u137 :: u138 :: u139 :: u140 :: u141 :: u142 :: u143 :: u144 :: u145 :: u146 :: u147 :: u148 :: u149 :: u150 :: u151 :: u152 :: u153 :: u154 :: u155 :: u156 :: u157 :: u158 :: u159 :: u160 :: u161 :: u162 :: u163 :: u164 :: u165 :: u166 :: u167 :: u168 :: u169 :: u170 :: u171 :: u172 :: u173 :: u174 :: u175 :: u176 :: u177 :: u178 :: u179 :: u180 :: u181 :: u182 :: u183 :: u184 :: u185 :: u186 :: u187 :: u188 :: []).toArray, []⟩ wc := by
  have HLN := Lib.hid hln
  have HR3 := Lib.hid hr3
  have HRKF := Lib.hid hrk
  have hwl0 := Lib.hid hwl
  have hszc := hr3.sz
  have hneGZ : w.heap.size + 1 ≠ w.heap.size := by omega
  clear hln hr3 hrk hwl
  conv => arg 2; whnf
  cases key
  · have hrpf : ChoP.refP false (x :: rs) = (ChoP.refT (K : Int) r).bind fun t => (ChoP.refD (K : Int) t.2).bind fun d => (ChoP.refA (K : Int) d.2).map fun a => ⟨⟨K, fa, kb, fn⟩, t.1, d.1, a⟩ := by
      unfold ChoP.refP ChoP.refC
      rw [if_neg (by simp), HRKF.out, Option.bind_some]
    have HRPF := Lib.hid hrpf
    have f0 := cell_at HR3.out.g 0 _ rfl
    have hK1 : 1 ≤ K := by
      rcases Nat.eq_zero_or_pos K with e | e
      · exfalso
        rw [beq_eq_false_iff_ne] at h00
        omega
      · exact e
    have htm : ChoP.timedB (K : Int) = decide ((K : Int) ≤ 4) := by
      have : K = 1 ∨ K = 2 ∨ K = 3 ∨ K = 4 ∨ K = 5 ∨ K = 6 ∨ K = 7 ∨ K = 8 ∨ K = 9 := by omega
      rcases this with e | e | e | e | e | e | e | e | e <;> subst e <;> rfl
    have HTM := Lib.hid htm
    have HRL1 : Hid (r.length ≤ rs.length) := Lib.hid (ChoP.refKey_le HRKF.out)
    clear hrpf htm HRKF
    go_wp2_with fail
    refine (reftimed_any _ _).mono ?_
    rintro e w' ⟨rfl, rfl⟩
    clear f0
    rw [← HTM.out]
    obtain ⟨X', c', e', hl', hc', hm'⟩ := hwl0.out
    have hlw : Lie wc wc.heap.size X' (strs r) := hl'.below HR3.out.below HR3.out.below.size
    have HLW := Lib.hid hl'
    clear hlw hl' hwl0
    injection e' with e1 _ e3
    subst e1 e3
    go_upto_if 107 with fail
    go_cut [11] (fun v wx => ∃ (t : Int) (r2 : List (List UInt8)), Hid (ChoP.refT (K : Int) r = some (t, r2)) ∧ Hid (WSl w w.heap.size v r2) ∧ Hid (∀ y ∈ r2, y.length ≤ 1000000) ∧ Hid (RPS w wx #[.int .u8 (K : Int), .int .i64 fa, .int .i64 kb, .int .i64 fn, .int .i64 t, .int .i64 0, .slice none 0 0]))
    case first =>
      cases ht : ChoP.timedB (K : Int)
      · have hrt : ChoP.refT (K : Int) r = some (0, r) := by unfold ChoP.refT; rw [if_neg (by rw [ht]; simp)]
        have HRT := Lib.hid hrt
        have HW4 : Hid (WSl w w.heap.size (.slice X1 r.length c1) r) := Lib.hid ⟨X1, c1, rfl, HLW.out, hc', hm'⟩
        clear ht hrt
        go_wp2_with fail
        go_meet
        exact ⟨0, r, HRT, HW4, HLN, HR3⟩
      ·
        rcases r with _ | ⟨y, _ | ⟨z, r3⟩⟩
        · have hrt := ChoP.refT_nil ht
          have hrp : ChoP.refP false (x :: rs) = none := by rw [HRPF.out, hrt]; rfl
          have HRP := Lib.hid hrp
          clear hrp hrt ht
          obtain ⟨⟨f0, f1, f2, f3, f4, f5, f6⟩, _⟩ := blk7 (v0 := .int .u8 (K : Int)) (v1 := .int .i64 fa) (v2 := .int .i64 kb) (v3 := .int .i64 fn) (v4 := .int .i64 0) (v5 := .int .i64 0) (v6 := .slice none 0 0) HR3.out.g
          obtain ⟨⟨z0, z1, z2, z3, z4, z5, z6⟩, ⟨x0, x1, x2, x3, x4, x5, x6⟩⟩ := blk7 (v0 := .int .u8 0) (v1 := .int .i64 0) (v2 := .int .i64 0) (v3 := .int .i64 0) (v4 := .int .i64 0) (v5 := .int .i64 0) (v6 := .slice none 0 0) HR3.out.z
          have hneGZ : w.heap.size + 1 ≠ w.heap.size := by omega
          go_wp2_with fail
          rw [HRP.out]
          exact bodyPost_ret (v := .tuple #[choV ⟨⟨(K : Int), fa, kb, fn⟩, 0, 0, none, 0, 0⟩, .bool false]) (by simp [results, Tryz.results47, go_sem, z0, z1, z2, z3, z4, z5, z6, choV]) rfl (HR3.out.no _ _ _ _ _ _ _ _)
        · have hrt := ChoP.refT_one ht y
          have hrp : ChoP.refP false (x :: rs) = none := by rw [HRPF.out, hrt]; rfl
          have HRP := Lib.hid hrp
          have hl2 : ((1 : Int) < 2) := by decide
          clear hrp hrt ht
          obtain ⟨⟨f0, f1, f2, f3, f4, f5, f6⟩, _⟩ := blk7 (v0 := .int .u8 (K : Int)) (v1 := .int .i64 fa) (v2 := .int .i64 kb) (v3 := .int .i64 fn) (v4 := .int .i64 0) (v5 := .int .i64 0) (v6 := .slice none 0 0) HR3.out.g
          obtain ⟨⟨z0, z1, z2, z3, z4, z5, z6⟩, ⟨x0, x1, x2, x3, x4, x5, x6⟩⟩ := blk7 (v0 := .int .u8 0) (v1 := .int .i64 0) (v2 := .int .i64 0) (v3 := .int .i64 0) (v4 := .int .i64 0) (v5 := .int .i64 0) (v6 := .slice none 0 0) HR3.out.z
          have hneGZ : w.heap.size + 1 ≠ w.heap.size := by omega
          go_wp2_with fail
          rw [HRP.out]
          exact bodyPost_ret (v := .tuple #[choV ⟨⟨(K : Int), fa, kb, fn⟩, 0, 0, none, 0, 0⟩, .bool false]) (by simp [results, Tryz.results47, go_sem, z0, z1, z2, z3, z4, z5, z6, choV]) rfl (HR3.out.no _ _ _ _ _ _ _ _)
        · have hrt := ChoP.refT_two ht y (z :: r3)
          obtain ⟨b4, o4, rfl, hb4, hc4⟩ := HLW.out (by simp [strs])
          have hcy : wc.cell? ⟨b4, o4, none⟩ = some (strV y) := (HR3.out.below.cell (p := ⟨b4, o4, none⟩) hb4).trans (by simpa using hc4 0 (strV y) rfl)
          have hcz : wc.cell? ⟨b4, o4 + 1, none⟩ = some (strV z) := (HR3.out.below.cell (p := ⟨b4, o4 + 1, none⟩) hb4).trans (hc4 1 (strV z) rfl)
          have hl2 : ¬ ((r3.length : Int) + 1 + 1 < 2) := by omega
          have hl3 : (0 : Int) < (r3.length : Int) + 1 + 1 := by omega
          have hl4 : (1 : Int) < (r3.length : Int) + 1 + 1 := by omega
          clear hc4
          cases hy : (y == [97, 116])
          · have hy2 := congrArg (fun b => !b) hy
            have hrp : ChoP.refP false (x :: rs) = none := by
              rw [HRPF.out, hrt, if_neg (by simpa using hy)]
              rfl
            have HRP := Lib.hid hrp
            clear hrp hrt ht
            obtain ⟨⟨f0, f1, f2, f3, f4, f5, f6⟩, _⟩ := blk7 (v0 := .int .u8 (K : Int)) (v1 := .int .i64 fa) (v2 := .int .i64 kb) (v3 := .int .i64 fn) (v4 := .int .i64 0) (v5 := .int .i64 0) (v6 := .slice none 0 0) HR3.out.g
            obtain ⟨⟨z0, z1, z2, z3, z4, z5, z6⟩, ⟨x0, x1, x2, x3, x4, x5, x6⟩⟩ := blk7 (v0 := .int .u8 0) (v1 := .int .i64 0) (v2 := .int .i64 0) (v3 := .int .i64 0) (v4 := .int .i64 0) (v5 := .int .i64 0) (v6 := .slice none 0 0) HR3.out.z
            have hneGZ : w.heap.size + 1 ≠ w.heap.size := by omega
            go_wp2_with fail
            rw [HRP.out]
            exact bodyPost_ret (v := .tuple #[choV ⟨⟨(K : Int), fa, kb, fn⟩, 0, 0, none, 0, 0⟩, .bool false]) (by simp [results, Tryz.results47, go_sem, z0, z1, z2, z3, z4, z5, z6, choV]) rfl (HR3.out.no _ _ _ _ _ _ _ _)
          · have hy2 := congrArg (fun b => !b) hy
            rw [if_pos (by simpa using hy)] at hrt
            have hzl := HLN.out z (by simp)
            have hnm := refNum_any ⟨z.toArray⟩ wc (by show z.toArray.size ≤ _; simpa using hzl)
            rw [show (⟨z.toArray⟩ : ByteArray).data.toList = z from rfl] at hnm
            have HNM := Lib.hid hnm
            have HRN := Lib.hid (ChoP.ref_num z)
            have HRT := Lib.hid hrt
            clear hnm hrt ht
            go_wp2_with fail
            refine HNM.out.mono ?_
            rintro e w5 ⟨v5, rfl, hv5, hb5⟩
            rw [HRN.out.1] at hv5 ⊢
            have HR5 := Lib.hid (HR3.out.next hb5)
            have HV5 := Lib.hid hv5
            have hsz5 := hb5.size
            clear hb5 hv5 hcy hcz HNM
            cases hok : ChoP.numOk z
            · have hrp : ChoP.refP false (x :: rs) = none := by
                rw [HRPF.out, HRT.out, ChoP.takeN_no hok]
                rfl
              have HRP := Lib.hid hrp
              clear hrp
              obtain ⟨⟨f0, f1, f2, f3, f4, f5, f6⟩, _⟩ := blk7 (v0 := .int .u8 (K : Int)) (v1 := .int .i64 fa) (v2 := .int .i64 kb) (v3 := .int .i64 fn) (v4 := .int .i64 0) (v5 := .int .i64 0) (v6 := .slice none 0 0) HR5.out.g
              obtain ⟨⟨z0, z1, z2, z3, z4, z5, z6⟩, ⟨x0, x1, x2, x3, x4, x5, x6⟩⟩ := blk7 (v0 := .int .u8 0) (v1 := .int .i64 0) (v2 := .int .i64 0) (v3 := .int .i64 0) (v4 := .int .i64 0) (v5 := .int .i64 0) (v6 := .slice none 0 0) HR5.out.z
              have hneGZ : w.heap.size + 1 ≠ w.heap.size := by omega
              go_wp2_with fail
              rw [HRP.out]
              exact bodyPost_ret (v := .tuple #[choV ⟨⟨(K : Int), fa, kb, fn⟩, 0, 0, none, 0, 0⟩, .bool false]) (by simp [results, Tryz.results47, go_sem, z0, z1, z2, z3, z4, z5, z6, choV]) rfl (HR5.out.no _ _ _ _ _ _ _ _)
            · obtain rfl : v5 = ChoP.numV z := by rw [HV5.out hok, HRN.out.2 hok]
              have hrt2 : ChoP.refT (K : Int) (y :: z :: r3) = some (ChoP.numV z, r3) := by rw [HRT.out, ChoP.takeN_ok hok]
              generalize ChoP.numV z = v5 at *
              have HRT2 := Lib.hid hrt2
              have hset := HR5.out.setG 4 (.int .i64 v5)
              have HSET := Lib.hid hset
              have g4 := cell_at HR5.out.g 4 _ rfl
              have y4 := frozen_at HR5.out.g 4
              have hc1' : r3.length + 1 + 1 ≤ c1 := by simpa using hc'
              have hi1 : 2 ≤ c1 := by omega
              have hi2 : (2 : Int) ≤ (r3.length : Int) + 1 + 1 := by omega
              have hi3 : (r3.length : Int) + 1 + 1 ≤ (c1 : Int) := by omega
              have hcut := HLW.out.cut1 2 c1 (by simpa [strs] using hc')
              have hwl2 : WSl w w.heap.size (.slice (if c1 = 2 then some (⟨b4, o4, none⟩ : Addr) else Option.map (fun x : Addr => x.add 2) (some (⟨b4, o4, none⟩ : Addr))) r3.length (c1 - 2)) r3 := ⟨_, c1 - 2, rfl, hcut, by omega, by omega⟩
              clear hrt2 hset hcut HRT HV5 HRN
              by_cases hc2 : c1 = 2
              · rw [if_pos hc2] at hwl2
                have hr0 : r3 = [] := List.eq_nil_of_length_eq_zero (by omega)
                subst hr0
                subst hc2
                have HW2 := Lib.hid hwl2
                clear hwl2
                go_wp2_with fail
                go_region
                all_goals
                  have HR6 : Hid (RPS w ((w5.setCell ⟨w.heap.size + 1, 4, none⟩ (.int .i64 v5)).drew) #[.int .u8 (K : Int), .int .i64 fa, .int .i64 kb, .int .i64 fn, .int .i64 v5, .int .i64 0, .slice none 0 0]) := Lib.hid ⟨HSET.out.z, HSET.out.g, HSET.out.below.drew⟩
                  go_wp2_with fail
                  go_meet
                  exact ⟨v5, [], HRT2, HW2, Lib.hid (fun y hy => by cases hy), HR6⟩
              · rw [if_neg hc2] at hwl2
                have HW2 := Lib.hid hwl2
                clear hwl2
                go_wp2_with fail
                go_region
                all_goals
                  have HR6 : Hid (RPS w ((w5.setCell ⟨w.heap.size + 1, 4, none⟩ (.int .i64 v5)).drew) #[.int .u8 (K : Int), .int .i64 fa, .int .i64 kb, .int .i64 fn, .int .i64 v5, .int .i64 0, .slice none 0 0]) := Lib.hid ⟨HSET.out.z, HSET.out.g, HSET.out.below.drew⟩
                  go_wp2_with fail
                  go_meet
                  exact ⟨v5, r3, HRT2, HW2, Lib.hid (fun y' hy' => HLN.out y' (List.mem_cons_of_mem _ (List.mem_cons_of_mem _ hy'))), HR6⟩
    case rest =>
      obtain ⟨t, r2, HRT, HW4, HLN4, HR4⟩ := hcut
      have hrpf2 : ChoP.refP false (x :: rs) = (ChoP.refD (K : Int) r2).bind fun d => (ChoP.refA (K : Int) d.2).map fun a => ⟨⟨K, fa, kb, fn⟩, t, d.1, a⟩ := by rw [HRPF.out, HRT.out, Option.bind_some]
      have hrl2 : r2.length ≤ rs.length := Nat.le_trans (ChoP.refT_le HRT.out) HRL1.out
      go_step
      exact refParse_meas x rs w _ K fa kb fn t r2 _ hn hneGZ hrpf2 HW4.out HLN4.out HR4.out hrl2 _ _ _ _ _ _ _ _ _ _ _ _ _ _ _ _ _ _ _ _ _ _ _ _ _ _ _ _ _ _ _ _ _ _ _ _ _ _ _ _ _ _ _ _ _ _ _ _ _ _ _ _ _ _ _ _ _ _ _ _ _ _ _ _ _ _ _ _ _ _ _ _ _ _ _ _ _ _ _ _ _ _ _ _ _ _ _ _ _ _ _ _ _ _ _ _ _ _ _ _ _ _ _ _ _ _ _ _ _ _ _ _ _ _ _ _ _ _ _ _ _ _ _ _ _ _ _ _ _ _ _ _ _ _ _ _ _ _ _ _ _ _ _ _ _ _ _ _ _ _ _ _ _ _ _ _ _ _ _ _ _ _ _ _ _ _ _ _ _ _ _ _ _ _ _ _ _ _ _ _ _ _ _ _ _ _
  ·
    have hrp : ChoP.refP true (x :: rs) = if r = [] then some ⟨⟨K, fa, kb, fn⟩, 0, 0, []⟩ else none := by
      unfold ChoP.refP ChoP.refK
      rw [if_pos rfl, HRKF.out, Option.bind_some]
      split <;> rfl
    obtain ⟨⟨f0, f1, f2, f3, f4, f5, f6⟩, _⟩ := blk7 (v0 := .int .u8 (K : Int)) (v1 := .int .i64 fa) (v2 := .int .i64 kb) (v3 := .int .i64 fn) (v4 := .int .i64 0) (v5 := .int .i64 0) (v6 := .slice none 0 0) HR3.out.g
    obtain ⟨⟨z0, z1, z2, z3, z4, z5, z6⟩, ⟨x0, x1, x2, x3, x4, x5, x6⟩⟩ := blk7 (v0 := .int .u8 0) (v1 := .int .i64 0) (v2 := .int .i64 0) (v3 := .int .i64 0) (v4 := .int .i64 0) (v5 := .int .i64 0) (v6 := .slice none 0 0) HR3.out.z
    cases r with
    | nil =>
      rw [if_pos rfl] at hrp
      have HRP := Lib.hid hrp
      clear hrp
      go_wp2_with fail
      rw [HRP.out]
      exact bodyPost_ret (v := .tuple #[choV ⟨⟨K, fa, kb, fn⟩, 0, 0, none, 0, 0⟩, .bool true]) (by simp [results, Tryz.results47, go_sem, z0, z1, z2, z3, z4, z5, z6, choV]) rfl (HR3.out.yes (A := none) (n := 0) (c := 0) (ar := []) rfl (Nat.le_refl _) (by omega) (Lie.nil _ _ _) (fun b o e => by cases e) _ _ _ _ _ _ _)
    | cons y r2 =>
      rw [if_neg (by simp)] at hrp
      have HRP := Lib.hid hrp
      have h01 : ((r2.length : Int) + 1 == 0) = false := by rw [beq_eq_false_iff_ne]; omega
      clear hrp
      go_wp2_with fail
      rw [HRP.out]
      exact bodyPost_ret (v := .tuple #[choV ⟨⟨K, fa, kb, fn⟩, 0, 0, none, 0, 0⟩, .bool false]) (by simp [results, Tryz.results47, go_sem, z0, z1, z2, z3, z4, z5, z6, choV]) rfl (HR3.out.no _ _ _ _ _ _ _ _)
end Go.Proofs.YtpniilgkceadeaaGreatDoor
