/- The reference's texts: KeyText, Line, Text. -/
import Derived.Test.YtpniilgkceadeaaGreatDoorChoRefNum
import Derived.Test.YtpniilgkceadeaaGreatDoorChoRefValid
import Derived.Test.YtpniilgkceadeaaGreatDoorChoSetText
import Derived.BigRegion
import Derived.Deep.DeepCutAuto
namespace ChoP
open Go
theorem join1 (x : List UInt8) (r : List (List UInt8)) : Lib.join (x :: r) [32] = x ++ (r.map ([32] ++ ·)).flatten := by rw [Lib.join_cons]; rfl
theorem keyText_eq (k : Key) : keyText k = words.getD k.kind.toNat [] ++ [32] ++ Lib.itoa k.a ++ (if pairB k.kind = true then [32] ++ Lib.itoa k.b else []) ++ [32] ++ Lib.itoa k.n := by
  unfold keyText keyWords
  rw [show [words.getD k.kind.toNat [], Lib.itoa k.a] ++ (if pairB k.kind = true then [Lib.itoa k.b] else []) ++ [Lib.itoa k.n] = words.getD k.kind.toNat [] :: ([Lib.itoa k.a] ++ (if pairB k.kind = true then [Lib.itoa k.b] else []) ++ [Lib.itoa k.n]) from rfl, join1]
  split <;> simp
theorem lineText_eq2 (c : Cho) : lineText c = keyText c.key ++ (if timedB c.key.kind = true then [32, 97, 116, 32] ++ Lib.itoa c.t else []) ++ (if measuredB c.key.kind = true then [32] ++ Lib.itoa c.d else []) ++ c.args.flatMap (fun v => [32] ++ Lib.itoa v) := by
  unfold lineText lineWords
  rw [show [keyText c.key] ++ (if timedB c.key.kind = true then [[97, 116], Lib.itoa c.t] else []) ++ (if measuredB c.key.kind = true then [Lib.itoa c.d] else []) ++ c.args.map Lib.itoa = keyText c.key :: ((if timedB c.key.kind = true then [[97, 116], Lib.itoa c.t] else []) ++ (if measuredB c.key.kind = true then [Lib.itoa c.d] else []) ++ c.args.map Lib.itoa) by simp, join1]
  split <;> split <;> simp [List.flatMap, Function.comp_def]
theorem meas6b (k : Int) : ((k == 2) = true ∧ measuredB k = true) ∨ ((k == 2) = false ∧ (k == 3) = true ∧ measuredB k = true) ∨ ((k == 2) = false ∧ (k == 3) = false ∧ (k == 6) = true ∧ measuredB k = true) ∨ ((k == 2) = false ∧ (k == 3) = false ∧ (k == 6) = false ∧ (k == 7) = true ∧ measuredB k = true) ∨ ((k == 2) = false ∧ (k == 3) = false ∧ (k == 6) = false ∧ (k == 7) = false ∧ (k == 9) = true ∧ measuredB k = true) ∨ ((k == 2) = false ∧ (k == 3) = false ∧ (k == 6) = false ∧ (k == 7) = false ∧ (k == 9) = false ∧ measuredB k = false) := by
  unfold measuredB
  cases (k == 2) <;> cases (k == 3) <;> cases (k == 6) <;> cases (k == 7) <;> cases (k == 9) <;> simp
theorem timed4 (k : Int) (h1 : 1 ≤ k) (h2 : k ≤ 9) : timedB k = decide (k ≤ 4) := by
  have : k = 1 ∨ k = 2 ∨ k = 3 ∨ k = 4 ∨ k = 5 ∨ k = 6 ∨ k = 7 ∨ k = 8 ∨ k = 9 := by omega
  rcases this with e | e | e | e | e | e | e | e | e <;> subst e <;> rfl
/-- the numbers behind a line -/
def argsT (l : List Int) : List UInt8 := l.flatMap fun v => [32] ++ Lib.itoa v
theorem argsT_snoc (l : List Int) (v : Int) : argsT (l ++ [v]) = argsT l ++ ([32] ++ Lib.itoa v) := by simp [argsT]
theorem argsT_le (l : List Int) (h : ∀ v ∈ l, InI v) : (argsT l).length ≤ l.length * 22 := by
  induction l with
  | nil => simp [argsT]
  | cons v r ih =>
    have h1 := Lib.itoa_length_le v (h v (by simp)).1 (h v (by simp)).2
    have h2 := ih (fun x hx => h x (by simp [hx]))
    unfold argsT at h2 ⊢
    have h3 : ([32] ++ Lib.itoa v).length = (Lib.itoa v).length + 1 := by simp
    rw [List.flatMap_cons, List.length_append, List.length_cons, h3]
    omega
theorem setText_snoc (l : List Cho) (c : Cho) : setText (l ++ [c]) = setText l ++ (lineText c ++ [10]) := by simp [setText]
end ChoP
namespace Go.Proofs.YtpniilgkceadeaaGreatDoor
open Go.RowKit
theorem refNames2_any (w : World) : Calls Tryz.prog 64 #[] w fun e w' => e = .returned (.slice (some ⟨w.heap.size, 0, none⟩) 10 10) ∧ w'.heap[w.heap.size]? = some (.cells wordsV 9 (0, 0)) ∧ Below w.heap.size w w' := by
  go_enter Tryz.func64, Tryz.ntmps64
  go_wp2
  go_ret
  exact ⟨rfl, heap_alloc_new w _, (Below.refl _ _).alloc (Nat.le_refl _) _⟩
set_option maxRecDepth 100000 in
set_option maxHeartbeats 4000000 in
theorem refKeyText_any (k : ChoP.Key) (w : World) (h : ChoP.keyOK k = true) : Calls Tryz.prog 25 #[keyV k] w (StrPost (ChoP.keyText k) w) := by
  obtain ⟨⟨b1, b2⟩, ⟨b3, b4⟩, ⟨b5, b6⟩, b7, b8⟩ := ChoP.keyOK_bounds h
  obtain ⟨kd, ka, kb, kn⟩ := k
  simp only at b1 b2 b3 b4 b5 b6 b7 b8
  obtain ⟨kk, rfl⟩ := Int.eq_ofNat_of_zero_le (show 0 ≤ kd by omega)
  have hkt := ChoP.keyText_eq ⟨(kk : Int), ka, kb, kn⟩
  simp only [Int.toNat_natCast] at hkt
  have hna := fun W => refNumber_any ka W ⟨by omega, by omega⟩
  have hnb := fun W => refNumber_any kb W ⟨by omega, by omega⟩
  have hnn := fun W => refNumber_any kn W ⟨by omega, by omega⟩
  have la := Lib.itoa_length_le ka (by omega) (by omega)
  have lb := Lib.itoa_length_le kb (by omega) (by omega)
  have ln := Lib.itoa_length_le kn (by omega) (by omega)
  have lw := ChoP.word_len kk
  have hw : wordsV[kk]? = some (strV (ChoP.words.getD kk [])) := by
    have h2 : kk < ChoP.words.length := by show kk < 10; omega
    simp [wordsV, h2]
  generalize ChoP.words.getD kk [] = wd at *
  generalize ChoP.keyText ⟨(kk : Int), ka, kb, kn⟩ = T at *
  generalize Lib.itoa ka = ta at *
  generalize Lib.itoa kb = tb at *
  generalize Lib.itoa kn = tn at *
  have e1 : keyV ⟨(kk : Int), ka, kb, kn⟩ = .agg #[.int .u8 kk, .int .i64 ka, .int .i64 kb, .int .i64 kn] := rfl
  rw [e1]
  have HKT := Lib.hid hkt
  have HNA := Lib.hid hna
  have HNB := Lib.hid hnb
  have HNN := Lib.hid hnn
  have HW := Lib.hid hw
  have hk10 : (kk : Int) < 10 := by omega
  have hk0 : (0 : Int) ≤ (kk : Int) := by omega
  clear hkt hna hnb hnn hw h e1 b1 b2 b3 b4 b5 b6 b7 b8
  go_enter Tryz.func25, Tryz.ntmps25
  go_wp2_with fail
  have hbx := heap_alloc_new w (.cells #[.int .u8 kk, .int .i64 ka, .int .i64 kb, .int .i64 kn] 44)
  have hb0 : Below w.heap.size w (w.alloc (.cells #[.int .u8 kk, .int .i64 ka, .int .i64 kb, .int .i64 kn] 44)) := (Below.refl _ _).alloc (Nat.le_refl _) _
  have hz0 : w.heap.size < (w.alloc (.cells #[.int .u8 kk, .int .i64 ka, .int .i64 kb, .int .i64 kn] 44)).heap.size := by simp
  generalize w.alloc (.cells #[.int .u8 kk, .int .i64 ka, .int .i64 kb, .int .i64 kn] 44) = w0 at *
  obtain ⟨k0, k1, k2, k3⟩ := blk4 hbx
  have HB0 := Lib.hid hb0
  have hbx0 := hbx
  clear hbx hb0
  have HBX := Lib.hid hbx0
  clear hbx0
  go_cut [3] (fun v wx => v = strV (wd ++ [32] ++ ta) ∧ Hid (wx.heap[w.heap.size]? = some (.cells #[.int .u8 kk, .int .i64 ka, .int .i64 kb, .int .i64 kn] 44 (0, 0))) ∧ Hid (Below w.heap.size w wx))
  case first =>
    go_region_with (first | (go_at_call 64; refine Calls.mono (refNames2_any _) ?_; rintro e wA ⟨rfl, hA, hbA⟩; have hzA := Nat.lt_of_lt_of_le hz0 hbA.size; have hltA := (Array.getElem?_eq_some_iff.1 hA).1; have n0 := cell_at hA kk _ HW.out; try (change wA.cell? ⟨w0.heap.size, kk, none⟩ = _ at n0); have j0 := (hbA.cell (p := ⟨w.heap.size, 0, none⟩) hz0).trans k0; have j1 := (hbA.cell (p := ⟨w.heap.size, 1, none⟩) hz0).trans k1; have HBXA := Lib.hid ((hbA.block w.heap.size hz0).trans HBX.out); have HBA := Lib.hid (HB0.out.drew.trans (hbA.mono (Nat.le_of_lt hz0)))) | (go_at_call 65; refine Calls.mono (HNA.out _) ?_; rintro e wN ⟨rfl, hbN⟩; have n1 := (hbN.cell (p := ⟨w0.heap.size, kk, none⟩) hltA).trans n0; have m0 := (hbN.cell (p := ⟨w.heap.size, 0, none⟩) hzA).trans j0; have HBXN := Lib.hid ((hbN.block w.heap.size hzA).trans HBXA.out); have HBN := Lib.hid (HBA.out.trans (hbN.mono (Nat.le_of_lt hzA)))))
    all_goals
      clear n1 m0 n0 j0 j1 k0 k1 k2 k3
      go_wp2_with fail
      go_meet
      exact ⟨by simp only [cat_str, List.append_assoc], HBXN, HBN⟩
  case rest =>
    obtain ⟨rfl, hbx1, HB1⟩ := hcut
    clear k0 k1 k2 k3 HNA HW hz0 HBX HB0
    obtain ⟨k0, k1, k2, k3⟩ := blk4 hbx1.out
    have hz1 : w.heap.size < wc.heap.size := (Array.getElem?_eq_some_iff.1 hbx1.out).1
    go_wp2_with fail
    refine (two_any _ _).mono ?_
    rintro e w' ⟨rfl, rfl⟩
    have hkt := HKT.out
    cases hp : ChoP.pairB (kk : Int)
    · rw [hp, if_neg (by simp)] at hkt
      have HKT2 := Lib.hid hkt
      clear hkt HKT hp
      go_wp2_with fail
      refine (HNN.out _).mono ?_
      rintro e w5 ⟨rfl, hb5⟩
      have HB5 := Lib.hid (HB1.out.trans (hb5.mono (Nat.le_of_lt hz1)))
      clear hb5 hbx1 k0 k1 k2 k3
      go_wp2_with fail
      go_ret
      exact ⟨by rw [HKT2.out]; simp [cat_str], HB5.out⟩
    · rw [hp, if_pos rfl] at hkt
      have HKT2 := Lib.hid hkt
      clear hkt HKT hp
      go_wp2_with fail
      refine (HNB.out _).mono ?_
      rintro e w5 ⟨rfl, hb5⟩
      have hbx5 := (hb5.block w.heap.size hz1).trans hbx1.out
      have HB5 := Lib.hid (HB1.out.trans (hb5.mono (Nat.le_of_lt hz1)))
      clear hbx1 k0 k1 k2 k3
      obtain ⟨k0, k1, k2, k3⟩ := blk4 hbx5
      have hz5 : w.heap.size < w5.heap.size := (Array.getElem?_eq_some_iff.1 hbx5).1
      clear hb5 hbx5
      go_wp2_with fail
      refine (HNN.out _).mono ?_
      rintro e w6 ⟨rfl, hb6⟩
      have HB6 := Lib.hid (HB5.out.trans (hb6.mono (Nat.le_of_lt hz5)))
      clear hb6 k0 k1 k2 k3
      go_wp2_with fail
      go_ret
      exact ⟨by rw [HKT2.out]; simp [cat_str], HB6.out⟩
set_option maxRecDepth 100000 in
set_option maxHeartbeats 4000000 in
theorem refLine_any (r : Row) (x : ChoP.Cho) (w : World) (hrow : RowIs w w.heap.size r x) (h : ChoP.okC x = true) (hr : ChoP.InR x) : Calls Tryz.prog 60 #[choV r] w (StrPost (ChoP.lineText x) w) := by
  obtain ⟨hkey, ⟨bt0, bt1⟩, ⟨bd0, bd1⟩⟩ := ChoP.okC_bounds h
  obtain ⟨⟨bk1, bk2⟩, _⟩ := ChoP.keyOK_bounds hkey
  have hkl := keyText_le hkey
  have hargs := okC_args h
  have hlt := ChoP.lineText_eq2 x
  obtain ⟨⟨kd, ka, kb, kn⟩, t, d, ar⟩ := x
  obtain ⟨rk, rt, rd, rp, rn, rc⟩ := r
  obtain rfl : rk = ⟨kd, ka, kb, kn⟩ := hrow.key
  obtain rfl : rt = t := hrow.t
  obtain rfl : rd = d := hrow.d
  obtain rfl : rn = ar.length := hrow.n
  have hlie : Lie w w.heap.size rp (intV ar) := hrow.lie
  have hin : ∀ v ∈ ar, ChoP.InI v := hr
  simp only at bk1 bk2 bt0 bt1 bd0 bd1 hargs hlt hkl
  have htm := ChoP.timed4 kd bk1 bk2
  have hme := ChoP.meas6b kd
  have hkt := fun W => refKeyText_any ⟨kd, ka, kb, kn⟩ W hkey
  have e1 : keyV ⟨kd, ka, kb, kn⟩ = .agg #[.int .u8 kd, .int .i64 ka, .int .i64 kb, .int .i64 kn] := rfl
  rw [e1] at hkt
  have hnt := fun W => refNumber_any rt W ⟨by omega, by omega⟩
  have hnd := fun W => refNumber_any rd W ⟨by omega, by omega⟩
  have lt := Lib.itoa_length_le rt (by omega) (by omega)
  have ld := Lib.itoa_length_le rd (by omega) (by omega)
  have e2 : choV ⟨⟨kd, ka, kb, kn⟩, rt, rd, rp, ar.length, rc⟩ = .agg #[.int .u8 kd, .int .i64 ka, .int .i64 kb, .int .i64 kn, .int .i64 rt, .int .i64 rd, .slice rp ar.length rc] := rfl
  rw [e2]
  generalize ChoP.lineText ⟨⟨kd, ka, kb, kn⟩, rt, rd, ar⟩ = T at *
  generalize ChoP.keyText ⟨kd, ka, kb, kn⟩ = T0 at *
  generalize Lib.itoa rt = ta at *
  generalize Lib.itoa rd = td at *
  have HLT := Lib.hid hlt
  have HTM := Lib.hid htm
  have HME := Lib.hid hme
  have HKT := Lib.hid hkt
  have HNT := Lib.hid hnt
  have HND := Lib.hid hnd
  have HLIE := Lib.hid hlie
  have HIN := Lib.hid hin
  clear hlt htm hme hkt hnt hnd hlie hin hrow h hr hkey e1 e2 bk1 bk2 bt0 bt1 bd0 bd1
  go_enter Tryz.func60, Tryz.ntmps60
  go_wp2_with fail
  refine (HKT.out _).mono ?_
  rintro e w1 ⟨rfl, hb1⟩
  rw [World.size_alloc] at hb1
  have hbx1 := (hb1.block w.heap.size (by omega)).trans (heap_alloc_new w _)
  have hz1 : w.heap.size < w1.heap.size := (Array.getElem?_eq_some_iff.1 hbx1).1
  obtain ⟨⟨a0, a1, a2, a3, a4, a5, a6⟩, _⟩ := blk7 hbx1
  have HBX1 := Lib.hid hbx1
  have HB1 : Hid (Below w.heap.size w w1) := Lib.hid (((Below.refl _ _).alloc (Nat.le_refl _) _).trans (hb1.mono (by omega)))
  clear hbx1 hb1 HKT
  go_wp2_with fail
  refine (reftimed_any _ _).mono ?_
  rintro e w' ⟨rfl, rfl⟩
  rw [← HTM.out]
  go_upto_if 12 with fail
  go_cut [3] (fun v wx => v = strV (T0 ++ (if ChoP.timedB kd = true then [32, 97, 116, 32] ++ ta else [])) ∧ Hid (wx.heap[w.heap.size]? = some (.cells #[.int .u8 kd, .int .i64 ka, .int .i64 kb, .int .i64 kn, .int .i64 rt, .int .i64 rd, .slice rp ar.length rc] 59 (0, 0))) ∧ Hid (Below w.heap.size w wx))
  case first =>
    cases ht : ChoP.timedB kd
    · have HT := Lib.hid ht
      clear ht
      go_wp2_with fail
      go_meet
      exact ⟨by rw [HT.out]; simp, HBX1, HB1⟩
    · have HT := Lib.hid ht
      clear ht
      go_wp2_with fail
      refine (HNT.out _).mono ?_
      rintro e w2 ⟨rfl, hb2⟩
      have HBX2 := Lib.hid ((hb2.block w.heap.size hz1).trans HBX1.out)
      have HB2 := Lib.hid (HB1.out.trans (hb2.mono (Nat.le_of_lt hz1)))
      clear hb2 a0 a1 a2 a3 a4 a5 a6
      go_wp2_with fail
      go_meet
      exact ⟨by rw [HT.out, if_pos rfl]; simp [cat_str], HBX2, HB2⟩
  case rest =>
    obtain ⟨rfl, HBX2, HB2⟩ := hcut
    have l1 : (T0 ++ (if ChoP.timedB kd = true then [32, 97, 116, 32] ++ ta else [])).length ≤ 200 := by
      split <;> simp <;> omega
    have hlt := HLT.out
    generalize T0 ++ (if ChoP.timedB kd = true then [32, 97, 116, 32] ++ ta else []) = T1 at *
    have HLT1 := Lib.hid hlt
    clear hlt HLT a0 a1 a2 a3 a4 a5 a6 HBX1 HB1 HNT hz1
    obtain ⟨⟨a0, a1, a2, a3, a4, a5, a6⟩, _⟩ := blk7 HBX2.out
    have hz2 : w.heap.size < wc.heap.size := (Array.getElem?_eq_some_iff.1 HBX2.out).1
    go_step
    go_step
    go_cut [3] (fun v wx => v = strV (T1 ++ (if ChoP.measuredB kd = true then [32] ++ td else [])) ∧ Hid (wx.heap[w.heap.size]? = some (.cells #[.int .u8 kd, .int .i64 ka, .int .i64 kb, .int .i64 kn, .int .i64 rt, .int .i64 rd, .slice rp ar.length rc] 59 (0, 0))) ∧ Hid (Below w.heap.size w wx))
    case first =>
      go_upto_if 22 with fail
      go_cut [22] (fun bv wx => bv = .bool (ChoP.measuredB kd) ∧ wx = wc)
      case first =>
        clear a0 a1 a2 a3 a4 a5 a6
        rcases HME.out with ⟨h1, hme⟩ | ⟨h1, h2, hme⟩ | ⟨h1, h2, h3, hme⟩ | ⟨h1, h2, h3, h4, hme⟩ | ⟨h1, h2, h3, h4, h5, hme⟩ | ⟨h1, h2, h3, h4, h5, hme⟩
        all_goals
          have HM := Lib.hid hme
          clear hme
          go_wp2_with fail
          go_meet
          exact ⟨by first | (rw [HM.out]; done) | (rw [HM.out, h1]; done) | (rw [HM.out, h2]; done) | (rw [HM.out, h3]; done) | (rw [HM.out, h4]; done) | (rw [HM.out, h5]; done), rfl⟩
      case rest =>
        obtain ⟨rfl, rfl⟩ := hcut
        cases hme : ChoP.measuredB kd
        · have HM := Lib.hid hme
          clear hme
          go_wp2_with fail
          go_meet
          exact ⟨by rw [HM.out]; simp, HBX2, HB2⟩
        · have HM := Lib.hid hme
          clear hme
          go_wp2_with fail
          refine (HND.out _).mono ?_
          rintro e w3 ⟨rfl, hb3⟩
          have HBX3 := Lib.hid ((hb3.block w.heap.size hz2).trans HBX2.out)
          have HB3 := Lib.hid (HB2.out.trans (hb3.mono (Nat.le_of_lt hz2)))
          clear hb3 a0 a1 a2 a3 a4 a5 a6
          go_wp2_with fail
          go_meet
          exact ⟨by rw [HM.out, if_pos rfl]; simp [cat_str], HBX3, HB3⟩
    case rest =>
      obtain ⟨rfl, HBX3, HB3⟩ := hcut
      have l2 : (T1 ++ (if ChoP.measuredB kd = true then [32] ++ td else [])).length ≤ 300 := by
        split <;> simp <;> omega
      have hlt : T = (T1 ++ (if ChoP.measuredB kd = true then [32] ++ td else [])) ++ ChoP.argsT ar := HLT1.out
      generalize T1 ++ (if ChoP.measuredB kd = true then [32] ++ td else []) = T2 at *
      have HLT2 := Lib.hid hlt
      clear hlt HLT1 a0 a1 a2 a3 a4 a5 a6 HBX2 HB2 HND hz2 HME
      obtain ⟨⟨a0, a1, a2, a3, a4, a5, a6⟩, _⟩ := blk7 HBX3.out
      go_wp2_with fail
      clear a0 a1 a2 a3 a4 a5 a6
      go_loopw [3, 37] (fun v i wr => ∃ k : Nat, k ≤ ar.length ∧ i = .int .i64 k ∧ v = strV (T2 ++ ChoP.argsT (ar.take k)) ∧ Below w.heap.size w wr) (fun _ i _ => ar.length - (intOf i).toNat)
      case atStart => exact ⟨0, Nat.zero_le _, rfl, by simp [ChoP.argsT], HB3.out⟩
      case round =>
        obtain ⟨k, hk, rfl, rfl, hb⟩ := hrel
        have hla := ChoP.argsT_le (ar.take k) (fun v hv => HIN.out v (List.mem_of_mem_take hv))
        have hlk : (ar.take k).length ≤ 4 := Nat.le_trans (List.length_take_le _ _) (by omega)
        have hlb : (T2 ++ ChoP.argsT (ar.take k)).length ≤ 400 := by rw [List.length_append]; omega
        have HB := Lib.hid hb
        have hz := hb.size
        by_cases hlt : k < ar.length
        · obtain ⟨y, hy⟩ : ∃ y, ar[k]? = some y := ⟨_, List.getElem?_eq_getElem hlt⟩
          have hyi := HIN.out y (List.mem_of_getElem? hy)
          have ly := Lib.itoa_length_le y hyi.1 hyi.2
          obtain ⟨b, o, rfl, hb4, hc4⟩ := HLIE.out.at_ k (.int .i64 y) (by simp [intV, hy])
          have hcy : wr.cell? ⟨b, o + k, none⟩ = some (.int .i64 y) := (hb.cell (p := ⟨b, o + k, none⟩) hb4).trans hc4
          have htk : ChoP.argsT (ar.take (k + 1)) = ChoP.argsT (ar.take k) ++ ([32] ++ Lib.itoa y) := by
            rw [List.take_add_one, hy]
            exact ChoP.argsT_snoc _ _
          have hny := fun W => refNumber_any y W hyi
          generalize Lib.itoa y = ty at *
          generalize ChoP.argsT (ar.take k) = AT at *
          generalize hT3 : T2 ++ AT = T3 at *
          have HT3 := Lib.hid hT3
          have HTK := Lib.hid htk
          have HNY := Lib.hid hny
          clear hb hc4 htk hny hy hyi hla hT3
          go_wp2_with fail
          refine (HNY.out _).mono ?_
          rintro e w2 ⟨rfl, hb2⟩
          have HB2 := Lib.hid (HB.out.trans (hb2.mono hz))
          clear hb2 hcy
          go_wp2_with fail
          go_roundw
          case rel => exact ⟨k + 1, by omega, by go_num, by rw [HTK.out, ← List.append_assoc, HT3.out]; simp only [cat_str], HB2.out⟩
          case measure => simp [intOf]; omega
        · obtain rfl : k = ar.length := by omega
          have hT : T2 ++ ChoP.argsT (ar.take ar.length) = T := by rw [List.take_length, HLT2.out]
          rw [hT]
          clear hT hla hlb hb
          go_wp2_with fail
          go_ret
          exact ⟨rfl, HB.out⟩
set_option maxRecDepth 100000 in
set_option maxHeartbeats 4000000 in
theorem refText_any (A : Option Addr) (ps : List Pair) (c : Nat) (w : World) (h : Chos w w.heap.size A ps) (hok : ∀ p ∈ ps, ChoP.okC p.2 = true ∧ ChoP.InR p.2) (hn : ps.length ≤ 1000) : Calls Tryz.prog 22 #[.slice A ps.length c] w (StrPost (ChoP.setText (cho ps)) w) := by
  have H := Lib.hid h
  have HOK := Lib.hid hok
  clear h hok
  go_enter Tryz.func22, Tryz.ntmps22
  go_wp2_with fail
  go_loopw [3, 8] (fun v i wr => ∃ k : Nat, k ≤ ps.length ∧ i = .int .i64 k ∧ v = strV (ChoP.setText ((cho ps).take k)) ∧ Below w.heap.size w wr) (fun _ i _ => ps.length - (intOf i).toNat)
  case atStart => exact ⟨0, Nat.zero_le _, rfl, by simp [ChoP.setText], Below.refl _ _⟩
  case round =>
    obtain ⟨k, hk, rfl, rfl, hb⟩ := hrel
    have hz := hb.size
    have hsl := setText_le ((cho ps).take k) (fun x hx => by
      obtain ⟨p, hp, rfl⟩ := List.mem_map.1 (List.mem_of_mem_take hx)
      exact HOK.out p hp)
    have hlk : ((cho ps).take k).length ≤ 1000 := Nat.le_trans (List.length_take_le _ _) (by omega)
    have hlb : (ChoP.setText ((cho ps).take k)).length ≤ 800000 := by omega
    have HB := Lib.hid hb
    clear hsl hlk
    by_cases hlt : k < ps.length
    · obtain ⟨p, hpk⟩ : ∃ p, ps[k]? = some p := ⟨_, List.getElem?_eq_getElem hlt⟩
      have hokp := HOK.out p (List.mem_of_getElem? hpk)
      have hrow := H.out.row p (List.mem_of_getElem? hpk)
      obtain ⟨b, o, rfl, hb0, hcl⟩ := H.out.at_ k p hpk
      have hcell : ∀ j u, p.1.vs[j]? = some u → wr.cell? ⟨b, o + k * 7 + j, none⟩ = some u := fun j u hu => (hb.cell (p := ⟨b, o + k * 7 + j, none⟩) hb0).trans (hcl j u hu)
      have c0 : wr.cell? ⟨b, o + k * 7, none⟩ = some (.int .u8 p.1.key.kind) := hcell 0 _ rfl
      have c1 := hcell 1 _ rfl
      have c2 := hcell 2 _ rfl
      have c3 := hcell 3 _ rfl
      have c4 := hcell 4 _ rfl
      have c5 := hcell 5 _ rfl
      have c6 := hcell 6 _ rfl
      have hxk : (cho ps)[k]? = some p.2 := by simp [cho, hpk]
      have hst : ChoP.setText ((cho ps).take (k + 1)) = ChoP.setText ((cho ps).take k) ++ (ChoP.lineText p.2 ++ [10]) := by
        rw [List.take_add_one, hxk]
        exact ChoP.setText_snoc _ _
      have hll := lineText_le hokp.1 hokp.2
      have hline := fun o : Obj => refLine_any p.1 p.2 (wr.alloc o) (hrow.below (hb.alloc hz o) (by rw [World.size_alloc]; omega)) hokp.1 hokp.2
      have e1 : choV p.1 = .agg #[.int .u8 p.1.key.kind, .int .i64 p.1.key.a, .int .i64 p.1.key.b, .int .i64 p.1.key.n, .int .i64 p.1.t, .int .i64 p.1.d, .slice p.1.p p.1.n p.1.c] := rfl
      rw [e1] at hline
      generalize ChoP.lineText p.2 = TL at *
      generalize ChoP.setText ((cho ps).take k) = TS at *
      have HST := Lib.hid hst
      have HLINE := Lib.hid hline
      clear hst hline e1 hrow hokp hcl hcell hpk hxk hb
      go_wp2_with fail
      refine (HLINE.out _).mono ?_
      rintro e w1 ⟨rfl, hb1⟩
      rw [World.size_alloc] at hb1
      have HB1 := Lib.hid ((HB.out.alloc hz _).trans (hb1.mono (by omega)))
      clear hb1 c0 c1 c2 c3 c4 c5 c6 HLINE
      go_wp2_with fail
      go_roundw
      case rel => exact ⟨k + 1, by omega, by go_num, by rw [HST.out]; simp only [cat_str], HB1.out⟩
      case measure => simp [intOf]; omega
    · obtain rfl : k = ps.length := by omega
      have hT : ChoP.setText ((cho ps).take ps.length) = ChoP.setText (cho ps) := by rw [List.take_of_length_le (by simp [cho])]
      rw [hT]
      clear hT hb
      go_wp2_with fail
      go_ret
      exact ⟨rfl, HB.out⟩
end Go.Proofs.YtpniilgkceadeaaGreatDoor
