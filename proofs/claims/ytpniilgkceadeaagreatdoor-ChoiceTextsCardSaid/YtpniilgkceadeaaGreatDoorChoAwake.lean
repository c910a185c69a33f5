/- The law's own helper 'awake': it returns true. -/
import Derived.Test.YtpniilgkceadeaaGreatDoorChoBytes
import Derived.Test.YtpniilgkceadeaaGreatDoorChoEqual
namespace Go.Proofs.YtpniilgkceadeaaGreatDoor
open Go.RowKit
def exKey1 : ChoP.Key := ⟨5, 1, 0, 7⟩
def exKey2 : ChoP.Key := ⟨1, 0, 2, 5⟩
def ex1 : ChoP.Cho := ⟨exKey1, 0, 0, []⟩
def ex2 : ChoP.Cho := ⟨exKey2, 3, 0, [17, -4]⟩
def exText : List UInt8 := [114, 101, 113, 117, 101, 115, 116, 32, 48, 32, 50, 32, 53, 32, 97, 116, 32, 51, 32, 49, 55, 32, 45, 52, 10, 100, 114, 111, 112, 32, 49, 32, 48, 32, 55, 10]
def exBytes : List Nat := [2, 1, 0, 2, 5, 3, 0, 2, 34, 7, 5, 1, 0, 7, 0, 0, 0]
theorem ex_err : ChoP.errNew [ex1, ex2] = 0 := by decide +kernel
theorem ex_set : ChoP.setL [ex1, ex2] = [ex2, ex1] := by
  unfold ChoP.setL
  rw [if_pos ex_err]
  rfl
theorem ex_bytes : ChoP.setBytes [ex2, ex1] = exBytes := by decide +kernel
theorem itoa_lit (n : Nat) (h : n < 10) : Lib.itoa (n : Int) = [UInt8.ofNat (48 + n)] := by
  unfold Lib.itoa
  rw [if_neg (by omega), Int.toNat_natCast, Lib.decDigits, dif_pos h]
theorem itoa_17 : Lib.itoa 17 = [49, 55] := by
  unfold Lib.itoa
  rw [if_neg (by decide), show (17 : Int).toNat = 17 from rfl, Lib.decDigits, dif_neg (by decide), show 17 / 10 = 1 from rfl, Lib.decDigits, dif_pos (by decide)]
  rfl
theorem itoa_m4 : Lib.itoa (-4) = [45, 52] := by
  unfold Lib.itoa
  rw [if_pos (by decide), show (-4 : Int).natAbs = 4 from rfl, Lib.decDigits, dif_pos (by decide)]
  rfl
theorem ex_text : ChoP.setText [ex2, ex1] = exText := by
  have i0 : Lib.itoa 0 = [48] := itoa_lit 0 (by decide)
  have i1 : Lib.itoa 1 = [49] := itoa_lit 1 (by decide)
  have i2 : Lib.itoa 2 = [50] := itoa_lit 2 (by decide)
  have i3 : Lib.itoa 3 = [51] := itoa_lit 3 (by decide)
  have i5 : Lib.itoa 5 = [53] := itoa_lit 5 (by decide)
  have i7 : Lib.itoa 7 = [55] := itoa_lit 7 (by decide)
  simp only [ChoP.setText, ChoP.lineText, ChoP.lineWords, ChoP.keyText, ChoP.keyWords, ex1, ex2, exKey1, exKey2, List.flatMap_cons, List.flatMap_nil, List.map_cons, List.map_nil, i0, i1, i2, i3, i5, i7, itoa_17, itoa_m4]
  rfl
theorem ex_ok : ∀ x ∈ [ex2, ex1], ChoP.okC x = true ∧ ChoP.InR x := by
  intro x hx
  simp only [List.mem_cons, List.not_mem_nil, or_false] at hx
  rcases hx with rfl | rfl
  · refine ⟨by decide +kernel, fun v hv => ?_⟩
    simp [ex2] at hv
    omega
  · refine ⟨by decide +kernel, fun v hv => ?_⟩
    simp [ex1] at hv
def TruePost (w : World) (e : Ending) (w' : World) : Prop := e = .returned (.bool true) ∧ Below w.heap.size w w'
def exRow1 : Row := ⟨exKey1, 0, 0, none, 0, 0⟩
def exRow2 (w : World) : Row := ⟨exKey2, 3, 0, some ⟨w.heap.size, 0, none⟩, 2, 2⟩
theorem natC_eq (l : List Nat) : natC l = (l.map fun (n : Nat) => (n : Int)).map (Value.int .u8) := by simp [natC]
theorem exArg (w : World) : Chos ((w.alloc (.cells #[.int .i64 17, .int .i64 (-4)] 2)).alloc (.cells #[.int .u8 5, .int .i64 1, .int .i64 0, .int .i64 7, .int .i64 0, .int .i64 0, .slice none 0 0, .int .u8 1, .int .i64 0, .int .i64 2, .int .i64 5, .int .i64 3, .int .i64 0, .slice (some ⟨w.heap.size, 0, none⟩) 2 2] 59)) (w.heap.size + 2) (some ⟨w.heap.size + 1, 0, none⟩) [(exRow1, ex1), (exRow2 w, ex2)] := by
  have h1 := heap_alloc_new w (.cells #[.int .i64 17, .int .i64 (-4)] 2)
  have h2 := heap_alloc_new (w.alloc (.cells #[.int .i64 17, .int .i64 (-4)] 2)) (.cells #[.int .u8 5, .int .i64 1, .int .i64 0, .int .i64 7, .int .i64 0, .int .i64 0, .slice none 0 0, .int .u8 1, .int .i64 0, .int .i64 2, .int .i64 5, .int .i64 3, .int .i64 0, .slice (some ⟨w.heap.size, 0, none⟩) 2 2] 59)
  rw [World.size_alloc] at h2
  refine ⟨fun _ => ⟨_, _, rfl, by omega, fun j u hu => ?_⟩, fun p hp => ?_⟩
  · rw [Nat.zero_add]
    exact cell_at h2 j u (by simpa [cellsP, encP, Row.vs, exRow1, exRow2, exKey1, exKey2] using hu)
  · simp only [List.mem_cons, List.not_mem_nil, or_false] at hp
    rcases hp with rfl | rfl
    · exact ⟨rfl, rfl, rfl, rfl, Nat.le_refl _, by decide, fun h => absurd rfl h⟩
    · refine ⟨rfl, rfl, rfl, rfl, Nat.le_refl _, by show (2 : Nat) ≤ _; decide, fun _ => ⟨w.heap.size, 0, rfl, by omega, fun j u hu => ?_⟩⟩
      rw [Nat.zero_add]
      exact (World.cell?_alloc_lt _ _ _ (by simp)).trans (cell_at h1 j u (by simpa [intV, ex2] using hu))
set_option maxRecDepth 100000 in
set_option maxHeartbeats 1000000 in
theorem awake_any (w : World) (hL : Laid w) : Calls Tryz.prog 6 #[] w (TruePost w) := by
  have HL := Lib.hid hL
  have HA := Lib.hid (exArg w)
  clear hL
  go_enter Tryz.func6, Tryz.ntmps6
  go_wp2_with fail
  have hnew := new_any (some ⟨w.heap.size + 1, 0, none⟩) [(exRow1, ex1), (exRow2 w, ex2)] 2 _ (by rw [World.size_alloc, World.size_alloc]; exact HA.out) (by simp)
  refine Calls.mono hnew ?_
  rintro e w1 ⟨A, ps, c, rfl, hps, hcs, hc1, hc2, hb⟩
  have ee : ChoP.errNew (cho [(exRow1, ex1), (exRow2 w, ex2)]) = 0 := ex_err
  rw [ee]
  have hps2 : cho ps = [ex2, ex1] := hps.trans ex_set
  have hlen : ps.length = 2 := by have := congrArg List.length hps2; simpa [cho] using this
  have hl2 : ((ps.length : Int) == 2) = true := by rw [hlen]; rfl
  have hok : ∀ p ∈ ps, ChoP.okC p.2 = true ∧ ChoP.InR p.2 := fun p hp => ex_ok p.2 (by rw [← hps2]; exact List.mem_map_of_mem hp)
  rw [World.size_alloc, World.size_alloc] at hb
  have hbw : Below w.heap.size w w1 := ((((Below.refl w.heap.size w).alloc (Nat.le_refl _) _).alloc (by simp) _)).trans (hb.mono (by omega))
  have HBW := Lib.hid hbw
  have HCS := Lib.hid hcs
  have HOK := Lib.hid hok
  have HPS := Lib.hid hps2
  have hl1 : ps.length ≤ 1000 := by omega
  have HL1 := Lib.hid (HL.out.below hbw)
  have hw1 := hbw.size
  clear ee hps hps2 hlen hok hb hbw hcs hnew HA
  go_wp2_with fail
  refine (len_any A ps.length c _).mono ?_
  rintro e w2 ⟨rfl, hb2⟩
  rw [World.size_alloc] at hb2
  have s2 : w2.cell? ⟨w1.heap.size, 0, none⟩ = some (.slice A ps.length c) := (hb2.cell (p := ⟨w1.heap.size, 0, none⟩) (by simp)).trans (cell_at (heap_alloc_new w1 _) 0 _ rfl)
  have hb2' : Below w1.heap.size w1 w2 := ((Below.refl w1.heap.size w1).alloc (Nat.le_refl _) _).trans (hb2.mono (by omega))
  have hz2 : w1.heap.size < w2.heap.size := by have := hb2.size; simp at this; omega
  have HB2 := Lib.hid hb2'
  clear hb2 hb2'
  go_wp2_with fail
  refine (text_any A ps c _ (HL1.out.below HB2.out) (HCS.out.below HB2.out HB2.out.size) HOK.out (by omega)).mono ?_
  rintro e w3 ⟨rfl, hb3⟩
  rw [HPS.out, ex_text]
  have s3 : w3.cell? ⟨w1.heap.size, 0, none⟩ = some (.slice A ps.length c) := (hb3.cell (p := ⟨w1.heap.size, 0, none⟩) hz2).trans s2
  have HB3 := Lib.hid (HB2.out.trans (hb3.mono HB2.out.size))
  have hz3 : w1.heap.size < w3.heap.size := Nat.lt_of_lt_of_le hz2 hb3.size
  clear hb3 s2
  unfold exText
  go_wp2_with fail
  refine (bytes_any A ps c _ (HCS.out.below HB3.out HB3.out.size) HOK.out hl1).mono ?_
  rintro e w4 ⟨v4, rfl, hs4⟩
  rw [HPS.out, ex_bytes] at hs4
  obtain ⟨A4, c4, rfl, hl4⟩ := hs4.slice
  have HS4 := Lib.hid hs4
  have HL4 := Lib.hid hl4
  clear hs4 hl4 s3
  go_wp2_with fail
  have heq := eqU8_any A4 (some ⟨w4.heap.size, 0, none⟩) c4 17 (exBytes.map fun (n : Nat) => (n : Int)) (exBytes.map fun (n : Nat) => (n : Int)) (w4.alloc (Obj.cells #[.int .u8 2, .int .u8 1, .int .u8 0, .int .u8 2, .int .u8 5, .int .u8 3, .int .u8 0, .int .u8 2, .int .u8 34, .int .u8 7, .int .u8 5, .int .u8 1, .int .u8 0, .int .u8 7, .int .u8 0, .int .u8 0, .int .u8 0] 5))
    (by rw [← natC_eq, World.size_alloc]; exact HL4.out.below ((Below.refl _ _).alloc (Nat.le_refl _) _) (by omega))
    (by rw [World.size_alloc]; exact fun _ => ⟨w4.heap.size, 0, rfl, by omega, fun j u hu => by
          rw [Nat.zero_add]
          exact cell_at (heap_alloc_new w4 _) j u (by simpa [exBytes] using hu)⟩) (by simp [exBytes]) (by simp [exBytes])
  rw [decide_eq_true rfl] at heq
  refine Calls.mono heq ?_
  rintro e w5 hp
  obtain ⟨rfl, hb5⟩ := hp.below
  rw [World.size_alloc] at hb5
  have hb5' : Below w4.heap.size w4 w5 := ((Below.refl w4.heap.size w4).alloc (Nat.le_refl _) _).trans (hb5.mono (by omega))
  have HF : Hid (Below w.heap.size w w5) := Lib.hid (HBW.out.trans (HB3.out.mono hw1 |>.trans ((HS4.out.below.mono (Nat.le_trans hw1 (by omega))).trans (hb5'.mono (by have := HS4.out.below.size; omega)))))
  clear hp hb5 hb5' heq
  go_wp2_with fail
  go_ret
  exact ⟨rfl, HF.out⟩
end Go.Proofs.YtpniilgkceadeaaGreatDoor
