/- slices.SortFunc on choices, by their keys. -/
import Derived.Test.YtpniilgkceadeaaGreatDoorChoCmp
import Derived.Test.YtpniilgkceadeaaGreatDoorChoMem
import Derived.Test.YtpniilgkceadeaaGreatDoorShelfS
import Derived.Laws.OwnMore
import Derived.Lib.OwnBridge
namespace Go.Proofs.YtpniilgkceadeaaGreatDoor
open Go.RowKit Go.Shelf Go.Sort
instance : Inhabited ChoP.Cho := ⟨⟨⟨0, 0, 0, 0⟩, 0, 0, []⟩⟩
def cfP (x y : Pair) : Int := ChoP.cmpK x.1.key y.1.key
theorem ltP (x y : Pair) : ltOf cfP x y = true ↔ ChoP.ltK x.1.key y.1.key := by
  unfold ltOf cfP
  rw [decide_eq_true_iff]
  exact ChoP.cmpK_lt _ _
theorem ltP_false (x y : Pair) : ltOf cfP x y = false ↔ ¬ ChoP.ltK x.1.key y.1.key := by rw [← ltP]; simp
theorem swoP : SWO (ltOf cfP) where
  irrefl x := (ltP_false _ _).2 (ChoP.ltK_irrefl _)
  trans x y z h1 h2 := (ltP _ _).2 (ChoP.ltK_trans ((ltP _ _).1 h1) ((ltP _ _).1 h2))
  ntrans x y z h1 h2 := by
    rw [ltP_false] at *
    intro h
    rcases ChoP.ltK_total y.1.key x.1.key with e | e | e
    · exact h2 (ChoP.ltK_trans e h)
    · rw [← e] at h; exact h2 h
    · exact h1 e
set_option maxHeartbeats 1000000 in
theorem closure_any (x y : Pair) (w : World) : Calls Tryz.prog 31 #[.agg (encP x).toArray, .agg (encP y).toArray] w (CmpPost (cfP x y) w) := by
  have e1 : (encP x).toArray = #[.int .u8 x.1.key.kind, .int .i64 x.1.key.a, .int .i64 x.1.key.b, .int .i64 x.1.key.n, .int .i64 x.1.t, .int .i64 x.1.d, .slice x.1.p x.1.n x.1.c] := rfl
  have e2 : (encP y).toArray = #[.int .u8 y.1.key.kind, .int .i64 y.1.key.a, .int .i64 y.1.key.b, .int .i64 y.1.key.n, .int .i64 y.1.t, .int .i64 y.1.d, .slice y.1.p y.1.n y.1.c] := rfl
  have hc := fun W => compare_any x.1.key y.1.key W
  have k1 : keyV x.1.key = .agg #[.int .u8 x.1.key.kind, .int .i64 x.1.key.a, .int .i64 x.1.key.b, .int .i64 x.1.key.n] := rfl
  have k2 : keyV y.1.key = .agg #[.int .u8 y.1.key.kind, .int .i64 y.1.key.a, .int .i64 y.1.key.b, .int .i64 y.1.key.n] := rfl
  rw [k1, k2] at hc
  rw [e1, e2]
  unfold cfP
  generalize ChoP.cmpK x.1.key y.1.key = n at *
  clear e1 e2 k1 k2
  have HC := Lib.hid hc
  clear hc
  go_enter Tryz.func31, Tryz.ntmps31
  go_wp2_with fail
  refine (HC.out _).mono ?_
  rintro e w' ⟨rfl, hg⟩
  have HG := Lib.hid hg
  clear hg
  go_wp2_with fail
  go_ret
  exact ⟨rfl, (((Grows.refl _).alloc _).alloc _).trans HG.out⟩
theorem cmpLays (blk off size : Nat) (w : World) : CmpLays Tryz.prog 31 #[] encP 7 cfP blk off size w :=
  fun _ _ _ _ x y => closure_any x y _
theorem flat_at (ps : List Pair) (j : Nat) (hj : j < ps.length * 7) : (cellsP ps)[j]? = some ((flatK encP 7 ps.toArray)[j]!) := by
  have hk : j / 7 < ps.length := by omega
  have h1 := cellsP_at ps (j / 7) (j % 7) ps[j / 7] (List.getElem?_eq_getElem hk) (by omega)
  rw [show j / 7 * 7 + j % 7 = j by omega] at h1
  rw [h1, get_flatK _ _ _ _ (by simpa using hj)]
  have h2 : ps.toArray[j / 7]! = ps[j / 7] := by simp [hk]
  rw [h2]
  have hl : j % 7 < (encP ps[j / 7]).length := by rw [encP_len]; omega
  rw [List.getElem?_eq_getElem hl, List.getElem!_eq_getElem?_getD, List.getElem?_eq_getElem hl]
  rfl
def SortPost (ps : List Pair) (g : Nat) (w : World) (e : Ending) (w' : World) : Prop :=
  e = .returned (.tuple #[]) ∧ ∃ qs : List Pair, qs.Perm ps ∧ qs.Pairwise (fun x y => ¬ ChoP.ltK y.1.key x.1.key) ∧ Lie w' w'.heap.size (some ⟨g, 0, none⟩) (cellsP qs) ∧ Below g w w' ∧ (∀ b, b < w.heap.size → b ≠ g → w'.heap[b]? = w.heap[b]?) ∧ w.heap.size ≤ w'.heap.size
theorem sort_any (base g c : Nat) (ps : List Pair) (w : World) (hown : w.ownsRow base 59 7 (.slice (some ⟨g, 0, none⟩) ps.length c) ps.length (cellsP ps)) (hl : ps.length ≤ 65536) :
    Calls Tryz.prog 30 #[.slice (some ⟨g, 0, none⟩) ps.length c, .func (.func 31) #[] #[]] w (SortPost ps g w) := by
  have hg : g < w.heap.size := own_lt hown g rfl
  have eg : ∀ args w, (callFunc 31 args).run Tryz.prog w = .ok (.enter 31 args) w := enters_of Tryz.func31 (by kernel_rfl) rfl
  have hH : HoldsK encP 7 w g 0 ps.toArray := by
    intro j hj
    rw [size_flatK] at hj
    have hj' : j < ps.length * 7 := by simpa using hj
    rw [Nat.zero_add]
    exact ⟨(hown.cellAt j hj').trans (flat_at ps j hj'), hown.frozenAt j⟩
  have hcon := AnyQ.slices_SortFunc Tryz.sortCho 7 Tryz.isAgg59 Tryz.sizeOf59 encP encP_len (fun x v hv => by simp [encP, Row.vs] at hv; rcases hv with rfl | rfl | rfl | rfl | rfl | rfl | rfl <;> rfl) cfP swoP 31 #[] g 0 c ps.toArray w eg (cmpLays g 0 ps.toArray.size w) hH hg (by simp; omega)
  rw [List.size_toArray] at hcon
  refine Calls.mono hcon fun e w' ⟨he, d', n, os, hp, hs, hw⟩ => ⟨he, ?_⟩
  obtain ⟨hp1, _, hp3⟩ := hp
  have hp1 : d'.size = ps.length := by simpa using hp1
  have hx : (d'.extract 0 ps.length).toList = d'.toList := by rw [← hp1]; simp
  have hy : (ps.toArray.extract 0 ps.length).toList = ps := by simp
  rw [hx, hy] at hp3
  have hlen : d'.toList.length = ps.length := hp3.length_eq
  have hK' : HoldsK encP 7 w' g 0 d' := by
    rw [hw]
    unfold sortWorldK
    refine holdsK_grow _ _ _ _ _ _ _ ?_ (holdsK_putRowK _ _ _ _ _ ps.toArray _ (holdsK_ahead _ _ _ _ _ _ _ hH) (by rw [List.size_toArray]; exact hp1))
    unfold putRowK
    rw [size_putRow]
    exact hg
  refine ⟨d'.toList, hp3, ?_, ?_, ?_, ?_, ?_⟩
  · rw [List.pairwise_iff_getElem]
    intro i j hi hj hij
    have := hs i j (Nat.zero_le _) hij (by omega)
    rw [ltP_false] at this
    have hi' : i < d'.size := by simpa using hi
    have hj' : j < d'.size := by simpa using hj
    rw [getElem!_pos d' i hi', getElem!_pos d' j hj'] at this
    simpa using this
  · intro _
    refine ⟨g, 0, rfl, ?_, fun j u hu => ?_⟩
    · rw [hw]
      unfold sortWorldK putRowK
      rw [size_grow, size_putRow]
      exact Nat.lt_of_lt_of_le hg (Nat.le_add_right _ _)
    · have hj : j < d'.toList.length * 7 := by
        have := (List.getElem?_eq_some_iff.1 hu).1
        rwa [cellsP_len] at this
      have h1 := hK' j (by rw [size_flatK]; simpa using hj)
      have h2 := flat_at d'.toList j hj
      rw [hu, Array.toArray_toList] at h2
      injection h2 with h2
      rw [h2]
      exact h1.1
  · rw [hw]
    unfold sortWorldK putRowK
    have h1 : Below g w (putRow id (Sort.ahead w n) g 0 (flatK encP 7 d')) := Lib.below_putRow (Below.refl g w) (Nat.le_refl _)
    refine ⟨h1.os, h1.tape, h1.output, ?_, fun b hb => ?_⟩
    · rw [size_grow]; exact Nat.le_trans h1.size (Nat.le_add_right _ _)
    · rw [heap_grow_old _ _ (by rw [size_putRow]; exact Nat.lt_trans hb hg)]
      exact h1.block b hb
  · intro b hb hne
    rw [hw]
    unfold sortWorldK putRowK
    rw [heap_grow_old _ _ (by rw [size_putRow]; exact hb)]
    unfold putRow mapBlock
    simp [Sort.ahead, Array.getElem?_modify, Ne.symm hne]
  · rw [hw]
    unfold sortWorldK putRowK
    rw [size_grow, size_putRow]
    exact Nat.le_add_right _ _
end Go.Proofs.YtpniilgkceadeaaGreatDoor
