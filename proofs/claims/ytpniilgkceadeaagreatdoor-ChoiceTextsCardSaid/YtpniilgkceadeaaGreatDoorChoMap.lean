/- The map of the keys that were seen: look-ups and stores at keys that are structs. -/
import Derived.Test.YtpniilgkceadeaaGreatDoorChoCheck
import Derived.Test.YtpniilgkceadeaaGreatDoorChoParseP
import Derived.Test.YtpniilgkceadeaaGreatDoorChoEq
import Derived.Maps.Own
import Derived.DeepKeys4
namespace Go.Proofs.YtpniilgkceadeaaGreatDoor
open Go.RowKit Go.Maps
open Go.WideMaps (KeyLaw)
open Go.ChangeMaps (setBlock heap_setBlock_same heap_setBlock_other)
theorem laidOutM : laidOutB Tryz.prog = true := by kernel_rfl
theorem keyRow : (44 : TypeId) < Tryz.prog.types.size := of_decide_eq_true (by kernel_rfl)
theorem keyWide : (match Tryz.prog.underlying 44 with | some (.array _ _) | some (.struct _) => true | _ => false) = true := by kernel_rfl
set_option maxRecDepth 100000 in
theorem keyed : Keyed Tryz.prog 44 := Keyed.of_law (deep_law_laid laidOutM (m := 3) (by omega) keyRow (by kernel_rfl) keyWide)
/-- a key whose numbers are of their kinds -/
structure KeyB (k : ChoP.Key) : Prop where
  kind : 0 ≤ k.kind ∧ k.kind ≤ 255
  a : ChoP.InI k.a
  b : ChoP.InI k.b
  n : ChoP.InI k.n
theorem look_run {P : Program} {w : World} {t k e : TypeId} {b : Nat} {es : Array MapEntry} {clock : Nat} (K : Keyed P k) (ht : P.underlying t = some (.map k e)) (hz : (zeroValue e).run P w = .ok (.bool false) w) (hb : w.heap[b]? = some (.map es clock))
    (hes : ∀ x ∈ es.toList, x.val = .bool true ∧ ∃ l, keyOf P k x.key = some l) {key : Value} {kl : Lit} (hkey : keyOf P k key = some kl) (g : Bool) (hg : g = true ↔ ∃ x ∈ es.toList, x.key = key) : (Instr.lookup t (.map (some b)) key false).run P w = .ok (.bool g) w := by
  rcases K.find w hkey es.toList (fun x hx => (hes x hx).2) with ⟨h1, h2⟩ | ⟨j, e0, h1, h2, h3⟩
  · have hgf : g = false := by
      cases g
      · rfl
      · obtain ⟨x, hx, e⟩ := hg.1 rfl
        exact absurd e (h2 x hx)
    subst hgf
    simp [Instr.lookup, run_underlying ht, MapKept.run_getObj_map hb, K.check w _ hkey, h1, hz, Result.andThen]
  · have hm := List.mem_of_getElem? h2
    have hgt : g = true := hg.2 ⟨e0, hm, h3⟩
    subst hgt
    have hv := (hes e0 hm).1
    simp [Instr.lookup, run_underlying ht, MapKept.run_getObj_map hb, K.check w _ hkey, h1, hv, Result.andThen]
theorem put_run {P : Program} {w : World} {t k e : TypeId} {b : Nat} {es : Array MapEntry} {clock : Nat} (K : Keyed P k) (ht : P.underlying t = some (.map k e)) (hb : w.heap[b]? = some (.map es clock))
    (hes : ∀ x ∈ es.toList, ∃ l, keyOf P k x.key = some l) {key val : Value} {kl : Lit} (hkey : keyOf P k key = some kl) (hno : ∀ x ∈ es.toList, x.key ≠ key) : (Instr.mapUpdate t (.map (some b)) key val).run P w = .ok () (setBlock w b (.map (es.push ⟨key, val, clock⟩) (clock + 1))) := by
  rcases K.find w hkey es.toList hes with ⟨h1, _⟩ | ⟨j, e0, _, h2, h3⟩
  · simp [Instr.mapUpdate, run_underlying ht, MapKept.run_getObj_map hb, K.check w false hkey, h1, MapKept.run_setObj_map _ hb, Result.andThen, setBlock]
  · exact absurd h3 (hno e0 (List.mem_of_getElem? h2))
theorem wpList_mapUpdate_run {P : Program} {ops : Array Oper} {rest : List Oper} {o : Oper} {a : Act} {w w' : World} {Q : Exit → Act → World → Prop} (hg : o.guard = none) (m x v : Operand) (t : TypeId) (hop : o.op = Op.mapUpdate t m x v)
    (mv key val : Value) (hm : a.eval m = mv) (hx : a.eval x = key) (hv : a.eval v = val) (hrun : (Instr.mapUpdate t mv key val).run P w = .ok () w') (hK : wpList P ops Q rest (a.put o.dst undef) w') : wpList P ops Q (o :: rest) a w := by
  refine wpList_plain hg fun K' hK' => ?_
  unfold Oper.wp
  simp [execOp, hop, hm, hx, hv, hrun, Result.andThen]
  exact hK' _ _ hK
theorem cellsKey : Tryz.prog.cellsOf 44 = 4 := by kernel_rfl
theorem cellsKind : Tryz.prog.cellsOf 42 = 1 := by kernel_rfl
theorem cellsInt : Tryz.prog.cellsOf 3 = 1 := by kernel_rfl
theorem keyTypeKey : Tryz.prog.keyType 44 = true := by kernel_rfl
theorem key_some (k : ChoP.Key) (h : KeyB k) : ∃ l, keyOf Tryz.prog 44 (keyV k) = some l := by
  obtain ⟨kd, ka, kb, kn⟩ := k
  obtain ⟨h1, h2, h3, h4⟩ := h
  unfold ChoP.InI at h2 h3 h4
  simp only at h1 h2 h3 h4
  have w1 : (Lit.int .u8 kd).wf = true := by simp [Lit.wf, IntKind.min, IntKind.max, IntKind.bits, IntKind.signed]; omega
  have w2 : (Lit.int .i64 ka).wf = true := by simp [Lit.wf, IntKind.min, IntKind.max, IntKind.bits, IntKind.signed]; omega
  have w3 : (Lit.int .i64 kb).wf = true := by simp [Lit.wf, IntKind.min, IntKind.max, IntKind.bits, IntKind.signed]; omega
  have w4 : (Lit.int .i64 kn).wf = true := by simp [Lit.wf, IntKind.min, IntKind.max, IntKind.bits, IntKind.signed]; omega
  obtain ⟨m, hm⟩ : ∃ m, Tryz.prog.types.size = m + 1 := ⟨Tryz.prog.types.size - 1, by have h : (44 : Nat) < Tryz.prog.types.size := keyRow; omega⟩
  have e1 : keyV ⟨kd, ka, kb, kn⟩ = .agg #[.int .u8 kd, .int .i64 ka, .int .i64 kb, .int .i64 kn] := rfl
  have hf : (Value.agg #[.int .u8 kd, .int .i64 ka, .int .i64 kb, .int .i64 kn]).formed Tryz.prog 44 = true := by
    unfold Value.formed
    simp only [Tryz.underlying44, cellsKey]
    rfl
  have hl : Tryz.prog.keyLits (Tryz.prog.types.size + 1) 44 [.int .u8 kd, .int .i64 ka, .int .i64 kb, .int .i64 kn] = some [.int .u8 kd, .int .i64 ka, .int .i64 kb, .int .i64 kn] := by
    rw [hm]
    simp [Program.keyLits, Tryz.underlying44, Tryz.underlying42, Tryz.underlying3, cellsKey, cellsKind, cellsInt, w1, w2, w3, w4]
  refine ⟨.string (keyBytes [.int .u8 kd, .int .i64 ka, .int .i64 kb, .int .i64 kn]), ?_⟩
  rw [e1]
  unfold keyOf
  simp only [Tryz.underlying44, keyTypeKey, hf, Bool.and_self, if_true]
  have e2 : (Value.agg #[.int .u8 kd, .int .i64 ka, .int .i64 kb, .int .i64 kn]).cells.toList = [.int .u8 kd, .int .i64 ka, .int .i64 kb, .int .i64 kn] := rfl
  rw [e2, hl]
  rfl
/-- the keys of these choices were seen -/
structure Seen (w : World) (b : Nat) (l : List ChoP.Cho) : Prop where
  at_ : ∃ (es : Array MapEntry) (clock : Nat), w.heap[b]? = some (.map es clock) ∧ es.toList.map (·.key) = l.map (fun x => keyV x.key) ∧ ∀ x ∈ es.toList, x.val = .bool true
  key : ∀ x ∈ l, KeyB x.key
theorem keyV_inj {x y : ChoP.Key} (h : keyV x = keyV y) : x = y := by
  obtain ⟨a, b, c, d⟩ := x
  obtain ⟨a', b', c', d'⟩ := y
  simp only [keyV, Value.agg.injEq, Array.mk.injEq, List.cons.injEq, Value.int.injEq, true_and, and_true] at h
  obtain ⟨rfl, rfl, rfl, rfl⟩ := h
  rfl
theorem Seen.mem {l : List ChoP.Cho} {es : Array MapEntry} (he : es.toList.map (·.key) = l.map (fun x => keyV x.key)) (k : ChoP.Key) : (l.any fun x => ChoP.eqB x.key k) = true ↔ ∃ x ∈ es.toList, x.key = keyV k := by
  rw [List.any_eq_true]
  constructor
  · rintro ⟨x, hx, e⟩
    rw [ChoP.eqB_iff] at e
    have hm : keyV x.key ∈ es.toList.map (·.key) := by rw [he]; exact List.mem_map.2 ⟨x, hx, rfl⟩
    obtain ⟨y, hy, ey⟩ := List.mem_map.1 hm
    exact ⟨y, hy, by rw [ey, e]⟩
  · rintro ⟨y, hy, ey⟩
    have hm : y.key ∈ l.map (fun x => keyV x.key) := by rw [← he]; exact List.mem_map.2 ⟨y, hy, rfl⟩
    obtain ⟨x, hx, ex⟩ := List.mem_map.1 hm
    exact ⟨x, hx, (ChoP.eqB_iff _ _).2 (keyV_inj (ex.trans ey))⟩
theorem Seen.reads {l : List ChoP.Cho} (h : ∀ x ∈ l, KeyB x.key) {es : Array MapEntry} (he : es.toList.map (·.key) = l.map (fun x => keyV x.key)) : ∀ x ∈ es.toList, ∃ q, keyOf Tryz.prog 44 x.key = some q := fun y hy => by
  have hm : y.key ∈ l.map (fun x => keyV x.key) := by rw [← he]; exact List.mem_map.2 ⟨y, hy, rfl⟩
  obtain ⟨x, hx, ex⟩ := List.mem_map.1 hm
  rw [← ex]
  exact key_some _ (h x hx)
theorem Seen.made (w : World) : Seen (w.alloc (.map #[] 0)) w.heap.size [] := ⟨⟨#[], 0, heap_alloc_new w _, rfl, by simp⟩, by simp⟩
theorem Seen.look {w : World} {b : Nat} {l : List ChoP.Cho} (h : Seen w b l) (k : ChoP.Key) (hk : KeyB k) : (Instr.lookup 81 (.map (some b)) (.agg #[.int .u8 k.kind, .int .i64 k.a, .int .i64 k.b, .int .i64 k.n]) false).run Tryz.prog w = .ok (.bool (l.any fun x => ChoP.eqB x.key k)) w := by
  obtain ⟨es, clock, hb, he, hv⟩ := h.at_
  obtain ⟨q, hq⟩ := key_some k hk
  exact look_run keyed Tryz.underlying81 (by kernel_rfl) hb (fun x hx => ⟨hv x hx, Seen.reads h.key he x hx⟩) hq _ (Seen.mem he k)
theorem Seen.put {w : World} {b : Nat} {l : List ChoP.Cho} (h : Seen w b l) (c : ChoP.Cho) (hk : KeyB c.key) (hno : (l.any fun x => ChoP.eqB x.key c.key) = false) :
    ∃ w', (Instr.mapUpdate 81 (.map (some b)) (.agg #[.int .u8 c.key.kind, .int .i64 c.key.a, .int .i64 c.key.b, .int .i64 c.key.n]) (.bool true)).run Tryz.prog w = .ok () w' ∧ Seen w' b (l ++ [c]) ∧ w.grownBy w' (some b) ∧ w'.heap.size = w.heap.size := by
  obtain ⟨es, clock, hb, he, hv⟩ := h.at_
  obtain ⟨q, hq⟩ := key_some c.key hk
  have hn : ∀ x ∈ es.toList, x.key ≠ keyV c.key := fun x hx e => by
    have := (Seen.mem he c.key).2 ⟨x, hx, e⟩
    rw [hno] at this
    cases this
  refine ⟨_, put_run keyed Tryz.underlying81 hb (Seen.reads h.key he) hq hn, ⟨⟨_, _, heap_setBlock_same hb _, ?_, ?_⟩, ?_⟩, ⟨rfl, rfl, rfl, by simp [setBlock], fun i _ hi => heap_setBlock_other hb _ (fun e => hi (by rw [e]))⟩, by simp [setBlock]⟩
  · rw [Array.toList_push, List.map_append, he]
    simp [keyV]
  · intro x hx
    rw [Array.toList_push] at hx
    rcases List.mem_append.1 hx with hx | hx
    · exact hv x hx
    · simp at hx
      rw [hx]
  · intro x hx
    rcases List.mem_append.1 hx with hx | hx
    · exact h.key x hx
    · simp at hx
      rw [hx]
      exact hk
theorem Seen.kept {w w' : World} {b : Nat} {l : List ChoP.Cho} (h : Seen w b l) (hb : w'.heap[b]? = w.heap[b]?) : Seen w' b l := by
  obtain ⟨es, clock, h1, h2, h3⟩ := h.at_
  exact ⟨⟨es, clock, hb.trans h1, h2, h3⟩, h.key⟩
end Go.Proofs.YtpniilgkceadeaaGreatDoor
