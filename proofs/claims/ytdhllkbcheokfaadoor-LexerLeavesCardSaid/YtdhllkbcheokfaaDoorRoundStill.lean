/- A region that draws its order, in the round of a loop over a function: what only reads comes first, the tail is one forced row. -/
import Derived.StillTailTactics
import Derived.OrdersIn
import Derived.RangeFuncCalls
namespace Go.RoundStill
open Go
variable {P : Program} {ops : Array Oper} {Q : Exit → Act → World → Prop}
/-- no operation of the region is a defer statement -/
def noDefer (ops : Array Oper) : Bool := ops.all fun o => match o.op with | .defer _ => false | _ => true
theorem op_in {l n : Nat} {o : Oper} {a : Act} {w : World} {K : Act → World → Prop} (hd : ∀ c, o.op ≠ .defer c) (h : o.wp P a w K Q) : o.wpIn (Fence.wide.inRound l) n P a w K Q := by
  refine ⟨fun _ _ => trivial, ?_⟩
  rw [Oper.semAt_eq _ _ _ hd]
  unfold Oper.wp at h
  generalize (execOp a.eval o).run P w = r at *
  cases r with
  | ok x w' =>
    cases x <;> first | exact h | exact h.elim | exact ⟨(fun h => by cases h), CallsIn.inRound l (callsIn_wide.2 h)⟩ | skip
    refine ⟨(fun h => by cases h), fun c cs _ => ?_⟩
    obtain ⟨v, w'', hr, hs⟩ := h c cs
    exact ⟨v, w'', hr, stepsIn_wide.2 hs⟩
  | halt x w' => cases x <;> first | exact h | exact h.elim
theorem noDefer_spec (h : noDefer ops = true) {i : Nat} {o : Oper} (hi : ops[i]? = some o) : ∀ c, o.op ≠ .defer c := by
  intro c e
  unfold noDefer at h
  rw [Array.all_eq_true] at h
  obtain ⟨hlt, rfl⟩ := Array.getElem?_eq_some_iff.1 hi
  have := h i hlt
  rw [e] at this
  cases this
theorem any_in {md : Region.Mode} {l n : Nat} (hd : noDefer ops = true) (hQ : ¬ LetsOut Q) : ∀ (g : Nat) (listed : Array Bool) (a : Act) (w : World), wpAny P md ops Q g listed a w → wpAnyIn (Fence.wide.inRound l) n P md ops Q g listed a w
  | 0, _, _, _, h => h
  | g + 1, listed, a, w, h => by
    refine ⟨h.1, fun i hi => ?_⟩
    have h1 := h.2 i hi
    unfold wpOp at h1
    unfold wpOpIn
    split
    · rename_i he
      rw [he] at h1
      exact any_in hd hQ g _ a w h1
    · rename_i o ho
      rw [ho] at h1
      simp only at h1
      split
      · rename_i hw
        rw [if_pos hw] at h1
        rcases h1 with h1 | h1
        · exact Oper.wpIn_mono (fun a w => any_in hd hQ g _ a w) (op_in (noDefer_spec hd ho) h1)
        · exact absurd h1.2 hQ
      · rename_i hw
        rw [if_neg hw] at h1
        exact ⟨fun _ _ => trivial, any_in hd hQ g _ _ w h1⟩
theorem region_tail {id l k : Nat} {a : Act} {w : World} {os : List Oper} (n : Nat) (hm : P.follows .mixedOrders = true) (hB : Region.lexTailB .any os.toArray n = true) (hd : noDefer os.toArray = true) (hQ : ¬ LetsOut Q)
    (h : wpStill P os.toArray { w with drawn := w.drawn + 1 } (fun a' => wpList P os.toArray Q (os.drop n) a' { w with drawn := w.drawn + 1 }) (os.take n) a) : (Code.region id os.toArray true).wpIn (Fence.wide.inRound l) k P Q a w := by
  refine wpIn_region_any hm (any_in hd hQ _ _ _ _ ?_)
  simp only [Region.lexTailB, Bool.and_eq_true, decide_eq_true_eq] at hB
  obtain ⟨⟨⟨⟨hsel, hn⟩, hs⟩, hc⟩, hlex⟩ := hB
  have hn' : n < os.length := by simpa using hn
  have htl : (os.take n).length = n := by simp; omega
  have hdl : (os.drop n).length = os.toArray.size - n := by simp
  have inv0 : HeadInv .any os.toArray n (Array.replicate os.toArray.size false) :=
    ⟨by simp, fun j oj _ hl => (by rw [getD_replicate_false] at hl; cases hl), fun t _ ht => getD_in (by simpa using ht) (getD_replicate_false _ _)⟩
  have H := wpAnyL_lex (md := .any) (g := os.toArray.size - n) hsel hs hc hn (os.take n) 0 _ a (fun j hj => by
    have hj' : j < n := by rw [htl] at hj; exact hj
    simp [hj']) (by simpa using htl) inv0 (by rw [htl]; exact hlex) h
  have := wpAny_of_head (Q' := Q) (g := os.toArray.size - n) (fun listed a' hL => by
    have := wpAny_of_seq (md := .any) (Q' := Q) (os.drop n) n listed a' { w with drawn := w.drawn + 1 } (fun j => by simp [List.getElem?_drop]) (by rw [hdl]; exact hL.1) hL.2
    rwa [hdl] at this) _ _ _ H
  rw [htl, show n + (os.toArray.size - n) = os.toArray.size by omega] at this
  exact this
end Go.RoundStill
