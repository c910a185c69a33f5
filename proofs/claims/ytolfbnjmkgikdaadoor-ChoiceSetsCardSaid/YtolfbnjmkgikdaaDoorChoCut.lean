/- A choice whose arguments are cut; the errors' numbers. -/
import Derived.Test.YtolfbnjmkgikdaaDoorChoRefWith
import Derived.Test.YtolfbnjmkgikdaaDoorChoNewF
namespace Go.Proofs.YtolfbnjmkgikdaaDoor
open Go.RowKit Go.Sort
theorem errNew_bounds (l : List ChoP.Cho) : 0 ≤ ChoP.errNew l ∧ ChoP.errNew l ≤ 5 := by
  unfold ChoP.errNew
  split
  · decide
  · split
    · decide
    · split <;> decide
theorem RowIs.cut {w : World} {B : Nat} {r : Row} {x : ChoP.Cho} (h : RowIs w B r x) (m : Nat) (hm : m ≤ r.n) : RowIs w B ⟨r.key, r.t, r.d, r.p, m, r.c⟩ ⟨x.key, x.t, x.d, x.args.take m⟩ := by
  refine ⟨h.key, h.t, h.d, ?_, ?_, h.m, ?_⟩
  · have := h.n
    rw [List.length_take]
    show m = _
    omega
  · have := h.c
    show m ≤ r.c
    omega
  · have e : intV (x.args.take m) = (intV x.args).take m := by simp [intV, List.map_take]
    show Lie w B r.p (intV (x.args.take m))
    rw [e]
    exact h.lie.take m
end Go.Proofs.YtolfbnjmkgikdaaDoor
