/- Plain: a full set of Disk choices; permuted lists have one error and as many choices. -/
import Derived.Test.YtebfclikfpcibaaDoorChoNew
namespace ChoP
theorem all_perm {l m : List Cho} (h : l.Perm m) : l.all okC = m.all okC := by
  rw [Bool.eq_iff_iff, List.all_eq_true, List.all_eq_true]
  exact ⟨fun a x hx => a x (h.mem_iff.2 hx), fun a x hx => a x (h.mem_iff.1 hx)⟩
theorem nodupB_perm {l m : List Cho} (h : l.Perm m) : nodupB l = nodupB m := by
  rw [Bool.eq_iff_iff]
  exact ⟨nodup_perm h, nodup_perm h.symm⟩
theorem errNew_perm {l m : List Cho} (h : l.Perm m) : errNew l = errNew m := by
  unfold errNew
  rw [all_perm h, nodupB_perm h, h.length_eq]
theorem setL_len (l : List Cho) : (setL l).length = if errNew l = 0 then l.length else 0 := by
  unfold setL
  split
  · exact (isort_perm l).length_eq
  · rfl
theorem full_same (l : List Cho) (x : Cho) : errNew (isort l ++ [x]) = errNew (l ++ [x]) ∧ (setL (isort l ++ [x])).length = (setL (l ++ [x])).length := by
  have hp : (isort l ++ [x]).Perm (l ++ [x]) := (isort_perm l).append_right _
  refine ⟨errNew_perm hp, ?_⟩
  rw [setL_len, setL_len, errNew_perm hp, hp.length_eq]
def diskC (i : Nat) : Cho := ⟨⟨8, ((i % 8 : Nat) : Int), 0, ((i / 8 : Nat) : Int)⟩, 0, 0, []⟩
theorem diskC_ok (i : Nat) (h : i ≤ 256) : okC (diskC i) = true := by
  unfold okC diskC choOK keyOK inB
  simp [pairB, timedB, lowD, highD]
  omega
theorem disk_err (n : Nat) (h : n ≤ 256) : errNew ((List.range n).map diskC) = if n ≤ 96 then 0 else 3 := by
  have h1 : ((List.range n).map diskC).all okC = true := by
    rw [List.all_eq_true]
    intro x hx
    obtain ⟨i, hi, rfl⟩ := List.mem_map.1 hx
    exact diskC_ok i (by have := List.mem_range.1 hi; omega)
  have h2 : nodupB ((List.range n).map diskC) = true := by
    rw [nodup_iff, List.pairwise_map]
    refine List.pairwise_lt_range.imp (fun {i j} hij e => ?_)
    unfold diskC at e
    have e1 := congrArg Key.a e
    have e2 := congrArg Key.n e
    simp only at e1 e2
    omega
  unfold errNew
  rw [h1, h2, List.length_map, List.length_range]
  simp
  split <;> split <;> first | rfl | omega
end ChoP
namespace Go.Proofs.YtebfclikfpcibaaDoor
open Go.RowKit Go.Sort
def diskR (i : Nat) : Row := ⟨⟨8, ((i % 8 : Nat) : Int), 0, ((i / 8 : Nat) : Int)⟩, 0, 0, none, 0, 0⟩
def diskP (n : Nat) : List Pair := (List.range n).map fun i => (diskR i, ChoP.diskC i)
theorem diskP_len (n : Nat) : (diskP n).length = n := by simp [diskP]
theorem diskP_succ (n : Nat) : diskP (n + 1) = diskP n ++ [(diskR n, ChoP.diskC n)] := by simp [diskP, List.range_succ]
theorem diskP_cho (n : Nat) : cho (diskP n) = (List.range n).map ChoP.diskC := by simp [diskP, cho, Function.comp_def]
theorem diskP_cells (n : Nat) : cellsP (diskP (n + 1)) = cellsP (diskP n) ++ (diskR n).vs := by
  rw [diskP_succ, cellsP_append]
  simp [cellsP, encP]
theorem diskP_chos {w : World} {B : Nat} {A : Option Addr} (n : Nat) (h : Lie w B A (cellsP (diskP n))) : Chos w B A (diskP n) := by
  refine ⟨h, fun p hp => ?_⟩
  obtain ⟨i, _, rfl⟩ := List.mem_map.1 hp
  exact ⟨rfl, rfl, rfl, rfl, Nat.le_refl _, by simp [diskR], Lie.nil _ _ _⟩
end Go.Proofs.YtebfclikfpcibaaDoor
