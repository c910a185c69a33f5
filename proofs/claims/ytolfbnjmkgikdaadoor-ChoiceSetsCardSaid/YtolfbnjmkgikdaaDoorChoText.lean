/- Plain mathematics of choices: their texts and their bytes. No program here. -/
import Derived.Test.YtolfbnjmkgikdaaDoorChoSet
import Derived.Lib.Join
import Derived.Lib.ItoaNum
namespace ChoP
open Go
/-- the words of the kinds, by their numbers -/
def words : List (List UInt8) := [[], [114, 101, 113, 117, 101, 115, 116], [102, 108, 105, 112], [100, 101, 112, 108, 111, 121], [99, 114, 97, 115, 104], [100, 114, 111, 112], [100, 101, 108, 97, 121], [116, 119, 105, 99, 101], [100, 105, 115, 107], [106, 105, 116, 116, 101, 114]]
def keyWords (k : Key) : List (List UInt8) := [words.getD k.kind.toNat [], Lib.itoa k.a] ++ (if pairB k.kind = true then [Lib.itoa k.b] else []) ++ [Lib.itoa k.n]
/-- the text of a valid key -/
def keyText (k : Key) : List UInt8 := Lib.join (keyWords k) [32]
def lineWords (c : Cho) : List (List UInt8) := [keyText c.key] ++ (if timedB c.key.kind = true then [[97, 116], Lib.itoa c.t] else []) ++ (if measuredB c.key.kind = true then [Lib.itoa c.d] else []) ++ c.args.map Lib.itoa
def lineText (c : Cho) : List UInt8 := Lib.join (lineWords c) [32]
def setText (l : List Cho) : List UInt8 := l.flatMap fun c => lineText c ++ [10]
/-- a number, seven bits to a byte -/
def putF : Nat → Nat → List Nat
  | 0, v => [v]
  | f + 1, v => if v < 128 then [v] else (v % 128 + 128) :: putF f (v / 128)
def putL (v : Nat) : List Nat := putF 10 v
def zig (x : Int) : Nat := if x < 0 then (2 * (-(x + 1)) + 1).toNat else (2 * x).toNat
def choBytes (c : Cho) : List Nat := [c.key.kind.toNat] ++ putL c.key.a.toNat ++ putL c.key.b.toNat ++ putL c.key.n.toNat ++ putL c.t.toNat ++ putL c.d.toNat ++ putL c.args.length ++ c.args.flatMap fun x => putL (zig x)
def setBytes (l : List Cho) : List Nat := putL l.length ++ l.flatMap choBytes
theorem putF_lt (f v : Nat) (h : v < 128 ^ (f + 1)) (hf : f ≤ 20) : ∀ x ∈ putF f v, x < 256 := by
  induction f generalizing v with
  | zero => intro x hx; simp [putF] at hx; subst hx; simp at h; omega
  | succ f ih =>
    intro x hx
    rw [putF] at hx
    split at hx
    · simp at hx; omega
    · rcases List.mem_cons.1 hx with rfl | hx
      · omega
      · exact ih (v / 128) (by rw [Nat.div_lt_iff_lt_mul (by omega)]; rwa [Nat.pow_succ] at h) (by omega) x hx
theorem putF_len (f v : Nat) : 1 ≤ (putF f v).length ∧ (putF f v).length ≤ f + 1 := by
  induction f generalizing v with
  | zero => simp [putF]
  | succ f ih =>
    rw [putF]
    split
    · simp
    · have := ih (v / 128)
      simp
      omega
theorem putL_len (v : Nat) : (putL v).length ≤ 11 := (putF_len 10 v).2
end ChoP
