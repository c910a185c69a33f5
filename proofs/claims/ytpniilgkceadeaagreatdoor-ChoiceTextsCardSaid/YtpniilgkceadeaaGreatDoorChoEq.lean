/- Keys are compared by '==': the model's answer. -/
import Derived.Test.YtpniilgkceadeaaGreatDoorChoCheck
import Derived.Test.YtpniilgkceadeaaGreatDoorChoPlain
import Derived.Laws.StructEq
namespace Go.Proofs.YtpniilgkceadeaaGreatDoor
open Go.RowKit
theorem key_under : Tryz.prog.underlying 44 = some (.struct (Tryz.prog.fieldsOf 44)) := by kernel_rfl
theorem key_fields : ∃ f0 f1 f2 f3 : Field, (Tryz.prog.fieldsOf 44).toList = [f0, f1, f2, f3] ∧ (f0.name = "Kind" ∧ f0.type = 42 ∧ f0.offset = 0) ∧ (f1.name = "A" ∧ f1.type = 3 ∧ f1.offset = 1) ∧ (f2.name = "B" ∧ f2.type = 3 ∧ f2.offset = 2) ∧ (f3.name = "N" ∧ f3.type = 3 ∧ f3.offset = 3) := by
  have h := key_under.symm.trans Tryz.underlying44
  injection h with h
  injection h with h
  rw [h]
  exact ⟨_, _, _, _, rfl, ⟨rfl, rfl, rfl⟩, ⟨rfl, rfl, rfl⟩, ⟨rfl, rfl, rfl⟩, ⟨rfl, rfl, rfl⟩⟩
theorem key_stood : Tryz.prog.stoodInHeld 44 = false := by kernel_rfl
theorem key_equalIn (k1 a1 b1 n1 k2 a2 b2 n2 : Int) (w : World) : (Op.equalIn 10000 44 (.agg #[.int .u8 k1, .int .i64 a1, .int .i64 b1, .int .i64 n1]) (.agg #[.int .u8 k2, .int .i64 a2, .int .i64 b2, .int .i64 n2])).run Tryz.prog w = .ok (ChoP.eqB ⟨k1, a1, b1, n1⟩ ⟨k2, a2, b2, n2⟩) w := by
  rw [show (10000 : Nat) = 9999 + 1 from rfl, run_equalIn_agg w 9999 _ _ _ key_under key_stood]
  obtain ⟨f0, f1, f2, f3, e, ⟨x0, y0, z0⟩, ⟨x1, y1, z1⟩, ⟨x2, y2, z2⟩, ⟨x3, y3, z3⟩⟩ := key_fields
  rw [e]
  clear e
  have hu := Tryz.underlying42
  have hi := Tryz.underlying3
  unfold ChoP.eqB
  generalize hd : 9998 = d
  have hd1 : 9999 = d + 1 := by omega
  rw [hd1]
  clear hd hd1
  cases h0 : (k1 == k2) <;> cases h1 : (a1 == a2) <;> cases h2 : (b1 == b2) <;> cases h3 : (n1 == n2) <;> simp [Op.eqFields, x0, y0, z0, x1, y1, z1, x2, y2, z2, x3, y3, z3, go_sem, hu, hi, h0, h1, h2, h3]
theorem key_guard : Tryz.prog.eqGuardType Tryz.prog.depth 44 = false := by kernel_rfl
end Go.Proofs.YtpniilgkceadeaaGreatDoor
