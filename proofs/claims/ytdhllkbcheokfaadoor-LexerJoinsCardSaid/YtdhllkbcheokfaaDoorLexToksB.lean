/- More plain facts on the list of tokens. -/
import Derived.Test.YtdhllkbcheokfaaDoorLexToks
namespace LexP
theorem toksFrom_all (s : ByteArray) (P : Tok → Prop) (hP : ∀ off, off < s.size → P (tokAt s off)) : ∀ (n off : Nat), s.size - off ≤ n → ∀ x ∈ toksFrom s off, P x
  | 0, off, h, x, hx => by rw [toksFrom_end s off (by omega)] at hx; cases hx
  | n + 1, off, h, x, hx => by
    by_cases hl : off < s.size
    · have hb := nextAt_bounds s off hl
      rw [toksFrom_step s off hl] at hx
      rcases List.mem_cons.1 hx with e | e
      · rw [e]; exact hP off hl
      · exact toksFrom_all s P hP n (nextAt s off) (by omega) x e
    · rw [toksFrom_end s off hl] at hx; cases hx
theorem lexB_kind (s : ByteArray) : ∀ x ∈ lexB s, 1 ≤ x.kind ∧ x.kind ≤ 5 :=
  toksFrom_all s (fun x => 1 ≤ x.kind ∧ x.kind ≤ 5) (fun _ _ => read_kind _) _ _ (Nat.le_refl _)
end LexP
