-- carapaceref07: Right, Word, Of.
import Derived.Test.YtgbfbcbblndnoaaInE
namespace Go.Proofs.Ytgbfbcbblndnoaa.Pv
set_option linter.all false
open Go.RowKit Go.Proofs
set_option maxRecDepth 100000
set_option maxHeartbeats 4000000
theorem decide_bool (p : Prop) [Decidable p] : ∃ b : Bool, decide p = b ∧ (b = true ↔ p) := ⟨decide p, rfl, decide_eq_true_iff⟩
theorem rright_eq (op a b c imm : Int) : rightF (form op) a b c imm ↔ (form op ≠ [] ∧ (a = 0 ∨ 97 ∈ form op ∧ 1 ≤ a ∧ a ≤ 15) ∧ (b = 0 ∨ 98 ∈ form op ∧ 1 ≤ b ∧ b ≤ 15) ∧ (c = 0 ∨ 99 ∈ form op ∧ 1 ≤ c ∧ c ≤ 15) ∧
    ((117 ∈ form op ∧ 0 ≤ imm ∧ imm ≤ 65535) ∨ (¬ 117 ∈ form op ∧ 115 ∈ form op ∧ -32768 ≤ imm ∧ imm ≤ 32767) ∨ (¬ 117 ∈ form op ∧ ¬ 115 ∈ form op ∧ imm = 0))) := by
  rcases form_cases op with ⟨e, h1⟩ | ⟨e, h1⟩ | ⟨e, h1⟩ | ⟨e, h1⟩ | ⟨e, h1⟩ | ⟨e, h1⟩ | ⟨e, h1⟩ <;> rw [e] <;> simp [rightF, lo, hi, endsIn] <;> omega
end Go.Proofs.Ytgbfbcbblndnoaa.Pv
