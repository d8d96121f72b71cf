-- carapaceref07: Word, Of.
import Derived.Test.YtgbfbcbblndnoaaInF
namespace Go.Proofs.Ytgbfbcbblndnoaa.Pv
set_option linter.all false
open Go.RowKit Go.Proofs
set_option maxRecDepth 100000
set_option maxHeartbeats 4000000
theorem word_of_w (w : Int) (h0 : 0 ≤ w) (h1 : w < 4294967296) : wordOf (w / 16777216) (w / 1048576 % 16) (w / 65536 % 16) (wC w) (wI w) = w := by
  unfold wordOf wC wI
  split
  · omega
  · split <;> omega
theorem has_ends (op : Int) : decide (115 ∈ form op) = endsIn (form op) [115] := by
  rcases form_cases op with ⟨e, h1⟩ | ⟨e, h1⟩ | ⟨e, h1⟩ | ⟨e, h1⟩ | ⟨e, h1⟩ | ⟨e, h1⟩ | ⟨e, h1⟩ <;> rw [e] <;> decide
end Go.Proofs.Ytgbfbcbblndnoaa.Pv
