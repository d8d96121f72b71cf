-- carapaceref12.Large.
import Derived.Test.YtgbfbcbblndnoaaAsE
namespace Go.Proofs.Ytgbfbcbblndnoaa.Pv
set_option linter.all false
open Go.RowKit Go.Proofs
set_option maxRecDepth 100000
def nameL : Option It → Nat
  | some x => x.n.length
  | none => 0
def namesN (L : List It) : Nat → Int
  | 0 => 0
  | i + 1 => namesN L i + (nameL L[i]? : Nat) + 1
theorem namesN_ge (L : List It) : ∀ i : Nat, (i : Int) ≤ namesN L i
  | 0 => by simp [namesN]
  | i + 1 => by
    have := namesN_ge L i
    rw [namesN]
    omega
end Go.Proofs.Ytgbfbcbblndnoaa.Pv
