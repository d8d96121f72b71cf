-- carapaceref12.many.
import Derived.Test.YtgbfbcbblndnoaaAsG
namespace Go.Proofs.Ytgbfbcbblndnoaa.Pv
set_option linter.all false
open Go.RowKit Go.Proofs
set_option maxRecDepth 100000
def manyF (k : Int) : Int := if k = 0 then 0 else if k = 3 then 2 else 1
def badIt (x : It) : Bool := decide (x.k < 0 ∨ 5 < x.k ∨ x.k = 0 ∧ x.n = [])
def labGo : List It → List (List Int × Int) → Int → List (List Int × Int) × Int
  | [], out, _ => (out, 0)
  | x :: L, out, at_ => if x.k = 0 then (if (findF out x.n).2 = true then ([], 7) else labGo L (out ++ [(x.n, at_)]) (at_ + 4 * manyF x.k)) else labGo L out (at_ + 4 * manyF x.k)
def labelsF (L : List It) : List (List Int × Int) × Int := if 4096 < L.length then ([], 4) else if L.any badIt = true then ([], 1) else labGo L [] 0
end Go.Proofs.Ytgbfbcbblndnoaa.Pv
