-- carapacelaw12.code.
import Derived.Test.YtgbfbcbblndnoaaLkA
namespace Go.Proofs.Ytgbfbcbblndnoaa.Pv
set_option linter.all false
open Go.RowKit Go.Proofs
set_option maxRecDepth 100000
end Go.Proofs.Ytgbfbcbblndnoaa.Pv
