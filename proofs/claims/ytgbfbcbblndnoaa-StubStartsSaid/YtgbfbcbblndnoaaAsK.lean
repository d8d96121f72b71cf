-- carapaceref12.wrong.
import Derived.Test.YtgbfbcbblndnoaaAsJ
namespace Go.Proofs.Ytgbfbcbblndnoaa.Pv
set_option linter.all false
open Go.RowKit Go.Proofs
set_option maxRecDepth 100000
set_option maxHeartbeats 4000000
def It.rt (x : It) : Prop := rightF (form x.op) x.a x.b x.c x.imm
instance (x : It) : Decidable x.rt := by unfold It.rt; infer_instance
def wrongB (b : Bool) (x : It) : Bool := (decide (x.k = 1) && !b) || (decide (x.k = 2) && (!b || decide (x.imm ≠ 0) || decide (x.op < 16) || decide (20 < x.op))) || (decide (x.k = 3) && (!b || decide (x.imm ≠ 0) || decide (x.op ≠ 1)))
instance (x : It) : PureL x.row := ⟨fun y hy => by
  simp only [It.row, List.mem_cons, List.not_mem_nil, or_false] at hy
  rcases hy with rfl | rfl | rfl | rfl | rfl | rfl | rfl | rfl <;> exact .v _⟩
end Go.Proofs.Ytgbfbcbblndnoaa.Pv
