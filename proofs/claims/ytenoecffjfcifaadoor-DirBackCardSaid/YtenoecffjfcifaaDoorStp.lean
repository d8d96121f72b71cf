-- What a library's contract leaves: draws, blocks behind.
import Derived.Test.YtenoecffjfcifaaDoorRgD
import Derived.Sort.EncStr
import Derived.Sort.Grow
import Derived.Sort.Row
namespace Go.Proofs.YtenoecffjfcifaaDoor.Pv
set_option linter.all false
set_option linter.unusedVariables false
open Go.RowKit Go.Proofs
theorem step_grow (c : Cx) (hi : Inv c) (os : Array Obj) : Step c { c with w := Go.Sort.grow c.w os } ∧ Inv { c with w := Go.Sort.grow c.w os } := by
  have hb : ∀ b, b < c.w.heap.size → (Go.Sort.grow c.w os).heap[b]? = c.w.heap[b]? := fun b hb => by
    show (c.w.heap ++ os)[b]? = _
    exact Array.getElem?_append_left hb
  have hs : c.w.heap.size ≤ (Go.Sort.grow c.w os).heap.size := by
    show _ ≤ (c.w.heap ++ os).size
    rw [Array.size_append]
    omega
  refine ⟨⟨rfl, rfl, rfl, rfl, hs, Nat.le_refl _, fun b h _ => hb b h, fun τ blk h _ => ⟨blk, h, rfl, rfl, rfl, rfl⟩, fun b h => .inl h, fun b cs e fz h => ⟨cs, fz, (hb b (Array.getElem?_eq_some_iff.1 h).1).trans h, rfl⟩⟩, ?_⟩
  exact Inv.turn (c := c) (c' := { c with w := Go.Sort.grow c.w os }) ⟨rfl, rfl, rfl, fun _ _ _ _ h => h, fun b ob h _ => (hb b (Array.getElem?_eq_some_iff.1 h).1).trans h⟩ hi (fun b h => Nat.lt_of_lt_of_le (hi.gLt b h) hs)
theorem step_drawn (c : Cx) (hi : Inv c) (n : Nat) : Step c { c with w := { c.w with drawn := n } } ∧ Inv { c with w := { c.w with drawn := n } } := by
  have hs : Step c { c with w := { c.w with drawn := n } } := ⟨rfl, rfl, rfl, rfl, Nat.le_refl _, Nat.le_refl _, fun _ _ _ => rfl, fun t b h _ => ⟨b, h, rfl, rfl, rfl, rfl⟩, fun b h => .inl h, fun b cs e fz h => ⟨cs, fz, h, rfl⟩⟩
  refine ⟨hs, fun t b h => ?_, hi.notG, hi.inj, hi.gLt, hi.wi.step hs⟩
  have hB := hi.blk t b h
  exact ⟨hB.gen, hB.void, fun q hq => (hB.heap q hq).move (fun x v h => h.step hs) rfl⟩
end Go.Proofs.YtenoecffjfcifaaDoor.Pv
