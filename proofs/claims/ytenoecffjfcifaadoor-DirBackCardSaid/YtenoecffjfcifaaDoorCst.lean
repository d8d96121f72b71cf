-- A slice of bytes turned to a string.
import Derived.Test.YtenoecffjfcifaaDoorIfc
namespace Go.Proofs.YtenoecffjfcifaaDoor.Pv
set_option linter.all false
open Go.RowKit Go.Proofs
set_option maxRecDepth 100000
set_option maxHeartbeats 4000000
theorem strOf_ints : ∀ l : List Int, strOf (ints .u8 l) = some l
  | [] => rfl
  | a :: l => by
    have := strOf_ints l
    simp only [ints, List.map_cons] at this ⊢
    simp only [strOf, this, Option.map_some]
section
variable {P : Program} {ops : List Oper} {Q : PS → Prop} {rest : List Oper} {n : Nat} {tm : List (Nat × PV)} {S S' : List Blk} {d : Tmp} {ty : TypeId} {pos : String} {af : Array Edge} {t t' e : TypeId} {x : Operand}
theorem cst_ev {l : List Int} {f : Bool} [ht : Und P t (.slice e)] [he : Und P e (.int .u8)] [ht' : Und P t' .string] (hx : PS.get ⟨n, tm, S⟩ x = .ro 1 f (ints .u8 l)) : ev P ⟨n, tm, S⟩ (.convert t t' x) = some (.v (.string (str l))) := by
  simp only [ev, convPV, hx, ht.h, he.h, ht'.h, strOf_ints]
  rfl
theorem ps_cst {l : List Int} {f : Bool} [ht : Und P t (.slice e)] [he : Und P e (.int .u8)] [ht' : Und P t' .string] (k : Pops P ops Q rest ⟨n, (d, .v (.string (str l))) :: tm, S⟩) (hx : PS.get ⟨n, tm, S⟩ x = .ro 1 f (ints .u8 l) := by ((conv => lhs; whnf) <;> fail "no")) : Pops P ops Q (⟨some d, .convert t t' x, ty, pos, af, none⟩ :: rest) ⟨n, tm, S⟩ := ps_ev k (cst_ev hx)
theorem pd_cst {l : List Int} {f : Bool} [ht : Und P t (.slice e)] [he : Und P e (.int .u8)] [ht' : Und P t' .string] (k : PStL P ops Q rest ⟨n, (d, .v (.string (str l))) :: tm, S⟩) (hx : PS.get ⟨n, tm, S⟩ x = .ro 1 f (ints .u8 l) := by ((conv => lhs; whnf) <;> fail "no")) : PStL P ops Q (⟨some d, .convert t t' x, ty, pos, af, none⟩ :: rest) ⟨n, tm, S⟩ := pd_ev k (cst_ev hx)
theorem pd_cst_g {l : List Int} {f w : Bool} {j : Nat} [ht : Und P t (.slice e)] [he : Und P e (.int .u8)] [ht' : Und P t' .string] (k : PStL P ops Q rest ⟨n, (d, .v (.string (str l))) :: tm, S⟩) (hg : guardPV ops ⟨n, tm, S⟩ j w = some w := by ((conv => lhs; whnf) <;> fail "no")) (hx : PS.get ⟨n, tm, S⟩ x = .ro 1 f (ints .u8 l) := by ((conv => lhs; whnf) <;> fail "no")) : PStL P ops Q (⟨some d, .convert t t' x, ty, pos, af, some (j, w)⟩ :: rest) ⟨n, tm, S⟩ :=
  ⟨_, (show GSt P ops _ _ _ from .inl ⟨hg, .ev (cst_ev hx)⟩), k⟩
end
end Go.Proofs.YtenoecffjfcifaaDoor.Pv
