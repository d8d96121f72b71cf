-- carapacelaw12.own.
import Derived.Test.YtgbfbcbblndnoaaAsD
namespace Go.Proofs.Ytgbfbcbblndnoaa.Pv
set_option linter.all false
open Go.RowKit Go.Proofs
set_option maxRecDepth 100000
/-- An item. -/
structure It where
  k : Int
  n : List Int
  op : Int
  a : Int
  b : Int
  c : Int
  imm : Int
  w : Int
def It.row (x : It) : List PV := [.v (.int .i64 x.k), .v (.string (str x.n)), .v (.int .i64 x.op), .v (.int .i64 x.a), .v (.int .i64 x.b), .v (.int .i64 x.c), .v (.int .i64 x.imm), .v (.int .u32 x.w)]
def itRows (L : List It) : List (List PV) := L.map It.row
theorem itRows_length (L : List It) : (itRows L).length = L.length := by simp [itRows]
theorem itRows_get {L : List It} {i : Nat} {x : It} (h : L[i]? = some x) : (itRows L)[((i : Nat) : Int).toNat]? = some [.v (.int .i64 x.k), .v (.string (str x.n)), .v (.int .i64 x.op), .v (.int .i64 x.a), .v (.int .i64 x.b), .v (.int .i64 x.c), .v (.int .i64 x.imm), .v (.int .u32 x.w)] := by
  rw [Int.toNat_natCast, itRows, List.getElem?_map, h]; rfl
theorem itRows_pure (L : List It) : ∀ row ∈ itRows L, ∀ x ∈ row, PV.Pure x := by
  intro row hr x hx
  obtain ⟨r, _, rfl⟩ := List.mem_map.1 hr
  simp only [It.row, List.mem_cons, List.not_mem_nil, or_false] at hx
  rcases hx with rfl | rfl | rfl | rfl | rfl | rfl | rfl | rfl <;> exact .v _
instance (sz : Nat) (f : Bool) (L : List It) : PureC (.ro sz f (itRows L)) := ⟨.ro (itRows_pure L)⟩
end Go.Proofs.Ytgbfbcbblndnoaa.Pv
