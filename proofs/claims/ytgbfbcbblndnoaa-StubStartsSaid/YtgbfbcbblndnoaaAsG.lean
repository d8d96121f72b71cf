-- carapaceref12.Find.
import Derived.Test.YtgbfbcbblndnoaaAsF
import Derived.Test.YtgbfbcbblndnoaaLkC
namespace Go.Proofs.Ytgbfbcbblndnoaa.Pv
set_option linter.all false
open Go.RowKit Go.Proofs
set_option maxRecDepth 100000
def labRows (L : List (List Int × Int)) : List (List PV) := L.map fun p => [.v (.string (str p.1)), .v (.int .i64 p.2)]
theorem labRows_length (L : List (List Int × Int)) : (labRows L).length = L.length := by simp [labRows]
theorem labRows_get {L : List (List Int × Int)} {i : Nat} {p : List Int × Int} (h : L[i]? = some p) : (labRows L)[((i : Nat) : Int).toNat]? = some [.v (.string (str p.1)), .v (.int .i64 p.2)] := by
  rw [Int.toNat_natCast, labRows, List.getElem?_map, h]; rfl
instance (sz : Nat) (f : Bool) (L : List (List Int × Int)) : PureC (.ro sz f (labRows L)) := ⟨.ro fun row hr x hx => by
  obtain ⟨r, _, rfl⟩ := List.mem_map.1 hr
  simp only [List.mem_cons, List.not_mem_nil, or_false] at hx
  rcases hx with rfl | rfl <;> exact .v _⟩
def findF : List (List Int × Int) → List Int → Int × Bool
  | [], _ => (0, false)
  | p :: L, n => if p.1 = n then (p.2, true) else findF L n
end Go.Proofs.Ytgbfbcbblndnoaa.Pv
