-- Fourteenth text: lists of whole numbers as elements; sums that stay in their kind.
import Derived.Test.YtaaealngifkaeaaPvM
import Derived.IntWalk
namespace Go.Proofs.Ytaaealngifkaeaa.Pv
set_option linter.all false
open Go.RowKit
set_option linter.unusedVariables false

def ints (k : IntKind) (l : List Int) : List (List PV) := l.map fun b => [.v (.int k b)]
theorem ints_length (k : IntKind) (l : List Int) : (ints k l).length = l.length := by simp [ints]
theorem ints_get (k : IntKind) (l : List Int) (i : Nat) (h : i < l.length) : (ints k l)[i]? = some [.v (.int k (l.getD i 0))] := by
  simp [ints, List.getElem?_eq_getElem h]
theorem ints_append (k : IntKind) (a b : List Int) : ints k a ++ ints k b = ints k (a ++ b) := by simp [ints]
theorem ints_snoc (k : IntKind) (a : List Int) (b : Int) : ints k a ++ [[.v (.int k b)]] = ints k (a ++ [b]) := by simp [ints]
theorem ints_drop (k : IntKind) (l : List Int) (n : Nat) : (ints k l).drop n = ints k (l.drop n) := by simp [ints, List.map_drop]
theorem ints_take (k : IntKind) (l : List Int) (n : Nat) : (ints k l).take n = ints k (l.take n) := by simp [ints, List.map_take]
theorem ints_set (k : IntKind) (l : List Int) (i : Nat) (b : Int) : (ints k l).set i [.v (.int k b)] = ints k (l.set i b) := by simp [ints, List.map_set]
theorem ints_pure (k : IntKind) (l : List Int) (sz : Nat) (f : Bool) : (PV.ro sz f (ints k l)).Pure := by
  refine .ro fun row hr x hx => ?_
  obtain ⟨b, _, rfl⟩ := List.mem_map.1 hr
  simp at hx
  subst hx
  exact .v _
theorem wrap_i64 (x : Int) (h0 : -9223372036854775808 ≤ x) (h1 : x < 9223372036854775808) : IntKind.i64.wrap x = x := IntWalk.i64_in x ⟨h0, by omega⟩
theorem wrap_u32 (x : Int) (h0 : 0 ≤ x) (h1 : x < 4294967296) : IntKind.u32.wrap x = x := IntWalk.u32_in x ⟨h0, by omega⟩
theorem wrap_u8 (x : Int) (h0 : 0 ≤ x) (h1 : x < 256) : IntKind.u8.wrap x = x := IntWalk.u8_in x ⟨h0, by omega⟩
theorem getElem?_one {α : Type} (x : α) : [x][0]? = some x := rfl
end Go.Proofs.Ytaaealngifkaeaa.Pv
