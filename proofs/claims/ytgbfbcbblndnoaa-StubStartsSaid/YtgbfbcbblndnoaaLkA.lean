-- link: code, as lists; own, small, pair, told.
import Derived.Test.YtgbfbcbblndnoaaInG
namespace Go.Proofs.Ytgbfbcbblndnoaa.Pv
set_option linter.all false
open Go.RowKit Go.Proofs
set_option maxRecDepth 100000
set_option maxHeartbeats 4000000
def relRows (R : List (Int × Bool)) : List (List PV) := R.map fun r => [.v (.int .i64 r.1), .v (.bool r.2)]
theorem relRows_length (R : List (Int × Bool)) : (relRows R).length = R.length := by simp [relRows]
theorem relRows_snoc (R : List (Int × Bool)) (r : Int × Bool) : relRows R ++ [[.v (.int .i64 r.1), .v (.bool r.2)]] = relRows (R ++ [r]) := by simp [relRows]
theorem relRows_get {R : List (Int × Bool)} {i : Nat} {r : Int × Bool} (h : R[i]? = some r) : (relRows R)[((i : Nat) : Int).toNat]? = some [.v (.int .i64 r.1), .v (.bool r.2)] := by
  rw [Int.toNat_natCast, relRows, List.getElem?_map, h]; rfl
theorem relRows_pure (R : List (Int × Bool)) : ∀ row ∈ relRows R, ∀ x ∈ row, PV.Pure x := by
  intro row hr x hx
  obtain ⟨r, _, rfl⟩ := List.mem_map.1 hr
  simp only [List.mem_cons, List.not_mem_nil, or_false] at hx
  rcases hx with rfl | rfl <;> exact .v _
instance (sz : Nat) (f : Bool) (R : List (Int × Bool)) : PureC (.ro sz f (relRows R)) := ⟨.ro (relRows_pure R)⟩
/-- Code. -/
structure Cd where
  W : List Int
  R : List (Int × Bool)
def Cd.row (c : Cd) : List PV := [.ro 1 false (ints .u32 c.W), .ro 2 false (relRows c.R)]
def Cd.pv (c : Cd) : PV := .agg c.row
instance (c : Cd) : PureL c.row := ⟨fun x hx => by
  simp only [Cd.row, List.mem_cons, List.not_mem_nil, or_false] at hx
  rcases hx with rfl | rfl
  · exact ints_pure _ _ _ _
  · exact .ro (relRows_pure _)⟩
instance (c : Cd) : PureC c.pv := ⟨.agg (PureL.h (xs := c.row))⟩
theorem gives_rows {S : List Blk} {τ g gg len sz : Nat} {o : Bool} {rows : List (List PV)} (hb : S[τ]? = some ⟨gg, o, sz, rows⟩) (hg : gg = g) (hl : rows.length = len) (hp : ∀ row ∈ rows, ∀ x ∈ row, PV.Pure x) : Gives S (.vw τ g 0 len) (.ro sz false rows) :=
  .vw hb hg (by rw [List.drop_zero, ← hl, List.take_length]) hp
theorem gives_agg2 {S : List Blk} {x y x' y' : PV} (h : Gives S x x') (k : Gives S y y') : Gives S (.agg [x, y]) (.agg [x', y']) := .agg rfl fun i a b ha hb => by
  match i, ha, hb with
  | 0, ha, hb => simp at ha hb; subst ha hb; exact h
  | 1, ha, hb => simp at ha hb; subst ha hb; exact k
  | i + 2, ha, hb => simp at ha
end Go.Proofs.Ytgbfbcbblndnoaa.Pv
