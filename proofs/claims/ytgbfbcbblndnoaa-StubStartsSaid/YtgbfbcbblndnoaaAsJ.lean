-- carapaceref12.Labels.
import Derived.Test.YtgbfbcbblndnoaaAsH
namespace Go.Proofs.Ytgbfbcbblndnoaa.Pv
set_option linter.all false
open Go.RowKit Go.Proofs
set_option maxRecDepth 100000
theorem lend_rows' {S : List Blk} {T : List Nat} {τ g gg len sz : Nat} {o : Bool} {rows : List (List PV)} (hT : τ ∈ T) (hb : S[τ]? = some ⟨gg, o, sz, rows⟩) (hg : gg = g) (hl : rows.length = len) (hp : ∀ row ∈ rows, ∀ x ∈ row, PV.Pure x) : Lend S T (.vw τ g 0 len) (.ro sz false rows) :=
  .vw hT hb hg (by rw [List.drop_zero, ← hl, List.take_length]) hp
theorem labRows_pure (L : List (List Int × Int)) : ∀ row ∈ labRows L, ∀ x ∈ row, PV.Pure x := fun row hr x hx => by
  obtain ⟨r, _, rfl⟩ := List.mem_map.1 hr
  simp only [List.mem_cons, List.not_mem_nil, or_false] at hx
  rcases hx with rfl | rfl <;> exact .v _
theorem labGo_length : ∀ (L : List It) (out : List (List Int × Int)) (a : Int), (labGo L out a).1.length ≤ out.length + L.length
  | [], out, _ => by simp [labGo]
  | x :: L, out, a => by
    rw [labGo]
    split
    · split
      · simp
      · have := labGo_length L (out ++ [(x.n, a)]) (a + 4 * manyF x.k)
        simp only [List.length_append, List.length_cons, List.length_nil] at this ⊢
        omega
    · have := labGo_length L out (a + 4 * manyF x.k)
      simp only [List.length_cons]
      omega
theorem manyF_in (k : Int) : 0 ≤ manyF k ∧ manyF k ≤ 2 := by unfold manyF; split; decide; split <;> decide
end Go.Proofs.Ytgbfbcbblndnoaa.Pv
