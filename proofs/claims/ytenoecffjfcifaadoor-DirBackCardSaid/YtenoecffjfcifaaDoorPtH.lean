-- path: In.
import Derived.Test.YtenoecffjfcifaaDoorPtG
namespace Go.Proofs.YtenoecffjfcifaaDoor.Pv
set_option linter.all false
open Go.RowKit Go.Proofs
set_option maxRecDepth 100000
set_option maxHeartbeats 4000000
theorem in_iff (a b : List Int) : a.take (b ++ [47]).length = b ++ [47] ↔ inP a b := by
  rw [List.length_append, List.length_singleton]
  constructor
  · intro h
    have hl := congrArg List.length h
    rw [List.length_take, List.length_append, List.length_singleton] at hl
    have hlt : b.length < a.length := by omega
    rw [List.take_succ_eq_append_getElem hlt] at h
    obtain ⟨h1, h2⟩ := List.append_inj' h rfl
    refine ⟨hlt, h1, ?_⟩
    rw [List.getD_eq_getElem?_getD, List.getElem?_eq_getElem hlt, Option.getD_some]
    simpa using h2
  · rintro ⟨h1, h2, h3⟩
    rw [List.take_succ_eq_append_getElem h1, h2]
    rw [List.getD_eq_getElem?_getD, List.getElem?_eq_getElem h1, Option.getD_some] at h3
    rw [h3]
end Go.Proofs.YtenoecffjfcifaaDoor.Pv
