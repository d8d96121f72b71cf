-- The document's order of texts, plainly.
import Derived.Test.YtenoecffjfcifaaDoorPtJ
namespace Go.Proofs.YtenoecffjfcifaaDoor.Pv
set_option linter.all false
open Go.RowKit Go.Proofs
/-- A text among others, ahead of the first that it stands ahead of. -/
def insF (x : List Int) : List (List Int) → List (List Int)
  | [] => [x]
  | y :: l => if lessF x y then x :: y :: l else y :: insF x l
def rsortF (L : List (List Int)) : List (List Int) := L.foldl (fun out x => insF x out) []
theorem insF_perm (x : List Int) : ∀ l, (insF x l).Perm (x :: l)
  | [] => .refl _
  | y :: l => by
    rw [insF]
    split
    · exact .refl _
    · exact ((insF_perm x l).cons y).trans (.swap x y l)
theorem rsort_perm_go : ∀ (L out : List (List Int)), (L.foldl (fun out x => insF x out) out).Perm (out ++ L)
  | [], out => by simp
  | x :: L, out => by
    rw [List.foldl_cons]
    refine (rsort_perm_go L _).trans ?_
    refine ((insF_perm x out).append_right L).trans ?_
    exact List.perm_middle.symm
theorem rsort_perm (L : List (List Int)) : (rsortF L).Perm L := by
  have := rsort_perm_go L []
  rwa [List.nil_append] at this
theorem lessF_irrefl : ∀ a, lessF a a = false
  | [] => rfl
  | x :: a => by rw [lessF, if_pos rfl, lessF_irrefl a]
theorem lessF_asymm : ∀ a b, lessF a b = true → lessF b a = false
  | [], [], h => by cases h
  | [], _ :: _, _ => rfl
  | _ :: _, [], h => by cases h
  | x :: a, y :: b, h => by
    rw [lessF] at h ⊢
    by_cases e : x = y
    · subst e
      rw [if_pos rfl] at h ⊢
      exact lessF_asymm a b h
    · rw [if_neg e] at h
      rw [if_neg fun k => e k.symm]
      have := of_decide_eq_true h
      exact decide_eq_false (by omega)
theorem lessF_total : ∀ a b, lessF a b = false → lessF b a = false → a = b
  | [], [], _, _ => rfl
  | [], _ :: _, h, _ => by cases h
  | _ :: _, [], _, h => by cases h
  | x :: a, y :: b, h, k => by
    rw [lessF] at h k
    by_cases e : x = y
    · subst e
      rw [if_pos rfl] at h k
      rw [lessF_total a b h k]
    · rw [if_neg e] at h
      rw [if_neg fun k => e k.symm] at k
      have := of_decide_eq_false h
      have := of_decide_eq_false k
      omega
end Go.Proofs.YtenoecffjfcifaaDoor.Pv
