-- Parts between bytes /, plainly.
import Derived.Test.YtenoecffjfcifaaDoorPtI
namespace Go.Proofs.YtenoecffjfcifaaDoor.Pv
set_option linter.all false
open Go.RowKit Go.Proofs
theorem parts_ne : ∀ (l : List Int), partsF l ≠ []
  | [] => by simp [partsF]
  | c :: l => by
    rw [partsF]
    split
    · simp
    · split <;> simp
theorem parts_chars : ∀ (l : List Int) (c : Int), c ∈ l → c = 47 ∨ ∃ p ∈ partsF l, c ∈ p
  | [], c, h => by simp at h
  | x :: l, c, h => by
    rw [partsF]
    by_cases e : x = 47
    · rw [if_pos e]
      rcases List.mem_cons.1 h with rfl | h
      · exact .inl e
      · rcases parts_chars l c h with h | ⟨p, hp, hc⟩
        · exact .inl h
        · exact .inr ⟨p, List.mem_cons_of_mem _ hp, hc⟩
    · rw [if_neg e]
      cases hq : partsF l with
      | nil => exact absurd hq (parts_ne l)
      | cons q qs =>
        rcases List.mem_cons.1 h with rfl | h
        · exact .inr ⟨c :: q, by simp, by simp⟩
        · rcases parts_chars l c h with h | ⟨p, hp, hc⟩
          · exact .inl h
          · rw [hq] at hp
            rcases List.mem_cons.1 hp with rfl | hp
            · exact .inr ⟨x :: p, by simp, by simp [hc]⟩
            · exact .inr ⟨p, by simp [hp], hc⟩
theorem parts_sub : ∀ (l p : List Int), p ∈ partsF l → ∀ c ∈ p, c ∈ l ∧ c ≠ 47
  | [], p, h, c, hc => by
    simp [partsF] at h
    subst h
    simp at hc
  | x :: l, p, h, c, hc => by
    rw [partsF] at h
    by_cases e : x = 47
    · rw [if_pos e] at h
      rcases List.mem_cons.1 h with rfl | h
      · simp at hc
      · have := parts_sub l p h c hc
        exact ⟨List.mem_cons_of_mem _ this.1, this.2⟩
    · rw [if_neg e] at h
      cases hq : partsF l with
      | nil => exact absurd hq (parts_ne l)
      | cons q qs =>
        rw [hq] at h
        have hs := parts_sub l
        rw [hq] at hs
        rcases List.mem_cons.1 h with rfl | h
        · rcases List.mem_cons.1 hc with rfl | hc
          · exact ⟨by simp, e⟩
          · have := hs q (by simp) c hc
            exact ⟨List.mem_cons_of_mem _ this.1, this.2⟩
        · have := hs p (List.mem_cons_of_mem _ h) c hc
          exact ⟨List.mem_cons_of_mem _ this.1, this.2⟩
/-- The document's way and the program's. -/
theorem rmay_iff (l : List Int) : rmayP l ↔ l.length ≤ 200 ∧ (∀ c ∈ l, okC c) ∧ ∀ p ∈ partsF l, partP p := by
  unfold rmayP rpartP
  constructor
  · rintro ⟨h1, h2⟩
    refine ⟨h1, fun c hc => ?_, fun p hp => (h2 p hp).2⟩
    rcases parts_chars l c hc with rfl | ⟨p, hp, hcp⟩
    · decide
    · exact (h2 p hp).1 c hcp
  · rintro ⟨h1, h2, h3⟩
    exact ⟨h1, fun p hp => ⟨fun c hc => h2 c (parts_sub l p hp c hc).1, h3 p hp⟩⟩
end Go.Proofs.YtenoecffjfcifaaDoor.Pv
