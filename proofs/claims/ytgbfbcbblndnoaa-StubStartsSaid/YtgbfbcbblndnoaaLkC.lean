-- link: whether code may be; the value of a relocation.
import Derived.Test.YtgbfbcbblndnoaaLkB
namespace Go.Proofs.Ytgbfbcbblndnoaa.Pv
set_option linter.all false
open Go.RowKit Go.Proofs
set_option maxRecDepth 100000
set_option maxHeartbeats 4000000
def rightGo (W : List Int) : Int → List (Int × Bool) → Bool
  | _, [] => true
  | fr, r :: R => if r.1 < fr ∨ r.1 % 4 ≠ 0 ∨ (W.length : Int) ≤ r.1 / 4 then false else if r.2 then pairF W (r.1 / 4).toNat && rightGo W (r.1 + 8) R else rightGo W (r.1 + 4) R
def Cd.right (c : Cd) : Bool := rightGo c.W 0 c.R
structure Cd.ok (c : Cd) : Prop where
  w : Wd c.W
  n : c.W.length ≤ 50000000
  m : c.R.length ≤ 50000000
  r : ∀ x ∈ c.R, -9223372036854775808 ≤ x.1 ∧ x.1 ≤ 9223372036854775807
theorem pairF_drop (W : List Int) (k : Nat) : pairF (W.drop k) 0 = pairF W k := by
  unfold pairF
  rw [List.length_drop]
  simp only [List.getD_eq_getElem?_getD, List.getElem?_drop, Nat.add_zero, Nat.zero_add]
  congr 1
  exact decide_eq_decide.2 (by omega)
theorem drop_cons {α : Type} {l : List α} {i : Nat} {x : α} (h : l[i]? = some x) : l.drop i = x :: l.drop (i + 1) := by
  obtain ⟨h1, h2⟩ := List.getElem?_eq_some_iff.1 h
  rw [List.drop_eq_getElem_cons h1, h2]
/-- The value of a relocation. -/
def valueF (c : Cd) (i : Int) : Int × Int := if c.right = false then (0, 1) else if i < 0 ∨ (c.R.length : Int) ≤ i then (0, 5) else (toldF c.W (c.R.getD i.toNat (0, false)), 0)
theorem right_in (W : List Int) : ∀ (R : List (Int × Bool)) (fr : Int), 0 ≤ fr → rightGo W fr R = true → ∀ r ∈ R, RelIn W r ∧ r.1 % 4 = 0
  | [], _, _, _, r, hr => by cases hr
  | q :: R, fr, h0, h, r, hr => by
    unfold rightGo at h
    split at h
    · cases h
    · rename_i hn
      have h1 : ¬ q.1 < fr ∧ q.1 % 4 = 0 ∧ q.1 / 4 < W.length := by omega
      split at h
      · rename_i hp
        simp only [Bool.and_eq_true] at h
        rcases List.mem_cons.1 hr with rfl | hr
        · have : (r.1 / 4).toNat + 1 < W.length := by
            have := h.1
            simp only [pairF, Bool.and_eq_true, decide_eq_true_eq] at this
            exact this.1
          refine ⟨⟨by omega, ?_⟩, h1.2.1⟩
          rw [if_pos hp]; omega
        · exact right_in W R (q.1 + 8) (by omega) h.2 r hr
      · rename_i hp
        rcases List.mem_cons.1 hr with rfl | hr
        · refine ⟨⟨by omega, ?_⟩, h1.2.1⟩
          rw [if_neg hp]; omega
        · exact right_in W R (q.1 + 4) (by omega) h r hr
end Go.Proofs.Ytgbfbcbblndnoaa.Pv
