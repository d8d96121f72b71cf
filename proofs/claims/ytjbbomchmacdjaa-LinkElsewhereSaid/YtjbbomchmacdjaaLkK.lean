-- Linking, in plain terms: parts linked in two steps are those linked at once.
import Derived.Test.YtjbbomchmacdjaaLkF
namespace Go.Proofs.Ytjbbomchmacdjaa.Pv
set_option linter.all false
open Go.RowKit Go.Proofs
set_option maxRecDepth 100000
theorem getD_set_ne' {l : List Int} {i j : Nat} {x : Int} (h : i ≠ j) : (l.set i x).getD j 0 = l.getD j 0 := by
  simp only [List.getD_eq_getElem?_getD, List.getElem?_set_ne h]
theorem getD_set_eq' {l : List Int} {i : Nat} {x : Int} (h : i < l.length) : (l.set i x).getD i 0 = x := by
  simp only [List.getD_eq_getElem?_getD, List.getElem?_set_self h, Option.getD_some]
theorem toNat_k1 {a : Int} (h : 0 ≤ a) : (a / 4 + 1).toNat = (a / 4).toNat + 1 := by omega
/-- What is set is told. -/
theorem told_set {W : List Int} {r : Int × Bool} (h : RelIn W r) {n : Int} (h0 : 0 ≤ n) (h1 : n < 4294967296) : toldF (setF W r n) r = n := by
  obtain ⟨a, p⟩ := r
  obtain ⟨g0, g1⟩ := h
  simp only at g0 g1
  cases p with
  | false =>
    simp only [toldF, setF, Bool.false_eq_true, if_false] at g1 ⊢
    exact getD_set_eq' (by omega)
  | true =>
    simp only [toldF, setF, if_true] at g1 ⊢
    rw [toNat_k1 g0]
    rw [getD_set_ne' (l := W.set _ _) (by omega), getD_set_eq' (by omega), getD_set_eq' (by rw [List.length_set]; omega)]
    omega
/-- Relocations' order, whatever the words are. -/
def Ord : Int → List (Int × Bool) → Prop
  | _, [] => True
  | fr, r :: R => fr ≤ r.1 ∧ r.1 % 4 = 0 ∧ Ord (r.1 + if r.2 then 8 else 4) R
theorem ord_of {W : List Int} : ∀ {R : List (Int × Bool)} {fr : Int}, rightGo W fr R = true → Ord fr R
  | [], _, _ => trivial
  | r :: R, fr, h => by
    unfold rightGo at h
    split at h
    · cases h
    · rename_i hn
      split at h
      · rename_i hp
        simp only [Bool.and_eq_true] at h
        exact ⟨by omega, by omega, by rw [if_pos hp]; exact ord_of h.2⟩
      · rename_i hp
        exact ⟨by omega, by omega, by rw [if_neg hp]; exact ord_of h⟩
/-- Words ahead of all relocations stay. -/
theorem turn_ahead (b : Int) : ∀ (R : List (Int × Bool)) (fr : Int) (V : List Int), 0 ≤ fr → Ord fr R → ∀ k : Nat, 4 * (k : Int) + 4 ≤ fr → (turnGo b V R).getD k 0 = V.getD k 0
  | [], _, _, _, _, _, _ => rfl
  | r :: R, fr, V, h0, ⟨h1, h2, h3⟩, k, hk => by
    rw [turnGo, turn_ahead b R _ _ (by split <;> omega) h3 k (by split <;> omega)]
    unfold setF
    split
    · rw [getD_set_ne' (by omega), getD_set_ne' (by omega)]
    · rw [getD_set_ne' (by omega)]
/-- Setting, and what lies further on. -/
theorem told_set_ne {W : List Int} {r q : Int × Bool} {n : Int} (h0 : 0 ≤ r.1) (hr : r.1 % 4 = 0) (hq : q.1 % 4 = 0) (h : r.1 + (if r.2 then 8 else 4) ≤ q.1) : toldF (setF W r n) q = toldF W q := by
  have g1 : (setF W r n).getD (q.1 / 4).toNat 0 = W.getD (q.1 / 4).toNat 0 := setF_getD W r n _ h0 (by have : ((q.1 / 4).toNat : Int) = q.1 / 4 := by { split at h <;> omega }; rw [this]; omega)
  have g2 : (setF W r n).getD (q.1 / 4 + 1).toNat 0 = W.getD (q.1 / 4 + 1).toNat 0 := setF_getD W r n _ h0 (by have : ((q.1 / 4 + 1).toNat : Int) = q.1 / 4 + 1 := by { split at h <;> omega }; rw [this]; omega)
  unfold toldF
  rw [g1, g2]
theorem set_swap {W : List Int} {r q : Int × Bool} {n m : Int} (h0 : 0 ≤ r.1) (hr : r.1 % 4 = 0) (hq : q.1 % 4 = 0) (h : r.1 + (if r.2 then 8 else 4) ≤ q.1) : setF (setF W q m) r n = setF (setF W r n) q m := by
  obtain ⟨a, p⟩ := r
  obtain ⟨c, s⟩ := q
  simp only at h0 hr hq h
  have e1 := toNat_k1 h0
  have e2 : (c / 4 + 1).toNat = (c / 4).toNat + 1 := toNat_k1 (by split at h <;> omega)
  cases p <;> cases s <;> simp only [setF, Bool.false_eq_true, if_false, if_true, e1, e2] at h ⊢
  · exact List.set_comm _ _ (by omega)
  · rw [getD_set_ne' (by omega), getD_set_ne' (by omega), List.set_comm _ _ (by omega : (c / 4).toNat + 1 ≠ (a / 4).toNat), List.set_comm _ _ (by omega : (c / 4).toNat ≠ (a / 4).toNat)]
  · rw [getD_set_ne' (by omega), getD_set_ne' (by omega), List.set_comm _ _ (by omega : (c / 4).toNat ≠ (a / 4).toNat), List.set_comm _ _ (by omega : (c / 4).toNat ≠ (a / 4).toNat + 1)]
  · rw [getD_set_ne' (by omega), getD_set_ne' (by omega), getD_set_ne' (by omega), getD_set_ne' (by omega), getD_set_ne' (by omega), getD_set_ne' (by omega), getD_set_ne' (by omega), getD_set_ne' (by omega)]
    rw [List.set_comm _ _ (by omega : (c / 4).toNat + 1 ≠ (a / 4).toNat), List.set_comm _ _ (by omega : (c / 4).toNat ≠ (a / 4).toNat), List.set_comm _ _ (by omega : (c / 4).toNat + 1 ≠ (a / 4).toNat + 1), List.set_comm _ _ (by omega : (c / 4).toNat ≠ (a / 4).toNat + 1)]
theorem turn_swap (b : Int) : ∀ (R : List (Int × Bool)) (r : Int × Bool) (n : Int) (V : List Int), 0 ≤ r.1 → r.1 % 4 = 0 → Ord (r.1 + if r.2 then 8 else 4) R → setF (turnGo b V R) r n = turnGo b (setF V r n) R
  | [], _, _, _, _, _, _ => rfl
  | q :: R, r, n, V, h0, hr, ⟨h1, h2, h3⟩ => by
    have hlt : r.1 + (if r.2 then 8 else 4) ≤ q.1 + (if q.2 then 8 else 4) := by split at h1 <;> split <;> omega
    have h3' : Ord (r.1 + if r.2 then 8 else 4) R := by
      cases R with
      | nil => trivial
      | cons x R => exact ⟨by have := h3.1; omega, h3.2.1, h3.2.2⟩
    rw [turnGo, turnGo, turn_swap b R r n _ h0 hr h3', set_swap h0 hr h2 h1, told_set_ne h0 hr h2 h1]
theorem told_turn (b : Int) {R : List (Int × Bool)} {r : Int × Bool} {V : List Int} (h0 : 0 ≤ r.1) (hr : r.1 % 4 = 0) (h : Ord (r.1 + if r.2 then 8 else 4) R) : toldF (turnGo b V R) r = toldF V r := by
  unfold toldF
  split
  · rename_i hp
    rw [if_pos hp] at h
    rw [turn_ahead b R _ V (by omega) h _ (by omega), turn_ahead b R _ V (by omega) h _ (by omega)]
  · rename_i hp
    rw [if_neg hp] at h
    rw [turn_ahead b R _ V (by omega) h _ (by omega)]
theorem set_set {W : List Int} {r : Int × Bool} {n m : Int} (h : RelIn W r) (h0 : 0 ≤ n) (h1 : n < 4294967296) (hm0 : 0 ≤ m) (hm1 : m < 4294967296) : setF (setF W r n) r m = setF W r m := by
  obtain ⟨a, p⟩ := r
  obtain ⟨g0, g1⟩ := h
  simp only at g0 g1
  cases p with
  | false => simp only [setF, Bool.false_eq_true, if_false, List.set_set]
  | true =>
    simp only [setF, if_true] at g1 ⊢
    rw [toNat_k1 g0]
    rw [getD_set_ne' (l := W.set _ _) (by omega), getD_set_eq' (by omega), getD_set_eq' (by rw [List.length_set]; omega)]
    rw [List.set_comm _ _ (by omega : (a / 4).toNat + 1 ≠ (a / 4).toNat), List.set_set, List.set_set]
    congr 2 <;> omega
theorem relin_set {W : List Int} {r q : Int × Bool} {n : Int} (h : RelIn W r) : RelIn (setF W q n) r := ⟨h.1, by rw [setF_length]; exact h.2⟩
theorem turn_turn (x y : Int) : ∀ (R : List (Int × Bool)) (fr : Int) (W : List Int), 0 ≤ fr → Wd W → Ord fr R → (∀ r ∈ R, RelIn W r) → turnGo x (turnGo y W R) R = turnGo (x + y) W R
  | [], _, _, _, _, _, _ => rfl
  | r :: R, fr, W, h0, hW, ⟨h1, h2, h3⟩, hin => by
    have hr := hin r (by simp)
    rw [turnGo, turnGo, turnGo, told_turn y (by omega) h2 h3, told_set hr (by omega) (by omega), turn_swap y R r _ _ (by omega) h2 h3]
    have ht := told_in hW r
    rw [set_set hr (by omega) (by omega) (by omega) (by omega)]
    rw [turn_turn x y R _ _ (by split <;> omega) (setF_wd hW r (by omega) (by omega)) h3 (fun q hq => relin_set (hin q (by simp [hq])))]
    congr 2
    omega
theorem turn_zero : ∀ (R : List (Int × Bool)) (W : List Int), Wd W → (∀ r ∈ R, RelIn W r) → turnGo 0 W R = W
  | [], _, _, _ => rfl
  | r :: R, W, hW, hin => by
    have ht := told_in hW r
    have e : setF W r ((toldF W r + 0) % 4294967296) = W := by
      rw [show (toldF W r + 0) % 4294967296 = toldF W r by omega]
      obtain ⟨g0, g1⟩ := hin r (by simp)
      obtain ⟨a, p⟩ := r
      simp only at g0 g1
      have same : ∀ (k : Nat) (x : Int), k < W.length → x = W.getD k 0 → W.set k x = W := fun k x hk hx => by
        subst hx
        rw [List.getD_eq_getElem?_getD, List.getElem?_eq_getElem hk, Option.getD_some, List.set_getElem_self]
      cases p with
      | false =>
        simp only [toldF, setF, Bool.false_eq_true, if_false] at g1 ⊢
        exact same _ _ (by omega) rfl
      | true =>
        simp only [toldF, setF, if_true] at g1 ⊢
        rw [toNat_k1 g0]
        have b1 := hW.getD (a / 4).toNat
        have b2 := hW.getD ((a / 4).toNat + 1)
        rw [same (a / 4).toNat _ (by omega) (by omega), same _ _ (by omega) (by omega)]
    rw [turnGo, e]
    exact turn_zero R W hW fun q hq => hin q (by simp [hq])
end Go.Proofs.Ytjbbomchmacdjaa.Pv
