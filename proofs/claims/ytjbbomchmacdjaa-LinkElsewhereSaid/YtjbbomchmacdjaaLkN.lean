-- Loading elsewhere, in plain terms.
import Derived.Test.YtjbbomchmacdjaaLkL
namespace Go.Proofs.Ytjbbomchmacdjaa.Pv
set_option linter.all false
open Go.RowKit Go.Proofs
set_option maxRecDepth 100000
theorem ord_le : ∀ (S : List (Int × Bool)) (f : Int), Ord f S → ∀ q ∈ S, f ≤ q.1 ∧ q.1 % 4 = 0
  | [], _, _, q, hq => by cases hq
  | s :: S, f, ⟨k1, k2, k3⟩, q, hq => by
    rcases List.mem_cons.1 hq with rfl | hq
    · exact ⟨k1, k2⟩
    · have := ord_le S _ k3 q hq
      refine ⟨?_, this.2⟩
      have := this.1
      split at this <;> omega
/-- What is told of words, turned. -/
theorem told_turned (b : Int) : ∀ (R : List (Int × Bool)) (fr : Int) (W : List Int), 0 ≤ fr → Wd W → Ord fr R → (∀ r ∈ R, RelIn W r) → ∀ r ∈ R, toldF (turnGo b W R) r = (toldF W r + b) % 4294967296
  | [], _, _, _, _, _, _, r, hr => by cases hr
  | r :: R, fr, W, h0, hW, ⟨h1, h2, h3⟩, hin, q, hq => by
    have hr := hin r (by simp)
    rw [turnGo]
    rcases List.mem_cons.1 hq with rfl | hq
    · rw [told_turn b (by omega) h2 h3, told_set hr (by omega) (by omega)]
    · have hqo := ord_le R _ h3 q hq
      rw [told_turned b R _ _ (by split <;> omega) (setF_wd hW r (by omega) (by omega)) h3 (fun x hx => relin_set (hin x (by simp [hx]))) q hq, told_set_ne (by omega) h2 hqo.2 hqo.1]
/-- A byte of words. -/
theorem bytes_getD : ∀ (W : List Int) (k j : Nat), j < 4 → k < W.length → (bytesF W).getD (4 * k + j) 0 = (wbytes (W.getD k 0)).getD j 0
  | [], k, j, _, h => by simp at h
  | w :: W, 0, j, hj, _ => by
    rw [bytesF]
    simp only [List.getD_eq_getElem?_getD]
    rw [List.getElem?_append_left (by simp [wbytes]; omega)]
    congr 3
    omega
  | w :: W, k + 1, j, hj, h => by
    rw [bytesF]
    have := bytes_getD W k j hj (by simpa using h)
    simp only [List.getD_eq_getElem?_getD] at this ⊢
    rw [List.getElem?_append_right (by simp [wbytes]; omega), show 4 * (k + 1) + j - (wbytes w).length = 4 * k + j by simp [wbytes]; omega, this, List.getElem?_cons_succ]
theorem wb0 (w : Int) : (wbytes w).getD 0 0 = w % 256 := rfl
theorem wb1 (w : Int) : (wbytes w).getD 1 0 = w / 256 % 256 := rfl
theorem wb2 (w : Int) : (wbytes w).getD 2 0 = w / 65536 % 256 := rfl
theorem wb3 (w : Int) : (wbytes w).getD 3 0 = w / 16777216 := rfl
/-- A relocation's number, read out of bytes. -/
theorem val_told {W : List Int} (hW : Wd W) {r : Int × Bool} (hr : RelIn W r) (h4 : r.1 % 4 = 0) : (bytesF W).getD r.1.toNat 0 + 256 * (bytesF W).getD (r.1 + 1).toNat 0 + 65536 * ((bytesF W).getD (r.1 + (if r.2 then 4 else 2)).toNat 0 + 256 * (bytesF W).getD (r.1 + (if r.2 then 4 else 2) + 1).toNat 0) = toldF W r := by
  obtain ⟨a, p⟩ := r
  obtain ⟨g0, g1⟩ := hr
  simp only at g0 g1 h4
  have hb := hW.getD (a / 4).toNat
  have hc := hW.getD ((a / 4).toNat + 1)
  have e0 := bytes_getD W (a / 4).toNat 0 (by decide) (by omega)
  have e1 := bytes_getD W (a / 4).toNat 1 (by decide) (by omega)
  rw [wb0, show 4 * (a / 4).toNat + 0 = a.toNat by omega] at e0
  rw [wb1, show 4 * (a / 4).toNat + 1 = (a + 1).toNat by omega] at e1
  cases p with
  | false =>
    have e2 := bytes_getD W (a / 4).toNat 2 (by decide) (by omega)
    have e3 := bytes_getD W (a / 4).toNat 3 (by decide) (by omega)
    rw [wb2, show 4 * (a / 4).toNat + 2 = (a + 2).toNat by omega] at e2
    rw [wb3, show 4 * (a / 4).toNat + 3 = (a + 2 + 1).toNat by omega] at e3
    simp only [toldF, Bool.false_eq_true, if_false]
    rw [e0, e1, e2, e3]
    omega
  | true =>
    simp only [if_true] at g1
    have e2 := bytes_getD W ((a / 4).toNat + 1) 0 (by decide) (by omega)
    have e3 := bytes_getD W ((a / 4).toNat + 1) 1 (by decide) (by omega)
    rw [wb0, show 4 * ((a / 4).toNat + 1) + 0 = (a + 4).toNat by omega] at e2
    rw [wb1, show 4 * ((a / 4).toNat + 1) + 1 = (a + 4 + 1).toNat by omega] at e3
    simp only [toldF, if_true]
    rw [e0, e1, e2, e3, toNat_k1 g0]
    omega
theorem bytes_oct {W : List Int} (hW : Wd W) : ∀ x ∈ bytesF W, 0 ≤ x ∧ x < 256 := by
  induction W with
  | nil => intro x hx; cases hx
  | cons w W ih =>
    intro x hx
    rw [bytesF] at hx
    have hw := hW w (by simp)
    rcases List.mem_append.1 hx with hx | hx
    · simp only [wbytes, List.mem_cons, List.not_mem_nil, or_false] at hx
      rcases hx with rfl | rfl | rfl | rfl <;> omega
    · exact ih (fun y hy => hW y (by simp [hy])) x hx
/-- Bytes that a relocation has not. -/
def offR (r : Int × Bool) : Int := if r.2 then 4 else 2
theorem byte_set {W : List Int} {r : Int × Bool} (hr : RelIn W r) (h4 : r.1 % 4 = 0) {n : Int} (h0 : 0 ≤ n) (h1 : n < 4294967296) {j : Nat} (hj : j < 4 * W.length) (j1 : (j : Int) ≠ r.1) (j2 : (j : Int) ≠ r.1 + 1) (j3 : (j : Int) ≠ r.1 + offR r) (j4 : (j : Int) ≠ r.1 + offR r + 1) : (bytesF (setF W r n)).getD j 0 = (bytesF W).getD j 0 := by
  have e := bytes_getD W (j / 4) (j % 4) (by omega) (by omega)
  have e' := bytes_getD (setF W r n) (j / 4) (j % 4) (by omega) (by rw [setF_length]; omega)
  rw [show 4 * (j / 4) + j % 4 = j by omega] at e e'
  rw [e, e']
  obtain ⟨a, p⟩ := r
  obtain ⟨g0, g1⟩ := hr
  simp only [offR] at g0 g1 h4 j1 j2 j3 j4
  cases p with
  | false =>
    simp only [Bool.false_eq_true, if_false] at j3 j4
    simp only [setF, Bool.false_eq_true, if_false]
    rw [getD_set_ne' (by omega)]
  | true =>
    simp only [if_true] at g1 j3 j4
    simp only [setF, if_true]
    rw [toNat_k1 g0]
    by_cases c0 : (a / 4).toNat = j / 4
    · rw [getD_set_ne' (by omega), ← c0, getD_set_eq' (by omega)]
      rcases (by omega : j % 4 = 2 ∨ j % 4 = 3) with c | c <;> rw [c]
      · rw [wb2, wb2]; omega
      · rw [wb3, wb3]; omega
    · by_cases c1 : (a / 4).toNat + 1 = j / 4
      · rw [← c1, getD_set_eq' (by rw [List.length_set]; omega)]
        rcases (by omega : j % 4 = 2 ∨ j % 4 = 3) with c | c <;> rw [c]
        · rw [wb2, wb2]; omega
        · rw [wb3, wb3]; omega
      · rw [getD_set_ne' (by omega), getD_set_ne' (by omega)]
def touch (T : List Bool) (r : Int × Bool) : List Bool := (((T.set r.1.toNat true).set (r.1 + 1).toNat true).set (r.1 + offR r).toNat true).set (r.1 + offR r + 1).toNat true
theorem touch_length (T : List Bool) (r : Int × Bool) : (touch T r).length = T.length := by simp [touch]
def touchGo : List Bool → List (Int × Bool) → List Bool
  | T, [] => T
  | T, r :: R => touchGo (touch T r) R
theorem touchGo_length : ∀ (R : List (Int × Bool)) (T : List Bool), (touchGo T R).length = T.length
  | [], _ => rfl
  | r :: R, T => by rw [touchGo, touchGo_length R, touch_length]
theorem touchGo_take (T : List Bool) (R : List (Int × Bool)) (i : Nat) (r : Int × Bool) (h : R[i]? = some r) : touchGo T (R.take (i + 1)) = touch (touchGo T (R.take i)) r := by
  have key : ∀ (l : List (Int × Bool)) (T : List Bool), touchGo T (l ++ [r]) = touch (touchGo T l) r := by
    intro l
    induction l with
    | nil => intro T; rfl
    | cons q l ih => intro T; exact ih _
  obtain ⟨h1, h2⟩ := List.getElem?_eq_some_iff.1 h
  rw [List.take_succ_eq_append_getElem h1, h2]
  exact key _ T
theorem set_false {T : List Bool} {i j : Nat} (hj : j < T.length) (h : (T.set i true).getD j false = false) : i ≠ j ∧ T.getD j false = false := by
  simp only [List.getD_eq_getElem?_getD] at h ⊢
  by_cases e : i = j
  · subst e
    rw [List.getElem?_set_self hj] at h
    cases h
  · rw [List.getElem?_set_ne e] at h
    exact ⟨e, h⟩
theorem touch_false {T : List Bool} {r : Int × Bool} {j : Nat} (h0 : 0 ≤ r.1) (hj : j < T.length) (h : (touch T r).getD j false = false) : T.getD j false = false ∧ (j : Int) ≠ r.1 ∧ (j : Int) ≠ r.1 + 1 ∧ (j : Int) ≠ r.1 + offR r ∧ (j : Int) ≠ r.1 + offR r + 1 := by
  have ho : 0 ≤ offR r := by unfold offR; split <;> decide
  unfold touch at h
  obtain ⟨a1, h⟩ := set_false (by simpa using hj) h
  obtain ⟨a2, h⟩ := set_false (by simpa using hj) h
  obtain ⟨a3, h⟩ := set_false (by simpa using hj) h
  obtain ⟨a4, h⟩ := set_false (by simpa using hj) h
  exact ⟨h, by omega, by omega, by omega, by omega⟩
theorem touchGo_false : ∀ (R : List (Int × Bool)) (T : List Bool) (j : Nat), (∀ r ∈ R, 0 ≤ r.1) → j < T.length → (touchGo T R).getD j false = false → T.getD j false = false
  | [], _, _, _, _, h => h
  | r :: R, T, j, h0, hj, h => (touch_false (h0 r (by simp)) hj (touchGo_false R _ j (fun q hq => h0 q (by simp [hq])) (by rw [touch_length]; exact hj) h)).1
/-- A byte that no relocation has is as it was. -/
theorem untouched (b : Int) : ∀ (R : List (Int × Bool)) (fr : Int) (W : List Int) (T : List Bool) (j : Nat), 0 ≤ fr → Wd W → Ord fr R → (∀ r ∈ R, RelIn W r) → T.length = 4 * W.length → j < 4 * W.length → (touchGo T R).getD j false = false → (bytesF (turnGo b W R)).getD j 0 = (bytesF W).getD j 0
  | [], _, _, _, _, _, _, _, _, _, _, _ => rfl
  | r :: R, fr, W, T, j, h0, hW, ⟨h1, h2, h3⟩, hin, hT, hj, h => by
    have hr := hin r (by simp)
    rw [touchGo] at h
    have hf := touchGo_false R _ j (fun q hq => (hin q (by simp [hq])).1) (by rw [touch_length, hT]; exact hj) h
    obtain ⟨_, j1, j2, j3, j4⟩ := touch_false hr.1 (by omega) hf
    rw [turnGo, untouched b R _ _ (touch T r) j (by split <;> omega) (setF_wd hW r (by omega) (by omega)) h3 (fun q hq => relin_set (hin q (by simp [hq]))) (by rw [touch_length, setF_length]; exact hT) (by rw [setF_length]; exact hj) h]
    exact byte_set hr h2 (by omega) (by omega) hj j1 j2 j3 j4
end Go.Proofs.Ytjbbomchmacdjaa.Pv
