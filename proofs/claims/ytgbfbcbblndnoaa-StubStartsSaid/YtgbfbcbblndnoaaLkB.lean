-- link: pairs, what a relocation tells, whether code may be.
import Derived.Test.YtgbfbcbblndnoaaLkA
namespace Go.Proofs.Ytgbfbcbblndnoaa.Pv
set_option linter.all false
open Go.RowKit Go.Proofs
set_option maxRecDepth 100000
set_option maxHeartbeats 4000000
/-- Words. -/
def Wd (l : List Int) : Prop := ∀ x ∈ l, 0 ≤ x ∧ x < 4294967296
theorem Wd.getD {l : List Int} (h : Wd l) (i : Nat) : 0 ≤ l.getD i 0 ∧ l.getD i 0 < 4294967296 := by
  rw [List.getD_eq_getElem?_getD]
  rcases Nat.lt_or_ge i l.length with hi | hi
  · rw [List.getElem?_eq_getElem hi]; exact h _ (List.getElem_mem hi)
  · rw [List.getElem?_eq_none hi]; decide
theorem Wd.drop {l : List Int} (h : Wd l) (n : Nat) : Wd (l.drop n) := fun x hx => h x (List.mem_of_mem_drop hx)
theorem Wd.take {l : List Int} (h : Wd l) (n : Nat) : Wd (l.take n) := fun x hx => h x (List.mem_of_mem_take hx)
theorem Wd.append {a b : List Int} (h : Wd a) (k : Wd b) : Wd (a ++ b) := fun x hx => by
  rcases List.mem_append.1 hx with hx | hx
  · exact h x hx
  · exact k x hx
theorem Wd.set {l : List Int} (h : Wd l) (i : Nat) {x : Int} (h0 : 0 ≤ x) (h1 : x < 4294967296) : Wd (l.set i x) := fun y hy => by
  rcases List.mem_or_eq_of_mem_set hy with hy | rfl
  · exact h y hy
  · exact ⟨h0, h1⟩
/-- Do two words make a number? -/
def two (x y : Int) : Bool := decide (wR x) && decide (wR y) && decide (x / 16777216 = 1) && decide (y / 16777216 = 2) && decide (x / 1048576 % 16 = y / 1048576 % 16)
def pairF (l : List Int) (i : Nat) : Bool := decide (i + 1 < l.length) && two (l.getD i 0) (l.getD (i + 1) 0)
theorem two_eq (x y : Int) : two x y = (decide ((if wR x then (0 : Int) else 2) = 0) && decide ((if wR y then (0 : Int) else 2) = 0) && decide ((if wR x then x / 16777216 else 0) = 1) && decide ((if wR y then y / 16777216 else 0) = 2) && decide ((if wR x then x / 1048576 % 16 else 0) = (if wR y then y / 1048576 % 16 else 0))) := by
  unfold two
  by_cases h1 : wR x <;> by_cases h2 : wR y <;> simp [h1, h2]
/-- What a relocation tells. -/
def toldF (W : List Int) (r : Int × Bool) : Int := if r.2 then W.getD (r.1 / 4).toNat 0 % 65536 + 65536 * (W.getD (r.1 / 4 + 1).toNat 0 % 65536) else W.getD (r.1 / 4).toNat 0
/-- It lies there. -/
def RelIn (W : List Int) (r : Int × Bool) : Prop := 0 ≤ r.1 ∧ r.1 / 4 + (if r.2 then 1 else 0) < W.length
theorem told_in {W : List Int} (hW : Wd W) (r : Int × Bool) : 0 ≤ toldF W r ∧ toldF W r < 4294967296 := by
  unfold toldF
  have h1 := hW.getD (r.1 / 4).toNat
  have h2 := hW.getD (r.1 / 4 + 1).toNat
  split <;> omega
end Go.Proofs.Ytgbfbcbblndnoaa.Pv
