-- The sum's plain law: steps of a bit, bytes, linear in what is summed.
import Derived.Test.YtmibdlapjddfoaaBv
namespace Go.Proofs.Ytmibdlapjddfoaa.CrcF
open Go.Proofs.Ytmibdlapjddfoaa.Bv
abbrev B32 := BitVec 32

/-- One bit's step. -/
def cstep (s : B32) : B32 := (s >>> 1) ^^^ (3988292384#32 &&& -(s &&& 1#32))
def steps : Nat → B32 → B32
  | 0, s => s
  | n + 1, s => steps n (cstep s)
theorem steps_add (m n : Nat) (s : B32) : steps (m + n) s = steps n (steps m s) := by
  induction m generalizing s with
  | zero => simp [steps]
  | succ m ih => rw [Nat.succ_add]; simp only [steps]; exact ih _
def odd (s : B32) : Bool := s.getLsbD 0
def pol (b : Bool) : B32 := if b then 3988292384#32 else 0#32
theorem low_bit (s : B32) : s &&& 1#32 = if odd s then 1#32 else 0#32 := by
  apply BitVec.eq_of_getLsbD_eq
  intro i hi
  by_cases h : i = 0
  · subst h
    cases g : odd s <;> simp only [odd] at g <;> rw [BitVec.getLsbD_and, g] <;> rfl
  · cases g : odd s <;> simp [BitVec.getLsbD_one, h]
theorem cstep_eq (s : B32) : cstep s = (s >>> 1) ^^^ pol (odd s) := by
  unfold cstep
  rw [low_bit]
  cases odd s <;> rfl
theorem pol_xor (a b : Bool) : pol (a ^^ b) = pol a ^^^ pol b := by cases a <;> cases b <;> rfl
theorem odd_xor (a b : B32) : odd (a ^^^ b) = (odd a ^^ odd b) := by unfold odd; rw [BitVec.getLsbD_xor]
theorem xor4 (p q r s : B32) : (p ^^^ q) ^^^ (r ^^^ s) = (p ^^^ r) ^^^ (q ^^^ s) := by ac_rfl
theorem cstep_xor (a b : B32) : cstep (a ^^^ b) = cstep a ^^^ cstep b := by
  rw [cstep_eq, cstep_eq, cstep_eq, BitVec.ushiftRight_xor_distrib, odd_xor, pol_xor, xor4]
theorem steps_xor (n : Nat) (a b : B32) : steps n (a ^^^ b) = steps n a ^^^ steps n b := by
  induction n generalizing a b with
  | zero => rfl
  | succ n ih => simp only [steps]; rw [cstep_xor, ih]
theorem cstep_zero {s : B32} (h : cstep s = 0#32) : s = 0#32 := by
  rw [cstep_eq] at h
  cases g : odd s with
  | true =>
    exfalso
    rw [g] at h
    have h31 := congrArg (fun x : B32 => x.getLsbD 31) h
    simp [pol] at h31
  | false =>
    rw [g] at h
    have h1 : s >>> 1 = 0#32 := by simpa [pol] using h
    apply BitVec.eq_of_getLsbD_eq
    intro i hi
    rw [BitVec.getLsbD_zero]
    cases i with
    | zero => exact g
    | succ i =>
      have := congrArg (fun x : B32 => x.getLsbD i) h1
      simp only [BitVec.getLsbD_ushiftRight, BitVec.getLsbD_zero] at this
      rw [Nat.add_comm] at this
      exact this
theorem steps_zero {n : Nat} {s : B32} (h : steps n s = 0#32) : s = 0#32 := by
  induction n generalizing s with
  | zero => exact h
  | succ n ih => exact cstep_zero (ih h)

/-- Bytes. -/
def fold (s : B32) : List Int → B32
  | [] => s
  | c :: l => fold (steps 8 (s ^^^ BitVec.ofInt 32 c)) l
theorem fold_append (s : B32) (l m : List Int) : fold s (l ++ m) = fold (fold s l) m := by
  induction l generalizing s with
  | nil => rfl
  | cons c l ih => simp only [List.cons_append, fold]; exact ih _
theorem fold_xor (s d : B32) (l : List Int) : fold (s ^^^ d) l = fold s l ^^^ steps (8 * l.length) d := by
  induction l generalizing s d with
  | nil => rfl
  | cons c l ih =>
    simp only [fold]
    rw [show s ^^^ d ^^^ BitVec.ofInt 32 c = (s ^^^ BitVec.ofInt 32 c) ^^^ d by ac_rfl, steps_xor, ih]
    rw [show 8 * (c :: l).length = 8 + 8 * l.length by simp only [List.length_cons]; omega, steps_add]
def sum (a : Int) (l : List Int) : Int := U (~~~ fold (~~~ BitVec.ofInt 32 a) l)
theorem sum_append (a : Int) (l m : List Int) : sum (sum a l) m = sum a (l ++ m) := by
  unfold sum
  rw [ofInt_U, BitVec.not_not, fold_append]
theorem sum_nil (a : Int) (h0 : 0 ≤ a) (h1 : a < 4294967296) : sum a [] = a := by
  unfold sum fold
  rw [BitVec.not_not, U_of_range32 h0 h1]
/-- One bit of a byte is turned. -/
theorem fold_turn (s : B32) (l : List Int) (q : Nat) (hq : q < l.length) (c : Int) (d : B32) (hc : BitVec.ofInt 32 c = BitVec.ofInt 32 l[q] ^^^ d) :
    fold s (l.set q c) = fold s l ^^^ steps (8 * (l.length - q)) d := by
  induction l generalizing s q with
  | nil => exact absurd hq (Nat.not_lt_zero _)
  | cons x l ih =>
    cases q with
    | zero =>
      simp only [List.set_cons_zero, fold]
      have hc' : BitVec.ofInt 32 c = BitVec.ofInt 32 x ^^^ d := by simpa using hc
      rw [hc', show s ^^^ (BitVec.ofInt 32 x ^^^ d) = (s ^^^ BitVec.ofInt 32 x) ^^^ d by ac_rfl, steps_xor, fold_xor]
      rw [show 8 * ((x :: l).length - 0) = 8 + 8 * l.length by simp only [List.length_cons]; omega, steps_add]
    | succ q =>
      simp only [List.set_cons_succ, fold]
      have hq' : q < l.length := by simpa using hq
      rw [ih (steps 8 (s ^^^ BitVec.ofInt 32 x)) q hq' (by simpa using hc)]
      rw [show (x :: l).length - (q + 1) = l.length - q by simp only [List.length_cons]; omega]
/-- A bit alone, moved down. -/
theorem steps_bit : ∀ i : Nat, i < 32 → steps i (1#32 <<< i) = 1#32 := by decide +kernel
end Go.Proofs.Ytmibdlapjddfoaa.CrcF
