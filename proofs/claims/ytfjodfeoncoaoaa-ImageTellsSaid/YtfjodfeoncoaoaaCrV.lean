-- The sum as bit vectors: a plain law.
import Derived.Test.YtfjodfeoncoaoaaPvT
import Derived.Laws.BitsLemmas
namespace Go.Proofs.Ytfjodfeoncoaoaa.Cr
set_option linter.all false
open Go.RowKit
/-- A bit vector's number. -/
def U {n : Nat} (a : BitVec n) : Int := (a.toNat : Int)
theorem U_lo {n : Nat} (a : BitVec n) : 0 ≤ U a := Int.natCast_nonneg _
theorem U32_hi (a : BitVec 32) : U a < 4294967296 := by have := a.isLt; unfold U; omega
theorem U8_hi (a : BitVec 8) : U a < 256 := by have := a.isLt; unfold U; omega
theorem ofInt_U {n : Nat} (a : BitVec n) : BitVec.ofInt n (U a) = a := by simp [U]
theorem U_inj {n : Nat} {a b : BitVec n} (h : U a = U b) : a = b := by rw [← ofInt_U a, h, ofInt_U]
theorem U_ofInt32 (x : Int) : U (BitVec.ofInt 32 x) = x % 4294967296 := by
  simp only [U, BitVec.toNat_ofInt]
  omega
theorem U_ofInt8 (x : Int) : U (BitVec.ofInt 8 x) = x % 256 := by
  simp only [U, BitVec.toNat_ofInt]
  omega
theorem ofInt_mod32 (x : Int) : BitVec.ofInt 32 (x % 4294967296) = BitVec.ofInt 32 x := by
  apply U_inj
  rw [U_ofInt32, U_ofInt32]
  omega
theorem ofInt_mod8 (x : Int) : BitVec.ofInt 8 (x % 256) = BitVec.ofInt 8 x := by
  apply U_inj
  rw [U_ofInt8, U_ofInt8]
  omega
theorem wrapU32 (a : BitVec 32) : IntKind.u32.wrap (a.toNat : Int) = U a := by
  have := a.isLt
  rw [IntKind.wrap_u32]; unfold U; omega
theorem wrapU8 (a : BitVec 8) : IntKind.u8.wrap (a.toNat : Int) = U a := by
  have := a.isLt
  rw [IntKind.wrap_u8]; unfold U; omega
theorem xor32 (x y : Int) : Go.bits .xor .u32 x y = U (BitVec.ofInt 32 x ^^^ BitVec.ofInt 32 y) := wrapU32 _
theorem and32 (x y : Int) : Go.bits .and .u32 x y = U (BitVec.ofInt 32 x &&& BitVec.ofInt 32 y) := wrapU32 _
theorem or32 (x y : Int) : Go.bits .or .u32 x y = U (BitVec.ofInt 32 x ||| BitVec.ofInt 32 y) := wrapU32 _
theorem xor8 (x y : Int) : Go.bits .xor .u8 x y = U (BitVec.ofInt 8 x ^^^ BitVec.ofInt 8 y) := wrapU8 _
theorem and8 (x y : Int) : Go.bits .and .u8 x y = U (BitVec.ofInt 8 x &&& BitVec.ofInt 8 y) := wrapU8 _
theorem or8 (x y : Int) : Go.bits .or .u8 x y = U (BitVec.ofInt 8 x ||| BitVec.ofInt 8 y) := wrapU8 _
theorem half32 (a : BitVec 32) : (U a : Int) / (2 : Int) = U (a >>> (1 : Nat)) := by
  simp [U, BitVec.toNat_ushiftRight, Nat.shiftRight_eq_div_pow]
theorem neg32 (a : BitVec 32) : (-U a) % 4294967296 = U (-a) := by
  have := a.isLt
  simp only [U, BitVec.toNat_neg]
  omega
theorem sub32 (x : Int) (a : BitVec 32) : (x - U a) % 4294967296 = U (BitVec.ofInt 32 x - a) := by
  have h1 := U_ofInt32 x
  have := a.isLt
  have := (BitVec.ofInt 32 x).isLt
  simp only [U, BitVec.toNat_sub] at *
  omega
theorem add32 (a b : BitVec 32) : (U a + U b) % 4294967296 = U (a + b) := by
  simp only [U, BitVec.toNat_add]
  omega
theorem add8 (a b : BitVec 8) : (U a + U b) % 256 = U (a + b) := by
  simp only [U, BitVec.toNat_add]
  omega
theorem U_of_range32 {x : Int} (h0 : 0 ≤ x) (h1 : x < 4294967296) : U (BitVec.ofInt 32 x) = x := by rw [U_ofInt32]; omega
theorem U_of_range8 {x : Int} (h0 : 0 ≤ x) (h1 : x < 256) : U (BitVec.ofInt 8 x) = x := by rw [U_ofInt8]; omega
theorem and31 (y : Int) : 0 ≤ Go.bits .and .u32 y 31 ∧ Go.bits .and .u32 y 31 ≤ 31 := by
  rw [and32]
  refine ⟨U_lo _, ?_⟩
  unfold U
  rw [BitVec.toNat_and]
  have := Nat.and_le_right (n := (BitVec.ofInt 32 y).toNat) (m := (BitVec.ofInt 32 31).toNat)
  have h : (BitVec.ofInt 32 31).toNat = 31 := by decide
  omega
abbrev B32 := BitVec 32

/-- One bit's step. -/
def cstep (s : B32) : B32 := (s >>> 1) ^^^ (3988292384#32 &&& -(s &&& 1#32))
def steps : Nat → B32 → B32
  | 0, s => s
  | n + 1, s => steps n (cstep s)
theorem steps_add (m n : Nat) (s : B32) : steps (m + n) s = steps n (steps m s) := by
  induction m generalizing s with
  | zero => simp [steps]
  | succ m ih => rw [Nat.succ_add]; simp only [steps]; exact ih _
def odd (s : B32) : Bool := s.getLsbD 0
def pol (b : Bool) : B32 := if b then 3988292384#32 else 0#32
theorem low_bit (s : B32) : s &&& 1#32 = if odd s then 1#32 else 0#32 := by
  apply BitVec.eq_of_getLsbD_eq
  intro i hi
  by_cases h : i = 0
  · subst h
    cases g : odd s <;> simp only [odd] at g <;> rw [BitVec.getLsbD_and, g] <;> rfl
  · cases g : odd s <;> simp [BitVec.getLsbD_one, h]
theorem cstep_eq (s : B32) : cstep s = (s >>> 1) ^^^ pol (odd s) := by
  unfold cstep
  rw [low_bit]
  cases odd s <;> rfl
theorem pol_xor (a b : Bool) : pol (a ^^ b) = pol a ^^^ pol b := by cases a <;> cases b <;> rfl
theorem odd_xor (a b : B32) : odd (a ^^^ b) = (odd a ^^ odd b) := by unfold odd; rw [BitVec.getLsbD_xor]
theorem xor4 (p q r s : B32) : (p ^^^ q) ^^^ (r ^^^ s) = (p ^^^ r) ^^^ (q ^^^ s) := by ac_rfl
theorem cstep_xor (a b : B32) : cstep (a ^^^ b) = cstep a ^^^ cstep b := by
  rw [cstep_eq, cstep_eq, cstep_eq, BitVec.ushiftRight_xor_distrib, odd_xor, pol_xor, xor4]
theorem steps_xor (n : Nat) (a b : B32) : steps n (a ^^^ b) = steps n a ^^^ steps n b := by
  induction n generalizing a b with
  | zero => rfl
  | succ n ih => simp only [steps]; rw [cstep_xor, ih]
theorem cstep_zero {s : B32} (h : cstep s = 0#32) : s = 0#32 := by
  rw [cstep_eq] at h
  cases g : odd s with
  | true =>
    exfalso
    rw [g] at h
    have h31 := congrArg (fun x : B32 => x.getLsbD 31) h
    simp [pol] at h31
  | false =>
    rw [g] at h
    have h1 : s >>> 1 = 0#32 := by simpa [pol] using h
    apply BitVec.eq_of_getLsbD_eq
    intro i hi
    rw [BitVec.getLsbD_zero]
    cases i with
    | zero => exact g
    | succ i =>
      have := congrArg (fun x : B32 => x.getLsbD i) h1
      simp only [BitVec.getLsbD_ushiftRight, BitVec.getLsbD_zero] at this
      rw [Nat.add_comm] at this
      exact this
theorem steps_zero {n : Nat} {s : B32} (h : steps n s = 0#32) : s = 0#32 := by
  induction n generalizing s with
  | zero => exact h
  | succ n ih => exact cstep_zero (ih h)

/-- Bytes. -/
def fold (s : B32) : List Int → B32
  | [] => s
  | c :: l => fold (steps 8 (s ^^^ BitVec.ofInt 32 c)) l
theorem fold_append (s : B32) (l m : List Int) : fold s (l ++ m) = fold (fold s l) m := by
  induction l generalizing s with
  | nil => rfl
  | cons c l ih => simp only [List.cons_append, fold]; exact ih _
theorem fold_xor (s d : B32) (l : List Int) : fold (s ^^^ d) l = fold s l ^^^ steps (8 * l.length) d := by
  induction l generalizing s d with
  | nil => rfl
  | cons c l ih =>
    simp only [fold]
    rw [show s ^^^ d ^^^ BitVec.ofInt 32 c = (s ^^^ BitVec.ofInt 32 c) ^^^ d by ac_rfl, steps_xor, ih]
    rw [show 8 * (c :: l).length = 8 + 8 * l.length by simp only [List.length_cons]; omega, steps_add]
def sum (a : Int) (l : List Int) : Int := U (~~~ fold (~~~ BitVec.ofInt 32 a) l)
theorem sum_append (a : Int) (l m : List Int) : sum (sum a l) m = sum a (l ++ m) := by
  unfold sum
  rw [ofInt_U, BitVec.not_not, fold_append]
theorem sum_nil (a : Int) (h0 : 0 ≤ a) (h1 : a < 4294967296) : sum a [] = a := by
  unfold sum fold
  rw [BitVec.not_not, U_of_range32 h0 h1]
/-- One bit of a byte is turned. -/
theorem fold_turn (s : B32) (l : List Int) (q : Nat) (hq : q < l.length) (c : Int) (d : B32) (hc : BitVec.ofInt 32 c = BitVec.ofInt 32 l[q] ^^^ d) :
    fold s (l.set q c) = fold s l ^^^ steps (8 * (l.length - q)) d := by
  induction l generalizing s q with
  | nil => exact absurd hq (Nat.not_lt_zero _)
  | cons x l ih =>
    cases q with
    | zero =>
      simp only [List.set_cons_zero, fold]
      have hc' : BitVec.ofInt 32 c = BitVec.ofInt 32 x ^^^ d := by simpa using hc
      rw [hc', show s ^^^ (BitVec.ofInt 32 x ^^^ d) = (s ^^^ BitVec.ofInt 32 x) ^^^ d by ac_rfl, steps_xor, fold_xor]
      rw [show 8 * ((x :: l).length - 0) = 8 + 8 * l.length by simp only [List.length_cons]; omega, steps_add]
    | succ q =>
      simp only [List.set_cons_succ, fold]
      have hq' : q < l.length := by simpa using hq
      rw [ih (steps 8 (s ^^^ BitVec.ofInt 32 x)) q hq' (by simpa using hc)]
      rw [show (x :: l).length - (q + 1) = l.length - q by simp only [List.length_cons]; omega]
/-- A bit alone, moved down. -/
theorem steps_bit : ∀ i : Nat, i < 32 → steps i (1#32 <<< i) = 1#32 := by decide +kernel
/-- The lowest i bits. -/
def lowb (T : B32) : Nat → B32
  | 0 => 0#32
  | i + 1 => lowb T i ^^^ (if T.getLsbD i then 1#32 <<< i else 0#32)
theorem lowb_bit (T : B32) (j : Nat) (hj : j < 32) : ∀ i : Nat, i ≤ 32 → (lowb T i).getLsbD j = (decide (j < i) && T.getLsbD j)
  | 0, _ => by simp [lowb]
  | i + 1, hi => by
    have ih := lowb_bit T j hj i (by omega)
    unfold lowb
    rw [BitVec.getLsbD_xor, ih]
    have hb : (1#32 <<< i).getLsbD j = decide (j = i) := by
      rw [BitVec.getLsbD_shiftLeft]
      by_cases h1 : j < i
      · have : ¬ j = i := by omega
        simp [h1, this]
      · by_cases h2 : j = i
        · subst h2
          simp [hj]
        · have h3 : ¬ j - i = 0 := by omega
          simp [BitVec.getLsbD_one, h1, h2, h3]
    cases hT : T.getLsbD i with
    | true =>
      simp only [if_true, hb]
      by_cases h2 : j = i
      · subst h2
        simp [hT]
      · by_cases h1 : j < i
        · have : j < i + 1 := by omega
          simp [h1, h2, this]
        · have : ¬ j < i + 1 := by omega
          simp [h1, h2, this]
    | false =>
      simp only [Bool.false_eq_true, if_false, BitVec.getLsbD_zero, Bool.xor_false]
      by_cases h2 : j = i
      · subst h2
        simp [hT]
      · by_cases h1 : j < i
        · have : j < i + 1 := by omega
          simp [h1, this]
        · have : ¬ j < i + 1 := by omega
          simp [h1, this]
theorem lowb_all (T : B32) : lowb T 32 = T := by
  apply BitVec.eq_of_getLsbD_eq
  intro j hj
  rw [lowb_bit T j hj 32 (by omega)]
  simp [hj]
theorem byte_turn (a : Int) (h0 : 0 ≤ a) (h1 : a < 256) (r : Nat) (hr : r < 8) :
    BitVec.ofInt 32 (Go.bits .xor .u8 a (([1, 2, 4, 8, 16, 32, 64, 128] : List Int).getD r 0)) = BitVec.ofInt 32 a ^^^ (1#32 <<< r) := by
  rw [xor8]
  have ha : BitVec.ofInt 32 a = (BitVec.ofInt 8 a).setWidth 32 := by
    apply U_inj
    rw [U_ofInt32]
    have := U_ofInt8 a
    simp only [U, BitVec.toNat_setWidth] at *
    have := (BitVec.ofInt 8 a).isLt
    omega
  have hb : ∀ v : BitVec 8, BitVec.ofInt 32 (U v) = v.setWidth 32 := by
    intro v
    apply U_inj
    rw [U_ofInt32]
    simp only [U, BitVec.toNat_setWidth]
    have := v.isLt
    omega
  rw [hb, BitVec.setWidth_xor, ← ha]
  congr 1
  have : ∀ q : Nat, q < 8 → (BitVec.ofInt 8 (([1, 2, 4, 8, 16, 32, 64, 128] : List Int).getD q 0)).setWidth 32 = 1#32 <<< q := by decide +kernel
  exact this r hr
end Go.Proofs.Ytfjodfeoncoaoaa.Cr
