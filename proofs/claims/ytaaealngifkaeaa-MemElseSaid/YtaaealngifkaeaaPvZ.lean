-- Twenty-fourth text: bits of small numbers.
import Derived.Test.YtaaealngifkaeaaPvX
namespace Go.Proofs.Ytaaealngifkaeaa.Pv
set_option linter.all false
open Go.RowKit
theorem holdsA {n : Nat} {tm T : List (Nat × PV)} {S S' : List Blk} (h : Has tm T) (hS : S = S' := by rfl) : Holds ⟨n, tm, S⟩ n T S' := ⟨rfl, h, S.length, by rw [List.take_length]; exact hS⟩
theorem ofInt_toNat {n : Nat} {x : Int} (h0 : 0 ≤ x) (h1 : x < 2 ^ n) : (BitVec.ofInt n x).toNat = x.toNat := by
  rw [BitVec.toNat_ofInt]
  have : x % ((2 : Nat) ^ n : Nat) = x := Int.emod_eq_of_lt h0 (by simpa using h1)
  rw [this]
theorem and_u8 (x y : Int) (h0 : 0 ≤ x) (h1 : x < 256) (g0 : 0 ≤ y) (g1 : y < 256) : Go.bits .and .u8 x y = ((x.toNat &&& y.toNat : Nat) : Int) := by
  show IntKind.u8.wrap (((BitVec.ofInt 8 x &&& BitVec.ofInt 8 y).toNat : Nat) : Int) = _
  rw [BitVec.toNat_and, ofInt_toNat (n := 8) h0 (by omega), ofInt_toNat (n := 8) g0 (by omega)]
  refine wrap_u8 _ (by omega) ?_
  have := Nat.and_le_left (n := x.toNat) (m := y.toNat)
  omega
theorem or_u8 (x y : Int) (h0 : 0 ≤ x) (h1 : x < 256) (g0 : 0 ≤ y) (g1 : y < 256) : Go.bits .or .u8 x y = ((x.toNat ||| y.toNat : Nat) : Int) := by
  show IntKind.u8.wrap (((BitVec.ofInt 8 x ||| BitVec.ofInt 8 y).toNat : Nat) : Int) = _
  rw [BitVec.toNat_or, ofInt_toNat (n := 8) h0 (by omega), ofInt_toNat (n := 8) g0 (by omega)]
  refine wrap_u8 _ (by omega) ?_
  have := Nat.or_lt_two_pow (n := 8) (x := x.toNat) (y := y.toNat) (by omega) (by omega)
  omega
theorem or_i64 (x y : Int) (h0 : 0 ≤ x) (h1 : x < 4294967296) (g0 : 0 ≤ y) (g1 : y < 4294967296) : Go.bits .or .i64 x y = ((x.toNat ||| y.toNat : Nat) : Int) := by
  show IntKind.i64.wrap (((BitVec.ofInt 64 x ||| BitVec.ofInt 64 y).toNat : Nat) : Int) = _
  rw [BitVec.toNat_or, ofInt_toNat (n := 64) h0 (by omega), ofInt_toNat (n := 64) g0 (by omega)]
  have := Nat.or_lt_two_pow (n := 32) (x := x.toNat) (y := y.toNat) (by omega) (by omega)
  exact wrap_i64 _ (by omega) (by omega)
theorem and1_u8 (x : Int) (h0 : 0 ≤ x) (h1 : x < 256) : Go.bits .and .u8 x 1 = x % 2 := by
  rw [and_u8 x 1 h0 h1 (by decide) (by decide)]
  have := Nat.and_two_pow_sub_one_eq_mod x.toNat 1
  simp at this ⊢
  omega
theorem and15_u8 (x : Int) (h0 : 0 ≤ x) (h1 : x < 256) : Go.bits .and .u8 x 15 = x % 16 := by
  rw [and_u8 x 15 h0 h1 (by decide) (by decide)]
  have := Nat.and_two_pow_sub_one_eq_mod x.toNat 4
  simp at this
  have e : (15 : Int).toNat = 15 := rfl
  rw [e, this]
  omega
/-- Numbers that share no bit. -/
theorem nat_or_add (n a b : Nat) (h : a < 2 ^ n) : a ||| (b * 2 ^ n) = a + b * 2 ^ n := by
  have := Nat.two_pow_add_eq_or_of_lt (b := a) (i := n) h b
  rw [Nat.mul_comm, Nat.or_comm, ← this, Nat.add_comm]
theorem or_add_256 (x y : Int) (h0 : 0 ≤ x) (h1 : x < 256) (g0 : 0 ≤ y) (g1 : y < 65536) : Go.bits .or .i64 x (y * 256) = x + y * 256 := by
  rw [or_i64 x (y * 256) h0 (by omega) (by omega) (by omega)]
  have e : (y * 256).toNat = y.toNat * 2 ^ 8 := by omega
  rw [e, nat_or_add 8 x.toNat y.toNat (by omega)]
  omega
theorem or_add_16 (x y : Int) (h0 : 0 ≤ x) (h1 : x < 16) (g0 : 0 ≤ y) (g1 : y < 65536) : Go.bits .or .i64 x (y * 16) = x + y * 16 := by
  rw [or_i64 x (y * 16) h0 (by omega) (by omega) (by omega)]
  have e : (y * 16).toNat = y.toNat * 2 ^ 4 := by omega
  rw [e, nat_or_add 4 x.toNat y.toNat (by omega)]
  omega
end Go.Proofs.Ytaaealngifkaeaa.Pv
