-- Whole numbers of a kind as bit vectors: plain lemmas of this session's own.
import Derived.Test.YtmibdlapjddfoaaWWords
import Derived.Laws.BitsLemmas
namespace Go.Proofs.Ytmibdlapjddfoaa.Bv
open Go.RowKit Go.Proofs.YtmibdlapjddfoaaW.PrintWords

/-- A bit vector's number. -/
def U {n : Nat} (a : BitVec n) : Int := (a.toNat : Int)
theorem U_lo {n : Nat} (a : BitVec n) : 0 ≤ U a := Int.natCast_nonneg _
theorem U32_hi (a : BitVec 32) : U a < 4294967296 := by have := a.isLt; unfold U; omega
theorem U8_hi (a : BitVec 8) : U a < 256 := by have := a.isLt; unfold U; omega
theorem ofInt_U {n : Nat} (a : BitVec n) : BitVec.ofInt n (U a) = a := by simp [U]
theorem U_inj {n : Nat} {a b : BitVec n} (h : U a = U b) : a = b := by rw [← ofInt_U a, h, ofInt_U]
theorem U_ofInt32 (x : Int) : U (BitVec.ofInt 32 x) = x % 4294967296 := by
  simp only [U, BitVec.toNat_ofInt]
  omega
theorem U_ofInt8 (x : Int) : U (BitVec.ofInt 8 x) = x % 256 := by
  simp only [U, BitVec.toNat_ofInt]
  omega
theorem ofInt_mod32 (x : Int) : BitVec.ofInt 32 (x % 4294967296) = BitVec.ofInt 32 x := by
  apply U_inj
  rw [U_ofInt32, U_ofInt32]
  omega
theorem ofInt_mod8 (x : Int) : BitVec.ofInt 8 (x % 256) = BitVec.ofInt 8 x := by
  apply U_inj
  rw [U_ofInt8, U_ofInt8]
  omega
theorem wrapU32 (a : BitVec 32) : IntKind.u32.wrap (a.toNat : Int) = U a := by
  have := a.isLt
  rw [IntKind.wrap_u32]; unfold U; omega
theorem wrapU8 (a : BitVec 8) : IntKind.u8.wrap (a.toNat : Int) = U a := by
  have := a.isLt
  rw [IntKind.wrap_u8]; unfold U; omega
theorem xor32 (x y : Int) : Go.bits .xor .u32 x y = U (BitVec.ofInt 32 x ^^^ BitVec.ofInt 32 y) := wrapU32 _
theorem and32 (x y : Int) : Go.bits .and .u32 x y = U (BitVec.ofInt 32 x &&& BitVec.ofInt 32 y) := wrapU32 _
theorem or32 (x y : Int) : Go.bits .or .u32 x y = U (BitVec.ofInt 32 x ||| BitVec.ofInt 32 y) := wrapU32 _
theorem xor8 (x y : Int) : Go.bits .xor .u8 x y = U (BitVec.ofInt 8 x ^^^ BitVec.ofInt 8 y) := wrapU8 _
theorem and8 (x y : Int) : Go.bits .and .u8 x y = U (BitVec.ofInt 8 x &&& BitVec.ofInt 8 y) := wrapU8 _
theorem or8 (x y : Int) : Go.bits .or .u8 x y = U (BitVec.ofInt 8 x ||| BitVec.ofInt 8 y) := wrapU8 _
theorem half32 (a : BitVec 32) : (U a : Int) / (2 : Int) = U (a >>> (1 : Nat)) := by
  simp [U, BitVec.toNat_ushiftRight, Nat.shiftRight_eq_div_pow]
theorem neg32 (a : BitVec 32) : (-U a) % 4294967296 = U (-a) := by
  have := a.isLt
  simp only [U, BitVec.toNat_neg]
  omega
theorem sub32 (x : Int) (a : BitVec 32) : (x - U a) % 4294967296 = U (BitVec.ofInt 32 x - a) := by
  have h1 := U_ofInt32 x
  have := a.isLt
  have := (BitVec.ofInt 32 x).isLt
  simp only [U, BitVec.toNat_sub] at *
  omega
theorem add32 (a b : BitVec 32) : (U a + U b) % 4294967296 = U (a + b) := by
  simp only [U, BitVec.toNat_add]
  omega
theorem add8 (a b : BitVec 8) : (U a + U b) % 256 = U (a + b) := by
  simp only [U, BitVec.toNat_add]
  omega
theorem U_of_range32 {x : Int} (h0 : 0 ≤ x) (h1 : x < 4294967296) : U (BitVec.ofInt 32 x) = x := by rw [U_ofInt32]; omega
theorem U_of_range8 {x : Int} (h0 : 0 ≤ x) (h1 : x < 256) : U (BitVec.ofInt 8 x) = x := by rw [U_ofInt8]; omega
theorem wf_u8 {x : Int} (h : (Lit.int .u8 x).wf = true) : 0 ≤ x ∧ x < 256 := by
  have h1 : IntKind.u8.min = 0 := rfl
  have h2 : IntKind.u8.max = 255 := rfl
  simp [Lit.wf] at h
  omega
theorem wf_u32 {x : Int} (h : (Lit.int .u32 x).wf = true) : 0 ≤ x ∧ x < 4294967296 := by
  have h1 : IntKind.u32.min = 0 := rfl
  have h2 : IntKind.u32.max = 4294967295 := rfl
  simp [Lit.wf] at h
  omega
theorem wf_i64 {x : Int} (h : (Lit.int .i64 x).wf = true) : -9223372036854775808 ≤ x ∧ x < 9223372036854775808 := by
  have h1 : IntKind.i64.min = -9223372036854775808 := rfl
  have h2 : IntKind.i64.max = 9223372036854775807 := rfl
  simp [Lit.wf] at h
  omega
theorem w64 {x : Int} (h0 : -9223372036854775808 ≤ x) (h1 : x < 9223372036854775808) : wrap64 x = x := by unfold wrap64; omega
theorem rd_lt {l : List Int} {i : Nat} (h : i < l.length) : rd l (i : Int) = l[i] := by
  simp [rd, List.getD_eq_getElem?_getD, List.getElem?_eq_getElem h]
end Go.Proofs.Ytmibdlapjddfoaa.Bv
