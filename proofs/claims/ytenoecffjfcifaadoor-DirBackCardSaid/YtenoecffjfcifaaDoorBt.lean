-- Bits of whole numbers.
import Derived.Test.YtenoecffjfcifaaDoorPvT
namespace Go.Proofs.YtenoecffjfcifaaDoor.Pv
set_option linter.all false
open Go.RowKit Go.Proofs
theorem or_hi (k : Nat) (X y : Int) (hX : 0 ≤ X) (hk : X * 2 ^ k < 4611686018427387904) (h0 : 0 ≤ y) (hy : y < 2 ^ k) (hk2 : k ≤ 40) : Go.bits .or .i64 (X * 2 ^ k) y = X * 2 ^ k + y := by
  have hp : (0 : Int) < 2 ^ k := Int.pow_pos (by decide)
  have hx0 : 0 ≤ X * 2 ^ k := Int.mul_nonneg hX (Int.le_of_lt hp)
  have hb : (2 : Int) ^ k ≤ 2 ^ 40 := by
    have := Nat.pow_le_pow_right (n := 2) (by decide) hk2
    have h2 : ((2 ^ k : Nat) : Int) ≤ ((2 ^ 40 : Nat) : Int) := by exact_mod_cast this
    simpa using h2
  have hb' : (2 : Int) ^ 40 = 1099511627776 := rfl
  show IntKind.i64.wrap (((BitVec.ofInt 64 (X * 2 ^ k) ||| BitVec.ofInt 64 y).toNat : Nat) : Int) = _
  have h64 : ((2 : Int) ^ 64) = 18446744073709551616 := rfl
  rw [BitVec.toNat_or, ofInt_toNat (n := 64) hx0 (by omega), ofInt_toNat (n := 64) h0 (by omega)]
  have e : (X * 2 ^ k).toNat = X.toNat * 2 ^ k := by
    obtain ⟨n, rfl⟩ := Int.eq_ofNat_of_zero_le hX
    rw [Int.toNat_natCast]
    have : ((n : Int) * 2 ^ k) = ((n * 2 ^ k : Nat) : Int) := by simp
    rw [this, Int.toNat_natCast]
  have hy' : y.toNat < 2 ^ k := by
    have : ((y.toNat : Nat) : Int) < ((2 ^ k : Nat) : Int) := by rw [Int.toNat_of_nonneg h0]; simpa using hy
    exact_mod_cast this
  have := nat_or_add k y.toNat X.toNat hy'
  rw [Nat.or_comm, e, this, ← e]
  have hs : ((y.toNat + (X * 2 ^ k).toNat : Nat) : Int) = X * 2 ^ k + y := by omega
  rw [hs]
  exact wrap_i64 _ (by omega) (by omega)
theorem bv_and_mask (n k : Nat) (x : Int) (h : k ≤ n) : ((BitVec.ofInt n x &&& BitVec.ofInt n (2 ^ k - 1)).toNat : Int) = x % 2 ^ k := by
  have hp : (0 : Int) < 2 ^ k := Int.pow_pos (by decide)
  have hkn : (2 : Int) ^ k ≤ 2 ^ n := by
    have := Nat.pow_le_pow_right (n := 2) (by decide) h
    have h2 : ((2 ^ k : Nat) : Int) ≤ ((2 ^ n : Nat) : Int) := by exact_mod_cast this
    simpa using h2
  rw [BitVec.toNat_and, ofInt_toNat (n := n) (x := 2 ^ k - 1) (by omega) (by omega)]
  have e : ((2 : Int) ^ k - 1).toNat = 2 ^ k - 1 := by
    have : ((2 : Int) ^ k) = ((2 ^ k : Nat) : Int) := by simp
    rw [this]; omega
  rw [e, Nat.and_two_pow_sub_one_eq_mod, BitVec.toNat_ofInt]
  have hn0 : (0 : Int) < ((2 ^ n : Nat) : Int) := by simpa using Int.pow_pos (n := 2) (m := n) (by decide)
  have h1 := Int.emod_nonneg x (Int.ne_of_gt hn0)
  rw [Int.natCast_emod, Int.toNat_of_nonneg h1]
  have : ((2 ^ k : Nat) : Int) ∣ ((2 ^ n : Nat) : Int) := by
    have := Nat.pow_dvd_pow 2 h
    exact_mod_cast this
  rw [Int.emod_emod_of_dvd _ this]
  simp
theorem and16_i64 (x : Int) : Go.bits .and .i64 x 65535 = x % 65536 := by
  show IntKind.i64.wrap (((BitVec.ofInt 64 x &&& BitVec.ofInt 64 65535).toNat : Nat) : Int) = _
  have := bv_and_mask 64 16 x (by decide)
  rw [show ((2 : Int) ^ 16 - 1) = 65535 from rfl, show ((2 : Int) ^ 16) = 65536 from rfl] at this
  rw [this]
  exact wrap_i64 _ (by omega) (by omega)
theorem and16_u32 (x : Int) : Go.bits .and .u32 x 65535 = x % 65536 := by
  show IntKind.u32.wrap (((BitVec.ofInt 32 x &&& BitVec.ofInt 32 65535).toNat : Nat) : Int) = _
  have := bv_and_mask 32 16 x (by decide)
  rw [show ((2 : Int) ^ 16 - 1) = 65535 from rfl, show ((2 : Int) ^ 16) = 65536 from rfl] at this
  rw [this]
  exact wrap_u32 _ (by omega) (by omega)
theorem and4_u32 (x : Int) : Go.bits .and .u32 x 15 = x % 16 := by
  show IntKind.u32.wrap (((BitVec.ofInt 32 x &&& BitVec.ofInt 32 15).toNat : Nat) : Int) = _
  have := bv_and_mask 32 4 x (by decide)
  rw [show ((2 : Int) ^ 4 - 1) = 15 from rfl, show ((2 : Int) ^ 4) = 16 from rfl] at this
  rw [this]
  exact wrap_u32 _ (by omega) (by omega)
theorem and24_u64 (x : Int) : Go.bits .and .u64 x 16777215 = x % 16777216 := by
  show IntKind.u64.wrap (((BitVec.ofInt 64 x &&& BitVec.ofInt 64 16777215).toNat : Nat) : Int) = _
  have := bv_and_mask 64 24 x (by decide)
  rw [show ((2 : Int) ^ 24 - 1) = 16777215 from rfl, show ((2 : Int) ^ 24) = 16777216 from rfl] at this
  rw [this]
  exact wrap_u64 _ (by omega) (by omega)
theorem and1_u8' (x : Int) : Go.bits .and .u8 x 1 = x % 2 := by
  show IntKind.u8.wrap (((BitVec.ofInt 8 x &&& BitVec.ofInt 8 1).toNat : Nat) : Int) = _
  have := bv_and_mask 8 1 x (by decide)
  rw [show ((2 : Int) ^ 1 - 1) = 1 from rfl, show ((2 : Int) ^ 1) = 2 from rfl] at this
  rw [this]
  exact wrap_u8 _ (by omega) (by omega)
theorem and8_u32 (x : Int) : Go.bits .and .u32 x 255 = x % 256 := by
  show IntKind.u32.wrap (((BitVec.ofInt 32 x &&& BitVec.ofInt 32 255).toNat : Nat) : Int) = _
  have := bv_and_mask 32 8 x (by decide)
  rw [show ((2 : Int) ^ 8 - 1) = 255 from rfl, show ((2 : Int) ^ 8) = 256 from rfl] at this
  rw [this]
  exact wrap_u32 _ (by omega) (by omega)
theorem and16_u32' (x : Int) : Go.bits .and .u32 x 65535 = x % 65536 := by
  show IntKind.u32.wrap (((BitVec.ofInt 32 x &&& BitVec.ofInt 32 65535).toNat : Nat) : Int) = _
  have := bv_and_mask 32 16 x (by decide)
  rw [show ((2 : Int) ^ 16 - 1) = 65535 from rfl, show ((2 : Int) ^ 16) = 65536 from rfl] at this
  rw [this]
  exact wrap_u32 _ (by omega) (by omega)

/-- Numbers that share no bit, of any kind. -/
theorem or_add_u32 (k : Nat) (X y : Int) (hX : 0 ≤ X) (hk : X * 2 ^ k + y < 4294967296) (h0 : 0 ≤ y) (hy : y < 2 ^ k) : Go.bits .or .u32 (X * 2 ^ k) y = X * 2 ^ k + y := by
  have hp : (0 : Int) < 2 ^ k := Int.pow_pos (by decide)
  have hx0 : 0 ≤ X * 2 ^ k := Int.mul_nonneg hX (Int.le_of_lt hp)
  show IntKind.u32.wrap (((BitVec.ofInt 32 (X * 2 ^ k) ||| BitVec.ofInt 32 y).toNat : Nat) : Int) = _
  have h32 : ((2 : Int) ^ 32) = 4294967296 := rfl
  rw [BitVec.toNat_or, ofInt_toNat (n := 32) hx0 (by omega), ofInt_toNat (n := 32) h0 (by omega)]
  have e : (X * 2 ^ k).toNat = X.toNat * 2 ^ k := by
    obtain ⟨n, rfl⟩ := Int.eq_ofNat_of_zero_le hX
    rw [Int.toNat_natCast]
    have : ((n : Int) * 2 ^ k) = ((n * 2 ^ k : Nat) : Int) := by simp
    rw [this, Int.toNat_natCast]
  have hy' : y.toNat < 2 ^ k := by
    have : ((y.toNat : Nat) : Int) < ((2 ^ k : Nat) : Int) := by rw [Int.toNat_of_nonneg h0]; simpa using hy
    exact_mod_cast this
  have := nat_or_add k y.toNat X.toNat hy'
  rw [Nat.or_comm, e, this, ← e]
  have hs : ((y.toNat + (X * 2 ^ k).toNat : Nat) : Int) = X * 2 ^ k + y := by omega
  rw [hs]
  exact wrap_u32 _ (by omega) (by omega)
theorem or_comm_u32 (x y : Int) : Go.bits .or .u32 x y = Go.bits .or .u32 y x := by
  show IntKind.u32.wrap (((BitVec.ofInt 32 x ||| BitVec.ofInt 32 y).toNat : Nat) : Int) = IntKind.u32.wrap (((BitVec.ofInt 32 y ||| BitVec.ofInt 32 x).toNat : Nat) : Int)
  rw [BitVec.or_comm]
theorem andn16_u32 (x : Int) (h0 : 0 ≤ x) (h1 : x < 4294967296) : Go.bits .andNot .u32 x 65535 = x / 65536 * 65536 := by
  show IntKind.u32.wrap (((BitVec.ofInt 32 x &&& ~~~ BitVec.ofInt 32 65535).toNat : Nat) : Int) = _
  have hx : (BitVec.ofInt 32 x).toNat = x.toNat := ofInt_toNat (n := 32) h0 (by simpa using h1)
  obtain ⟨n, rfl⟩ := Int.eq_ofNat_of_zero_le h0
  have e : (BitVec.ofInt 32 (n : Int) &&& ~~~ BitVec.ofInt 32 65535) = BitVec.ofNat 32 (n / 65536 * 65536) := by
    have hn : n < 4294967296 := by omega
    have e1 : BitVec.ofInt 32 (n : Int) = BitVec.ofNat 32 n := by simp
    rw [e1]
    have e2 : BitVec.ofNat 32 (n / 65536 * 65536) = (BitVec.ofNat 32 n >>> 16) <<< 16 := by
      apply BitVec.eq_of_toNat_eq
      simp [BitVec.toNat_ushiftRight, BitVec.toNat_shiftLeft, Nat.shiftRight_eq_div_pow, Nat.shiftLeft_eq]
      omega
    rw [e2]
    apply BitVec.eq_of_getLsbD_eq
    intro i hi
    simp only [BitVec.getLsbD_and, BitVec.getLsbD_not, BitVec.getLsbD_shiftLeft, BitVec.getLsbD_ushiftRight]
    rcases Nat.lt_or_ge i 16 with h | h
    · have : (BitVec.ofInt 32 65535).getLsbD i = true := by
        rcases i with _ | _ | _ | _ | _ | _ | _ | _ | _ | _ | _ | _ | _ | _ | _ | _ | i <;> first | rfl | omega
      rw [this]
      simp only [h, hi, decide_true, Bool.not_true, Bool.and_false, Bool.true_and, Bool.false_and]
    · have : (BitVec.ofInt 32 65535).getLsbD i = false := by
        have hh : ∀ k : Nat, k < 16 → (BitVec.ofInt 32 65535).getLsbD (16 + k) = false := by decide
        have := hh (i - 16) (by omega)
        rwa [show 16 + (i - 16) = i by omega] at this
      rw [this, show 16 + (i - 16) = i by omega]
      simp only [Nat.not_lt.2 h, hi, decide_true, decide_false, Bool.not_false, Bool.and_true, Bool.true_and]
  rw [e]
  rw [BitVec.toNat_ofNat]
  have : n / 65536 * 65536 < 4294967296 := by omega
  rw [show (2 ^ 32 : Nat) = 4294967296 from rfl, Nat.mod_eq_of_lt this]
  rw [wrap_u32 _ (by omega) (by omega)]
  omega
end Go.Proofs.YtenoecffjfcifaaDoor.Pv
