-- Arithmetic's plain law.
import Derived.Test.YtaaealngifkaeaaBv
import Derived.Test.YtaaealngifkaeaaQAlux1
import Derived.Test.YtaaealngifkaeaaQAlux2
namespace Go.Proofs.Ytaaealngifkaeaa.AluF
open Go.RowKit Go.Proofs.YtaaealngifkaeaaW.PrintWords Go.Proofs.Ytaaealngifkaeaa.Bv Go.Proofs.Ytaaealngifkaeaa.QAlu
theorem and_31 (y : Int) (h0 : 0 ≤ y) (h1 : y < 4294967296) : Go.bits .and .u32 y 31 = y % 32 := by
  rw [and32]
  obtain ⟨n, rfl⟩ := Int.eq_ofNat_of_zero_le h0
  have h : (BitVec.ofInt 32 (n : Int)).toNat = n := by
    have := U_of_range32 h0 h1
    unfold U at this
    omega
  unfold U
  rw [BitVec.toNat_and, h, show (BitVec.ofInt 32 31).toNat = 2 ^ 5 - 1 by decide, Nat.and_two_pow_sub_one_eq_mod]
  omega
theorem bit_mod (X : BitVec 32) (i : Nat) : Int.tmod (U (X >>> i)) 2 = if X.getLsbD i then 1 else 0 := by
  rw [Int.tmod_eq_emod_of_nonneg (U_lo _)]
  have h5 : (X >>> i).getLsbD 0 = X.getLsbD i := by rw [BitVec.getLsbD_ushiftRight, Nat.add_zero]
  have h6 : (X >>> i).getLsbD 0 = decide ((X >>> i).toNat % 2 = 1) := by simp [BitVec.getLsbD, Nat.testBit_zero]
  rw [← h5, h6]
  unfold U
  by_cases h : (X >>> i).toNat % 2 = 1
  · rw [decide_eq_true h, if_pos rfl]; omega
  · rw [decide_eq_false h, if_neg (by simp)]; omega
theorem half (X : BitVec 32) (i : Nat) : (Int.tdiv (U (X >>> i)) 2) % 4294967296 = U (X >>> (i + 1)) := by
  have := U_lo (X >>> i)
  have := U32_hi (X >>> i)
  rw [Int.tdiv_eq_ediv_of_nonneg (by omega), BitVec.shiftRight_add, ← half32]
  omega
theorem low_succ (R : BitVec 32) (i : Nat) (hi : i < 32) : ((R.toNat % 2 ^ i : Nat) : Int) + (if R.getLsbD i then ((2 ^ i : Nat) : Int) else 0) = ((R.toNat % 2 ^ (i + 1) : Nat) : Int) := by
  have h6 : R.getLsbD i = decide (R.toNat / 2 ^ i % 2 = 1) := by
    rw [BitVec.getLsbD, Nat.testBit_eq_decide_div_mod_eq]
  rw [h6, Nat.mod_pow_succ]
  by_cases h : R.toNat / 2 ^ i % 2 = 1
  · rw [decide_eq_true h, if_pos rfl, h]; omega
  · have h0 : R.toNat / 2 ^ i % 2 = 0 := by omega
    rw [decide_eq_false h, if_neg (by simp), h0]; omega
theorem bits_ev (X Y R : BitVec 32) (one two : Bool) (hR : ∀ i, i < 32 → R.getLsbD i = ((((X.getLsbD i) ^^ (Y.getLsbD i)) && one) || (X.getLsbD i && Y.getLsbD i && two))) (d : Nat) : ∀ i : Nat, i + d = 32 →
    Ev (fun k => carapaceref10_bits.l0 k (U (X >>> i)) (U (Y >>> i)) one two ((R.toNat % 2 ^ i : Nat) : Int) (((2 ^ i : Nat) : Int) % 4294967296) (i : Int)) (U R) := by
  induction d with
  | zero =>
    intro i h
    obtain rfl : i = 32 := by omega
    refine Ev.step (f := fun _ => some (U R)) (fun k => ?_) (Ev.now _)
    simp only [carapaceref10_bits.l0]
    rw [if_neg (by omega), Nat.mod_eq_of_lt R.isLt]
    rfl
  | succ d ih =>
    intro i h
    have hi : i < 32 := by omega
    have hp : (2 : Nat) ^ i < 4294967296 := by
      have : (2 : Nat) ^ i < 2 ^ 32 := Nat.pow_lt_pow_right (by decide) hi
      simpa using this
    have hw : wrap64 ((i : Int) + 1) = ((i + 1 : Nat) : Int) := by rw [w64 (by omega) (by omega)]; rfl
    have hb : (2 * (((2 ^ i : Nat) : Int) % 4294967296)) % 4294967296 = ((2 ^ (i + 1) : Nat) : Int) % 4294967296 := by
      rw [Nat.pow_succ]; omega
    have hl := low_succ R i hi
    have hlt : ((R.toNat % 2 ^ (i + 1) : Nat) : Int) < 4294967296 := by
      have := Nat.mod_le R.toNat (2 ^ (i + 1))
      have := R.isLt
      omega
    have hr := hR i hi
    refine Ev.step (fun k => ?_) (ih (i + 1) (by omega))
    simp only [carapaceref10_bits.l0]
    rw [if_pos (by omega), half, half, bit_mod, bit_mod, hw, hb]
    have add : R.getLsbD i = true → (((R.toNat % 2 ^ i : Nat) : Int) + ((2 ^ i : Nat) : Int) % 4294967296) % 4294967296 = ((R.toNat % 2 ^ (i + 1) : Nat) : Int) := by
      intro ht
      rw [ht, if_pos rfl] at hl
      omega
    have stay : R.getLsbD i = false → ((R.toNat % 2 ^ i : Nat) : Int) = ((R.toNat % 2 ^ (i + 1) : Nat) : Int) := by
      intro ht
      rw [ht, if_neg (by simp)] at hl
      omega
    revert add stay
    generalize ((R.toNat % 2 ^ i : Nat) : Int) = a0
    generalize ((R.toNat % 2 ^ (i + 1) : Nat) : Int) = a1
    generalize ((2 ^ i : Nat) : Int) % 4294967296 = b0
    generalize ((2 ^ (i + 1) : Nat) : Int) % 4294967296 = b1
    generalize ((i + 1 : Nat) : Int) = c1
    intro add stay
    cases hx : X.getLsbD i <;> cases hy : Y.getLsbD i <;> cases one <;> cases two <;> rw [hx, hy] at hr <;> first
      | (have ht : R.getLsbD i = true := hr; simp [add ht]; done)
      | (have ht : R.getLsbD i = false := hr; simp [stay ht]; done)
theorem bits_f (x y : Int) (hx : 0 ≤ x ∧ x < 4294967296) (hy : 0 ≤ y ∧ y < 4294967296) (R : BitVec 32) (one two : Bool)
    (hR : ∀ i, i < 32 → R.getLsbD i = ((((BitVec.ofInt 32 x).getLsbD i ^^ (BitVec.ofInt 32 y).getLsbD i) && one) || ((BitVec.ofInt 32 x).getLsbD i && (BitVec.ofInt 32 y).getLsbD i && two))) :
    Ev (fun k => carapaceref10_bits.f k x y one two) (U R) := by
  have h := bits_ev (BitVec.ofInt 32 x) (BitVec.ofInt 32 y) R one two hR 32 0 (by omega)
  rw [BitVec.ushiftRight_zero, BitVec.ushiftRight_zero, U_of_range32 hx.1 hx.2, U_of_range32 hy.1 hy.2] at h
  refine Ev.congr (fun k => ?_) h
  unfold carapaceref10_bits.f
  simp [Nat.mod_one]
theorem power_ev (n : Nat) (hn : n < 32) (d : Nat) : ∀ i : Nat, i + d = n → Ev (fun k => carapaceref10_power.l0 k (n : Int) ((2 ^ i : Nat) : Int) (i : Int)) ((2 ^ n : Nat) : Int) := by
  induction d with
  | zero =>
    intro i h
    obtain rfl : i = n := by omega
    exact Ev.step (f := fun _ => some ((2 ^ i : Nat) : Int)) (fun k => by simp only [carapaceref10_power.l0]; rw [if_neg (by omega)]) (Ev.now _)
  | succ d ih =>
    intro i h
    have hp : (2 : Nat) ^ (i + 1) < 4294967296 := by
      have : (2 : Nat) ^ (i + 1) < 2 ^ 32 := Nat.pow_lt_pow_right (by decide) (by omega)
      simpa using this
    refine Ev.step (fun k => ?_) (ih (i + 1) (by omega))
    simp only [carapaceref10_power.l0]
    have e1 : (2 * ((2 ^ i : Nat) : Int)) % 4294967296 = ((2 ^ (i + 1) : Nat) : Int) := by rw [Nat.pow_succ] at *; omega
    have e2 : ((i : Int) + 1) % 4294967296 = ((i + 1 : Nat) : Int) := by omega
    rw [if_pos (by omega), e1, e2]
theorem power_f (y : Int) (hy : 0 ≤ y ∧ y < 4294967296) : Ev (fun k => carapaceref10_power.f k (Int.tmod y 32)) ((2 : Int) ^ (y % 32).toNat) := by
  have h := power_ev (y % 32).toNat (by omega) (y % 32).toNat 0 (by omega)
  have e : (((y % 32).toNat : Nat) : Int) = Int.tmod y 32 := by rw [Int.tmod_eq_emod_of_nonneg hy.1]; omega
  rw [e] at h
  have e2 : (((2 : Nat) ^ (y % 32).toNat : Nat) : Int) = (2 : Int) ^ (y % 32).toNat := by simp
  rw [e2] at h
  exact h
theorem awake_ev : Ev (fun k => carapacelaw10_awake.f k) true := Ev.of (fun k => carapacelaw10_awake.mono k) (k := 5) (by decide +kernel)
theorem ref_Alu (op x y : Int) (hx : 0 ≤ x ∧ x < 4294967296) (hy : 0 ≤ y ∧ y < 4294967296) : ∃ r, alu_Alu.f op x y = some r ∧ Ev (fun k => carapaceref10_Alu.f k op x y) r := by
  have j : ∀ {b : Bool} {r : Int × Bool}, Ev (fun k => carapaceref10_Alu.j0 k x y op b) r → b = (if op = 3 then true else (op == 11)) → Ev (fun k => carapaceref10_Alu.f k op x y) r := by
    intro b r h hb
    refine Ev.congr (fun k => ?_) h
    unfold carapaceref10_Alu.f
    by_cases h3 : op = 3
    · rw [if_pos h3, hb, if_pos h3, h3]; rfl
    · rw [if_neg h3, hb, if_neg h3]
  have now : ∀ {b : Bool} {r : Int × Bool}, (∀ k, carapaceref10_Alu.j0 (k + 1) x y op b = some r) → Ev (fun k => carapaceref10_Alu.j0 k x y op b) r := fun h => Ev.step (f := fun _ => some _) h (Ev.now _)
  by_cases h3 : op = 3
  · subst h3
    exact ⟨_, rfl, j (b := true) (now fun k => by simp only [carapaceref10_Alu.j0]; rw [if_pos trivial]) rfl⟩
  by_cases h11 : op = 11
  · subst h11
    exact ⟨_, rfl, j (b := true) (now fun k => by simp only [carapaceref10_Alu.j0]; rw [if_pos trivial]) rfl⟩
  have hb : false = (if op = 3 then true else (op == 11)) := by rw [if_neg h3]; simp [h11]
  by_cases h4 : op = 4
  · subst h4
    exact ⟨_, rfl, j (now fun k => by simp [carapaceref10_Alu.j0]) hb⟩
  by_cases h5 : op = 5
  · subst h5
    exact ⟨_, rfl, j (now fun k => by simp [carapaceref10_Alu.j0]) hb⟩
  by_cases h6 : op = 6
  · subst h6
    refine ⟨_, rfl, j (Ev.step (fun k => ?_) (Ev.bind (f := fun _ t => some (t, true)) (bits_f x y hx hy (BitVec.ofInt 32 x &&& BitVec.ofInt 32 y) false true (fun i _ => by simp [BitVec.getLsbD_and])) ?_)) hb⟩
    · simp [carapaceref10_Alu.j0]
    · rw [and32]; exact Ev.now _
  by_cases h7 : op = 7
  · subst h7
    refine ⟨_, rfl, j (Ev.step (fun k => ?_) (Ev.bind (f := fun _ t => some (t, true)) (bits_f x y hx hy (BitVec.ofInt 32 x ||| BitVec.ofInt 32 y) true true (fun i _ => by
      rw [BitVec.getLsbD_or]; cases (BitVec.ofInt 32 x).getLsbD i <;> cases (BitVec.ofInt 32 y).getLsbD i <;> rfl)) ?_)) hb⟩
    · simp [carapaceref10_Alu.j0]
    · rw [or32]; exact Ev.now _
  by_cases h8 : op = 8
  · subst h8
    refine ⟨_, rfl, j (Ev.step (fun k => ?_) (Ev.bind (f := fun _ t => some (t, true)) (bits_f x y hx hy (BitVec.ofInt 32 x ^^^ BitVec.ofInt 32 y) true false (fun i _ => by
      rw [BitVec.getLsbD_xor]; cases (BitVec.ofInt 32 x).getLsbD i <;> cases (BitVec.ofInt 32 y).getLsbD i <;> rfl)) ?_)) hb⟩
    · simp [carapaceref10_Alu.j0]
    · rw [xor32]; exact Ev.now _
  by_cases h9 : op = 9
  · subst h9
    refine ⟨_, rfl, j (Ev.step (fun k => ?_) (Ev.bind (f := fun _ t => some ((x * t) % 4294967296, true)) (power_f y hy) ?_)) hb⟩
    · simp [carapaceref10_Alu.j0]
    · rw [and_31 y hy.1 hy.2]; exact Ev.now _
  by_cases h10 : op = 10
  · subst h10
    have hpos : (0 : Int) < 2 ^ (y % 32).toNat := Int.pow_pos (by decide)
    refine ⟨_, rfl, j (Ev.step (fun k => ?_) (Ev.bind (f := fun _ t => if t = 0 then none else some ((Int.tdiv x t) % 4294967296, true)) (power_f y hy) ?_)) hb⟩
    · simp [carapaceref10_Alu.j0]
    · have hne : ¬ ((2 : Int) ^ (y % 32).toNat = 0) := by omega
      have hle : x / 2 ^ (y % 32).toNat ≤ x := Int.ediv_le_self _ hx.1
      have hge : 0 ≤ x / 2 ^ (y % 32).toNat := Int.ediv_nonneg hx.1 (Int.le_of_lt hpos)
      simp only [if_neg hne]
      rw [Int.tdiv_eq_ediv_of_nonneg hx.1, Int.emod_eq_of_lt hge (by omega), and_31 y hy.1 hy.2]
      exact Ev.now _
  refine ⟨(0, false), ?_, j (now fun k => ?_) hb⟩
  · unfold alu_Alu.f
    simp only [h3, h11, h4, h5, h6, h7, h8, h9, h10, if_false]
  · simp [carapaceref10_Alu.j0, h4, h5, h6, h7, h8, h9, h10]
theorem ref_Taken (op x y : Int) : alu_Taken.f op x y = carapaceref10_Taken.f op x y := rfl
end Go.Proofs.Ytaaealngifkaeaa.AluF
