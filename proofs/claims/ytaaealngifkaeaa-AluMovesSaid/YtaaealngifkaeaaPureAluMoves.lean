/- AluMoves: moved words are the reference's, and two moves set any word. For every input; no condition. -/
import Derived.Test.YtaaealngifkaeaaAluF
namespace Go.Proofs.Ytaaealngifkaeaa.Pure
open Go.RowKit Go.Proofs.YtaaealngifkaeaaW.PrintWords Go.Proofs.Ytaaealngifkaeaa.Bv Go.Proofs.Ytaaealngifkaeaa.AluF Go.Proofs.Ytaaealngifkaeaa.QAlu
theorem halves (x y : Int) (hx : 0 ≤ x ∧ x < 4294967296) (hy : 0 ≤ y ∧ y ≤ 65535) :
    Go.bits .or .u32 (Go.bits .and .u32 x 65535) ((y % 4294967296 * 65536) % 4294967296) = x % 65536 + 65536 * y := by
  have e1 : Go.bits .and .u32 x 65535 = x % 65536 := by
    rw [and32]
    unfold U
    rw [BitVec.toNat_and, show (BitVec.ofInt 32 65535).toNat = 2 ^ 16 - 1 by decide, Nat.and_two_pow_sub_one_eq_mod]
    have := U_ofInt32 x
    unfold U at this
    omega
  rw [e1, or32]
  have e2 : (y % 4294967296 * 65536) % 4294967296 = 65536 * y := by omega
  rw [e2]
  have ha : ((BitVec.ofInt 32 (x % 65536)).toNat : Int) = x % 65536 := by
    have := U_ofInt32 (x % 65536)
    unfold U at this
    omega
  have hb : ((BitVec.ofInt 32 (65536 * y)).toNat : Int) = 65536 * y := by
    have := U_ofInt32 (65536 * y)
    unfold U at this
    omega
  unfold U
  rw [BitVec.toNat_or, Nat.or_comm]
  have hq : (BitVec.ofInt 32 (65536 * y)).toNat = 2 ^ 16 * y.toNat := by omega
  rw [hq, ← Nat.two_pow_add_eq_or_of_lt (by omega)]
  omega
theorem moved_ev (op x y : Int) (hx : 0 ≤ x ∧ x < 4294967296) :
    Ev (fun k => alu_Moved.f k op x y) (if 0 ≤ y ∧ y ≤ 65535 then (if op = 1 then (y, true) else if op = 2 then (x % 65536 + 65536 * y, true) else (0, false)) else (0, false)) := by
  by_cases h0 : y < 0
  · rw [if_neg (by omega)]
    refine Ev.step (f := fun _ => some _) (fun k => ?_) (Ev.now _)
    unfold alu_Moved.f
    rw [if_pos h0]
    rfl
  · by_cases h1 : y > 65535
    · rw [if_neg (by omega)]
      refine Ev.step (f := fun _ => some _) (fun k => ?_) (Ev.now _)
      unfold alu_Moved.f
      rw [if_neg h0, decide_eq_true h1]
      rfl
    · rw [if_pos (by omega)]
      refine Ev.step (f := fun _ => some _) (fun k => ?_) (Ev.now _)
      unfold alu_Moved.f
      rw [if_neg h0, decide_eq_false h1]
      simp only [alu_Moved.j0]
      rw [if_neg (by simp), halves x y hx (by omega), show y % 4294967296 = y by omega]
      by_cases ha : op = 1
      · rw [if_pos ha, if_pos ha]
      · rw [if_neg ha, if_neg ha]
        by_cases hb : op = 2
        · rw [if_pos hb, if_pos hb]
        · rw [if_neg hb, if_neg hb]
theorem rmoved_ev (op x y : Int) (hx : 0 ≤ x ∧ x < 4294967296) :
    Ev (fun k => carapaceref10_Moved.f k op x y) (if 0 ≤ y ∧ y ≤ 65535 then (if op = 1 then (y, true) else if op = 2 then (x % 65536 + 65536 * y, true) else (0, false)) else (0, false)) := by
  by_cases h0 : y < 0
  · rw [if_neg (by omega)]
    refine Ev.step (f := fun _ => some _) (fun k => ?_) (Ev.now _)
    unfold carapaceref10_Moved.f
    rw [if_pos h0]
    rfl
  · by_cases h1 : y > 65535
    · rw [if_neg (by omega)]
      refine Ev.step (f := fun _ => some _) (fun k => ?_) (Ev.now _)
      unfold carapaceref10_Moved.f
      rw [if_neg h0, if_pos h1]
      rfl
    · rw [if_pos (by omega)]
      refine Ev.step (f := fun _ => some _) (fun k => ?_) (Ev.now _)
      unfold carapaceref10_Moved.f
      rw [if_neg h0, if_neg h1]
      by_cases ha : op = 1
      · rw [if_pos ha, if_pos ha]
        simp only [carapaceref10_Moved.j0]
        rw [if_neg (by simp), if_pos ha, show y % 4294967296 = y by omega]
      · rw [if_neg ha, if_neg ha]
        by_cases hb : op = 2
        · rw [if_pos hb, hb]
          simp only [carapaceref10_Moved.j0]
          rw [if_neg (by simp), if_neg (by decide), Int.tmod_eq_emod_of_nonneg hx.1]
          have : (x % 65536 + 65536 * (y % 4294967296) % 4294967296) % 4294967296 = x % 65536 + 65536 * y := by omega
          rw [this]
        · rw [if_neg hb, show (op != 2) = true by simp [hb]]
          rfl
theorem AluMoves : carapacelaw10_AluMoves.Pure := by
  intro op x y ho hx hy
  have hx := wf_u32 hx
  suffices h : Ev (fun k => carapacelaw10_AluMoves.f k op x y) true from h.rounds
  have m1 := moved_ev op x y hx
  have m2 := rmoved_ev op x y hx
  generalize (if 0 ≤ y ∧ y ≤ 65535 then (if op = 1 then (y, true) else if op = 2 then (x % 65536 + 65536 * y, true) else (0, false)) else (0, false)) = r at m1 m2
  have m3 := moved_ev 1 7 (wrap64 (Int.tmod x 65536)) (by omega)
  rw [Int.tmod_eq_emod_of_nonneg hx.1, w64 (by omega) (by omega), if_pos (by omega), if_pos rfl] at m3
  have m4 := moved_ev 2 (x % 65536) ((Int.tdiv x 65536) % 4294967296) (by omega)
  rw [Int.tdiv_eq_ediv_of_nonneg hx.1, show x / 65536 % 4294967296 = x / 65536 by omega, if_pos (by omega), if_neg (by decide), if_pos rfl, show x % 65536 % 65536 + 65536 * (x / 65536) = x by omega] at m4
  unfold carapacelaw10_AluMoves.f
  rw [Int.tmod_eq_emod_of_nonneg hx.1, w64 (by omega) (by omega), Int.tdiv_eq_ediv_of_nonneg hx.1, show x / 65536 % 4294967296 = x / 65536 by omega]
  refine Ev.bind awake_ev (Ev.bind m1 (Ev.bind m2 (Ev.bind m3 (Ev.bind m4 ?_))))
  simp
  exact Ev.now _
end Go.Proofs.Ytaaealngifkaeaa.Pure
