/- AluBack: the plain law, and the walk as the row asks it. -/
import Derived.Test.YtaaealngifkaeaaAluBackW
namespace Go.Proofs.Ytaaealngifkaeaa.AluBackL
open Go.RowKit Go.Proofs.YtaaealngifkaeaaW.PrintWords Go.Proofs.Ytaaealngifkaeaa.Bv Go.Proofs.Ytaaealngifkaeaa.AluF Go.Proofs.Ytaaealngifkaeaa.QAlu
theorem and_add_or (x y : BitVec 32) : (x &&& y) + (x ||| y) = x + y := by
  have h1 : (x &&& y) + (x &&& ~~~y) = x := by
    rw [BitVec.add_eq_or_of_and_eq_zero]
    · refine BitVec.eq_of_getLsbD_eq fun i hi => ?_
      simp only [BitVec.getLsbD_or, BitVec.getLsbD_and, BitVec.getLsbD_not, hi]
      cases x.getLsbD i <;> cases y.getLsbD i <;> simp
    · refine BitVec.eq_of_getLsbD_eq fun i hi => ?_
      simp only [BitVec.getLsbD_and, BitVec.getLsbD_not, hi, BitVec.getLsbD_zero]
      cases x.getLsbD i <;> cases y.getLsbD i <;> simp
  have h2 : (x &&& ~~~y) + y = x ||| y := by
    rw [BitVec.add_eq_or_of_and_eq_zero]
    · refine BitVec.eq_of_getLsbD_eq fun i hi => ?_
      simp only [BitVec.getLsbD_or, BitVec.getLsbD_and, BitVec.getLsbD_not, hi]
      cases x.getLsbD i <;> cases y.getLsbD i <;> simp
    · refine BitVec.eq_of_getLsbD_eq fun i hi => ?_
      simp only [BitVec.getLsbD_and, BitVec.getLsbD_not, hi, BitVec.getLsbD_zero]
      cases x.getLsbD i <;> cases y.getLsbD i <;> simp
  calc (x &&& y) + (x ||| y) = (x &&& y) + ((x &&& ~~~y) + y) := by rw [h2]
    _ = ((x &&& y) + (x &&& ~~~y)) + y := by rw [BitVec.add_assoc]
    _ = x + y := by rw [h1]
theorem xor_add_and (x y : BitVec 32) : (x ^^^ y) + (x &&& y) = x ||| y := by
  rw [BitVec.add_eq_or_of_and_eq_zero]
  · refine BitVec.eq_of_getLsbD_eq fun i hi => ?_
    simp only [BitVec.getLsbD_or, BitVec.getLsbD_and, BitVec.getLsbD_xor]
    cases x.getLsbD i <;> cases y.getLsbD i <;> rfl
  · refine BitVec.eq_of_getLsbD_eq fun i hi => ?_
    simp only [BitVec.getLsbD_and, BitVec.getLsbD_xor, BitVec.getLsbD_zero]
    cases x.getLsbD i <;> cases y.getLsbD i <;> rfl
theorem walk (w : World) (a0 : Int) (w0 : (Lit.int .u32 a0).wf = true) (a1 : Int) (w1 : (Lit.int .u32 a1).wf = true) :
    Calls Try.prog 5 #[.int .u32 a0, .int .u32 a1] w fun e w' => e = .returned (.bool true) ∧ Below w.heap.size w w' := by
  obtain ⟨kk, hk⟩ := awake_ev.rounds
  have hx := wf_u32 w0
  have hy := wf_u32 w1
  have e32 : (2 : Int) ^ (Go.bits .and .u32 32 31).toNat = 1 := by rw [and_31 32 (by decide) (by decide)]; decide
  have e64 : (2 : Int) ^ (Go.bits .and .u32 64 31).toNat = 1 := by rw [and_31 64 (by decide) (by decide)]; decide
  refine AluBackW.run kk a0 a1 ((a0 + a1) % 4294967296) (Go.bits .xor .u32 a0 a1) (Go.bits .and .u32 a0 a1) (Go.bits .or .u32 a0 a1) (a0 == a1) (decide (a0 < a1))
    (alu_Alu.c3 a0 a1) ?_ (alu_Alu.c8 a0 a1) ?_ ?_ ?_ (alu_Alu.c6 a0 a1) (alu_Alu.c7 a0 a1) (alu_Alu.c11 a0 a1) (alu_Taken.c16 a0 a1) (alu_Taken.c17 a0 a1) (alu_Taken.c18 a0 a1) ?_ rfl rfl ?_ ?_ ⟨hk⟩ w
  · intro w
    have h := alu_Alu.c4 ((a0 + a1) % 4294967296) a1 w
    rw [show ((a0 + a1) % 4294967296 - a1) % 4294967296 = a0 by omega] at h
    exact h
  · intro w
    have h := alu_Alu.c8 (Go.bits .xor .u32 a0 a1) a1 w
    rw [xor32 (Go.bits .xor .u32 a0 a1), xor32, ofInt_U, BitVec.xor_assoc, BitVec.xor_self, BitVec.xor_zero, U_of_range32 hx.1 hx.2] at h
    rw [xor32]
    exact h
  · intro w
    have h := alu_Alu.c9 a0 32 w
    rw [e32, show a0 * 1 % 4294967296 = a0 by omega] at h
    exact h
  · intro w
    have h := alu_Alu.c10 a0 64 w
    rw [e64, Int.ediv_one] at h
    exact h
  · intro w
    have h := alu_Taken.c19 a0 a1 w
    rw [show decide (a0 ≥ a1) = !decide (a0 < a1) by by_cases h : a0 < a1 <;> simp [h] <;> omega] at h
    exact h
  · rw [and32, or32, add32, and_add_or, ← add32, U_of_range32 hx.1 hx.2, U_of_range32 hy.1 hy.2, beq_self_eq_true]
  · rw [xor32, and32, or32, add32, xor_add_and, beq_self_eq_true]
end Go.Proofs.Ytaaealngifkaeaa.AluBackL
