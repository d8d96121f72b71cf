-- Facts of the bytes that rc.Put makes.
import Derived.Test.YteocmeidkdhmiaaRcI
namespace Go.Proofs.Yteocmeidkdhmiaa.Pv
set_option linter.all false
open Go.RowKit Go.Proofs
set_option maxRecDepth 100000
set_option maxHeartbeats 4000000
theorem agree_self (C T : List Int) : Agree C (C ++ T) := fun k h1 h2 => List.take_append_of_le_length h1
theorem agree_cut (C : List Int) (n : Nat) : Agree C (C.take n) := fun k h1 h2 => by
  rw [List.take_take, Nat.min_eq_left (by rw [List.length_take] at h2; omega)]
theorem rput_bytes (b : List Int) : Oct (rput b) := (rput_spec b).1
theorem rput_len (b : List Int) : (rput b).length ≤ 8 * b.length + 5 := by
  obtain ⟨n, h1, h2, h3⟩ := encAll_ok b b.length
  have := (encAll_aAll b b.length).n
  rw [(rput_spec b).2.1, ← this, h3.n]
  omega
theorem rput_len5 (b : List Int) : 5 ≤ (rput b).length := by
  rw [(rput_spec b).2.1]
  have := (aAll_ok b b.length).n
  omega
theorem rput_first (b : List Int) : (rput b).getD 0 0 = 0 := by
  obtain ⟨hC, hCl, hCv⟩ := rput_spec b
  have ht := aAll_ok b b.length
  have hnf := ht.n
  have hv1 := ht.v1
  have hw0 := ht.w0
  generalize rput b = C at *
  generalize aAll b b.length = t at *
  have h := val_take C hC 1 (by omega)
  have e := take_succ_getD C 0 (by omega)
  rw [List.take_zero, List.nil_append] at e
  rw [Nat.zero_add] at e
  rw [e, val_one, hCv, show C.length - 1 = (t.n - 1) + 4 by omega, Int.pow_add] at h
  have hp := p256 (t.n - 1)
  rw [show (256 : Int) ^ 4 = 4294967296 from rfl] at h
  have h0 := (hC.getD 0).1
  rcases Int.lt_or_le 0 (C.getD 0 0) with h1 | h1
  · have hp2 : (0 : Int) ≤ 256 ^ (t.n - 1) * 4294967296 := by omega
    have := Int.mul_le_mul_of_nonneg_right (show 1 ≤ C.getD 0 0 by omega) hp2
    rw [Int.one_mul] at this
    omega
  · omega
theorem rc_oct {l : List Int} (h : ∀ n ∈ l, (Lit.int .u8 n).wf = true) : Oct l := fun x hx => by
  have := h x hx
  simp [Lit.wf, IntKind.min, IntKind.max, IntKind.bits, IntKind.signed] at this
  omega
end Go.Proofs.Yteocmeidkdhmiaa.Pv
