-- Turned bits (plain): the sum is another one.
import Derived.Test.YtfjodfeoncoaoaaImY
namespace Go.Proofs.Ytfjodfeoncoaoaa.Pv
set_option linter.all false
open Go.RowKit Go.Proofs
set_option maxRecDepth 100000
set_option maxHeartbeats 4000000
def tab8 : List Int := [1, 2, 4, 8, 16, 32, 64, 128]
theorem turn_step {A X : List Int} {a i : Nat} {T S : Cr.B32} (ha : a + 32 ≤ 8 * A.length) (hi : i < 32) (hX : X.length = A.length) (hO : Oct X) (hf : Cr.fold S X = Cr.fold S A ^^^ Cr.steps (8 * A.length - a) (Cr.lowb T i)) (hbit : T.getLsbD i = true) :
    Cr.fold S (X.set ((a + i) / 8) (Go.bits .xor .u8 (X.getD ((a + i) / 8) 0) (tab8.getD ((a + i) % 8) 0))) = Cr.fold S A ^^^ Cr.steps (8 * A.length - a) (Cr.lowb T (i + 1)) ∧ Oct (X.set ((a + i) / 8) (Go.bits .xor .u8 (X.getD ((a + i) / 8) 0) (tab8.getD ((a + i) % 8) 0))) := by
  generalize hqe : (a + i) / 8 = q at *
  generalize hre : (a + i) % 8 = r at *
  have hql : q < X.length := by omega
  have hg : X.getD q 0 = X[q] := by simp [List.getD_eq_getElem?_getD, List.getElem?_eq_getElem hql]
  have hxq := hO _ (List.getElem_mem hql)
  have hnew := Cr.byte_turn X[q] hxq.1 hxq.2 r (by omega)
  have hturn := Cr.fold_turn S X q hql _ _ hnew
  have hst : Cr.steps (8 * (X.length - q)) (1#32 <<< r) = Cr.steps (8 * A.length - a) (1#32 <<< i) := by
    rw [show 8 * (X.length - q) = r + (8 * A.length - a - i) by omega, Cr.steps_add, Cr.steps_bit r (by omega)]
    rw [show 8 * A.length - a = i + (8 * A.length - a - i) by omega, Cr.steps_add, Cr.steps_bit i (by omega)]
    congr 1
    omega
  rw [hg]
  constructor
  · show Cr.fold S (X.set q (Go.bits .xor .u8 X[q] (([1, 2, 4, 8, 16, 32, 64, 128] : List Int).getD r 0))) = _
    rw [hturn, hf, hst]
    simp only [Cr.lowb, hbit, if_true]
    rw [Cr.steps_xor, BitVec.xor_assoc]
  · intro z hz
    rcases List.mem_or_eq_of_mem_set hz with h' | h'
    · exact hO z h'
    · subst h'
      rw [Cr.xor8]
      exact ⟨Cr.U_lo _, Cr.U8_hi _⟩
theorem turn_keep {A X : List Int} {a i : Nat} {T S : Cr.B32} (hf : Cr.fold S X = Cr.fold S A ^^^ Cr.steps (8 * A.length - a) (Cr.lowb T i)) (hbit : T.getLsbD i = false) :
    Cr.fold S X = Cr.fold S A ^^^ Cr.steps (8 * A.length - a) (Cr.lowb T (i + 1)) := by
  rw [hf]
  simp [Cr.lowb, hbit]
theorem steps_nil : ∀ n, Cr.steps n 0#32 = 0#32
  | 0 => rfl
  | n + 1 => steps_nil n
theorem turn_start (A : List Int) (a : Nat) (T S : Cr.B32) : Cr.fold S A = Cr.fold S A ^^^ Cr.steps (8 * A.length - a) (Cr.lowb T 0) := by
  simp [Cr.lowb, steps_nil]
theorem turn_end {A X : List Int} {a : Nat} {T : Cr.B32} (hT : T ≠ 0#32) (hf : Cr.fold (~~~ BitVec.ofInt 32 0) X = Cr.fold (~~~ BitVec.ofInt 32 0) A ^^^ Cr.steps (8 * A.length - a) (Cr.lowb T 32)) : crc A ≠ crc X := by
  intro he
  rw [Cr.lowb_all] at hf
  have h := Cr.U_inj he
  rw [hf] at h
  have h3 : Cr.fold (~~~ BitVec.ofInt 32 0) A = Cr.fold (~~~ BitVec.ofInt 32 0) A ^^^ Cr.steps (8 * A.length - a) T := by
    have := congrArg (fun v => ~~~ v) h
    simpa using this
  have h4 : Cr.steps (8 * A.length - a) T = 0#32 := by
    have := congrArg (fun v => Cr.fold (~~~ BitVec.ofInt 32 0) A ^^^ v) h3
    simpa [← BitVec.xor_assoc] using this.symm
  exact hT (Cr.steps_zero h4)
/-- What is read where all is as it was but what is summed. -/
theorem read_turned (A X : List Int) (hl : X.length = A.length) (h44 : 44 ≤ A.length) (hne : crc A ≠ crc X) (p : List Int) (hs : p.length + A.length ≤ 1000000) :
    readF (p ++ (X ++ (le4 (A.length : Int) ++ (le4 (crc A) ++ [49, 88, 70, 83])))) = (Img.zero, Wh.zero, 6) := by
  have hcr := crc_range A
  generalize hB : p ++ (X ++ (le4 (A.length : Int) ++ (le4 (crc A) ++ [49, 88, 70, 83]))) = B
  have e1 : B = (p ++ (X ++ (le4 (A.length : Int) ++ le4 (crc A)))) ++ ([49, 88, 70, 83] ++ []) := by rw [← hB]; simp
  have e2 : B = (p ++ X) ++ (le4 (A.length : Int) ++ (le4 (crc A) ++ [49, 88, 70, 83])) := by rw [← hB]; simp
  have e3 : B = (p ++ (X ++ le4 (A.length : Int))) ++ (le4 (crc A) ++ [49, 88, 70, 83]) := by rw [← hB]; simp
  have hlen : B.length = p.length + A.length + 12 := by rw [← hB]; simp [le4_length]; omega
  have hla : lastAt B = (p.length + A.length + 8 : Int) := by
    rw [e1, lastAt_bytes _ _ (fun i h => by simp at h)]
    simp [le4_length]
    omega
  have hn1 : num4 B (p.length + A.length) = A.length := by
    have := num4_app (p ++ X) (le4 (A.length : Int) ++ (le4 (crc A) ++ [49, 88, 70, 83])) 0
    rw [← e2, List.length_append, hl, Nat.add_zero] at this
    rw [this, num4_le4 (by omega) (by omega)]
  have hn2 : num4 B (p.length + A.length + 4) = crc A := by
    have := num4_app (p ++ (X ++ le4 (A.length : Int))) (le4 (crc A) ++ [49, 88, 70, 83]) 0
    rw [← e3, List.length_append, List.length_append, hl, le4_length, Nat.add_zero, ← Nat.add_assoc] at this
    rw [this, num4_le4 hcr.1 hcr.2]
  have hsl : (B.drop p.length).take A.length = X := by rw [← hB, ← hl]; simp
  have t1 : ((p.length + A.length + 8 : Int) - 8).toNat = p.length + A.length := by omega
  have t2 : ((p.length + A.length + 8 : Int) - 8 + 4).toNat = p.length + A.length + 4 := by omega
  have t3 : ((p.length + A.length + 8 : Int) - 8 - (A.length : Int)).toNat = p.length := by omega
  have hf : findF B = (((0 : Int), (0 : Int)), ((p.length + A.length + 8 : Int) - 8 - (A.length : Int), (6 : Int))) := by
    unfold findF
    rw [hla, t1, t2, hn1, hn2, t3, Int.toNat_natCast, hsl, if_neg (by omega), if_neg (by omega), if_neg (by omega), if_neg (fun h => hne h.symm)]
  unfold readF
  rw [hf, if_pos (by simp)]
end Go.Proofs.Ytfjodfeoncoaoaa.Pv
