-- What the reference's functions of the sum come to.
import Derived.Test.YtmibdlapjddfoaaCrcE
namespace Go.Proofs.Ytmibdlapjddfoaa.CrcE
open Go.RowKit Go.Proofs.YtmibdlapjddfoaaW.PrintWords Go.Proofs.Ytmibdlapjddfoaa.Bv Go.Proofs.Ytmibdlapjddfoaa.CrcF Go.Proofs.Ytmibdlapjddfoaa.QCrc
theorem tdiv2 (s : B32) : (Int.tdiv (U s) 2) % 4294967296 = U (s >>> (1 : Nat)) := by
  have := U_lo s
  have := U32_hi s
  rw [Int.tdiv_eq_ediv_of_nonneg (by omega), ← half32]
  omega
theorem tmod2 (s : B32) : (Int.tmod (U s) 2 = 1) ↔ odd s = true := by
  rw [Int.tmod_eq_emod_of_nonneg (U_lo _)]
  have h6 : odd s = decide (s.toNat % 2 = 1) := by simp [odd, BitVec.getLsbD, Nat.testBit_zero]
  rw [h6, decide_eq_true_iff]
  unfold U
  omega
theorem not32 (x : Int) : (4294967295 - x) % 4294967296 = U (~~~ BitVec.ofInt 32 x) := by
  have h := U_ofInt32 x
  have := (BitVec.ofInt 32 x).isLt
  simp only [U, BitVec.toNat_not] at *
  omega
theorem rstep_ev (d : Nat) : ∀ (x : Int) (s : B32), 0 ≤ x → x + d = 8 → Ev (fun k => carapaceref01_step.l0 k (U s) x) (U (steps d s)) := by
  induction d with
  | zero =>
    intro x s h0 h8
    refine Ev.step (f := fun _ => some (U s)) (fun k => ?_) (Ev.now _)
    simp only [carapaceref01_step.l0]
    rw [if_neg (by omega)]
  | succ d ih =>
    intro x s h0 h8
    refine Ev.step (fun k => ?_) (ih (x + 1) (cstep s) (by omega) (by omega))
    simp only [carapaceref01_step.l0]
    rw [if_pos (by omega), tdiv2, w64 (x := x + 1) (by omega) (by omega), cstep_eq]
    cases ho : odd s with
    | true =>
      rw [if_pos ((tmod2 s).2 ho), xor32, ofInt_U]
      rfl
    | false =>
      rw [if_neg (fun h => by rw [tmod2, ho] at h; cases h)]
      simp [pol]
theorem rstep_f (s : B32) (c : Int) : Ev (fun k => carapaceref01_step.f k (U s) c) (U (steps 8 (s ^^^ BitVec.ofInt 32 c))) := by
  refine Ev.congr (fun k => ?_) (rstep_ev 8 0 _ (by omega) (by omega))
  unfold carapaceref01_step.f
  rw [xor32, ofInt_U, ofInt_mod32]
theorem rmore_ev (l : List Int) (hn : l.length ≤ 140737488351232) (d : Nat) : ∀ (i : Nat) (s : B32), i + d = l.length → Ev (fun k => carapaceref01_More.l0 k l (U s) (i : Int)) (U (~~~ fold s (l.drop i))) := by
  induction d with
  | zero =>
    intro i s h
    refine Ev.step (f := fun _ => some (U (~~~ fold s (l.drop i)))) (fun k => ?_) (Ev.now _)
    simp only [carapaceref01_More.l0]
    rw [if_neg (by omega), List.drop_eq_nil_of_le (by omega), not32, ofInt_U]
    rfl
  | succ d ih =>
    intro i s h
    have hi : i < l.length := by omega
    have := ih (i + 1) (steps 8 (s ^^^ BitVec.ofInt 32 l[i])) (by omega)
    refine Ev.step (fun k => ?_) (Ev.bind (f := fun k t => carapaceref01_More.l0 k l t ((i + 1 : Nat) : Int)) (rstep_f s l[i]) (by rw [List.drop_eq_getElem_cons hi]; exact this))
    simp only [carapaceref01_More.l0]
    rw [if_pos (by omega), if_pos (by omega), rd_lt hi, w64 (by omega) (by omega)]
    rfl
theorem rMore_ev (a : Int) (l : List Int) (hn : l.length ≤ 140737488351232) : Ev (fun k => carapaceref01_More.f k a l) (sum a l) := by
  refine Ev.congr (fun k => ?_) (rmore_ev l hn l.length 0 (~~~ BitVec.ofInt 32 a) (by omega))
  unfold carapaceref01_More.f
  rw [not32]
  rfl
theorem rSum_ev (l : List Int) (hn : l.length ≤ 140737488351232) : Ev (fun k => carapaceref01_Sum.f k l) (sum 0 l) := by
  refine Ev.congr (fun k => ?_) (rMore_ev 0 l hn)
  unfold carapaceref01_Sum.f
  cases carapaceref01_More.f k 0 l <;> rfl
theorem rAll_l0 (ls : List (List Int)) (hn : ls.length ≤ 140737488351232) (hl : ∀ l ∈ ls, l.length ≤ 140737488351232) (d : Nat) : ∀ (i : Nat) (a : Int), i + d = ls.length → Ev (fun k => carapaceref01_All.l0 k ls a (i : Int)) (sums a (ls.drop i)) := by
  induction d with
  | zero =>
    intro i a h
    refine Ev.step (f := fun _ => some (sums a (ls.drop i))) (fun k => ?_) (Ev.now _)
    simp only [carapaceref01_All.l0]
    rw [if_neg (by omega), List.drop_eq_nil_of_le (by omega)]
    rfl
  | succ d ih =>
    intro i a h
    have hi : i < ls.length := by omega
    have hr : rd_L1 ls (i : Int) = ls[i] := by simp [rd_L1, List.getD_eq_getElem?_getD, List.getElem?_eq_getElem hi]
    have h1 := Ev.bind (f := fun k t => carapaceref01_All.l0 k ls t ((i + 1 : Nat) : Int)) (rMore_ev a ls[i] (hl _ (List.getElem_mem hi))) (ih (i + 1) (sum a ls[i]) (by omega))
    rw [List.drop_eq_getElem_cons hi]
    refine Ev.step (fun k => ?_) h1
    simp only [carapaceref01_All.l0]
    rw [if_pos (by omega), if_pos (by omega), hr, w64 (by omega) (by omega)]
    rfl
theorem rAll_ev (ls : List (List Int)) (hn : ls.length ≤ 140737488351232) (hl : ∀ l ∈ ls, l.length ≤ 140737488351232) : Ev (fun k => carapaceref01_All.f k ls) (sums 0 ls) := rAll_l0 ls hn hl ls.length 0 0 (by omega)
end Go.Proofs.Ytmibdlapjddfoaa.CrcE
