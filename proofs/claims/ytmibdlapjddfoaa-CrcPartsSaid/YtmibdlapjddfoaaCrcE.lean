-- What the printed functions of the sum come to.
import Derived.Test.YtmibdlapjddfoaaCrcF
import Derived.Test.YtmibdlapjddfoaaQCrcx1
namespace Go.Proofs.Ytmibdlapjddfoaa.CrcE
open Go.RowKit Go.Proofs.YtmibdlapjddfoaaW.PrintWords Go.Proofs.Ytmibdlapjddfoaa.Bv Go.Proofs.Ytmibdlapjddfoaa.CrcF Go.Proofs.Ytmibdlapjddfoaa.QCrc
def Bytes (l : List Int) : Prop := ∀ x ∈ l, 0 ≤ x ∧ x < 256
theorem one_step (s : B32) : Go.bits .xor .u32 (U s / 2) (Go.bits .and .u32 3988292384 ((-(Go.bits .and .u32 (U s) 1)) % 4294967296)) = U (cstep s) := by
  rw [half32, and32 (U s), ofInt_U, neg32, and32, ofInt_U, xor32, ofInt_U, ofInt_U]
  rfl
theorem l1_ev (l : List Int) (n i : Int) (r : Int) (d : Nat) : ∀ (x : Int) (s : B32), 0 ≤ x → x + d = 8 → Ev (fun k => crc_More.l0 k (U (steps d s)) l n (wrap64 (i + 1))) r → Ev (fun k => crc_More.l1 k (U s) l n i x) r := by
  induction d with
  | zero =>
    intro x s h0 h8 h
    refine Ev.step (fun k => ?_) h
    simp only [crc_More.l1]
    rw [if_neg (by omega)]
    rfl
  | succ d ih =>
    intro x s h0 h8 h
    refine Ev.step (fun k => ?_) (ih (x + 1) (cstep s) (by omega) (by omega) h)
    simp only [crc_More.l1]
    rw [if_pos (by omega), one_step, w64 (by omega) (by omega)]
theorem l0_ev (l : List Int) (hn : l.length ≤ 140737488351232) (d : Nat) : ∀ (i : Nat) (s : B32), i + d = l.length → Ev (fun k => crc_More.l0 k (U s) l (l.length : Int) (i : Int)) (U (~~~ fold s (l.drop i))) := by
  induction d with
  | zero =>
    intro i s h
    refine Ev.step (f := fun _ => some (U (~~~ fold s (l.drop i)))) (fun k => ?_) (Ev.now _)
    simp only [crc_More.l0]
    rw [if_neg (by omega), List.drop_eq_nil_of_le (by omega), xor32, ofInt_U, show BitVec.ofInt 32 4294967295 = BitVec.allOnes 32 by decide, BitVec.allOnes_xor]
    rfl
  | succ d ih =>
    intro i s h
    have hi : i < l.length := by omega
    refine Ev.step (fun k => ?_) (l1_ev l l.length i _ 8 0 (s ^^^ BitVec.ofInt 32 l[i]) (by omega) (by omega) ?_)
    · simp only [crc_More.l0]
      rw [if_pos (by omega), if_pos (by omega), if_pos (by omega), rd_lt hi, xor32, ofInt_U, ofInt_mod32]
    · rw [w64 (by omega) (by omega)]
      have := ih (i + 1) (steps 8 (s ^^^ BitVec.ofInt 32 l[i])) (by omega)
      rw [List.drop_eq_getElem_cons hi]
      simpa [fold] using this
theorem More_ev (a : Int) (l : List Int) (hn : l.length ≤ 140737488351232) : Ev (fun k => crc_More.f k a l) (sum a l) := by
  have := l0_ev l hn l.length 0 (~~~ BitVec.ofInt 32 a) (by omega)
  refine Ev.congr (fun k => ?_) this
  unfold crc_More.f
  rw [xor32, show BitVec.ofInt 32 4294967295 = BitVec.allOnes 32 by decide, BitVec.allOnes_xor]
  rfl
theorem Sum_ev (l : List Int) (hn : l.length ≤ 140737488351232) : Ev (fun k => crc_Sum.f k l) (sum 0 l) := by
  refine Ev.congr (fun k => ?_) (More_ev 0 l hn)
  unfold crc_Sum.f
  cases crc_More.f k 0 l <;> rfl
def sums (a : Int) (ls : List (List Int)) : Int := ls.foldl sum a
theorem All_l0 (ls : List (List Int)) (hn : ls.length ≤ 140737488351232) (hl : ∀ l ∈ ls, l.length ≤ 140737488351232) (d : Nat) : ∀ (i : Nat) (a : Int), i + d = ls.length → Ev (fun k => crc_All.l0 k a ls (ls.length : Int) (i : Int)) (sums a (ls.drop i)) := by
  induction d with
  | zero =>
    intro i a h
    refine Ev.step (f := fun _ => some (sums a (ls.drop i))) (fun k => ?_) (Ev.now _)
    simp only [crc_All.l0]
    rw [if_neg (by omega), List.drop_eq_nil_of_le (by omega)]
    rfl
  | succ d ih =>
    intro i a h
    have hi : i < ls.length := by omega
    have hr : rd_L1 ls (i : Int) = ls[i] := by simp [rd_L1, List.getD_eq_getElem?_getD, List.getElem?_eq_getElem hi]
    have h1 := Ev.bind (f := fun k t => crc_All.l0 k t ls (ls.length : Int) ((i + 1 : Nat) : Int)) (More_ev a ls[i] (hl _ (List.getElem_mem hi))) (ih (i + 1) (sum a ls[i]) (by omega))
    rw [List.drop_eq_getElem_cons hi]
    refine Ev.step (fun k => ?_) h1
    simp only [crc_All.l0]
    rw [if_pos (by omega), if_pos (by omega), if_pos (by omega), hr, w64 (by omega) (by omega)]
    rfl
theorem All_ev (ls : List (List Int)) (hn : ls.length ≤ 140737488351232) (hl : ∀ l ∈ ls, l.length ≤ 140737488351232) : Ev (fun k => crc_All.f k ls) (sums 0 ls) := All_l0 ls hn hl ls.length 0 0 (by omega)
end Go.Proofs.Ytmibdlapjddfoaa.CrcE
