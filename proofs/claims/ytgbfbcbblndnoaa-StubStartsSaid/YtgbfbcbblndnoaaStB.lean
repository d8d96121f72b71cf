-- stub: begin, repeats, check, walk, ends; Build.
import Derived.Test.YtgbfbcbblndnoaaStA
namespace Go.Proofs.Ytgbfbcbblndnoaa.Pv
set_option linter.all false
open Go.RowKit Go.Proofs
set_option maxRecDepth 100000
set_option maxHeartbeats 4000000
def rpF (L : List It)  : List It := (tuF (juL (laL (toF (imL (puF (imL (imL (juL (laL (thL (juL (thL (juL (thL (imL (shF (imL (thL (shF (thL (seF (neF (neF (laL (toF (puF (neF (juL (imL (thL (thL (seF (laL (seF (neF (juL (juL (laL (seF (spF L 4) 6 0) [115, 116, 101, 112]) 19 3 4 [115, 116, 101, 112, 32, 101, 110, 100]) 17 6 0 [102, 108, 97, 103]) 5) 6 8) [102, 108, 97, 103]) 10 1) 6 14 5 10) 10 5 5 10) 11 6 6 (-1)) 17 14 0 [112, 97, 105, 114]) 14) 14) [115, 116, 101, 112]) [112, 97, 105, 114]) 7) 8) 10 15) 6 9 8 10) 9 9 9 8) 7 7 7 9) 11 7 7 1) 10 8 8 4) 11 8 8 3) 4 14 3 12) 18 14 7 [98, 97, 100, 32, 99, 111, 100, 101]) 4 14 4 3) 18 14 8 [98, 97, 100, 32, 99, 111, 100, 101]) 4 9 3 7) [99, 111, 112, 121]) 16 8 0 [115, 116, 101, 112]) 12 14 9 0) 11 9 9 1) 14) 11 8 8 (-1)) [99, 111, 112, 121]) [115, 116, 101, 112, 32, 101, 110, 100]) 17 1 2 [98, 97, 100, 32, 99, 111, 100, 101]) 4)
theorem rpF_le {L : List It}  {c B : Nat} (h : L.length + (c + 68) ≤ B) : (rpF L ).length + c ≤ B := by
  unfold rpF
  repeat (first | with_reducible refine thL_le ?_ | with_reducible refine imL_le ?_ | with_reducible refine laL_le ?_ | with_reducible refine juL_le ?_ | with_reducible refine moF_le ?_ | with_reducible refine syF_le ?_ | with_reducible refine toF_le ?_ | with_reducible refine seF_le ?_ | with_reducible refine slF_le ?_ | with_reducible refine shF_le ?_ | with_reducible refine neF_le ?_ | with_reducible refine puF_le ?_ | with_reducible refine reF_le ?_ | with_reducible refine haF_le ?_ | with_reducible refine spF_le ?_ | with_reducible refine tuF_le ?_)
  omega
theorem repeats_ok (L : List It) (hL : L.length + 68 ≤ 3000)  : LCall 18 [] L (rpF L ) := by
  intro gb gl
  unfold rpF
  rw [lnB]
  refine gcall_of_tr Try.func18 rfl [] Try.results18 84 rfl (tk_start ?_)
  (repeat refine ka ?_); refine kr ?_ ?_ ?_
  refine ps_lat 0 1 (spans_ok L (by omega) 4 (by omega)) fun g0 => ?_
  refine pops_go ?_ ?_ (pops_end ?_)
  (repeat refine ka ?_); refine kr ?_ ?_ ?_
  refine ps_lat 0 1 (set_ok (spF L 4) (by with_reducible (repeat (first | refine spF_le ?_)); (try simp only [Nat.zero_add]); omega) 6 0 (by omega)) fun g1 => ?_
  refine pops_go ?_ ?_ (pops_end ?_)
  (repeat refine ka ?_); refine kr ?_ ?_ ?_
  refine ps_lat 0 1 (label_ok (seF (spF L 4) 6 0) (by with_reducible (repeat (first | refine seF_le ?_ | refine spF_le ?_)); (try simp only [Nat.zero_add]); omega) [115, 116, 101, 112]) fun g2 => ?_
  refine pops_go ?_ ?_ (pops_end ?_)
  (repeat refine ka ?_); refine kr ?_ ?_ ?_
  refine ps_lat 0 1 (jump_ok (laL (seF (spF L 4) 6 0) [115, 116, 101, 112]) (by with_reducible (repeat (first | refine laL_le ?_ | refine seF_le ?_ | refine spF_le ?_)); (try simp only [Nat.zero_add]); omega) 19 3 4 [115, 116, 101, 112, 32, 101, 110, 100]) fun g3 => ?_
  refine pops_go ?_ ?_ (pops_end ?_)
  (repeat refine ka ?_); refine kr ?_ ?_ ?_
  refine ps_lat 0 1 (jump_ok (juL (laL (seF (spF L 4) 6 0) [115, 116, 101, 112]) 19 3 4 [115, 116, 101, 112, 32, 101, 110, 100]) (by with_reducible (repeat (first | refine laL_le ?_ | refine juL_le ?_ | refine seF_le ?_ | refine spF_le ?_)); (try simp only [Nat.zero_add]); omega) 17 6 0 [102, 108, 97, 103]) fun g4 => ?_
  refine pops_go ?_ ?_ (pops_end ?_)
  (repeat refine ka ?_); refine kr ?_ ?_ ?_
  refine ps_lat 0 1 (next_ok (juL (juL (laL (seF (spF L 4) 6 0) [115, 116, 101, 112]) 19 3 4 [115, 116, 101, 112, 32, 101, 110, 100]) 17 6 0 [102, 108, 97, 103]) (by with_reducible (repeat (first | refine laL_le ?_ | refine juL_le ?_ | refine seF_le ?_ | refine spF_le ?_)); (try simp only [Nat.zero_add]); omega) 5) fun g5 => ?_
  refine pops_go ?_ ?_ (pops_end ?_)
  (repeat refine ka ?_); refine kr ?_ ?_ ?_
  refine ps_lat 0 1 (set_ok (neF (juL (juL (laL (seF (spF L 4) 6 0) [115, 116, 101, 112]) 19 3 4 [115, 116, 101, 112, 32, 101, 110, 100]) 17 6 0 [102, 108, 97, 103]) 5) (by with_reducible (repeat (first | refine laL_le ?_ | refine juL_le ?_ | refine seF_le ?_ | refine neF_le ?_ | refine spF_le ?_)); (try simp only [Nat.zero_add]); omega) 6 8 (by omega)) fun g6 => ?_
  refine pops_go ?_ ?_ (pops_end ?_)
  (repeat refine ka ?_); refine kr ?_ ?_ ?_
  refine ps_lat 0 1 (label_ok (seF (neF (juL (juL (laL (seF (spF L 4) 6 0) [115, 116, 101, 112]) 19 3 4 [115, 116, 101, 112, 32, 101, 110, 100]) 17 6 0 [102, 108, 97, 103]) 5) 6 8) (by with_reducible (repeat (first | refine laL_le ?_ | refine juL_le ?_ | refine seF_le ?_ | refine neF_le ?_ | refine spF_le ?_)); (try simp only [Nat.zero_add]); omega) [102, 108, 97, 103]) fun g7 => ?_
  refine pops_go ?_ ?_ (pops_end ?_)
  (repeat refine ka ?_); refine kr ?_ ?_ ?_
  refine ps_lat 0 1 (set_ok (laL (seF (neF (juL (juL (laL (seF (spF L 4) 6 0) [115, 116, 101, 112]) 19 3 4 [115, 116, 101, 112, 32, 101, 110, 100]) 17 6 0 [102, 108, 97, 103]) 5) 6 8) [102, 108, 97, 103]) (by with_reducible (repeat (first | refine laL_le ?_ | refine juL_le ?_ | refine seF_le ?_ | refine neF_le ?_ | refine spF_le ?_)); (try simp only [Nat.zero_add]); omega) 10 1 (by omega)) fun g8 => ?_
  refine pops_go ?_ ?_ (pops_end ?_)
  (repeat refine ka ?_); refine kr ?_ ?_ ?_
  refine ps_lat 0 1 (three_ok (seF (laL (seF (neF (juL (juL (laL (seF (spF L 4) 6 0) [115, 116, 101, 112]) 19 3 4 [115, 116, 101, 112, 32, 101, 110, 100]) 17 6 0 [102, 108, 97, 103]) 5) 6 8) [102, 108, 97, 103]) 10 1) (by with_reducible (repeat (first | refine laL_le ?_ | refine juL_le ?_ | refine seF_le ?_ | refine neF_le ?_ | refine spF_le ?_)); (try simp only [Nat.zero_add]); omega) 6 14 5 10) fun g9 => ?_
  refine pops_go ?_ ?_ (pops_end ?_)
  (repeat refine ka ?_); refine kr ?_ ?_ ?_
  refine ps_lat 0 1 (three_ok (thL (seF (laL (seF (neF (juL (juL (laL (seF (spF L 4) 6 0) [115, 116, 101, 112]) 19 3 4 [115, 116, 101, 112, 32, 101, 110, 100]) 17 6 0 [102, 108, 97, 103]) 5) 6 8) [102, 108, 97, 103]) 10 1) 6 14 5 10) (by with_reducible (repeat (first | refine thL_le ?_ | refine laL_le ?_ | refine juL_le ?_ | refine seF_le ?_ | refine neF_le ?_ | refine spF_le ?_)); (try simp only [Nat.zero_add]); omega) 10 5 5 10) fun g10 => ?_
  refine pops_go ?_ ?_ (pops_end ?_)
  (repeat refine ka ?_); refine kr ?_ ?_ ?_
  refine ps_lat 0 1 (imm_ok (thL (thL (seF (laL (seF (neF (juL (juL (laL (seF (spF L 4) 6 0) [115, 116, 101, 112]) 19 3 4 [115, 116, 101, 112, 32, 101, 110, 100]) 17 6 0 [102, 108, 97, 103]) 5) 6 8) [102, 108, 97, 103]) 10 1) 6 14 5 10) 10 5 5 10) (by with_reducible (repeat (first | refine thL_le ?_ | refine laL_le ?_ | refine juL_le ?_ | refine seF_le ?_ | refine neF_le ?_ | refine spF_le ?_)); (try simp only [Nat.zero_add]); omega) 11 6 6 (-1)) fun g11 => ?_
  refine pops_go ?_ ?_ (pops_end ?_)
  (repeat refine ka ?_); refine kr ?_ ?_ ?_
  refine ps_lat 0 1 (jump_ok (imL (thL (thL (seF (laL (seF (neF (juL (juL (laL (seF (spF L 4) 6 0) [115, 116, 101, 112]) 19 3 4 [115, 116, 101, 112, 32, 101, 110, 100]) 17 6 0 [102, 108, 97, 103]) 5) 6 8) [102, 108, 97, 103]) 10 1) 6 14 5 10) 10 5 5 10) 11 6 6 (-1)) (by with_reducible (repeat (first | refine thL_le ?_ | refine imL_le ?_ | refine laL_le ?_ | refine juL_le ?_ | refine seF_le ?_ | refine neF_le ?_ | refine spF_le ?_)); (try simp only [Nat.zero_add]); omega) 17 14 0 [112, 97, 105, 114]) fun g12 => ?_
  refine pops_go ?_ ?_ (pops_end ?_)
  (repeat refine ka ?_); refine kr ?_ ?_ ?_
  refine ps_lat 0 1 (next_ok (juL (imL (thL (thL (seF (laL (seF (neF (juL (juL (laL (seF (spF L 4) 6 0) [115, 116, 101, 112]) 19 3 4 [115, 116, 101, 112, 32, 101, 110, 100]) 17 6 0 [102, 108, 97, 103]) 5) 6 8) [102, 108, 97, 103]) 10 1) 6 14 5 10) 10 5 5 10) 11 6 6 (-1)) 17 14 0 [112, 97, 105, 114]) (by with_reducible (repeat (first | refine thL_le ?_ | refine imL_le ?_ | refine laL_le ?_ | refine juL_le ?_ | refine seF_le ?_ | refine neF_le ?_ | refine spF_le ?_)); (try simp only [Nat.zero_add]); omega) 14) fun g13 => ?_
  refine pops_go ?_ ?_ (pops_end ?_)
  (repeat refine ka ?_); refine kr ?_ ?_ ?_
  refine ps_lat 0 1 (put_ok (neF (juL (imL (thL (thL (seF (laL (seF (neF (juL (juL (laL (seF (spF L 4) 6 0) [115, 116, 101, 112]) 19 3 4 [115, 116, 101, 112, 32, 101, 110, 100]) 17 6 0 [102, 108, 97, 103]) 5) 6 8) [102, 108, 97, 103]) 10 1) 6 14 5 10) 10 5 5 10) 11 6 6 (-1)) 17 14 0 [112, 97, 105, 114]) 14) (by with_reducible (repeat (first | refine thL_le ?_ | refine imL_le ?_ | refine laL_le ?_ | refine juL_le ?_ | refine seF_le ?_ | refine neF_le ?_ | refine spF_le ?_)); (try simp only [Nat.zero_add]); omega) 14) fun g14 => ?_
  refine pops_go ?_ ?_ (pops_end ?_)
  (repeat refine ka ?_); refine kr ?_ ?_ ?_
  refine ps_lat 0 1 (to_ok (puF (neF (juL (imL (thL (thL (seF (laL (seF (neF (juL (juL (laL (seF (spF L 4) 6 0) [115, 116, 101, 112]) 19 3 4 [115, 116, 101, 112, 32, 101, 110, 100]) 17 6 0 [102, 108, 97, 103]) 5) 6 8) [102, 108, 97, 103]) 10 1) 6 14 5 10) 10 5 5 10) 11 6 6 (-1)) 17 14 0 [112, 97, 105, 114]) 14) 14) (by with_reducible (repeat (first | refine thL_le ?_ | refine imL_le ?_ | refine laL_le ?_ | refine juL_le ?_ | refine seF_le ?_ | refine neF_le ?_ | refine puF_le ?_ | refine spF_le ?_)); (try simp only [Nat.zero_add]); omega) [115, 116, 101, 112]) fun g15 => ?_
  refine pops_go ?_ ?_ (pops_end ?_)
  (repeat refine ka ?_); refine kr ?_ ?_ ?_
  refine ps_lat 0 1 (label_ok (toF (puF (neF (juL (imL (thL (thL (seF (laL (seF (neF (juL (juL (laL (seF (spF L 4) 6 0) [115, 116, 101, 112]) 19 3 4 [115, 116, 101, 112, 32, 101, 110, 100]) 17 6 0 [102, 108, 97, 103]) 5) 6 8) [102, 108, 97, 103]) 10 1) 6 14 5 10) 10 5 5 10) 11 6 6 (-1)) 17 14 0 [112, 97, 105, 114]) 14) 14) [115, 116, 101, 112]) (by with_reducible (repeat (first | refine thL_le ?_ | refine imL_le ?_ | refine laL_le ?_ | refine juL_le ?_ | refine toF_le ?_ | refine seF_le ?_ | refine neF_le ?_ | refine puF_le ?_ | refine spF_le ?_)); (try simp only [Nat.zero_add]); omega) [112, 97, 105, 114]) fun g16 => ?_
  refine pops_go ?_ ?_ (pops_end ?_)
  (repeat refine ka ?_); refine kr ?_ ?_ ?_
  refine ps_lat 0 1 (next_ok (laL (toF (puF (neF (juL (imL (thL (thL (seF (laL (seF (neF (juL (juL (laL (seF (spF L 4) 6 0) [115, 116, 101, 112]) 19 3 4 [115, 116, 101, 112, 32, 101, 110, 100]) 17 6 0 [102, 108, 97, 103]) 5) 6 8) [102, 108, 97, 103]) 10 1) 6 14 5 10) 10 5 5 10) 11 6 6 (-1)) 17 14 0 [112, 97, 105, 114]) 14) 14) [115, 116, 101, 112]) [112, 97, 105, 114]) (by with_reducible (repeat (first | refine thL_le ?_ | refine imL_le ?_ | refine laL_le ?_ | refine juL_le ?_ | refine toF_le ?_ | refine seF_le ?_ | refine neF_le ?_ | refine puF_le ?_ | refine spF_le ?_)); (try simp only [Nat.zero_add]); omega) 7) fun g17 => ?_
  refine pops_go ?_ ?_ (pops_end ?_)
  (repeat refine ka ?_); refine kr ?_ ?_ ?_
  refine ps_lat 0 1 (next_ok (neF (laL (toF (puF (neF (juL (imL (thL (thL (seF (laL (seF (neF (juL (juL (laL (seF (spF L 4) 6 0) [115, 116, 101, 112]) 19 3 4 [115, 116, 101, 112, 32, 101, 110, 100]) 17 6 0 [102, 108, 97, 103]) 5) 6 8) [102, 108, 97, 103]) 10 1) 6 14 5 10) 10 5 5 10) 11 6 6 (-1)) 17 14 0 [112, 97, 105, 114]) 14) 14) [115, 116, 101, 112]) [112, 97, 105, 114]) 7) (by with_reducible (repeat (first | refine thL_le ?_ | refine imL_le ?_ | refine laL_le ?_ | refine juL_le ?_ | refine toF_le ?_ | refine seF_le ?_ | refine neF_le ?_ | refine puF_le ?_ | refine spF_le ?_)); (try simp only [Nat.zero_add]); omega) 8) fun g18 => ?_
  refine pops_go ?_ ?_ (pops_end ?_)
  (repeat refine ka ?_); refine kr ?_ ?_ ?_
  refine ps_lat 0 1 (set_ok (neF (neF (laL (toF (puF (neF (juL (imL (thL (thL (seF (laL (seF (neF (juL (juL (laL (seF (spF L 4) 6 0) [115, 116, 101, 112]) 19 3 4 [115, 116, 101, 112, 32, 101, 110, 100]) 17 6 0 [102, 108, 97, 103]) 5) 6 8) [102, 108, 97, 103]) 10 1) 6 14 5 10) 10 5 5 10) 11 6 6 (-1)) 17 14 0 [112, 97, 105, 114]) 14) 14) [115, 116, 101, 112]) [112, 97, 105, 114]) 7) 8) (by with_reducible (repeat (first | refine thL_le ?_ | refine imL_le ?_ | refine laL_le ?_ | refine juL_le ?_ | refine toF_le ?_ | refine seF_le ?_ | refine neF_le ?_ | refine puF_le ?_ | refine spF_le ?_)); (try simp only [Nat.zero_add]); omega) 10 15 (by omega)) fun g19 => ?_
  refine pops_go ?_ ?_ (pops_end ?_)
  (repeat refine ka ?_); refine kr ?_ ?_ ?_
  refine ps_lat 0 1 (three_ok (seF (neF (neF (laL (toF (puF (neF (juL (imL (thL (thL (seF (laL (seF (neF (juL (juL (laL (seF (spF L 4) 6 0) [115, 116, 101, 112]) 19 3 4 [115, 116, 101, 112, 32, 101, 110, 100]) 17 6 0 [102, 108, 97, 103]) 5) 6 8) [102, 108, 97, 103]) 10 1) 6 14 5 10) 10 5 5 10) 11 6 6 (-1)) 17 14 0 [112, 97, 105, 114]) 14) 14) [115, 116, 101, 112]) [112, 97, 105, 114]) 7) 8) 10 15) (by with_reducible (repeat (first | refine thL_le ?_ | refine imL_le ?_ | refine laL_le ?_ | refine juL_le ?_ | refine toF_le ?_ | refine seF_le ?_ | refine neF_le ?_ | refine puF_le ?_ | refine spF_le ?_)); (try simp only [Nat.zero_add]); omega) 6 9 8 10) fun g20 => ?_
  refine pops_go ?_ ?_ (pops_end ?_)
  (repeat refine ka ?_); refine kr ?_ ?_ ?_
  refine ps_lat 0 1 (shift_ok (thL (seF (neF (neF (laL (toF (puF (neF (juL (imL (thL (thL (seF (laL (seF (neF (juL (juL (laL (seF (spF L 4) 6 0) [115, 116, 101, 112]) 19 3 4 [115, 116, 101, 112, 32, 101, 110, 100]) 17 6 0 [102, 108, 97, 103]) 5) 6 8) [102, 108, 97, 103]) 10 1) 6 14 5 10) 10 5 5 10) 11 6 6 (-1)) 17 14 0 [112, 97, 105, 114]) 14) 14) [115, 116, 101, 112]) [112, 97, 105, 114]) 7) 8) 10 15) 6 9 8 10) (by with_reducible (repeat (first | refine thL_le ?_ | refine imL_le ?_ | refine laL_le ?_ | refine juL_le ?_ | refine toF_le ?_ | refine seF_le ?_ | refine neF_le ?_ | refine puF_le ?_ | refine spF_le ?_)); (try simp only [Nat.zero_add]); omega) 9 9 9 8 (by omega)) fun g21 => ?_
  refine pops_go ?_ ?_ (pops_end ?_)
  (repeat refine ka ?_); refine kr ?_ ?_ ?_
  refine ps_lat 0 1 (three_ok (shF (thL (seF (neF (neF (laL (toF (puF (neF (juL (imL (thL (thL (seF (laL (seF (neF (juL (juL (laL (seF (spF L 4) 6 0) [115, 116, 101, 112]) 19 3 4 [115, 116, 101, 112, 32, 101, 110, 100]) 17 6 0 [102, 108, 97, 103]) 5) 6 8) [102, 108, 97, 103]) 10 1) 6 14 5 10) 10 5 5 10) 11 6 6 (-1)) 17 14 0 [112, 97, 105, 114]) 14) 14) [115, 116, 101, 112]) [112, 97, 105, 114]) 7) 8) 10 15) 6 9 8 10) 9 9 9 8) (by with_reducible (repeat (first | refine thL_le ?_ | refine imL_le ?_ | refine laL_le ?_ | refine juL_le ?_ | refine toF_le ?_ | refine seF_le ?_ | refine shF_le ?_ | refine neF_le ?_ | refine puF_le ?_ | refine spF_le ?_)); (try simp only [Nat.zero_add]); omega) 7 7 7 9) fun g22 => ?_
  refine pops_go ?_ ?_ (pops_end ?_)
  (repeat refine ka ?_); refine kr ?_ ?_ ?_
  refine ps_lat 0 1 (imm_ok (thL (shF (thL (seF (neF (neF (laL (toF (puF (neF (juL (imL (thL (thL (seF (laL (seF (neF (juL (juL (laL (seF (spF L 4) 6 0) [115, 116, 101, 112]) 19 3 4 [115, 116, 101, 112, 32, 101, 110, 100]) 17 6 0 [102, 108, 97, 103]) 5) 6 8) [102, 108, 97, 103]) 10 1) 6 14 5 10) 10 5 5 10) 11 6 6 (-1)) 17 14 0 [112, 97, 105, 114]) 14) 14) [115, 116, 101, 112]) [112, 97, 105, 114]) 7) 8) 10 15) 6 9 8 10) 9 9 9 8) 7 7 7 9) (by with_reducible (repeat (first | refine thL_le ?_ | refine imL_le ?_ | refine laL_le ?_ | refine juL_le ?_ | refine toF_le ?_ | refine seF_le ?_ | refine shF_le ?_ | refine neF_le ?_ | refine puF_le ?_ | refine spF_le ?_)); (try simp only [Nat.zero_add]); omega) 11 7 7 1) fun g23 => ?_
  refine pops_go ?_ ?_ (pops_end ?_)
  (repeat refine ka ?_); refine kr ?_ ?_ ?_
  refine ps_lat 0 1 (shift_ok (imL (thL (shF (thL (seF (neF (neF (laL (toF (puF (neF (juL (imL (thL (thL (seF (laL (seF (neF (juL (juL (laL (seF (spF L 4) 6 0) [115, 116, 101, 112]) 19 3 4 [115, 116, 101, 112, 32, 101, 110, 100]) 17 6 0 [102, 108, 97, 103]) 5) 6 8) [102, 108, 97, 103]) 10 1) 6 14 5 10) 10 5 5 10) 11 6 6 (-1)) 17 14 0 [112, 97, 105, 114]) 14) 14) [115, 116, 101, 112]) [112, 97, 105, 114]) 7) 8) 10 15) 6 9 8 10) 9 9 9 8) 7 7 7 9) 11 7 7 1) (by with_reducible (repeat (first | refine thL_le ?_ | refine imL_le ?_ | refine laL_le ?_ | refine juL_le ?_ | refine toF_le ?_ | refine seF_le ?_ | refine shF_le ?_ | refine neF_le ?_ | refine puF_le ?_ | refine spF_le ?_)); (try simp only [Nat.zero_add]); omega) 10 8 8 4 (by omega)) fun g24 => ?_
  refine pops_go ?_ ?_ (pops_end ?_)
  (repeat refine ka ?_); refine kr ?_ ?_ ?_
  refine ps_lat 0 1 (imm_ok (shF (imL (thL (shF (thL (seF (neF (neF (laL (toF (puF (neF (juL (imL (thL (thL (seF (laL (seF (neF (juL (juL (laL (seF (spF L 4) 6 0) [115, 116, 101, 112]) 19 3 4 [115, 116, 101, 112, 32, 101, 110, 100]) 17 6 0 [102, 108, 97, 103]) 5) 6 8) [102, 108, 97, 103]) 10 1) 6 14 5 10) 10 5 5 10) 11 6 6 (-1)) 17 14 0 [112, 97, 105, 114]) 14) 14) [115, 116, 101, 112]) [112, 97, 105, 114]) 7) 8) 10 15) 6 9 8 10) 9 9 9 8) 7 7 7 9) 11 7 7 1) 10 8 8 4) (by with_reducible (repeat (first | refine thL_le ?_ | refine imL_le ?_ | refine laL_le ?_ | refine juL_le ?_ | refine toF_le ?_ | refine seF_le ?_ | refine shF_le ?_ | refine neF_le ?_ | refine puF_le ?_ | refine spF_le ?_)); (try simp only [Nat.zero_add]); omega) 11 8 8 3) fun g25 => ?_
  refine pops_go ?_ ?_ (pops_end ?_)
  (repeat refine ka ?_); refine kr ?_ ?_ ?_
  refine ps_lat 0 1 (three_ok (imL (shF (imL (thL (shF (thL (seF (neF (neF (laL (toF (puF (neF (juL (imL (thL (thL (seF (laL (seF (neF (juL (juL (laL (seF (spF L 4) 6 0) [115, 116, 101, 112]) 19 3 4 [115, 116, 101, 112, 32, 101, 110, 100]) 17 6 0 [102, 108, 97, 103]) 5) 6 8) [102, 108, 97, 103]) 10 1) 6 14 5 10) 10 5 5 10) 11 6 6 (-1)) 17 14 0 [112, 97, 105, 114]) 14) 14) [115, 116, 101, 112]) [112, 97, 105, 114]) 7) 8) 10 15) 6 9 8 10) 9 9 9 8) 7 7 7 9) 11 7 7 1) 10 8 8 4) 11 8 8 3) (by with_reducible (repeat (first | refine thL_le ?_ | refine imL_le ?_ | refine laL_le ?_ | refine juL_le ?_ | refine toF_le ?_ | refine seF_le ?_ | refine shF_le ?_ | refine neF_le ?_ | refine puF_le ?_ | refine spF_le ?_)); (try simp only [Nat.zero_add]); omega) 4 14 3 12) fun g26 => ?_
  refine pops_go ?_ ?_ (pops_end ?_)
  (repeat refine ka ?_); refine kr ?_ ?_ ?_
  refine ps_lat 0 1 (jump_ok (thL (imL (shF (imL (thL (shF (thL (seF (neF (neF (laL (toF (puF (neF (juL (imL (thL (thL (seF (laL (seF (neF (juL (juL (laL (seF (spF L 4) 6 0) [115, 116, 101, 112]) 19 3 4 [115, 116, 101, 112, 32, 101, 110, 100]) 17 6 0 [102, 108, 97, 103]) 5) 6 8) [102, 108, 97, 103]) 10 1) 6 14 5 10) 10 5 5 10) 11 6 6 (-1)) 17 14 0 [112, 97, 105, 114]) 14) 14) [115, 116, 101, 112]) [112, 97, 105, 114]) 7) 8) 10 15) 6 9 8 10) 9 9 9 8) 7 7 7 9) 11 7 7 1) 10 8 8 4) 11 8 8 3) 4 14 3 12) (by with_reducible (repeat (first | refine thL_le ?_ | refine imL_le ?_ | refine laL_le ?_ | refine juL_le ?_ | refine toF_le ?_ | refine seF_le ?_ | refine shF_le ?_ | refine neF_le ?_ | refine puF_le ?_ | refine spF_le ?_)); (try simp only [Nat.zero_add]); omega) 18 14 7 [98, 97, 100, 32, 99, 111, 100, 101]) fun g27 => ?_
  refine pops_go ?_ ?_ (pops_end ?_)
  (repeat refine ka ?_); refine kr ?_ ?_ ?_
  refine ps_lat 0 1 (three_ok (juL (thL (imL (shF (imL (thL (shF (thL (seF (neF (neF (laL (toF (puF (neF (juL (imL (thL (thL (seF (laL (seF (neF (juL (juL (laL (seF (spF L 4) 6 0) [115, 116, 101, 112]) 19 3 4 [115, 116, 101, 112, 32, 101, 110, 100]) 17 6 0 [102, 108, 97, 103]) 5) 6 8) [102, 108, 97, 103]) 10 1) 6 14 5 10) 10 5 5 10) 11 6 6 (-1)) 17 14 0 [112, 97, 105, 114]) 14) 14) [115, 116, 101, 112]) [112, 97, 105, 114]) 7) 8) 10 15) 6 9 8 10) 9 9 9 8) 7 7 7 9) 11 7 7 1) 10 8 8 4) 11 8 8 3) 4 14 3 12) 18 14 7 [98, 97, 100, 32, 99, 111, 100, 101]) (by with_reducible (repeat (first | refine thL_le ?_ | refine imL_le ?_ | refine laL_le ?_ | refine juL_le ?_ | refine toF_le ?_ | refine seF_le ?_ | refine shF_le ?_ | refine neF_le ?_ | refine puF_le ?_ | refine spF_le ?_)); (try simp only [Nat.zero_add]); omega) 4 14 4 3) fun g28 => ?_
  refine pops_go ?_ ?_ (pops_end ?_)
  (repeat refine ka ?_); refine kr ?_ ?_ ?_
  refine ps_lat 0 1 (jump_ok (thL (juL (thL (imL (shF (imL (thL (shF (thL (seF (neF (neF (laL (toF (puF (neF (juL (imL (thL (thL (seF (laL (seF (neF (juL (juL (laL (seF (spF L 4) 6 0) [115, 116, 101, 112]) 19 3 4 [115, 116, 101, 112, 32, 101, 110, 100]) 17 6 0 [102, 108, 97, 103]) 5) 6 8) [102, 108, 97, 103]) 10 1) 6 14 5 10) 10 5 5 10) 11 6 6 (-1)) 17 14 0 [112, 97, 105, 114]) 14) 14) [115, 116, 101, 112]) [112, 97, 105, 114]) 7) 8) 10 15) 6 9 8 10) 9 9 9 8) 7 7 7 9) 11 7 7 1) 10 8 8 4) 11 8 8 3) 4 14 3 12) 18 14 7 [98, 97, 100, 32, 99, 111, 100, 101]) 4 14 4 3) (by with_reducible (repeat (first | refine thL_le ?_ | refine imL_le ?_ | refine laL_le ?_ | refine juL_le ?_ | refine toF_le ?_ | refine seF_le ?_ | refine shF_le ?_ | refine neF_le ?_ | refine puF_le ?_ | refine spF_le ?_)); (try simp only [Nat.zero_add]); omega) 18 14 8 [98, 97, 100, 32, 99, 111, 100, 101]) fun g29 => ?_
  refine pops_go ?_ ?_ (pops_end ?_)
  (repeat refine ka ?_); refine kr ?_ ?_ ?_
  refine ps_lat 0 1 (three_ok (juL (thL (juL (thL (imL (shF (imL (thL (shF (thL (seF (neF (neF (laL (toF (puF (neF (juL (imL (thL (thL (seF (laL (seF (neF (juL (juL (laL (seF (spF L 4) 6 0) [115, 116, 101, 112]) 19 3 4 [115, 116, 101, 112, 32, 101, 110, 100]) 17 6 0 [102, 108, 97, 103]) 5) 6 8) [102, 108, 97, 103]) 10 1) 6 14 5 10) 10 5 5 10) 11 6 6 (-1)) 17 14 0 [112, 97, 105, 114]) 14) 14) [115, 116, 101, 112]) [112, 97, 105, 114]) 7) 8) 10 15) 6 9 8 10) 9 9 9 8) 7 7 7 9) 11 7 7 1) 10 8 8 4) 11 8 8 3) 4 14 3 12) 18 14 7 [98, 97, 100, 32, 99, 111, 100, 101]) 4 14 4 3) 18 14 8 [98, 97, 100, 32, 99, 111, 100, 101]) (by with_reducible (repeat (first | refine thL_le ?_ | refine imL_le ?_ | refine laL_le ?_ | refine juL_le ?_ | refine toF_le ?_ | refine seF_le ?_ | refine shF_le ?_ | refine neF_le ?_ | refine puF_le ?_ | refine spF_le ?_)); (try simp only [Nat.zero_add]); omega) 4 9 3 7) fun g30 => ?_
  refine pops_go ?_ ?_ (pops_end ?_)
  (repeat refine ka ?_); refine kr ?_ ?_ ?_
  refine ps_lat 0 1 (label_ok (thL (juL (thL (juL (thL (imL (shF (imL (thL (shF (thL (seF (neF (neF (laL (toF (puF (neF (juL (imL (thL (thL (seF (laL (seF (neF (juL (juL (laL (seF (spF L 4) 6 0) [115, 116, 101, 112]) 19 3 4 [115, 116, 101, 112, 32, 101, 110, 100]) 17 6 0 [102, 108, 97, 103]) 5) 6 8) [102, 108, 97, 103]) 10 1) 6 14 5 10) 10 5 5 10) 11 6 6 (-1)) 17 14 0 [112, 97, 105, 114]) 14) 14) [115, 116, 101, 112]) [112, 97, 105, 114]) 7) 8) 10 15) 6 9 8 10) 9 9 9 8) 7 7 7 9) 11 7 7 1) 10 8 8 4) 11 8 8 3) 4 14 3 12) 18 14 7 [98, 97, 100, 32, 99, 111, 100, 101]) 4 14 4 3) 18 14 8 [98, 97, 100, 32, 99, 111, 100, 101]) 4 9 3 7) (by with_reducible (repeat (first | refine thL_le ?_ | refine imL_le ?_ | refine laL_le ?_ | refine juL_le ?_ | refine toF_le ?_ | refine seF_le ?_ | refine shF_le ?_ | refine neF_le ?_ | refine puF_le ?_ | refine spF_le ?_)); (try simp only [Nat.zero_add]); omega) [99, 111, 112, 121]) fun g31 => ?_
  refine pops_go ?_ ?_ (pops_end ?_)
  (repeat refine ka ?_); refine kr ?_ ?_ ?_
  refine ps_lat 0 1 (jump_ok (laL (thL (juL (thL (juL (thL (imL (shF (imL (thL (shF (thL (seF (neF (neF (laL (toF (puF (neF (juL (imL (thL (thL (seF (laL (seF (neF (juL (juL (laL (seF (spF L 4) 6 0) [115, 116, 101, 112]) 19 3 4 [115, 116, 101, 112, 32, 101, 110, 100]) 17 6 0 [102, 108, 97, 103]) 5) 6 8) [102, 108, 97, 103]) 10 1) 6 14 5 10) 10 5 5 10) 11 6 6 (-1)) 17 14 0 [112, 97, 105, 114]) 14) 14) [115, 116, 101, 112]) [112, 97, 105, 114]) 7) 8) 10 15) 6 9 8 10) 9 9 9 8) 7 7 7 9) 11 7 7 1) 10 8 8 4) 11 8 8 3) 4 14 3 12) 18 14 7 [98, 97, 100, 32, 99, 111, 100, 101]) 4 14 4 3) 18 14 8 [98, 97, 100, 32, 99, 111, 100, 101]) 4 9 3 7) [99, 111, 112, 121]) (by with_reducible (repeat (first | refine thL_le ?_ | refine imL_le ?_ | refine laL_le ?_ | refine juL_le ?_ | refine toF_le ?_ | refine seF_le ?_ | refine shF_le ?_ | refine neF_le ?_ | refine puF_le ?_ | refine spF_le ?_)); (try simp only [Nat.zero_add]); omega) 16 8 0 [115, 116, 101, 112]) fun g32 => ?_
  refine pops_go ?_ ?_ (pops_end ?_)
  (repeat refine ka ?_); refine kr ?_ ?_ ?_
  refine ps_lat 0 1 (imm_ok (juL (laL (thL (juL (thL (juL (thL (imL (shF (imL (thL (shF (thL (seF (neF (neF (laL (toF (puF (neF (juL (imL (thL (thL (seF (laL (seF (neF (juL (juL (laL (seF (spF L 4) 6 0) [115, 116, 101, 112]) 19 3 4 [115, 116, 101, 112, 32, 101, 110, 100]) 17 6 0 [102, 108, 97, 103]) 5) 6 8) [102, 108, 97, 103]) 10 1) 6 14 5 10) 10 5 5 10) 11 6 6 (-1)) 17 14 0 [112, 97, 105, 114]) 14) 14) [115, 116, 101, 112]) [112, 97, 105, 114]) 7) 8) 10 15) 6 9 8 10) 9 9 9 8) 7 7 7 9) 11 7 7 1) 10 8 8 4) 11 8 8 3) 4 14 3 12) 18 14 7 [98, 97, 100, 32, 99, 111, 100, 101]) 4 14 4 3) 18 14 8 [98, 97, 100, 32, 99, 111, 100, 101]) 4 9 3 7) [99, 111, 112, 121]) 16 8 0 [115, 116, 101, 112]) (by with_reducible (repeat (first | refine thL_le ?_ | refine imL_le ?_ | refine laL_le ?_ | refine juL_le ?_ | refine toF_le ?_ | refine seF_le ?_ | refine shF_le ?_ | refine neF_le ?_ | refine puF_le ?_ | refine spF_le ?_)); (try simp only [Nat.zero_add]); omega) 12 14 9 0) fun g33 => ?_
  refine pops_go ?_ ?_ (pops_end ?_)
  (repeat refine ka ?_); refine kr ?_ ?_ ?_
  refine ps_lat 0 1 (imm_ok (imL (juL (laL (thL (juL (thL (juL (thL (imL (shF (imL (thL (shF (thL (seF (neF (neF (laL (toF (puF (neF (juL (imL (thL (thL (seF (laL (seF (neF (juL (juL (laL (seF (spF L 4) 6 0) [115, 116, 101, 112]) 19 3 4 [115, 116, 101, 112, 32, 101, 110, 100]) 17 6 0 [102, 108, 97, 103]) 5) 6 8) [102, 108, 97, 103]) 10 1) 6 14 5 10) 10 5 5 10) 11 6 6 (-1)) 17 14 0 [112, 97, 105, 114]) 14) 14) [115, 116, 101, 112]) [112, 97, 105, 114]) 7) 8) 10 15) 6 9 8 10) 9 9 9 8) 7 7 7 9) 11 7 7 1) 10 8 8 4) 11 8 8 3) 4 14 3 12) 18 14 7 [98, 97, 100, 32, 99, 111, 100, 101]) 4 14 4 3) 18 14 8 [98, 97, 100, 32, 99, 111, 100, 101]) 4 9 3 7) [99, 111, 112, 121]) 16 8 0 [115, 116, 101, 112]) 12 14 9 0) (by with_reducible (repeat (first | refine thL_le ?_ | refine imL_le ?_ | refine laL_le ?_ | refine juL_le ?_ | refine toF_le ?_ | refine seF_le ?_ | refine shF_le ?_ | refine neF_le ?_ | refine puF_le ?_ | refine spF_le ?_)); (try simp only [Nat.zero_add]); omega) 11 9 9 1) fun g34 => ?_
  refine pops_go ?_ ?_ (pops_end ?_)
  (repeat refine ka ?_); refine kr ?_ ?_ ?_
  refine ps_lat 0 1 (put_ok (imL (imL (juL (laL (thL (juL (thL (juL (thL (imL (shF (imL (thL (shF (thL (seF (neF (neF (laL (toF (puF (neF (juL (imL (thL (thL (seF (laL (seF (neF (juL (juL (laL (seF (spF L 4) 6 0) [115, 116, 101, 112]) 19 3 4 [115, 116, 101, 112, 32, 101, 110, 100]) 17 6 0 [102, 108, 97, 103]) 5) 6 8) [102, 108, 97, 103]) 10 1) 6 14 5 10) 10 5 5 10) 11 6 6 (-1)) 17 14 0 [112, 97, 105, 114]) 14) 14) [115, 116, 101, 112]) [112, 97, 105, 114]) 7) 8) 10 15) 6 9 8 10) 9 9 9 8) 7 7 7 9) 11 7 7 1) 10 8 8 4) 11 8 8 3) 4 14 3 12) 18 14 7 [98, 97, 100, 32, 99, 111, 100, 101]) 4 14 4 3) 18 14 8 [98, 97, 100, 32, 99, 111, 100, 101]) 4 9 3 7) [99, 111, 112, 121]) 16 8 0 [115, 116, 101, 112]) 12 14 9 0) 11 9 9 1) (by with_reducible (repeat (first | refine thL_le ?_ | refine imL_le ?_ | refine laL_le ?_ | refine juL_le ?_ | refine toF_le ?_ | refine seF_le ?_ | refine shF_le ?_ | refine neF_le ?_ | refine puF_le ?_ | refine spF_le ?_)); (try simp only [Nat.zero_add]); omega) 14) fun g35 => ?_
  refine pops_go ?_ ?_ (pops_end ?_)
  (repeat refine ka ?_); refine kr ?_ ?_ ?_
  refine ps_lat 0 1 (imm_ok (puF (imL (imL (juL (laL (thL (juL (thL (juL (thL (imL (shF (imL (thL (shF (thL (seF (neF (neF (laL (toF (puF (neF (juL (imL (thL (thL (seF (laL (seF (neF (juL (juL (laL (seF (spF L 4) 6 0) [115, 116, 101, 112]) 19 3 4 [115, 116, 101, 112, 32, 101, 110, 100]) 17 6 0 [102, 108, 97, 103]) 5) 6 8) [102, 108, 97, 103]) 10 1) 6 14 5 10) 10 5 5 10) 11 6 6 (-1)) 17 14 0 [112, 97, 105, 114]) 14) 14) [115, 116, 101, 112]) [112, 97, 105, 114]) 7) 8) 10 15) 6 9 8 10) 9 9 9 8) 7 7 7 9) 11 7 7 1) 10 8 8 4) 11 8 8 3) 4 14 3 12) 18 14 7 [98, 97, 100, 32, 99, 111, 100, 101]) 4 14 4 3) 18 14 8 [98, 97, 100, 32, 99, 111, 100, 101]) 4 9 3 7) [99, 111, 112, 121]) 16 8 0 [115, 116, 101, 112]) 12 14 9 0) 11 9 9 1) 14) (by with_reducible (repeat (first | refine thL_le ?_ | refine imL_le ?_ | refine laL_le ?_ | refine juL_le ?_ | refine toF_le ?_ | refine seF_le ?_ | refine shF_le ?_ | refine neF_le ?_ | refine puF_le ?_ | refine spF_le ?_)); (try simp only [Nat.zero_add]); omega) 11 8 8 (-1)) fun g36 => ?_
  refine pops_go ?_ ?_ (pops_end ?_)
  (repeat refine ka ?_); refine kr ?_ ?_ ?_
  refine ps_lat 0 1 (to_ok (imL (puF (imL (imL (juL (laL (thL (juL (thL (juL (thL (imL (shF (imL (thL (shF (thL (seF (neF (neF (laL (toF (puF (neF (juL (imL (thL (thL (seF (laL (seF (neF (juL (juL (laL (seF (spF L 4) 6 0) [115, 116, 101, 112]) 19 3 4 [115, 116, 101, 112, 32, 101, 110, 100]) 17 6 0 [102, 108, 97, 103]) 5) 6 8) [102, 108, 97, 103]) 10 1) 6 14 5 10) 10 5 5 10) 11 6 6 (-1)) 17 14 0 [112, 97, 105, 114]) 14) 14) [115, 116, 101, 112]) [112, 97, 105, 114]) 7) 8) 10 15) 6 9 8 10) 9 9 9 8) 7 7 7 9) 11 7 7 1) 10 8 8 4) 11 8 8 3) 4 14 3 12) 18 14 7 [98, 97, 100, 32, 99, 111, 100, 101]) 4 14 4 3) 18 14 8 [98, 97, 100, 32, 99, 111, 100, 101]) 4 9 3 7) [99, 111, 112, 121]) 16 8 0 [115, 116, 101, 112]) 12 14 9 0) 11 9 9 1) 14) 11 8 8 (-1)) (by with_reducible (repeat (first | refine thL_le ?_ | refine imL_le ?_ | refine laL_le ?_ | refine juL_le ?_ | refine toF_le ?_ | refine seF_le ?_ | refine shF_le ?_ | refine neF_le ?_ | refine puF_le ?_ | refine spF_le ?_)); (try simp only [Nat.zero_add]); omega) [99, 111, 112, 121]) fun g37 => ?_
  refine pops_go ?_ ?_ (pops_end ?_)
  (repeat refine ka ?_); refine kr ?_ ?_ ?_
  refine ps_lat 0 1 (label_ok (toF (imL (puF (imL (imL (juL (laL (thL (juL (thL (juL (thL (imL (shF (imL (thL (shF (thL (seF (neF (neF (laL (toF (puF (neF (juL (imL (thL (thL (seF (laL (seF (neF (juL (juL (laL (seF (spF L 4) 6 0) [115, 116, 101, 112]) 19 3 4 [115, 116, 101, 112, 32, 101, 110, 100]) 17 6 0 [102, 108, 97, 103]) 5) 6 8) [102, 108, 97, 103]) 10 1) 6 14 5 10) 10 5 5 10) 11 6 6 (-1)) 17 14 0 [112, 97, 105, 114]) 14) 14) [115, 116, 101, 112]) [112, 97, 105, 114]) 7) 8) 10 15) 6 9 8 10) 9 9 9 8) 7 7 7 9) 11 7 7 1) 10 8 8 4) 11 8 8 3) 4 14 3 12) 18 14 7 [98, 97, 100, 32, 99, 111, 100, 101]) 4 14 4 3) 18 14 8 [98, 97, 100, 32, 99, 111, 100, 101]) 4 9 3 7) [99, 111, 112, 121]) 16 8 0 [115, 116, 101, 112]) 12 14 9 0) 11 9 9 1) 14) 11 8 8 (-1)) [99, 111, 112, 121]) (by with_reducible (repeat (first | refine thL_le ?_ | refine imL_le ?_ | refine laL_le ?_ | refine juL_le ?_ | refine toF_le ?_ | refine seF_le ?_ | refine shF_le ?_ | refine neF_le ?_ | refine puF_le ?_ | refine spF_le ?_)); (try simp only [Nat.zero_add]); omega) [115, 116, 101, 112, 32, 101, 110, 100]) fun g38 => ?_
  refine pops_go ?_ ?_ (pops_end ?_)
  (repeat refine ka ?_); refine kr ?_ ?_ ?_
  refine ps_lat 0 1 (jump_ok (laL (toF (imL (puF (imL (imL (juL (laL (thL (juL (thL (juL (thL (imL (shF (imL (thL (shF (thL (seF (neF (neF (laL (toF (puF (neF (juL (imL (thL (thL (seF (laL (seF (neF (juL (juL (laL (seF (spF L 4) 6 0) [115, 116, 101, 112]) 19 3 4 [115, 116, 101, 112, 32, 101, 110, 100]) 17 6 0 [102, 108, 97, 103]) 5) 6 8) [102, 108, 97, 103]) 10 1) 6 14 5 10) 10 5 5 10) 11 6 6 (-1)) 17 14 0 [112, 97, 105, 114]) 14) 14) [115, 116, 101, 112]) [112, 97, 105, 114]) 7) 8) 10 15) 6 9 8 10) 9 9 9 8) 7 7 7 9) 11 7 7 1) 10 8 8 4) 11 8 8 3) 4 14 3 12) 18 14 7 [98, 97, 100, 32, 99, 111, 100, 101]) 4 14 4 3) 18 14 8 [98, 97, 100, 32, 99, 111, 100, 101]) 4 9 3 7) [99, 111, 112, 121]) 16 8 0 [115, 116, 101, 112]) 12 14 9 0) 11 9 9 1) 14) 11 8 8 (-1)) [99, 111, 112, 121]) [115, 116, 101, 112, 32, 101, 110, 100]) (by with_reducible (repeat (first | refine thL_le ?_ | refine imL_le ?_ | refine laL_le ?_ | refine juL_le ?_ | refine toF_le ?_ | refine seF_le ?_ | refine shF_le ?_ | refine neF_le ?_ | refine puF_le ?_ | refine spF_le ?_)); (try simp only [Nat.zero_add]); omega) 17 1 2 [98, 97, 100, 32, 99, 111, 100, 101]) fun g39 => ?_
  refine pops_go ?_ ?_ (pops_end ?_)
  (repeat refine ka ?_); refine kr ?_ ?_ ?_
  refine ps_lat 0 1 (turned_ok (juL (laL (toF (imL (puF (imL (imL (juL (laL (thL (juL (thL (juL (thL (imL (shF (imL (thL (shF (thL (seF (neF (neF (laL (toF (puF (neF (juL (imL (thL (thL (seF (laL (seF (neF (juL (juL (laL (seF (spF L 4) 6 0) [115, 116, 101, 112]) 19 3 4 [115, 116, 101, 112, 32, 101, 110, 100]) 17 6 0 [102, 108, 97, 103]) 5) 6 8) [102, 108, 97, 103]) 10 1) 6 14 5 10) 10 5 5 10) 11 6 6 (-1)) 17 14 0 [112, 97, 105, 114]) 14) 14) [115, 116, 101, 112]) [112, 97, 105, 114]) 7) 8) 10 15) 6 9 8 10) 9 9 9 8) 7 7 7 9) 11 7 7 1) 10 8 8 4) 11 8 8 3) 4 14 3 12) 18 14 7 [98, 97, 100, 32, 99, 111, 100, 101]) 4 14 4 3) 18 14 8 [98, 97, 100, 32, 99, 111, 100, 101]) 4 9 3 7) [99, 111, 112, 121]) 16 8 0 [115, 116, 101, 112]) 12 14 9 0) 11 9 9 1) 14) 11 8 8 (-1)) [99, 111, 112, 121]) [115, 116, 101, 112, 32, 101, 110, 100]) 17 1 2 [98, 97, 100, 32, 99, 111, 100, 101]) (by with_reducible (repeat (first | refine thL_le ?_ | refine imL_le ?_ | refine laL_le ?_ | refine juL_le ?_ | refine toF_le ?_ | refine seF_le ?_ | refine shF_le ?_ | refine neF_le ?_ | refine puF_le ?_ | refine spF_le ?_)); (try simp only [Nat.zero_add]); omega) 4 (by omega)) fun g40 => ?_
  refine pops_go ?_ ?_ (pops_end ?_)
  refine kn ?_; repeat (first | with_reducible refine blk_n ?_ | with_reducible refine beh_n ?_)
  refine ends_normal ?_
  exact ⟨_, rfl, rfl⟩
def chF (L : List It)  : List It := (juL (slF (thL (seF (laL (toF (imL (laL (toF (imL (laL (thL (juL (thL (thL (seF (juL (laL (seF (thL (imL (juL (laL (seF (seF (thL (slF (moF L 1 11) 2 4) 3 3 1 2) 5 4294967295) 9 3988292384) [115, 117, 109]) 19 1 3 [115, 117, 109, 32, 101, 110, 100]) 12 14 1 0) 8 5 5 14) 8 8) [104, 97, 108, 102]) 16 8 0 [104, 97, 108, 102, 32, 101, 110, 100]) 10 1) 6 14 5 10) 10 5 5 10) 16 14 0 [101, 118, 101, 110]) 8 5 5 9) [101, 118, 101, 110]) 11 8 8 (-1)) [104, 97, 108, 102]) [104, 97, 108, 102, 32, 101, 110, 100]) 11 1 1 1) [115, 117, 109]) [115, 117, 109, 32, 101, 110, 100]) 10 4294967295) 8 5 5 10) 7 7) 17 5 7 [98, 97, 100, 32, 115, 117, 109])
theorem chF_le {L : List It}  {c B : Nat} (h : L.length + (c + 33) ≤ B) : (chF L ).length + c ≤ B := by
  unfold chF
  repeat (first | with_reducible refine thL_le ?_ | with_reducible refine imL_le ?_ | with_reducible refine laL_le ?_ | with_reducible refine juL_le ?_ | with_reducible refine moF_le ?_ | with_reducible refine syF_le ?_ | with_reducible refine toF_le ?_ | with_reducible refine seF_le ?_ | with_reducible refine slF_le ?_ | with_reducible refine shF_le ?_ | with_reducible refine neF_le ?_ | with_reducible refine puF_le ?_ | with_reducible refine reF_le ?_ | with_reducible refine haF_le ?_ | with_reducible refine spF_le ?_ | with_reducible refine tuF_le ?_ | with_reducible refine rpF_le ?_)
  omega
theorem check_ok (L : List It) (hL : L.length + 33 ≤ 3000)  : LCall 21 [] L (chF L ) := by
  intro gb gl
  unfold chF
  rw [lnB]
  refine gcall_of_tr Try.func21 rfl [] Try.results21 58 rfl (tk_start ?_)
  (repeat refine ka ?_); refine kr ?_ ?_ ?_
  refine ps_lat 0 1 (move_ok L (by omega) 1 11) fun g0 => ?_
  refine pops_go ?_ ?_ (pops_end ?_)
  (repeat refine ka ?_); refine kr ?_ ?_ ?_
  refine ps_lat 0 1 (slot_ok (moF L 1 11) (by with_reducible (repeat (first | refine moF_le ?_)); (try simp only [Nat.zero_add]); omega) 2 4 (by omega)) fun g1 => ?_
  refine pops_go ?_ ?_ (pops_end ?_)
  (repeat refine ka ?_); refine kr ?_ ?_ ?_
  refine ps_lat 0 1 (three_ok (slF (moF L 1 11) 2 4) (by with_reducible (repeat (first | refine moF_le ?_ | refine slF_le ?_)); (try simp only [Nat.zero_add]); omega) 3 3 1 2) fun g2 => ?_
  refine pops_go ?_ ?_ (pops_end ?_)
  (repeat refine ka ?_); refine kr ?_ ?_ ?_
  refine ps_lat 0 1 (set_ok (thL (slF (moF L 1 11) 2 4) 3 3 1 2) (by with_reducible (repeat (first | refine thL_le ?_ | refine moF_le ?_ | refine slF_le ?_)); (try simp only [Nat.zero_add]); omega) 5 4294967295 (by omega)) fun g3 => ?_
  refine pops_go ?_ ?_ (pops_end ?_)
  (repeat refine ka ?_); refine kr ?_ ?_ ?_
  refine ps_lat 0 1 (set_ok (seF (thL (slF (moF L 1 11) 2 4) 3 3 1 2) 5 4294967295) (by with_reducible (repeat (first | refine thL_le ?_ | refine moF_le ?_ | refine seF_le ?_ | refine slF_le ?_)); (try simp only [Nat.zero_add]); omega) 9 3988292384 (by omega)) fun g4 => ?_
  refine pops_go ?_ ?_ (pops_end ?_)
  (repeat refine ka ?_); refine kr ?_ ?_ ?_
  refine ps_lat 0 1 (label_ok (seF (seF (thL (slF (moF L 1 11) 2 4) 3 3 1 2) 5 4294967295) 9 3988292384) (by with_reducible (repeat (first | refine thL_le ?_ | refine moF_le ?_ | refine seF_le ?_ | refine slF_le ?_)); (try simp only [Nat.zero_add]); omega) [115, 117, 109]) fun g5 => ?_
  refine pops_go ?_ ?_ (pops_end ?_)
  (repeat refine ka ?_); refine kr ?_ ?_ ?_
  refine ps_lat 0 1 (jump_ok (laL (seF (seF (thL (slF (moF L 1 11) 2 4) 3 3 1 2) 5 4294967295) 9 3988292384) [115, 117, 109]) (by with_reducible (repeat (first | refine thL_le ?_ | refine laL_le ?_ | refine moF_le ?_ | refine seF_le ?_ | refine slF_le ?_)); (try simp only [Nat.zero_add]); omega) 19 1 3 [115, 117, 109, 32, 101, 110, 100]) fun g6 => ?_
  refine pops_go ?_ ?_ (pops_end ?_)
  (repeat refine ka ?_); refine kr ?_ ?_ ?_
  refine ps_lat 0 1 (imm_ok (juL (laL (seF (seF (thL (slF (moF L 1 11) 2 4) 3 3 1 2) 5 4294967295) 9 3988292384) [115, 117, 109]) 19 1 3 [115, 117, 109, 32, 101, 110, 100]) (by with_reducible (repeat (first | refine thL_le ?_ | refine laL_le ?_ | refine juL_le ?_ | refine moF_le ?_ | refine seF_le ?_ | refine slF_le ?_)); (try simp only [Nat.zero_add]); omega) 12 14 1 0) fun g7 => ?_
  refine pops_go ?_ ?_ (pops_end ?_)
  (repeat refine ka ?_); refine kr ?_ ?_ ?_
  refine ps_lat 0 1 (three_ok (imL (juL (laL (seF (seF (thL (slF (moF L 1 11) 2 4) 3 3 1 2) 5 4294967295) 9 3988292384) [115, 117, 109]) 19 1 3 [115, 117, 109, 32, 101, 110, 100]) 12 14 1 0) (by with_reducible (repeat (first | refine thL_le ?_ | refine imL_le ?_ | refine laL_le ?_ | refine juL_le ?_ | refine moF_le ?_ | refine seF_le ?_ | refine slF_le ?_)); (try simp only [Nat.zero_add]); omega) 8 5 5 14) fun g8 => ?_
  refine pops_go ?_ ?_ (pops_end ?_)
  (repeat refine ka ?_); refine kr ?_ ?_ ?_
  refine ps_lat 0 1 (set_ok (thL (imL (juL (laL (seF (seF (thL (slF (moF L 1 11) 2 4) 3 3 1 2) 5 4294967295) 9 3988292384) [115, 117, 109]) 19 1 3 [115, 117, 109, 32, 101, 110, 100]) 12 14 1 0) 8 5 5 14) (by with_reducible (repeat (first | refine thL_le ?_ | refine imL_le ?_ | refine laL_le ?_ | refine juL_le ?_ | refine moF_le ?_ | refine seF_le ?_ | refine slF_le ?_)); (try simp only [Nat.zero_add]); omega) 8 8 (by omega)) fun g9 => ?_
  refine pops_go ?_ ?_ (pops_end ?_)
  (repeat refine ka ?_); refine kr ?_ ?_ ?_
  refine ps_lat 0 1 (label_ok (seF (thL (imL (juL (laL (seF (seF (thL (slF (moF L 1 11) 2 4) 3 3 1 2) 5 4294967295) 9 3988292384) [115, 117, 109]) 19 1 3 [115, 117, 109, 32, 101, 110, 100]) 12 14 1 0) 8 5 5 14) 8 8) (by with_reducible (repeat (first | refine thL_le ?_ | refine imL_le ?_ | refine laL_le ?_ | refine juL_le ?_ | refine moF_le ?_ | refine seF_le ?_ | refine slF_le ?_)); (try simp only [Nat.zero_add]); omega) [104, 97, 108, 102]) fun g10 => ?_
  refine pops_go ?_ ?_ (pops_end ?_)
  (repeat refine ka ?_); refine kr ?_ ?_ ?_
  refine ps_lat 0 1 (jump_ok (laL (seF (thL (imL (juL (laL (seF (seF (thL (slF (moF L 1 11) 2 4) 3 3 1 2) 5 4294967295) 9 3988292384) [115, 117, 109]) 19 1 3 [115, 117, 109, 32, 101, 110, 100]) 12 14 1 0) 8 5 5 14) 8 8) [104, 97, 108, 102]) (by with_reducible (repeat (first | refine thL_le ?_ | refine imL_le ?_ | refine laL_le ?_ | refine juL_le ?_ | refine moF_le ?_ | refine seF_le ?_ | refine slF_le ?_)); (try simp only [Nat.zero_add]); omega) 16 8 0 [104, 97, 108, 102, 32, 101, 110, 100]) fun g11 => ?_
  refine pops_go ?_ ?_ (pops_end ?_)
  (repeat refine ka ?_); refine kr ?_ ?_ ?_
  refine ps_lat 0 1 (set_ok (juL (laL (seF (thL (imL (juL (laL (seF (seF (thL (slF (moF L 1 11) 2 4) 3 3 1 2) 5 4294967295) 9 3988292384) [115, 117, 109]) 19 1 3 [115, 117, 109, 32, 101, 110, 100]) 12 14 1 0) 8 5 5 14) 8 8) [104, 97, 108, 102]) 16 8 0 [104, 97, 108, 102, 32, 101, 110, 100]) (by with_reducible (repeat (first | refine thL_le ?_ | refine imL_le ?_ | refine laL_le ?_ | refine juL_le ?_ | refine moF_le ?_ | refine seF_le ?_ | refine slF_le ?_)); (try simp only [Nat.zero_add]); omega) 10 1 (by omega)) fun g12 => ?_
  refine pops_go ?_ ?_ (pops_end ?_)
  (repeat refine ka ?_); refine kr ?_ ?_ ?_
  refine ps_lat 0 1 (three_ok (seF (juL (laL (seF (thL (imL (juL (laL (seF (seF (thL (slF (moF L 1 11) 2 4) 3 3 1 2) 5 4294967295) 9 3988292384) [115, 117, 109]) 19 1 3 [115, 117, 109, 32, 101, 110, 100]) 12 14 1 0) 8 5 5 14) 8 8) [104, 97, 108, 102]) 16 8 0 [104, 97, 108, 102, 32, 101, 110, 100]) 10 1) (by with_reducible (repeat (first | refine thL_le ?_ | refine imL_le ?_ | refine laL_le ?_ | refine juL_le ?_ | refine moF_le ?_ | refine seF_le ?_ | refine slF_le ?_)); (try simp only [Nat.zero_add]); omega) 6 14 5 10) fun g13 => ?_
  refine pops_go ?_ ?_ (pops_end ?_)
  (repeat refine ka ?_); refine kr ?_ ?_ ?_
  refine ps_lat 0 1 (three_ok (thL (seF (juL (laL (seF (thL (imL (juL (laL (seF (seF (thL (slF (moF L 1 11) 2 4) 3 3 1 2) 5 4294967295) 9 3988292384) [115, 117, 109]) 19 1 3 [115, 117, 109, 32, 101, 110, 100]) 12 14 1 0) 8 5 5 14) 8 8) [104, 97, 108, 102]) 16 8 0 [104, 97, 108, 102, 32, 101, 110, 100]) 10 1) 6 14 5 10) (by with_reducible (repeat (first | refine thL_le ?_ | refine imL_le ?_ | refine laL_le ?_ | refine juL_le ?_ | refine moF_le ?_ | refine seF_le ?_ | refine slF_le ?_)); (try simp only [Nat.zero_add]); omega) 10 5 5 10) fun g14 => ?_
  refine pops_go ?_ ?_ (pops_end ?_)
  (repeat refine ka ?_); refine kr ?_ ?_ ?_
  refine ps_lat 0 1 (jump_ok (thL (thL (seF (juL (laL (seF (thL (imL (juL (laL (seF (seF (thL (slF (moF L 1 11) 2 4) 3 3 1 2) 5 4294967295) 9 3988292384) [115, 117, 109]) 19 1 3 [115, 117, 109, 32, 101, 110, 100]) 12 14 1 0) 8 5 5 14) 8 8) [104, 97, 108, 102]) 16 8 0 [104, 97, 108, 102, 32, 101, 110, 100]) 10 1) 6 14 5 10) 10 5 5 10) (by with_reducible (repeat (first | refine thL_le ?_ | refine imL_le ?_ | refine laL_le ?_ | refine juL_le ?_ | refine moF_le ?_ | refine seF_le ?_ | refine slF_le ?_)); (try simp only [Nat.zero_add]); omega) 16 14 0 [101, 118, 101, 110]) fun g15 => ?_
  refine pops_go ?_ ?_ (pops_end ?_)
  (repeat refine ka ?_); refine kr ?_ ?_ ?_
  refine ps_lat 0 1 (three_ok (juL (thL (thL (seF (juL (laL (seF (thL (imL (juL (laL (seF (seF (thL (slF (moF L 1 11) 2 4) 3 3 1 2) 5 4294967295) 9 3988292384) [115, 117, 109]) 19 1 3 [115, 117, 109, 32, 101, 110, 100]) 12 14 1 0) 8 5 5 14) 8 8) [104, 97, 108, 102]) 16 8 0 [104, 97, 108, 102, 32, 101, 110, 100]) 10 1) 6 14 5 10) 10 5 5 10) 16 14 0 [101, 118, 101, 110]) (by with_reducible (repeat (first | refine thL_le ?_ | refine imL_le ?_ | refine laL_le ?_ | refine juL_le ?_ | refine moF_le ?_ | refine seF_le ?_ | refine slF_le ?_)); (try simp only [Nat.zero_add]); omega) 8 5 5 9) fun g16 => ?_
  refine pops_go ?_ ?_ (pops_end ?_)
  (repeat refine ka ?_); refine kr ?_ ?_ ?_
  refine ps_lat 0 1 (label_ok (thL (juL (thL (thL (seF (juL (laL (seF (thL (imL (juL (laL (seF (seF (thL (slF (moF L 1 11) 2 4) 3 3 1 2) 5 4294967295) 9 3988292384) [115, 117, 109]) 19 1 3 [115, 117, 109, 32, 101, 110, 100]) 12 14 1 0) 8 5 5 14) 8 8) [104, 97, 108, 102]) 16 8 0 [104, 97, 108, 102, 32, 101, 110, 100]) 10 1) 6 14 5 10) 10 5 5 10) 16 14 0 [101, 118, 101, 110]) 8 5 5 9) (by with_reducible (repeat (first | refine thL_le ?_ | refine imL_le ?_ | refine laL_le ?_ | refine juL_le ?_ | refine moF_le ?_ | refine seF_le ?_ | refine slF_le ?_)); (try simp only [Nat.zero_add]); omega) [101, 118, 101, 110]) fun g17 => ?_
  refine pops_go ?_ ?_ (pops_end ?_)
  (repeat refine ka ?_); refine kr ?_ ?_ ?_
  refine ps_lat 0 1 (imm_ok (laL (thL (juL (thL (thL (seF (juL (laL (seF (thL (imL (juL (laL (seF (seF (thL (slF (moF L 1 11) 2 4) 3 3 1 2) 5 4294967295) 9 3988292384) [115, 117, 109]) 19 1 3 [115, 117, 109, 32, 101, 110, 100]) 12 14 1 0) 8 5 5 14) 8 8) [104, 97, 108, 102]) 16 8 0 [104, 97, 108, 102, 32, 101, 110, 100]) 10 1) 6 14 5 10) 10 5 5 10) 16 14 0 [101, 118, 101, 110]) 8 5 5 9) [101, 118, 101, 110]) (by with_reducible (repeat (first | refine thL_le ?_ | refine imL_le ?_ | refine laL_le ?_ | refine juL_le ?_ | refine moF_le ?_ | refine seF_le ?_ | refine slF_le ?_)); (try simp only [Nat.zero_add]); omega) 11 8 8 (-1)) fun g18 => ?_
  refine pops_go ?_ ?_ (pops_end ?_)
  (repeat refine ka ?_); refine kr ?_ ?_ ?_
  refine ps_lat 0 1 (to_ok (imL (laL (thL (juL (thL (thL (seF (juL (laL (seF (thL (imL (juL (laL (seF (seF (thL (slF (moF L 1 11) 2 4) 3 3 1 2) 5 4294967295) 9 3988292384) [115, 117, 109]) 19 1 3 [115, 117, 109, 32, 101, 110, 100]) 12 14 1 0) 8 5 5 14) 8 8) [104, 97, 108, 102]) 16 8 0 [104, 97, 108, 102, 32, 101, 110, 100]) 10 1) 6 14 5 10) 10 5 5 10) 16 14 0 [101, 118, 101, 110]) 8 5 5 9) [101, 118, 101, 110]) 11 8 8 (-1)) (by with_reducible (repeat (first | refine thL_le ?_ | refine imL_le ?_ | refine laL_le ?_ | refine juL_le ?_ | refine moF_le ?_ | refine seF_le ?_ | refine slF_le ?_)); (try simp only [Nat.zero_add]); omega) [104, 97, 108, 102]) fun g19 => ?_
  refine pops_go ?_ ?_ (pops_end ?_)
  (repeat refine ka ?_); refine kr ?_ ?_ ?_
  refine ps_lat 0 1 (label_ok (toF (imL (laL (thL (juL (thL (thL (seF (juL (laL (seF (thL (imL (juL (laL (seF (seF (thL (slF (moF L 1 11) 2 4) 3 3 1 2) 5 4294967295) 9 3988292384) [115, 117, 109]) 19 1 3 [115, 117, 109, 32, 101, 110, 100]) 12 14 1 0) 8 5 5 14) 8 8) [104, 97, 108, 102]) 16 8 0 [104, 97, 108, 102, 32, 101, 110, 100]) 10 1) 6 14 5 10) 10 5 5 10) 16 14 0 [101, 118, 101, 110]) 8 5 5 9) [101, 118, 101, 110]) 11 8 8 (-1)) [104, 97, 108, 102]) (by with_reducible (repeat (first | refine thL_le ?_ | refine imL_le ?_ | refine laL_le ?_ | refine juL_le ?_ | refine moF_le ?_ | refine toF_le ?_ | refine seF_le ?_ | refine slF_le ?_)); (try simp only [Nat.zero_add]); omega) [104, 97, 108, 102, 32, 101, 110, 100]) fun g20 => ?_
  refine pops_go ?_ ?_ (pops_end ?_)
  (repeat refine ka ?_); refine kr ?_ ?_ ?_
  refine ps_lat 0 1 (imm_ok (laL (toF (imL (laL (thL (juL (thL (thL (seF (juL (laL (seF (thL (imL (juL (laL (seF (seF (thL (slF (moF L 1 11) 2 4) 3 3 1 2) 5 4294967295) 9 3988292384) [115, 117, 109]) 19 1 3 [115, 117, 109, 32, 101, 110, 100]) 12 14 1 0) 8 5 5 14) 8 8) [104, 97, 108, 102]) 16 8 0 [104, 97, 108, 102, 32, 101, 110, 100]) 10 1) 6 14 5 10) 10 5 5 10) 16 14 0 [101, 118, 101, 110]) 8 5 5 9) [101, 118, 101, 110]) 11 8 8 (-1)) [104, 97, 108, 102]) [104, 97, 108, 102, 32, 101, 110, 100]) (by with_reducible (repeat (first | refine thL_le ?_ | refine imL_le ?_ | refine laL_le ?_ | refine juL_le ?_ | refine moF_le ?_ | refine toF_le ?_ | refine seF_le ?_ | refine slF_le ?_)); (try simp only [Nat.zero_add]); omega) 11 1 1 1) fun g21 => ?_
  refine pops_go ?_ ?_ (pops_end ?_)
  (repeat refine ka ?_); refine kr ?_ ?_ ?_
  refine ps_lat 0 1 (to_ok (imL (laL (toF (imL (laL (thL (juL (thL (thL (seF (juL (laL (seF (thL (imL (juL (laL (seF (seF (thL (slF (moF L 1 11) 2 4) 3 3 1 2) 5 4294967295) 9 3988292384) [115, 117, 109]) 19 1 3 [115, 117, 109, 32, 101, 110, 100]) 12 14 1 0) 8 5 5 14) 8 8) [104, 97, 108, 102]) 16 8 0 [104, 97, 108, 102, 32, 101, 110, 100]) 10 1) 6 14 5 10) 10 5 5 10) 16 14 0 [101, 118, 101, 110]) 8 5 5 9) [101, 118, 101, 110]) 11 8 8 (-1)) [104, 97, 108, 102]) [104, 97, 108, 102, 32, 101, 110, 100]) 11 1 1 1) (by with_reducible (repeat (first | refine thL_le ?_ | refine imL_le ?_ | refine laL_le ?_ | refine juL_le ?_ | refine moF_le ?_ | refine toF_le ?_ | refine seF_le ?_ | refine slF_le ?_)); (try simp only [Nat.zero_add]); omega) [115, 117, 109]) fun g22 => ?_
  refine pops_go ?_ ?_ (pops_end ?_)
  (repeat refine ka ?_); refine kr ?_ ?_ ?_
  refine ps_lat 0 1 (label_ok (toF (imL (laL (toF (imL (laL (thL (juL (thL (thL (seF (juL (laL (seF (thL (imL (juL (laL (seF (seF (thL (slF (moF L 1 11) 2 4) 3 3 1 2) 5 4294967295) 9 3988292384) [115, 117, 109]) 19 1 3 [115, 117, 109, 32, 101, 110, 100]) 12 14 1 0) 8 5 5 14) 8 8) [104, 97, 108, 102]) 16 8 0 [104, 97, 108, 102, 32, 101, 110, 100]) 10 1) 6 14 5 10) 10 5 5 10) 16 14 0 [101, 118, 101, 110]) 8 5 5 9) [101, 118, 101, 110]) 11 8 8 (-1)) [104, 97, 108, 102]) [104, 97, 108, 102, 32, 101, 110, 100]) 11 1 1 1) [115, 117, 109]) (by with_reducible (repeat (first | refine thL_le ?_ | refine imL_le ?_ | refine laL_le ?_ | refine juL_le ?_ | refine moF_le ?_ | refine toF_le ?_ | refine seF_le ?_ | refine slF_le ?_)); (try simp only [Nat.zero_add]); omega) [115, 117, 109, 32, 101, 110, 100]) fun g23 => ?_
  refine pops_go ?_ ?_ (pops_end ?_)
  (repeat refine ka ?_); refine kr ?_ ?_ ?_
  refine ps_lat 0 1 (set_ok (laL (toF (imL (laL (toF (imL (laL (thL (juL (thL (thL (seF (juL (laL (seF (thL (imL (juL (laL (seF (seF (thL (slF (moF L 1 11) 2 4) 3 3 1 2) 5 4294967295) 9 3988292384) [115, 117, 109]) 19 1 3 [115, 117, 109, 32, 101, 110, 100]) 12 14 1 0) 8 5 5 14) 8 8) [104, 97, 108, 102]) 16 8 0 [104, 97, 108, 102, 32, 101, 110, 100]) 10 1) 6 14 5 10) 10 5 5 10) 16 14 0 [101, 118, 101, 110]) 8 5 5 9) [101, 118, 101, 110]) 11 8 8 (-1)) [104, 97, 108, 102]) [104, 97, 108, 102, 32, 101, 110, 100]) 11 1 1 1) [115, 117, 109]) [115, 117, 109, 32, 101, 110, 100]) (by with_reducible (repeat (first | refine thL_le ?_ | refine imL_le ?_ | refine laL_le ?_ | refine juL_le ?_ | refine moF_le ?_ | refine toF_le ?_ | refine seF_le ?_ | refine slF_le ?_)); (try simp only [Nat.zero_add]); omega) 10 4294967295 (by omega)) fun g24 => ?_
  refine pops_go ?_ ?_ (pops_end ?_)
  (repeat refine ka ?_); refine kr ?_ ?_ ?_
  refine ps_lat 0 1 (three_ok (seF (laL (toF (imL (laL (toF (imL (laL (thL (juL (thL (thL (seF (juL (laL (seF (thL (imL (juL (laL (seF (seF (thL (slF (moF L 1 11) 2 4) 3 3 1 2) 5 4294967295) 9 3988292384) [115, 117, 109]) 19 1 3 [115, 117, 109, 32, 101, 110, 100]) 12 14 1 0) 8 5 5 14) 8 8) [104, 97, 108, 102]) 16 8 0 [104, 97, 108, 102, 32, 101, 110, 100]) 10 1) 6 14 5 10) 10 5 5 10) 16 14 0 [101, 118, 101, 110]) 8 5 5 9) [101, 118, 101, 110]) 11 8 8 (-1)) [104, 97, 108, 102]) [104, 97, 108, 102, 32, 101, 110, 100]) 11 1 1 1) [115, 117, 109]) [115, 117, 109, 32, 101, 110, 100]) 10 4294967295) (by with_reducible (repeat (first | refine thL_le ?_ | refine imL_le ?_ | refine laL_le ?_ | refine juL_le ?_ | refine moF_le ?_ | refine toF_le ?_ | refine seF_le ?_ | refine slF_le ?_)); (try simp only [Nat.zero_add]); omega) 8 5 5 10) fun g25 => ?_
  refine pops_go ?_ ?_ (pops_end ?_)
  (repeat refine ka ?_); refine kr ?_ ?_ ?_
  refine ps_lat 0 1 (slot_ok (thL (seF (laL (toF (imL (laL (toF (imL (laL (thL (juL (thL (thL (seF (juL (laL (seF (thL (imL (juL (laL (seF (seF (thL (slF (moF L 1 11) 2 4) 3 3 1 2) 5 4294967295) 9 3988292384) [115, 117, 109]) 19 1 3 [115, 117, 109, 32, 101, 110, 100]) 12 14 1 0) 8 5 5 14) 8 8) [104, 97, 108, 102]) 16 8 0 [104, 97, 108, 102, 32, 101, 110, 100]) 10 1) 6 14 5 10) 10 5 5 10) 16 14 0 [101, 118, 101, 110]) 8 5 5 9) [101, 118, 101, 110]) 11 8 8 (-1)) [104, 97, 108, 102]) [104, 97, 108, 102, 32, 101, 110, 100]) 11 1 1 1) [115, 117, 109]) [115, 117, 109, 32, 101, 110, 100]) 10 4294967295) 8 5 5 10) (by with_reducible (repeat (first | refine thL_le ?_ | refine imL_le ?_ | refine laL_le ?_ | refine juL_le ?_ | refine moF_le ?_ | refine toF_le ?_ | refine seF_le ?_ | refine slF_le ?_)); (try simp only [Nat.zero_add]); omega) 7 7 (by omega)) fun g26 => ?_
  refine pops_go ?_ ?_ (pops_end ?_)
  (repeat refine ka ?_); refine kr ?_ ?_ ?_
  refine ps_lat 0 1 (jump_ok (slF (thL (seF (laL (toF (imL (laL (toF (imL (laL (thL (juL (thL (thL (seF (juL (laL (seF (thL (imL (juL (laL (seF (seF (thL (slF (moF L 1 11) 2 4) 3 3 1 2) 5 4294967295) 9 3988292384) [115, 117, 109]) 19 1 3 [115, 117, 109, 32, 101, 110, 100]) 12 14 1 0) 8 5 5 14) 8 8) [104, 97, 108, 102]) 16 8 0 [104, 97, 108, 102, 32, 101, 110, 100]) 10 1) 6 14 5 10) 10 5 5 10) 16 14 0 [101, 118, 101, 110]) 8 5 5 9) [101, 118, 101, 110]) 11 8 8 (-1)) [104, 97, 108, 102]) [104, 97, 108, 102, 32, 101, 110, 100]) 11 1 1 1) [115, 117, 109]) [115, 117, 109, 32, 101, 110, 100]) 10 4294967295) 8 5 5 10) 7 7) (by with_reducible (repeat (first | refine thL_le ?_ | refine imL_le ?_ | refine laL_le ?_ | refine juL_le ?_ | refine moF_le ?_ | refine toF_le ?_ | refine seF_le ?_ | refine slF_le ?_)); (try simp only [Nat.zero_add]); omega) 17 5 7 [98, 97, 100, 32, 115, 117, 109]) fun g27 => ?_
  refine pops_go ?_ ?_ (pops_end ?_)
  refine kn ?_; repeat (first | with_reducible refine blk_n ?_ | with_reducible refine beh_n ?_)
  refine ends_normal ?_
  exact ⟨_, rfl, rfl⟩
def bgL (L : List It) : Nat → List It
  | 0 => L
  | j + 1 => imL (bgL L j) 15 ((j : Int) + 1) 13 (1024 + 4 * ((j : Int) + 1))
theorem bgL_le {L : List It} : ∀ {j c B : Nat}, L.length + (c + j) ≤ B → (bgL L j).length + c ≤ B
  | 0, c, B, h => h
  | j + 1, c, B, h => imL_le (bgL_le (by omega))
def beF (L : List It) : List It := (laL (toF (imL (imL (imL (syF (moF (juL (laL (thL (moF (bgL L 10) 3 11) 3 4 1 2) [114, 101, 97, 100]) 19 1 4 [114, 101, 97, 100, 32, 101, 110, 100]) 14 1) 1) 13 15 3 0) 11 3 3 1) 11 1 1 1) [114, 101, 97, 100]) [114, 101, 97, 100, 32, 101, 110, 100])
theorem beF_le {L : List It} {c B : Nat} (h : L.length + (c + 21) ≤ B) : (beF L).length + c ≤ B := by
  unfold beF
  repeat (first | with_reducible refine thL_le ?_ | with_reducible refine imL_le ?_ | with_reducible refine laL_le ?_ | with_reducible refine juL_le ?_ | with_reducible refine moF_le ?_ | with_reducible refine syF_le ?_ | with_reducible refine toF_le ?_ | with_reducible refine seF_le ?_ | with_reducible refine slF_le ?_ | with_reducible refine shF_le ?_ | with_reducible refine neF_le ?_ | with_reducible refine puF_le ?_ | with_reducible refine reF_le ?_ | with_reducible refine haF_le ?_ | with_reducible refine spF_le ?_ | with_reducible refine tuF_le ?_ | with_reducible refine rpF_le ?_ | with_reducible refine chF_le ?_ | with_reducible refine bgL_le ?_)
  omega
theorem begin_ok (L : List It) (hL : L.length + 21 ≤ 3000) : LCall 15 [] L (beF L) := by
  intro gb gl
  unfold beF
  rw [lnB]
  refine gcall_of_tr Try.func15 rfl [] Try.results15 35 rfl (tk_start ?_)
  (repeat refine ka ?_); refine kr ?_ ?_ (pops_end ?_)
  (repeat refine ka ?_); refine kb ?_
  refine kw (fun s : Nat × Nat => [(0, PV.ptr 0 gb 0 0), (2, .v (.int .i64 ((s.1 : Int) + 1)))]) (fun s => [⟨gb, true, 1, [[.vw 1 s.2 0 (bgL L s.1).length]]⟩, ⟨s.2, true, 8, itRows (bgL L s.1)⟩]) (fun s => s.1 ≤ 10) (fun s => 10 - s.1) (0, gl) (Nat.zero_le _) (holds 2 (by repeat (first | exact .nil | refine has1 ?_))) ?_
  rintro ⟨j, g⟩ (hj : j ≤ 10)
  dsimp only
  by_cases h : j < 10
  · have e1 : IntKind.i64.wrap (4 * ((j : Int) + 1)) = 4 * ((j : Int) + 1) := wrap_i64 _ (by omega) (by omega)
    have e2 : IntKind.i64.wrap (1024 + 4 * ((j : Int) + 1)) = 1024 + 4 * ((j : Int) + 1) := wrap_i64 _ (by omega) (by omega)
    have e3 : IntKind.i64.wrap ((j : Int) + 1 + 1) = ((j + 1 : Nat) : Int) + 1 := by rw [wrap_i64 _ (by omega) (by omega)]; omega
    (repeat refine ka ?_); refine kr ?_ ?_ (pops_end ?_)
    (repeat refine ka ?_); refine kct ?_
    (repeat refine ka ?_); refine ksk ?_
    (repeat refine ka ?_); refine kb ?_
    (repeat refine ka ?_); refine kr ?_ ?_ ?_
    refine ps_lat 0 1 (imm_ok (bgL L j) (bgL_le (by omega)) 15 ((j : Int) + 1) 13 (1024 + 4 * ((j : Int) + 1))) fun g1 => ?_
    refine pops_go ?_ ?_ (pops_end ?_)
    refine kn ?_; repeat (first | with_reducible refine blk_n ?_ | with_reducible refine beh_n ?_)
    (repeat refine ka ?_); refine kr ?_ ?_ (pops_end ?_)
    refine kn ?_; repeat (first | with_reducible refine blk_n ?_ | with_reducible refine beh_n ?_)
    exact ⟨(j + 1, g1), by show j + 1 ≤ 10; omega, by show 10 - (j + 1) < 10 - j; omega, (holds 2 (by repeat (first | exact .nil | refine has1 ?_)))⟩
  · obtain rfl : j = 10 := by omega
    (repeat refine ka ?_); refine kr ?_ ?_ (pops_end ?_)
    (repeat refine ka ?_); refine kcf ?_
    (repeat refine ka ?_); refine kx ?_; (repeat (first | with_reducible refine beh_x ?_ | with_reducible refine blk_up rfl ?_)); refine blk_here ?_; refine beh_n ?_
    (repeat refine ka ?_); refine kr ?_ ?_ ?_
    refine ps_lat 0 1 (move_ok (bgL L 10) (by with_reducible (repeat (first | refine bgL_le ?_)); (try simp only [Nat.zero_add]); omega) 3 11) fun g_ => ?_
    refine pops_go ?_ ?_ (pops_end ?_)
    (repeat refine ka ?_); refine kr ?_ ?_ ?_
    refine ps_lat 0 1 (three_ok (moF (bgL L 10) 3 11) (by with_reducible (repeat (first | refine moF_le ?_ | refine bgL_le ?_)); (try simp only [Nat.zero_add]); omega) 3 4 1 2) fun g_ => ?_
    refine pops_go ?_ ?_ (pops_end ?_)
    (repeat refine ka ?_); refine kr ?_ ?_ ?_
    refine ps_lat 0 1 (label_ok (thL (moF (bgL L 10) 3 11) 3 4 1 2) (by with_reducible (repeat (first | refine thL_le ?_ | refine moF_le ?_ | refine bgL_le ?_)); (try simp only [Nat.zero_add]); omega) [114, 101, 97, 100]) fun g_ => ?_
    refine pops_go ?_ ?_ (pops_end ?_)
    (repeat refine ka ?_); refine kr ?_ ?_ ?_
    refine ps_lat 0 1 (jump_ok (laL (thL (moF (bgL L 10) 3 11) 3 4 1 2) [114, 101, 97, 100]) (by with_reducible (repeat (first | refine thL_le ?_ | refine laL_le ?_ | refine moF_le ?_ | refine bgL_le ?_)); (try simp only [Nat.zero_add]); omega) 19 1 4 [114, 101, 97, 100, 32, 101, 110, 100]) fun g_ => ?_
    refine pops_go ?_ ?_ (pops_end ?_)
    (repeat refine ka ?_); refine kr ?_ ?_ ?_
    refine ps_lat 0 1 (move_ok (juL (laL (thL (moF (bgL L 10) 3 11) 3 4 1 2) [114, 101, 97, 100]) 19 1 4 [114, 101, 97, 100, 32, 101, 110, 100]) (by with_reducible (repeat (first | refine thL_le ?_ | refine laL_le ?_ | refine juL_le ?_ | refine moF_le ?_ | refine bgL_le ?_)); (try simp only [Nat.zero_add]); omega) 14 1) fun g_ => ?_
    refine pops_go ?_ ?_ (pops_end ?_)
    (repeat refine ka ?_); refine kr ?_ ?_ ?_
    refine ps_lat 0 1 (sys_ok (moF (juL (laL (thL (moF (bgL L 10) 3 11) 3 4 1 2) [114, 101, 97, 100]) 19 1 4 [114, 101, 97, 100, 32, 101, 110, 100]) 14 1) (by with_reducible (repeat (first | refine thL_le ?_ | refine laL_le ?_ | refine juL_le ?_ | refine moF_le ?_ | refine bgL_le ?_)); (try simp only [Nat.zero_add]); omega) 1) fun g_ => ?_
    refine pops_go ?_ ?_ (pops_end ?_)
    (repeat refine ka ?_); refine kr ?_ ?_ ?_
    refine ps_lat 0 1 (imm_ok (syF (moF (juL (laL (thL (moF (bgL L 10) 3 11) 3 4 1 2) [114, 101, 97, 100]) 19 1 4 [114, 101, 97, 100, 32, 101, 110, 100]) 14 1) 1) (by with_reducible (repeat (first | refine thL_le ?_ | refine laL_le ?_ | refine juL_le ?_ | refine moF_le ?_ | refine syF_le ?_ | refine bgL_le ?_)); (try simp only [Nat.zero_add]); omega) 13 15 3 0) fun g_ => ?_
    refine pops_go ?_ ?_ (pops_end ?_)
    (repeat refine ka ?_); refine kr ?_ ?_ ?_
    refine ps_lat 0 1 (imm_ok (imL (syF (moF (juL (laL (thL (moF (bgL L 10) 3 11) 3 4 1 2) [114, 101, 97, 100]) 19 1 4 [114, 101, 97, 100, 32, 101, 110, 100]) 14 1) 1) 13 15 3 0) (by with_reducible (repeat (first | refine thL_le ?_ | refine imL_le ?_ | refine laL_le ?_ | refine juL_le ?_ | refine moF_le ?_ | refine syF_le ?_ | refine bgL_le ?_)); (try simp only [Nat.zero_add]); omega) 11 3 3 1) fun g_ => ?_
    refine pops_go ?_ ?_ (pops_end ?_)
    (repeat refine ka ?_); refine kr ?_ ?_ ?_
    refine ps_lat 0 1 (imm_ok (imL (imL (syF (moF (juL (laL (thL (moF (bgL L 10) 3 11) 3 4 1 2) [114, 101, 97, 100]) 19 1 4 [114, 101, 97, 100, 32, 101, 110, 100]) 14 1) 1) 13 15 3 0) 11 3 3 1) (by with_reducible (repeat (first | refine thL_le ?_ | refine imL_le ?_ | refine laL_le ?_ | refine juL_le ?_ | refine moF_le ?_ | refine syF_le ?_ | refine bgL_le ?_)); (try simp only [Nat.zero_add]); omega) 11 1 1 1) fun g_ => ?_
    refine pops_go ?_ ?_ (pops_end ?_)
    (repeat refine ka ?_); refine kr ?_ ?_ ?_
    refine ps_lat 0 1 (to_ok (imL (imL (imL (syF (moF (juL (laL (thL (moF (bgL L 10) 3 11) 3 4 1 2) [114, 101, 97, 100]) 19 1 4 [114, 101, 97, 100, 32, 101, 110, 100]) 14 1) 1) 13 15 3 0) 11 3 3 1) 11 1 1 1) (by with_reducible (repeat (first | refine thL_le ?_ | refine imL_le ?_ | refine laL_le ?_ | refine juL_le ?_ | refine moF_le ?_ | refine syF_le ?_ | refine bgL_le ?_)); (try simp only [Nat.zero_add]); omega) [114, 101, 97, 100]) fun g_ => ?_
    refine pops_go ?_ ?_ (pops_end ?_)
    (repeat refine ka ?_); refine kr ?_ ?_ ?_
    refine ps_lat 0 1 (label_ok (toF (imL (imL (imL (syF (moF (juL (laL (thL (moF (bgL L 10) 3 11) 3 4 1 2) [114, 101, 97, 100]) 19 1 4 [114, 101, 97, 100, 32, 101, 110, 100]) 14 1) 1) 13 15 3 0) 11 3 3 1) 11 1 1 1) [114, 101, 97, 100]) (by with_reducible (repeat (first | refine thL_le ?_ | refine imL_le ?_ | refine laL_le ?_ | refine juL_le ?_ | refine moF_le ?_ | refine syF_le ?_ | refine toF_le ?_ | refine bgL_le ?_)); (try simp only [Nat.zero_add]); omega) [114, 101, 97, 100, 32, 101, 110, 100]) fun g_ => ?_
    refine pops_go ?_ ?_ (pops_end ?_)
    refine kn ?_; repeat (first | with_reducible refine blk_n ?_ | with_reducible refine beh_n ?_)
    refine ends_normal ?_
    exact ⟨_, rfl, rfl⟩
def wkL (L : List It) : Nat → List It
  | 0 => L
  | j + 1 => thL (reF (thL (wkL L j) 9 4 4 10) (3 - (j : Int))) 7 4 4 15
theorem wkL_le {L : List It} : ∀ {j c B : Nat}, L.length + (c + 4 * j) ≤ B → (wkL L j).length + c ≤ B
  | 0, c, B, h => h
  | j + 1, c, B, h => thL_le (reF_le (thL_le (wkL_le (by omega))))
def waF (L : List It) : List It := (haF (juL (laL (toF (imL (thL (syF (moF (juL (thL (imL (wkL (seF (seF (laL (toF (imL (imL (imL (thL (reF (juL (laL (seF (juL (seF (imL (thL (shF (reF (moF (reF (juL (laL (thL (slF (moF (slF (slF L 5 5) 6 6) 3 11) 4 4) 3 7 11 4) [102, 105, 108, 101]) 16 6 0 [102, 105, 108, 101, 32, 101, 110, 100]) 0) 2 15) 1) 9 15 15 8) 7 2 2 15) 11 5 5 2) 10 201) 19 2 10 [98, 97, 100, 32, 100, 105, 114]) 9 0) [112, 97, 116, 104]) 19 9 2 [112, 97, 116, 104, 32, 101, 110, 100]) 0) 3 10 13 9) 13 15 10 0) 11 5 5 1) 11 9 9 1) [112, 97, 116, 104]) [112, 97, 116, 104, 32, 101, 110, 100]) 4 0) 10 8) 4) 11 5 5 4) 4 14 7 3) 18 14 4 [98, 97, 100, 32, 100, 105, 114]) 1 13) 3) 3 3 3 4) 11 6 6 (-1)) [102, 105, 108, 101]) [102, 105, 108, 101, 32, 101, 110, 100]) 17 3 7 [98, 97, 100, 32, 100, 105, 114]) 0)
theorem waF_le {L : List It} {c B : Nat} (h : L.length + (c + 65) ≤ B) : (waF L).length + c ≤ B := by
  unfold waF
  repeat (first | with_reducible refine thL_le ?_ | with_reducible refine imL_le ?_ | with_reducible refine laL_le ?_ | with_reducible refine juL_le ?_ | with_reducible refine moF_le ?_ | with_reducible refine syF_le ?_ | with_reducible refine toF_le ?_ | with_reducible refine seF_le ?_ | with_reducible refine slF_le ?_ | with_reducible refine shF_le ?_ | with_reducible refine neF_le ?_ | with_reducible refine puF_le ?_ | with_reducible refine reF_le ?_ | with_reducible refine haF_le ?_ | with_reducible refine spF_le ?_ | with_reducible refine tuF_le ?_ | with_reducible refine rpF_le ?_ | with_reducible refine chF_le ?_ | with_reducible refine bgL_le ?_ | with_reducible refine beF_le ?_ | with_reducible refine wkL_le ?_)
  omega
theorem walk_ok (L : List It) (hL : L.length + 65 ≤ 3000) : LCall 22 [] L (waF L) := by
  intro gb gl
  unfold waF
  rw [lnB]
  refine gcall_of_tr Try.func22 rfl [] Try.results22 90 rfl (tk_start ?_)
  (repeat refine ka ?_); refine kr ?_ ?_ ?_
  refine ps_lat 0 1 (slot_ok L (by omega) 5 5 (by omega)) fun g_ => ?_
  refine pops_go ?_ ?_ (pops_end ?_)
  (repeat refine ka ?_); refine kr ?_ ?_ ?_
  refine ps_lat 0 1 (slot_ok (slF L 5 5) (by with_reducible (repeat (first | refine slF_le ?_)); (try simp only [Nat.zero_add]); omega) 6 6 (by omega)) fun g_ => ?_
  refine pops_go ?_ ?_ (pops_end ?_)
  (repeat refine ka ?_); refine kr ?_ ?_ ?_
  refine ps_lat 0 1 (move_ok (slF (slF L 5 5) 6 6) (by with_reducible (repeat (first | refine slF_le ?_)); (try simp only [Nat.zero_add]); omega) 3 11) fun g_ => ?_
  refine pops_go ?_ ?_ (pops_end ?_)
  (repeat refine ka ?_); refine kr ?_ ?_ ?_
  refine ps_lat 0 1 (slot_ok (moF (slF (slF L 5 5) 6 6) 3 11) (by with_reducible (repeat (first | refine moF_le ?_ | refine slF_le ?_)); (try simp only [Nat.zero_add]); omega) 4 4 (by omega)) fun g_ => ?_
  refine pops_go ?_ ?_ (pops_end ?_)
  (repeat refine ka ?_); refine kr ?_ ?_ ?_
  refine ps_lat 0 1 (three_ok (slF (moF (slF (slF L 5 5) 6 6) 3 11) 4 4) (by with_reducible (repeat (first | refine moF_le ?_ | refine slF_le ?_)); (try simp only [Nat.zero_add]); omega) 3 7 11 4) fun g_ => ?_
  refine pops_go ?_ ?_ (pops_end ?_)
  (repeat refine ka ?_); refine kr ?_ ?_ ?_
  refine ps_lat 0 1 (label_ok (thL (slF (moF (slF (slF L 5 5) 6 6) 3 11) 4 4) 3 7 11 4) (by with_reducible (repeat (first | refine thL_le ?_ | refine moF_le ?_ | refine slF_le ?_)); (try simp only [Nat.zero_add]); omega) [102, 105, 108, 101]) fun g_ => ?_
  refine pops_go ?_ ?_ (pops_end ?_)
  (repeat refine ka ?_); refine kr ?_ ?_ ?_
  refine ps_lat 0 1 (jump_ok (laL (thL (slF (moF (slF (slF L 5 5) 6 6) 3 11) 4 4) 3 7 11 4) [102, 105, 108, 101]) (by with_reducible (repeat (first | refine thL_le ?_ | refine laL_le ?_ | refine moF_le ?_ | refine slF_le ?_)); (try simp only [Nat.zero_add]); omega) 16 6 0 [102, 105, 108, 101, 32, 101, 110, 100]) fun g_ => ?_
  refine pops_go ?_ ?_ (pops_end ?_)
  (repeat refine ka ?_); refine kr ?_ ?_ ?_
  refine ps_lat 0 1 (read_ok (juL (laL (thL (slF (moF (slF (slF L 5 5) 6 6) 3 11) 4 4) 3 7 11 4) [102, 105, 108, 101]) 16 6 0 [102, 105, 108, 101, 32, 101, 110, 100]) (by with_reducible (repeat (first | refine thL_le ?_ | refine laL_le ?_ | refine juL_le ?_ | refine moF_le ?_ | refine slF_le ?_)); (try simp only [Nat.zero_add]); omega) 0) fun g_ => ?_
  refine pops_go ?_ ?_ (pops_end ?_)
  (repeat refine ka ?_); refine kr ?_ ?_ ?_
  refine ps_lat 0 1 (move_ok (reF (juL (laL (thL (slF (moF (slF (slF L 5 5) 6 6) 3 11) 4 4) 3 7 11 4) [102, 105, 108, 101]) 16 6 0 [102, 105, 108, 101, 32, 101, 110, 100]) 0) (by with_reducible (repeat (first | refine thL_le ?_ | refine laL_le ?_ | refine juL_le ?_ | refine moF_le ?_ | refine slF_le ?_ | refine reF_le ?_)); (try simp only [Nat.zero_add]); omega) 2 15) fun g_ => ?_
  refine pops_go ?_ ?_ (pops_end ?_)
  (repeat refine ka ?_); refine kr ?_ ?_ ?_
  refine ps_lat 0 1 (read_ok (moF (reF (juL (laL (thL (slF (moF (slF (slF L 5 5) 6 6) 3 11) 4 4) 3 7 11 4) [102, 105, 108, 101]) 16 6 0 [102, 105, 108, 101, 32, 101, 110, 100]) 0) 2 15) (by with_reducible (repeat (first | refine thL_le ?_ | refine laL_le ?_ | refine juL_le ?_ | refine moF_le ?_ | refine slF_le ?_ | refine reF_le ?_)); (try simp only [Nat.zero_add]); omega) 1) fun g_ => ?_
  refine pops_go ?_ ?_ (pops_end ?_)
  (repeat refine ka ?_); refine kr ?_ ?_ ?_
  refine ps_lat 0 1 (shift_ok (reF (moF (reF (juL (laL (thL (slF (moF (slF (slF L 5 5) 6 6) 3 11) 4 4) 3 7 11 4) [102, 105, 108, 101]) 16 6 0 [102, 105, 108, 101, 32, 101, 110, 100]) 0) 2 15) 1) (by with_reducible (repeat (first | refine thL_le ?_ | refine laL_le ?_ | refine juL_le ?_ | refine moF_le ?_ | refine slF_le ?_ | refine reF_le ?_)); (try simp only [Nat.zero_add]); omega) 9 15 15 8 (by omega)) fun g_ => ?_
  refine pops_go ?_ ?_ (pops_end ?_)
  (repeat refine ka ?_); refine kr ?_ ?_ ?_
  refine ps_lat 0 1 (three_ok (shF (reF (moF (reF (juL (laL (thL (slF (moF (slF (slF L 5 5) 6 6) 3 11) 4 4) 3 7 11 4) [102, 105, 108, 101]) 16 6 0 [102, 105, 108, 101, 32, 101, 110, 100]) 0) 2 15) 1) 9 15 15 8) (by with_reducible (repeat (first | refine thL_le ?_ | refine laL_le ?_ | refine juL_le ?_ | refine moF_le ?_ | refine slF_le ?_ | refine shF_le ?_ | refine reF_le ?_)); (try simp only [Nat.zero_add]); omega) 7 2 2 15) fun g_ => ?_
  refine pops_go ?_ ?_ (pops_end ?_)
  (repeat refine ka ?_); refine kr ?_ ?_ ?_
  refine ps_lat 0 1 (imm_ok (thL (shF (reF (moF (reF (juL (laL (thL (slF (moF (slF (slF L 5 5) 6 6) 3 11) 4 4) 3 7 11 4) [102, 105, 108, 101]) 16 6 0 [102, 105, 108, 101, 32, 101, 110, 100]) 0) 2 15) 1) 9 15 15 8) 7 2 2 15) (by with_reducible (repeat (first | refine thL_le ?_ | refine laL_le ?_ | refine juL_le ?_ | refine moF_le ?_ | refine slF_le ?_ | refine shF_le ?_ | refine reF_le ?_)); (try simp only [Nat.zero_add]); omega) 11 5 5 2) fun g_ => ?_
  refine pops_go ?_ ?_ (pops_end ?_)
  (repeat refine ka ?_); refine kr ?_ ?_ ?_
  refine ps_lat 0 1 (set_ok (imL (thL (shF (reF (moF (reF (juL (laL (thL (slF (moF (slF (slF L 5 5) 6 6) 3 11) 4 4) 3 7 11 4) [102, 105, 108, 101]) 16 6 0 [102, 105, 108, 101, 32, 101, 110, 100]) 0) 2 15) 1) 9 15 15 8) 7 2 2 15) 11 5 5 2) (by with_reducible (repeat (first | refine thL_le ?_ | refine imL_le ?_ | refine laL_le ?_ | refine juL_le ?_ | refine moF_le ?_ | refine slF_le ?_ | refine shF_le ?_ | refine reF_le ?_)); (try simp only [Nat.zero_add]); omega) 10 201 (by omega)) fun g_ => ?_
  refine pops_go ?_ ?_ (pops_end ?_)
  (repeat refine ka ?_); refine kr ?_ ?_ ?_
  refine ps_lat 0 1 (jump_ok (seF (imL (thL (shF (reF (moF (reF (juL (laL (thL (slF (moF (slF (slF L 5 5) 6 6) 3 11) 4 4) 3 7 11 4) [102, 105, 108, 101]) 16 6 0 [102, 105, 108, 101, 32, 101, 110, 100]) 0) 2 15) 1) 9 15 15 8) 7 2 2 15) 11 5 5 2) 10 201) (by with_reducible (repeat (first | refine thL_le ?_ | refine imL_le ?_ | refine laL_le ?_ | refine juL_le ?_ | refine moF_le ?_ | refine seF_le ?_ | refine slF_le ?_ | refine shF_le ?_ | refine reF_le ?_)); (try simp only [Nat.zero_add]); omega) 19 2 10 [98, 97, 100, 32, 100, 105, 114]) fun g_ => ?_
  refine pops_go ?_ ?_ (pops_end ?_)
  (repeat refine ka ?_); refine kr ?_ ?_ ?_
  refine ps_lat 0 1 (set_ok (juL (seF (imL (thL (shF (reF (moF (reF (juL (laL (thL (slF (moF (slF (slF L 5 5) 6 6) 3 11) 4 4) 3 7 11 4) [102, 105, 108, 101]) 16 6 0 [102, 105, 108, 101, 32, 101, 110, 100]) 0) 2 15) 1) 9 15 15 8) 7 2 2 15) 11 5 5 2) 10 201) 19 2 10 [98, 97, 100, 32, 100, 105, 114]) (by with_reducible (repeat (first | refine thL_le ?_ | refine imL_le ?_ | refine laL_le ?_ | refine juL_le ?_ | refine moF_le ?_ | refine seF_le ?_ | refine slF_le ?_ | refine shF_le ?_ | refine reF_le ?_)); (try simp only [Nat.zero_add]); omega) 9 0 (by omega)) fun g_ => ?_
  refine pops_go ?_ ?_ (pops_end ?_)
  (repeat refine ka ?_); refine kr ?_ ?_ ?_
  refine ps_lat 0 1 (label_ok (seF (juL (seF (imL (thL (shF (reF (moF (reF (juL (laL (thL (slF (moF (slF (slF L 5 5) 6 6) 3 11) 4 4) 3 7 11 4) [102, 105, 108, 101]) 16 6 0 [102, 105, 108, 101, 32, 101, 110, 100]) 0) 2 15) 1) 9 15 15 8) 7 2 2 15) 11 5 5 2) 10 201) 19 2 10 [98, 97, 100, 32, 100, 105, 114]) 9 0) (by with_reducible (repeat (first | refine thL_le ?_ | refine imL_le ?_ | refine laL_le ?_ | refine juL_le ?_ | refine moF_le ?_ | refine seF_le ?_ | refine slF_le ?_ | refine shF_le ?_ | refine reF_le ?_)); (try simp only [Nat.zero_add]); omega) [112, 97, 116, 104]) fun g_ => ?_
  refine pops_go ?_ ?_ (pops_end ?_)
  (repeat refine ka ?_); refine kr ?_ ?_ ?_
  refine ps_lat 0 1 (jump_ok (laL (seF (juL (seF (imL (thL (shF (reF (moF (reF (juL (laL (thL (slF (moF (slF (slF L 5 5) 6 6) 3 11) 4 4) 3 7 11 4) [102, 105, 108, 101]) 16 6 0 [102, 105, 108, 101, 32, 101, 110, 100]) 0) 2 15) 1) 9 15 15 8) 7 2 2 15) 11 5 5 2) 10 201) 19 2 10 [98, 97, 100, 32, 100, 105, 114]) 9 0) [112, 97, 116, 104]) (by with_reducible (repeat (first | refine thL_le ?_ | refine imL_le ?_ | refine laL_le ?_ | refine juL_le ?_ | refine moF_le ?_ | refine seF_le ?_ | refine slF_le ?_ | refine shF_le ?_ | refine reF_le ?_)); (try simp only [Nat.zero_add]); omega) 19 9 2 [112, 97, 116, 104, 32, 101, 110, 100]) fun g_ => ?_
  refine pops_go ?_ ?_ (pops_end ?_)
  (repeat refine ka ?_); refine kr ?_ ?_ ?_
  refine ps_lat 0 1 (read_ok (juL (laL (seF (juL (seF (imL (thL (shF (reF (moF (reF (juL (laL (thL (slF (moF (slF (slF L 5 5) 6 6) 3 11) 4 4) 3 7 11 4) [102, 105, 108, 101]) 16 6 0 [102, 105, 108, 101, 32, 101, 110, 100]) 0) 2 15) 1) 9 15 15 8) 7 2 2 15) 11 5 5 2) 10 201) 19 2 10 [98, 97, 100, 32, 100, 105, 114]) 9 0) [112, 97, 116, 104]) 19 9 2 [112, 97, 116, 104, 32, 101, 110, 100]) (by with_reducible (repeat (first | refine thL_le ?_ | refine imL_le ?_ | refine laL_le ?_ | refine juL_le ?_ | refine moF_le ?_ | refine seF_le ?_ | refine slF_le ?_ | refine shF_le ?_ | refine reF_le ?_)); (try simp only [Nat.zero_add]); omega) 0) fun g_ => ?_
  refine pops_go ?_ ?_ (pops_end ?_)
  (repeat refine ka ?_); refine kr ?_ ?_ ?_
  refine ps_lat 0 1 (three_ok (reF (juL (laL (seF (juL (seF (imL (thL (shF (reF (moF (reF (juL (laL (thL (slF (moF (slF (slF L 5 5) 6 6) 3 11) 4 4) 3 7 11 4) [102, 105, 108, 101]) 16 6 0 [102, 105, 108, 101, 32, 101, 110, 100]) 0) 2 15) 1) 9 15 15 8) 7 2 2 15) 11 5 5 2) 10 201) 19 2 10 [98, 97, 100, 32, 100, 105, 114]) 9 0) [112, 97, 116, 104]) 19 9 2 [112, 97, 116, 104, 32, 101, 110, 100]) 0) (by with_reducible (repeat (first | refine thL_le ?_ | refine imL_le ?_ | refine laL_le ?_ | refine juL_le ?_ | refine moF_le ?_ | refine seF_le ?_ | refine slF_le ?_ | refine shF_le ?_ | refine reF_le ?_)); (try simp only [Nat.zero_add]); omega) 3 10 13 9) fun g_ => ?_
  refine pops_go ?_ ?_ (pops_end ?_)
  (repeat refine ka ?_); refine kr ?_ ?_ ?_
  refine ps_lat 0 1 (imm_ok (thL (reF (juL (laL (seF (juL (seF (imL (thL (shF (reF (moF (reF (juL (laL (thL (slF (moF (slF (slF L 5 5) 6 6) 3 11) 4 4) 3 7 11 4) [102, 105, 108, 101]) 16 6 0 [102, 105, 108, 101, 32, 101, 110, 100]) 0) 2 15) 1) 9 15 15 8) 7 2 2 15) 11 5 5 2) 10 201) 19 2 10 [98, 97, 100, 32, 100, 105, 114]) 9 0) [112, 97, 116, 104]) 19 9 2 [112, 97, 116, 104, 32, 101, 110, 100]) 0) 3 10 13 9) (by with_reducible (repeat (first | refine thL_le ?_ | refine imL_le ?_ | refine laL_le ?_ | refine juL_le ?_ | refine moF_le ?_ | refine seF_le ?_ | refine slF_le ?_ | refine shF_le ?_ | refine reF_le ?_)); (try simp only [Nat.zero_add]); omega) 13 15 10 0) fun g_ => ?_
  refine pops_go ?_ ?_ (pops_end ?_)
  (repeat refine ka ?_); refine kr ?_ ?_ ?_
  refine ps_lat 0 1 (imm_ok (imL (thL (reF (juL (laL (seF (juL (seF (imL (thL (shF (reF (moF (reF (juL (laL (thL (slF (moF (slF (slF L 5 5) 6 6) 3 11) 4 4) 3 7 11 4) [102, 105, 108, 101]) 16 6 0 [102, 105, 108, 101, 32, 101, 110, 100]) 0) 2 15) 1) 9 15 15 8) 7 2 2 15) 11 5 5 2) 10 201) 19 2 10 [98, 97, 100, 32, 100, 105, 114]) 9 0) [112, 97, 116, 104]) 19 9 2 [112, 97, 116, 104, 32, 101, 110, 100]) 0) 3 10 13 9) 13 15 10 0) (by with_reducible (repeat (first | refine thL_le ?_ | refine imL_le ?_ | refine laL_le ?_ | refine juL_le ?_ | refine moF_le ?_ | refine seF_le ?_ | refine slF_le ?_ | refine shF_le ?_ | refine reF_le ?_)); (try simp only [Nat.zero_add]); omega) 11 5 5 1) fun g_ => ?_
  refine pops_go ?_ ?_ (pops_end ?_)
  (repeat refine ka ?_); refine kr ?_ ?_ ?_
  refine ps_lat 0 1 (imm_ok (imL (imL (thL (reF (juL (laL (seF (juL (seF (imL (thL (shF (reF (moF (reF (juL (laL (thL (slF (moF (slF (slF L 5 5) 6 6) 3 11) 4 4) 3 7 11 4) [102, 105, 108, 101]) 16 6 0 [102, 105, 108, 101, 32, 101, 110, 100]) 0) 2 15) 1) 9 15 15 8) 7 2 2 15) 11 5 5 2) 10 201) 19 2 10 [98, 97, 100, 32, 100, 105, 114]) 9 0) [112, 97, 116, 104]) 19 9 2 [112, 97, 116, 104, 32, 101, 110, 100]) 0) 3 10 13 9) 13 15 10 0) 11 5 5 1) (by with_reducible (repeat (first | refine thL_le ?_ | refine imL_le ?_ | refine laL_le ?_ | refine juL_le ?_ | refine moF_le ?_ | refine seF_le ?_ | refine slF_le ?_ | refine shF_le ?_ | refine reF_le ?_)); (try simp only [Nat.zero_add]); omega) 11 9 9 1) fun g_ => ?_
  refine pops_go ?_ ?_ (pops_end ?_)
  (repeat refine ka ?_); refine kr ?_ ?_ ?_
  refine ps_lat 0 1 (to_ok (imL (imL (imL (thL (reF (juL (laL (seF (juL (seF (imL (thL (shF (reF (moF (reF (juL (laL (thL (slF (moF (slF (slF L 5 5) 6 6) 3 11) 4 4) 3 7 11 4) [102, 105, 108, 101]) 16 6 0 [102, 105, 108, 101, 32, 101, 110, 100]) 0) 2 15) 1) 9 15 15 8) 7 2 2 15) 11 5 5 2) 10 201) 19 2 10 [98, 97, 100, 32, 100, 105, 114]) 9 0) [112, 97, 116, 104]) 19 9 2 [112, 97, 116, 104, 32, 101, 110, 100]) 0) 3 10 13 9) 13 15 10 0) 11 5 5 1) 11 9 9 1) (by with_reducible (repeat (first | refine thL_le ?_ | refine imL_le ?_ | refine laL_le ?_ | refine juL_le ?_ | refine moF_le ?_ | refine seF_le ?_ | refine slF_le ?_ | refine shF_le ?_ | refine reF_le ?_)); (try simp only [Nat.zero_add]); omega) [112, 97, 116, 104]) fun g_ => ?_
  refine pops_go ?_ ?_ (pops_end ?_)
  (repeat refine ka ?_); refine kr ?_ ?_ ?_
  refine ps_lat 0 1 (label_ok (toF (imL (imL (imL (thL (reF (juL (laL (seF (juL (seF (imL (thL (shF (reF (moF (reF (juL (laL (thL (slF (moF (slF (slF L 5 5) 6 6) 3 11) 4 4) 3 7 11 4) [102, 105, 108, 101]) 16 6 0 [102, 105, 108, 101, 32, 101, 110, 100]) 0) 2 15) 1) 9 15 15 8) 7 2 2 15) 11 5 5 2) 10 201) 19 2 10 [98, 97, 100, 32, 100, 105, 114]) 9 0) [112, 97, 116, 104]) 19 9 2 [112, 97, 116, 104, 32, 101, 110, 100]) 0) 3 10 13 9) 13 15 10 0) 11 5 5 1) 11 9 9 1) [112, 97, 116, 104]) (by with_reducible (repeat (first | refine thL_le ?_ | refine imL_le ?_ | refine laL_le ?_ | refine juL_le ?_ | refine moF_le ?_ | refine toF_le ?_ | refine seF_le ?_ | refine slF_le ?_ | refine shF_le ?_ | refine reF_le ?_)); (try simp only [Nat.zero_add]); omega) [112, 97, 116, 104, 32, 101, 110, 100]) fun g_ => ?_
  refine pops_go ?_ ?_ (pops_end ?_)
  (repeat refine ka ?_); refine kr ?_ ?_ ?_
  refine ps_lat 0 1 (set_ok (laL (toF (imL (imL (imL (thL (reF (juL (laL (seF (juL (seF (imL (thL (shF (reF (moF (reF (juL (laL (thL (slF (moF (slF (slF L 5 5) 6 6) 3 11) 4 4) 3 7 11 4) [102, 105, 108, 101]) 16 6 0 [102, 105, 108, 101, 32, 101, 110, 100]) 0) 2 15) 1) 9 15 15 8) 7 2 2 15) 11 5 5 2) 10 201) 19 2 10 [98, 97, 100, 32, 100, 105, 114]) 9 0) [112, 97, 116, 104]) 19 9 2 [112, 97, 116, 104, 32, 101, 110, 100]) 0) 3 10 13 9) 13 15 10 0) 11 5 5 1) 11 9 9 1) [112, 97, 116, 104]) [112, 97, 116, 104, 32, 101, 110, 100]) (by with_reducible (repeat (first | refine thL_le ?_ | refine imL_le ?_ | refine laL_le ?_ | refine juL_le ?_ | refine moF_le ?_ | refine toF_le ?_ | refine seF_le ?_ | refine slF_le ?_ | refine shF_le ?_ | refine reF_le ?_)); (try simp only [Nat.zero_add]); omega) 4 0 (by omega)) fun g_ => ?_
  refine pops_go ?_ ?_ (pops_end ?_)
  (repeat refine ka ?_); refine kr ?_ ?_ ?_
  refine ps_lat 0 1 (set_ok (seF (laL (toF (imL (imL (imL (thL (reF (juL (laL (seF (juL (seF (imL (thL (shF (reF (moF (reF (juL (laL (thL (slF (moF (slF (slF L 5 5) 6 6) 3 11) 4 4) 3 7 11 4) [102, 105, 108, 101]) 16 6 0 [102, 105, 108, 101, 32, 101, 110, 100]) 0) 2 15) 1) 9 15 15 8) 7 2 2 15) 11 5 5 2) 10 201) 19 2 10 [98, 97, 100, 32, 100, 105, 114]) 9 0) [112, 97, 116, 104]) 19 9 2 [112, 97, 116, 104, 32, 101, 110, 100]) 0) 3 10 13 9) 13 15 10 0) 11 5 5 1) 11 9 9 1) [112, 97, 116, 104]) [112, 97, 116, 104, 32, 101, 110, 100]) 4 0) (by with_reducible (repeat (first | refine thL_le ?_ | refine imL_le ?_ | refine laL_le ?_ | refine juL_le ?_ | refine moF_le ?_ | refine toF_le ?_ | refine seF_le ?_ | refine slF_le ?_ | refine shF_le ?_ | refine reF_le ?_)); (try simp only [Nat.zero_add]); omega) 10 8 (by omega)) fun g_ => ?_
  refine pops_go ?_ ?_ (pops_end ?_)
  (repeat refine ka ?_); refine kr ?_ ?_ (pops_end ?_)
  (repeat refine ka ?_); refine kb ?_
  refine kw (fun s : Nat × Nat => [(0, PV.ptr 0 gb 0 0), (2, .v (.int .i64 (3 - (s.1 : Int))))]) (fun s => [⟨gb, true, 1, [[.vw 1 s.2 0 (wkL (seF (seF (laL (toF (imL (imL (imL (thL (reF (juL (laL (seF (juL (seF (imL (thL (shF (reF (moF (reF (juL (laL (thL (slF (moF (slF (slF L 5 5) 6 6) 3 11) 4 4) 3 7 11 4) [102, 105, 108, 101]) 16 6 0 [102, 105, 108, 101, 32, 101, 110, 100]) 0) 2 15) 1) 9 15 15 8) 7 2 2 15) 11 5 5 2) 10 201) 19 2 10 [98, 97, 100, 32, 100, 105, 114]) 9 0) [112, 97, 116, 104]) 19 9 2 [112, 97, 116, 104, 32, 101, 110, 100]) 0) 3 10 13 9) 13 15 10 0) 11 5 5 1) 11 9 9 1) [112, 97, 116, 104]) [112, 97, 116, 104, 32, 101, 110, 100]) 4 0) 10 8) s.1).length]]⟩, ⟨s.2, true, 8, itRows (wkL (seF (seF (laL (toF (imL (imL (imL (thL (reF (juL (laL (seF (juL (seF (imL (thL (shF (reF (moF (reF (juL (laL (thL (slF (moF (slF (slF L 5 5) 6 6) 3 11) 4 4) 3 7 11 4) [102, 105, 108, 101]) 16 6 0 [102, 105, 108, 101, 32, 101, 110, 100]) 0) 2 15) 1) 9 15 15 8) 7 2 2 15) 11 5 5 2) 10 201) 19 2 10 [98, 97, 100, 32, 100, 105, 114]) 9 0) [112, 97, 116, 104]) 19 9 2 [112, 97, 116, 104, 32, 101, 110, 100]) 0) 3 10 13 9) 13 15 10 0) 11 5 5 1) 11 9 9 1) [112, 97, 116, 104]) [112, 97, 116, 104, 32, 101, 110, 100]) 4 0) 10 8) s.1)⟩]) (fun s => s.1 ≤ 4) (fun s => 4 - s.1) (0, g_) (Nat.zero_le _) (holds 2 (by repeat (first | exact .nil | refine has1 ?_))) ?_
  rintro ⟨j, g⟩ (hj : j ≤ 4)
  dsimp only
  by_cases h : j < 4
  · have e3 : IntKind.i64.wrap (3 - (j : Int) - 1) = 3 - ((j + 1 : Nat) : Int) := by rw [wrap_i64 _ (by omega) (by omega)]; omega
    (repeat refine ka ?_); refine kr ?_ ?_ (pops_end ?_)
    (repeat refine ka ?_); refine kct ?_
    (repeat refine ka ?_); refine ksk ?_
    (repeat refine ka ?_); refine kb ?_
    (repeat refine ka ?_); refine kr ?_ ?_ ?_
    refine ps_lat 0 1 (three_ok (wkL (seF (seF (laL (toF (imL (imL (imL (thL (reF (juL (laL (seF (juL (seF (imL (thL (shF (reF (moF (reF (juL (laL (thL (slF (moF (slF (slF L 5 5) 6 6) 3 11) 4 4) 3 7 11 4) [102, 105, 108, 101]) 16 6 0 [102, 105, 108, 101, 32, 101, 110, 100]) 0) 2 15) 1) 9 15 15 8) 7 2 2 15) 11 5 5 2) 10 201) 19 2 10 [98, 97, 100, 32, 100, 105, 114]) 9 0) [112, 97, 116, 104]) 19 9 2 [112, 97, 116, 104, 32, 101, 110, 100]) 0) 3 10 13 9) 13 15 10 0) 11 5 5 1) 11 9 9 1) [112, 97, 116, 104]) [112, 97, 116, 104, 32, 101, 110, 100]) 4 0) 10 8) j) (by with_reducible (repeat (first | refine thL_le ?_ | refine imL_le ?_ | refine laL_le ?_ | refine juL_le ?_ | refine moF_le ?_ | refine toF_le ?_ | refine seF_le ?_ | refine slF_le ?_ | refine shF_le ?_ | refine reF_le ?_ | refine wkL_le ?_)); (try simp only [Nat.zero_add]); omega) 9 4 4 10) fun g1 => ?_
    refine pops_go ?_ ?_ (pops_end ?_)
    (repeat refine ka ?_); refine kr ?_ ?_ ?_
    refine ps_lat 0 1 (read_ok (thL (wkL (seF (seF (laL (toF (imL (imL (imL (thL (reF (juL (laL (seF (juL (seF (imL (thL (shF (reF (moF (reF (juL (laL (thL (slF (moF (slF (slF L 5 5) 6 6) 3 11) 4 4) 3 7 11 4) [102, 105, 108, 101]) 16 6 0 [102, 105, 108, 101, 32, 101, 110, 100]) 0) 2 15) 1) 9 15 15 8) 7 2 2 15) 11 5 5 2) 10 201) 19 2 10 [98, 97, 100, 32, 100, 105, 114]) 9 0) [112, 97, 116, 104]) 19 9 2 [112, 97, 116, 104, 32, 101, 110, 100]) 0) 3 10 13 9) 13 15 10 0) 11 5 5 1) 11 9 9 1) [112, 97, 116, 104]) [112, 97, 116, 104, 32, 101, 110, 100]) 4 0) 10 8) j) 9 4 4 10) (by with_reducible (repeat (first | refine thL_le ?_ | refine imL_le ?_ | refine laL_le ?_ | refine juL_le ?_ | refine moF_le ?_ | refine toF_le ?_ | refine seF_le ?_ | refine slF_le ?_ | refine shF_le ?_ | refine reF_le ?_ | refine wkL_le ?_)); (try simp only [Nat.zero_add]); omega) (3 - (j : Int))) fun g2 => ?_
    refine pops_go ?_ ?_ (pops_end ?_)
    (repeat refine ka ?_); refine kr ?_ ?_ ?_
    refine ps_lat 0 1 (three_ok (reF (thL (wkL (seF (seF (laL (toF (imL (imL (imL (thL (reF (juL (laL (seF (juL (seF (imL (thL (shF (reF (moF (reF (juL (laL (thL (slF (moF (slF (slF L 5 5) 6 6) 3 11) 4 4) 3 7 11 4) [102, 105, 108, 101]) 16 6 0 [102, 105, 108, 101, 32, 101, 110, 100]) 0) 2 15) 1) 9 15 15 8) 7 2 2 15) 11 5 5 2) 10 201) 19 2 10 [98, 97, 100, 32, 100, 105, 114]) 9 0) [112, 97, 116, 104]) 19 9 2 [112, 97, 116, 104, 32, 101, 110, 100]) 0) 3 10 13 9) 13 15 10 0) 11 5 5 1) 11 9 9 1) [112, 97, 116, 104]) [112, 97, 116, 104, 32, 101, 110, 100]) 4 0) 10 8) j) 9 4 4 10) (3 - (j : Int))) (by with_reducible (repeat (first | refine thL_le ?_ | refine imL_le ?_ | refine laL_le ?_ | refine juL_le ?_ | refine moF_le ?_ | refine toF_le ?_ | refine seF_le ?_ | refine slF_le ?_ | refine shF_le ?_ | refine reF_le ?_ | refine wkL_le ?_)); (try simp only [Nat.zero_add]); omega) 7 4 4 15) fun g3 => ?_
    refine pops_go ?_ ?_ (pops_end ?_)
    refine kn ?_; repeat (first | with_reducible refine blk_n ?_ | with_reducible refine beh_n ?_)
    (repeat refine ka ?_); refine kr ?_ ?_ (pops_end ?_)
    refine kn ?_; repeat (first | with_reducible refine blk_n ?_ | with_reducible refine beh_n ?_)
    exact ⟨(j + 1, g3), by show j + 1 ≤ 4; omega, by show 4 - (j + 1) < 4 - j; omega, (holds 2 (by repeat (first | exact .nil | refine has1 ?_)))⟩
  · obtain rfl : j = 4 := by omega
    (repeat refine ka ?_); refine kr ?_ ?_ (pops_end ?_)
    (repeat refine ka ?_); refine kcf ?_
    (repeat refine ka ?_); refine kx ?_; (repeat (first | with_reducible refine beh_x ?_ | with_reducible refine blk_up rfl ?_)); refine blk_here ?_; refine beh_n ?_
    (repeat refine ka ?_); refine kr ?_ ?_ ?_
    refine ps_lat 0 1 (imm_ok (wkL (seF (seF (laL (toF (imL (imL (imL (thL (reF (juL (laL (seF (juL (seF (imL (thL (shF (reF (moF (reF (juL (laL (thL (slF (moF (slF (slF L 5 5) 6 6) 3 11) 4 4) 3 7 11 4) [102, 105, 108, 101]) 16 6 0 [102, 105, 108, 101, 32, 101, 110, 100]) 0) 2 15) 1) 9 15 15 8) 7 2 2 15) 11 5 5 2) 10 201) 19 2 10 [98, 97, 100, 32, 100, 105, 114]) 9 0) [112, 97, 116, 104]) 19 9 2 [112, 97, 116, 104, 32, 101, 110, 100]) 0) 3 10 13 9) 13 15 10 0) 11 5 5 1) 11 9 9 1) [112, 97, 116, 104]) [112, 97, 116, 104, 32, 101, 110, 100]) 4 0) 10 8) 4) (by with_reducible (repeat (first | refine thL_le ?_ | refine imL_le ?_ | refine laL_le ?_ | refine juL_le ?_ | refine moF_le ?_ | refine toF_le ?_ | refine seF_le ?_ | refine slF_le ?_ | refine shF_le ?_ | refine reF_le ?_ | refine wkL_le ?_)); (try simp only [Nat.zero_add]); omega) 11 5 5 4) fun g_ => ?_
    refine pops_go ?_ ?_ (pops_end ?_)
    (repeat refine ka ?_); refine kr ?_ ?_ ?_
    refine ps_lat 0 1 (three_ok (imL (wkL (seF (seF (laL (toF (imL (imL (imL (thL (reF (juL (laL (seF (juL (seF (imL (thL (shF (reF (moF (reF (juL (laL (thL (slF (moF (slF (slF L 5 5) 6 6) 3 11) 4 4) 3 7 11 4) [102, 105, 108, 101]) 16 6 0 [102, 105, 108, 101, 32, 101, 110, 100]) 0) 2 15) 1) 9 15 15 8) 7 2 2 15) 11 5 5 2) 10 201) 19 2 10 [98, 97, 100, 32, 100, 105, 114]) 9 0) [112, 97, 116, 104]) 19 9 2 [112, 97, 116, 104, 32, 101, 110, 100]) 0) 3 10 13 9) 13 15 10 0) 11 5 5 1) 11 9 9 1) [112, 97, 116, 104]) [112, 97, 116, 104, 32, 101, 110, 100]) 4 0) 10 8) 4) 11 5 5 4) (by with_reducible (repeat (first | refine thL_le ?_ | refine imL_le ?_ | refine laL_le ?_ | refine juL_le ?_ | refine moF_le ?_ | refine toF_le ?_ | refine seF_le ?_ | refine slF_le ?_ | refine shF_le ?_ | refine reF_le ?_ | refine wkL_le ?_)); (try simp only [Nat.zero_add]); omega) 4 14 7 3) fun g_ => ?_
    refine pops_go ?_ ?_ (pops_end ?_)
    (repeat refine ka ?_); refine kr ?_ ?_ ?_
    refine ps_lat 0 1 (jump_ok (thL (imL (wkL (seF (seF (laL (toF (imL (imL (imL (thL (reF (juL (laL (seF (juL (seF (imL (thL (shF (reF (moF (reF (juL (laL (thL (slF (moF (slF (slF L 5 5) 6 6) 3 11) 4 4) 3 7 11 4) [102, 105, 108, 101]) 16 6 0 [102, 105, 108, 101, 32, 101, 110, 100]) 0) 2 15) 1) 9 15 15 8) 7 2 2 15) 11 5 5 2) 10 201) 19 2 10 [98, 97, 100, 32, 100, 105, 114]) 9 0) [112, 97, 116, 104]) 19 9 2 [112, 97, 116, 104, 32, 101, 110, 100]) 0) 3 10 13 9) 13 15 10 0) 11 5 5 1) 11 9 9 1) [112, 97, 116, 104]) [112, 97, 116, 104, 32, 101, 110, 100]) 4 0) 10 8) 4) 11 5 5 4) 4 14 7 3) (by with_reducible (repeat (first | refine thL_le ?_ | refine imL_le ?_ | refine laL_le ?_ | refine juL_le ?_ | refine moF_le ?_ | refine toF_le ?_ | refine seF_le ?_ | refine slF_le ?_ | refine shF_le ?_ | refine reF_le ?_ | refine wkL_le ?_)); (try simp only [Nat.zero_add]); omega) 18 14 4 [98, 97, 100, 32, 100, 105, 114]) fun g_ => ?_
    refine pops_go ?_ ?_ (pops_end ?_)
    (repeat refine ka ?_); refine kr ?_ ?_ ?_
    refine ps_lat 0 1 (move_ok (juL (thL (imL (wkL (seF (seF (laL (toF (imL (imL (imL (thL (reF (juL (laL (seF (juL (seF (imL (thL (shF (reF (moF (reF (juL (laL (thL (slF (moF (slF (slF L 5 5) 6 6) 3 11) 4 4) 3 7 11 4) [102, 105, 108, 101]) 16 6 0 [102, 105, 108, 101, 32, 101, 110, 100]) 0) 2 15) 1) 9 15 15 8) 7 2 2 15) 11 5 5 2) 10 201) 19 2 10 [98, 97, 100, 32, 100, 105, 114]) 9 0) [112, 97, 116, 104]) 19 9 2 [112, 97, 116, 104, 32, 101, 110, 100]) 0) 3 10 13 9) 13 15 10 0) 11 5 5 1) 11 9 9 1) [112, 97, 116, 104]) [112, 97, 116, 104, 32, 101, 110, 100]) 4 0) 10 8) 4) 11 5 5 4) 4 14 7 3) 18 14 4 [98, 97, 100, 32, 100, 105, 114]) (by with_reducible (repeat (first | refine thL_le ?_ | refine imL_le ?_ | refine laL_le ?_ | refine juL_le ?_ | refine moF_le ?_ | refine toF_le ?_ | refine seF_le ?_ | refine slF_le ?_ | refine shF_le ?_ | refine reF_le ?_ | refine wkL_le ?_)); (try simp only [Nat.zero_add]); omega) 1 13) fun g_ => ?_
    refine pops_go ?_ ?_ (pops_end ?_)
    (repeat refine ka ?_); refine kr ?_ ?_ ?_
    refine ps_lat 0 1 (sys_ok (moF (juL (thL (imL (wkL (seF (seF (laL (toF (imL (imL (imL (thL (reF (juL (laL (seF (juL (seF (imL (thL (shF (reF (moF (reF (juL (laL (thL (slF (moF (slF (slF L 5 5) 6 6) 3 11) 4 4) 3 7 11 4) [102, 105, 108, 101]) 16 6 0 [102, 105, 108, 101, 32, 101, 110, 100]) 0) 2 15) 1) 9 15 15 8) 7 2 2 15) 11 5 5 2) 10 201) 19 2 10 [98, 97, 100, 32, 100, 105, 114]) 9 0) [112, 97, 116, 104]) 19 9 2 [112, 97, 116, 104, 32, 101, 110, 100]) 0) 3 10 13 9) 13 15 10 0) 11 5 5 1) 11 9 9 1) [112, 97, 116, 104]) [112, 97, 116, 104, 32, 101, 110, 100]) 4 0) 10 8) 4) 11 5 5 4) 4 14 7 3) 18 14 4 [98, 97, 100, 32, 100, 105, 114]) 1 13) (by with_reducible (repeat (first | refine thL_le ?_ | refine imL_le ?_ | refine laL_le ?_ | refine juL_le ?_ | refine moF_le ?_ | refine toF_le ?_ | refine seF_le ?_ | refine slF_le ?_ | refine shF_le ?_ | refine reF_le ?_ | refine wkL_le ?_)); (try simp only [Nat.zero_add]); omega) 3) fun g_ => ?_
    refine pops_go ?_ ?_ (pops_end ?_)
    (repeat refine ka ?_); refine kr ?_ ?_ ?_
    refine ps_lat 0 1 (three_ok (syF (moF (juL (thL (imL (wkL (seF (seF (laL (toF (imL (imL (imL (thL (reF (juL (laL (seF (juL (seF (imL (thL (shF (reF (moF (reF (juL (laL (thL (slF (moF (slF (slF L 5 5) 6 6) 3 11) 4 4) 3 7 11 4) [102, 105, 108, 101]) 16 6 0 [102, 105, 108, 101, 32, 101, 110, 100]) 0) 2 15) 1) 9 15 15 8) 7 2 2 15) 11 5 5 2) 10 201) 19 2 10 [98, 97, 100, 32, 100, 105, 114]) 9 0) [112, 97, 116, 104]) 19 9 2 [112, 97, 116, 104, 32, 101, 110, 100]) 0) 3 10 13 9) 13 15 10 0) 11 5 5 1) 11 9 9 1) [112, 97, 116, 104]) [112, 97, 116, 104, 32, 101, 110, 100]) 4 0) 10 8) 4) 11 5 5 4) 4 14 7 3) 18 14 4 [98, 97, 100, 32, 100, 105, 114]) 1 13) 3) (by with_reducible (repeat (first | refine thL_le ?_ | refine imL_le ?_ | refine laL_le ?_ | refine juL_le ?_ | refine moF_le ?_ | refine syF_le ?_ | refine toF_le ?_ | refine seF_le ?_ | refine slF_le ?_ | refine shF_le ?_ | refine reF_le ?_ | refine wkL_le ?_)); (try simp only [Nat.zero_add]); omega) 3 3 3 4) fun g_ => ?_
    refine pops_go ?_ ?_ (pops_end ?_)
    (repeat refine ka ?_); refine kr ?_ ?_ ?_
    refine ps_lat 0 1 (imm_ok (thL (syF (moF (juL (thL (imL (wkL (seF (seF (laL (toF (imL (imL (imL (thL (reF (juL (laL (seF (juL (seF (imL (thL (shF (reF (moF (reF (juL (laL (thL (slF (moF (slF (slF L 5 5) 6 6) 3 11) 4 4) 3 7 11 4) [102, 105, 108, 101]) 16 6 0 [102, 105, 108, 101, 32, 101, 110, 100]) 0) 2 15) 1) 9 15 15 8) 7 2 2 15) 11 5 5 2) 10 201) 19 2 10 [98, 97, 100, 32, 100, 105, 114]) 9 0) [112, 97, 116, 104]) 19 9 2 [112, 97, 116, 104, 32, 101, 110, 100]) 0) 3 10 13 9) 13 15 10 0) 11 5 5 1) 11 9 9 1) [112, 97, 116, 104]) [112, 97, 116, 104, 32, 101, 110, 100]) 4 0) 10 8) 4) 11 5 5 4) 4 14 7 3) 18 14 4 [98, 97, 100, 32, 100, 105, 114]) 1 13) 3) 3 3 3 4) (by with_reducible (repeat (first | refine thL_le ?_ | refine imL_le ?_ | refine laL_le ?_ | refine juL_le ?_ | refine moF_le ?_ | refine syF_le ?_ | refine toF_le ?_ | refine seF_le ?_ | refine slF_le ?_ | refine shF_le ?_ | refine reF_le ?_ | refine wkL_le ?_)); (try simp only [Nat.zero_add]); omega) 11 6 6 (-1)) fun g_ => ?_
    refine pops_go ?_ ?_ (pops_end ?_)
    (repeat refine ka ?_); refine kr ?_ ?_ ?_
    refine ps_lat 0 1 (to_ok (imL (thL (syF (moF (juL (thL (imL (wkL (seF (seF (laL (toF (imL (imL (imL (thL (reF (juL (laL (seF (juL (seF (imL (thL (shF (reF (moF (reF (juL (laL (thL (slF (moF (slF (slF L 5 5) 6 6) 3 11) 4 4) 3 7 11 4) [102, 105, 108, 101]) 16 6 0 [102, 105, 108, 101, 32, 101, 110, 100]) 0) 2 15) 1) 9 15 15 8) 7 2 2 15) 11 5 5 2) 10 201) 19 2 10 [98, 97, 100, 32, 100, 105, 114]) 9 0) [112, 97, 116, 104]) 19 9 2 [112, 97, 116, 104, 32, 101, 110, 100]) 0) 3 10 13 9) 13 15 10 0) 11 5 5 1) 11 9 9 1) [112, 97, 116, 104]) [112, 97, 116, 104, 32, 101, 110, 100]) 4 0) 10 8) 4) 11 5 5 4) 4 14 7 3) 18 14 4 [98, 97, 100, 32, 100, 105, 114]) 1 13) 3) 3 3 3 4) 11 6 6 (-1)) (by with_reducible (repeat (first | refine thL_le ?_ | refine imL_le ?_ | refine laL_le ?_ | refine juL_le ?_ | refine moF_le ?_ | refine syF_le ?_ | refine toF_le ?_ | refine seF_le ?_ | refine slF_le ?_ | refine shF_le ?_ | refine reF_le ?_ | refine wkL_le ?_)); (try simp only [Nat.zero_add]); omega) [102, 105, 108, 101]) fun g_ => ?_
    refine pops_go ?_ ?_ (pops_end ?_)
    (repeat refine ka ?_); refine kr ?_ ?_ ?_
    refine ps_lat 0 1 (label_ok (toF (imL (thL (syF (moF (juL (thL (imL (wkL (seF (seF (laL (toF (imL (imL (imL (thL (reF (juL (laL (seF (juL (seF (imL (thL (shF (reF (moF (reF (juL (laL (thL (slF (moF (slF (slF L 5 5) 6 6) 3 11) 4 4) 3 7 11 4) [102, 105, 108, 101]) 16 6 0 [102, 105, 108, 101, 32, 101, 110, 100]) 0) 2 15) 1) 9 15 15 8) 7 2 2 15) 11 5 5 2) 10 201) 19 2 10 [98, 97, 100, 32, 100, 105, 114]) 9 0) [112, 97, 116, 104]) 19 9 2 [112, 97, 116, 104, 32, 101, 110, 100]) 0) 3 10 13 9) 13 15 10 0) 11 5 5 1) 11 9 9 1) [112, 97, 116, 104]) [112, 97, 116, 104, 32, 101, 110, 100]) 4 0) 10 8) 4) 11 5 5 4) 4 14 7 3) 18 14 4 [98, 97, 100, 32, 100, 105, 114]) 1 13) 3) 3 3 3 4) 11 6 6 (-1)) [102, 105, 108, 101]) (by with_reducible (repeat (first | refine thL_le ?_ | refine imL_le ?_ | refine laL_le ?_ | refine juL_le ?_ | refine moF_le ?_ | refine syF_le ?_ | refine toF_le ?_ | refine seF_le ?_ | refine slF_le ?_ | refine shF_le ?_ | refine reF_le ?_ | refine wkL_le ?_)); (try simp only [Nat.zero_add]); omega) [102, 105, 108, 101, 32, 101, 110, 100]) fun g_ => ?_
    refine pops_go ?_ ?_ (pops_end ?_)
    (repeat refine ka ?_); refine kr ?_ ?_ ?_
    refine ps_lat 0 1 (jump_ok (laL (toF (imL (thL (syF (moF (juL (thL (imL (wkL (seF (seF (laL (toF (imL (imL (imL (thL (reF (juL (laL (seF (juL (seF (imL (thL (shF (reF (moF (reF (juL (laL (thL (slF (moF (slF (slF L 5 5) 6 6) 3 11) 4 4) 3 7 11 4) [102, 105, 108, 101]) 16 6 0 [102, 105, 108, 101, 32, 101, 110, 100]) 0) 2 15) 1) 9 15 15 8) 7 2 2 15) 11 5 5 2) 10 201) 19 2 10 [98, 97, 100, 32, 100, 105, 114]) 9 0) [112, 97, 116, 104]) 19 9 2 [112, 97, 116, 104, 32, 101, 110, 100]) 0) 3 10 13 9) 13 15 10 0) 11 5 5 1) 11 9 9 1) [112, 97, 116, 104]) [112, 97, 116, 104, 32, 101, 110, 100]) 4 0) 10 8) 4) 11 5 5 4) 4 14 7 3) 18 14 4 [98, 97, 100, 32, 100, 105, 114]) 1 13) 3) 3 3 3 4) 11 6 6 (-1)) [102, 105, 108, 101]) [102, 105, 108, 101, 32, 101, 110, 100]) (by with_reducible (repeat (first | refine thL_le ?_ | refine imL_le ?_ | refine laL_le ?_ | refine juL_le ?_ | refine moF_le ?_ | refine syF_le ?_ | refine toF_le ?_ | refine seF_le ?_ | refine slF_le ?_ | refine shF_le ?_ | refine reF_le ?_ | refine wkL_le ?_)); (try simp only [Nat.zero_add]); omega) 17 3 7 [98, 97, 100, 32, 100, 105, 114]) fun g_ => ?_
    refine pops_go ?_ ?_ (pops_end ?_)
    (repeat refine ka ?_); refine kr ?_ ?_ ?_
    refine ps_lat 0 1 (halt_ok (juL (laL (toF (imL (thL (syF (moF (juL (thL (imL (wkL (seF (seF (laL (toF (imL (imL (imL (thL (reF (juL (laL (seF (juL (seF (imL (thL (shF (reF (moF (reF (juL (laL (thL (slF (moF (slF (slF L 5 5) 6 6) 3 11) 4 4) 3 7 11 4) [102, 105, 108, 101]) 16 6 0 [102, 105, 108, 101, 32, 101, 110, 100]) 0) 2 15) 1) 9 15 15 8) 7 2 2 15) 11 5 5 2) 10 201) 19 2 10 [98, 97, 100, 32, 100, 105, 114]) 9 0) [112, 97, 116, 104]) 19 9 2 [112, 97, 116, 104, 32, 101, 110, 100]) 0) 3 10 13 9) 13 15 10 0) 11 5 5 1) 11 9 9 1) [112, 97, 116, 104]) [112, 97, 116, 104, 32, 101, 110, 100]) 4 0) 10 8) 4) 11 5 5 4) 4 14 7 3) 18 14 4 [98, 97, 100, 32, 100, 105, 114]) 1 13) 3) 3 3 3 4) 11 6 6 (-1)) [102, 105, 108, 101]) [102, 105, 108, 101, 32, 101, 110, 100]) 17 3 7 [98, 97, 100, 32, 100, 105, 114]) (by with_reducible (repeat (first | refine thL_le ?_ | refine imL_le ?_ | refine laL_le ?_ | refine juL_le ?_ | refine moF_le ?_ | refine syF_le ?_ | refine toF_le ?_ | refine seF_le ?_ | refine slF_le ?_ | refine shF_le ?_ | refine reF_le ?_ | refine wkL_le ?_)); (try simp only [Nat.zero_add]); omega) 0 (by omega)) fun g_ => ?_
    refine pops_go ?_ ?_ (pops_end ?_)
    refine kn ?_; repeat (first | with_reducible refine blk_n ?_ | with_reducible refine beh_n ?_)
    refine ends_normal ?_
    exact ⟨_, rfl, rfl⟩
def enF (L : List It) : List It := (haF (laL (haF (laL (haF (laL L [98, 97, 100, 32, 115, 117, 109]) 2) [98, 97, 100, 32, 99, 111, 100, 101]) 3) [98, 97, 100, 32, 100, 105, 114]) 4)
theorem enF_le {L : List It} {c B : Nat} (h : L.length + (c + 12) ≤ B) : (enF L).length + c ≤ B := by
  unfold enF
  repeat (first | with_reducible refine thL_le ?_ | with_reducible refine imL_le ?_ | with_reducible refine laL_le ?_ | with_reducible refine juL_le ?_ | with_reducible refine moF_le ?_ | with_reducible refine syF_le ?_ | with_reducible refine toF_le ?_ | with_reducible refine seF_le ?_ | with_reducible refine slF_le ?_ | with_reducible refine shF_le ?_ | with_reducible refine neF_le ?_ | with_reducible refine puF_le ?_ | with_reducible refine reF_le ?_ | with_reducible refine haF_le ?_ | with_reducible refine spF_le ?_ | with_reducible refine tuF_le ?_ | with_reducible refine rpF_le ?_ | with_reducible refine chF_le ?_ | with_reducible refine bgL_le ?_ | with_reducible refine beF_le ?_ | with_reducible refine wkL_le ?_ | with_reducible refine waF_le ?_)
  omega
def enL (L : List It) : Nat → List It
  | 0 => L
  | 1 => (haF (laL L [98, 97, 100, 32, 115, 117, 109]) 2)
  | 2 => (haF (laL (haF (laL L [98, 97, 100, 32, 115, 117, 109]) 2) [98, 97, 100, 32, 99, 111, 100, 101]) 3)
  | _ => (haF (laL (haF (laL (haF (laL L [98, 97, 100, 32, 115, 117, 109]) 2) [98, 97, 100, 32, 99, 111, 100, 101]) 3) [98, 97, 100, 32, 100, 105, 114]) 4)
def enR : List (List PV) := [[.v (.string (str [98, 97, 100, 32, 115, 117, 109])), .v (.int .u32 2)], [.v (.string (str [98, 97, 100, 32, 99, 111, 100, 101])), .v (.int .u32 3)], [.v (.string (str [98, 97, 100, 32, 100, 105, 114])), .v (.int .u32 4)]]
theorem enR_pure : ∀ row ∈ enR, ∀ x ∈ row, PV.Pure x := by
  intro row hr x hx
  simp only [enR, List.mem_cons, List.not_mem_nil, or_false] at hr
  rcases hr with rfl | rfl | rfl <;> (simp only [List.mem_cons, List.not_mem_nil, or_false] at hx; rcases hx with rfl | rfl <;> exact .v _)
theorem ends_ok (L : List It) (hL : L.length + 12 ≤ 3000) : LCall 23 [] L (enF L) := by
  intro gb gl
  unfold enF
  rw [lnB]
  refine gcall_of_tr Try.func23 rfl [] Try.results23 22 rfl (tk_start ?_)
  (repeat refine ka ?_); refine kr ?_ ?_ ?_
  refine ps_lith (rows := enR) ?_ enR_pure
  refine pops_go ?_ ?_ (pops_end ?_)
  (repeat refine ka ?_); refine kb ?_
  refine kw (fun s : Nat × Nat => [(0, PV.ptr 0 gb 0 0), (7, .ro 2 false enR), (8, .v (.int .i64 3)), (9, .v (.int .i64 s.1))]) (fun s => [⟨gb, true, 1, [[.vw 1 s.2 0 (enL L s.1).length]]⟩, ⟨s.2, true, 8, itRows (enL L s.1)⟩]) (fun s => s.1 ≤ 3) (fun s => 3 - s.1) (0, gl) (Nat.zero_le _) (holds 2 (by repeat (first | exact .nil | refine has1 ?_))) ?_
  rintro ⟨j, g⟩ (hj : j ≤ 3)
  have hc : j = 0 ∨ j = 1 ∨ j = 2 ∨ j = 3 := by omega
  rcases hc with rfl | rfl | rfl | rfl
  · show Tk _ _ ⟨_, [(0, PV.ptr 0 gb 0 0), (7, .ro 2 false enR), (8, .v (.int .i64 3)), (9, .v (.int .i64 0))], [⟨gb, true, 1, [[.vw 1 g 0 (L).length]]⟩, ⟨g, true, 8, itRows (L)⟩]⟩ _
    (repeat refine ka ?_); refine kr ?_ ?_ (pops_end ?_)
    (repeat refine ka ?_); refine kct ?_
    (repeat refine ka ?_); refine ksk ?_
    (repeat refine ka ?_); refine kb ?_
    (repeat refine ka ?_); refine kr ?_ ?_ ?_
    refine ps_alloc fun g1 => ?_
    refine ps_store ?_
    refine pops_nil ?_
    (repeat refine ka ?_); refine kr ?_ ?_ ?_
    refine ps_lat 0 1 (label_ok L (by with_reducible (repeat (first | refine laL_le ?_)); (try simp only [Nat.zero_add]); omega) [98, 97, 100, 32, 115, 117, 109]) fun g2 => ?_
    refine pops_go ?_ ?_ (pops_end ?_)
    (repeat refine ka ?_); refine kr ?_ ?_ ?_
    refine ps_lat 0 1 (halt_ok (laL L [98, 97, 100, 32, 115, 117, 109]) (by with_reducible (repeat (first | refine laL_le ?_)); (try simp only [Nat.zero_add]); omega) 2 (by omega)) fun g3 => ?_
    refine pops_go ?_ ?_ (pops_end ?_)
    refine kn ?_; repeat (first | with_reducible refine blk_n ?_ | with_reducible refine beh_n ?_)
    (repeat refine ka ?_); refine kr ?_ ?_ (pops_end ?_)
    refine kn ?_; repeat (first | with_reducible refine blk_n ?_ | with_reducible refine beh_n ?_)
    exact ⟨(1, g3), by simp only; omega, by simp only; omega, (holds 2 (by repeat (first | exact .nil | refine has1 ?_)))⟩
  · show Tk _ _ ⟨_, [(0, PV.ptr 0 gb 0 0), (7, .ro 2 false enR), (8, .v (.int .i64 3)), (9, .v (.int .i64 1))], [⟨gb, true, 1, [[.vw 1 g 0 ((haF (laL L [98, 97, 100, 32, 115, 117, 109]) 2)).length]]⟩, ⟨g, true, 8, itRows ((haF (laL L [98, 97, 100, 32, 115, 117, 109]) 2))⟩]⟩ _
    (repeat refine ka ?_); refine kr ?_ ?_ (pops_end ?_)
    (repeat refine ka ?_); refine kct ?_
    (repeat refine ka ?_); refine ksk ?_
    (repeat refine ka ?_); refine kb ?_
    (repeat refine ka ?_); refine kr ?_ ?_ ?_
    refine ps_alloc fun g1 => ?_
    refine ps_store ?_
    refine pops_nil ?_
    (repeat refine ka ?_); refine kr ?_ ?_ ?_
    refine ps_lat 0 1 (label_ok (haF (laL L [98, 97, 100, 32, 115, 117, 109]) 2) (by with_reducible (repeat (first | refine laL_le ?_ | refine haF_le ?_)); (try simp only [Nat.zero_add]); omega) [98, 97, 100, 32, 99, 111, 100, 101]) fun g2 => ?_
    refine pops_go ?_ ?_ (pops_end ?_)
    (repeat refine ka ?_); refine kr ?_ ?_ ?_
    refine ps_lat 0 1 (halt_ok (laL (haF (laL L [98, 97, 100, 32, 115, 117, 109]) 2) [98, 97, 100, 32, 99, 111, 100, 101]) (by with_reducible (repeat (first | refine laL_le ?_ | refine haF_le ?_)); (try simp only [Nat.zero_add]); omega) 3 (by omega)) fun g3 => ?_
    refine pops_go ?_ ?_ (pops_end ?_)
    refine kn ?_; repeat (first | with_reducible refine blk_n ?_ | with_reducible refine beh_n ?_)
    (repeat refine ka ?_); refine kr ?_ ?_ (pops_end ?_)
    refine kn ?_; repeat (first | with_reducible refine blk_n ?_ | with_reducible refine beh_n ?_)
    exact ⟨(2, g3), by simp only; omega, by simp only; omega, (holds 2 (by repeat (first | exact .nil | refine has1 ?_)))⟩
  · show Tk _ _ ⟨_, [(0, PV.ptr 0 gb 0 0), (7, .ro 2 false enR), (8, .v (.int .i64 3)), (9, .v (.int .i64 2))], [⟨gb, true, 1, [[.vw 1 g 0 ((haF (laL (haF (laL L [98, 97, 100, 32, 115, 117, 109]) 2) [98, 97, 100, 32, 99, 111, 100, 101]) 3)).length]]⟩, ⟨g, true, 8, itRows ((haF (laL (haF (laL L [98, 97, 100, 32, 115, 117, 109]) 2) [98, 97, 100, 32, 99, 111, 100, 101]) 3))⟩]⟩ _
    (repeat refine ka ?_); refine kr ?_ ?_ (pops_end ?_)
    (repeat refine ka ?_); refine kct ?_
    (repeat refine ka ?_); refine ksk ?_
    (repeat refine ka ?_); refine kb ?_
    (repeat refine ka ?_); refine kr ?_ ?_ ?_
    refine ps_alloc fun g1 => ?_
    refine ps_store ?_
    refine pops_nil ?_
    (repeat refine ka ?_); refine kr ?_ ?_ ?_
    refine ps_lat 0 1 (label_ok (haF (laL (haF (laL L [98, 97, 100, 32, 115, 117, 109]) 2) [98, 97, 100, 32, 99, 111, 100, 101]) 3) (by with_reducible (repeat (first | refine laL_le ?_ | refine haF_le ?_)); (try simp only [Nat.zero_add]); omega) [98, 97, 100, 32, 100, 105, 114]) fun g2 => ?_
    refine pops_go ?_ ?_ (pops_end ?_)
    (repeat refine ka ?_); refine kr ?_ ?_ ?_
    refine ps_lat 0 1 (halt_ok (laL (haF (laL (haF (laL L [98, 97, 100, 32, 115, 117, 109]) 2) [98, 97, 100, 32, 99, 111, 100, 101]) 3) [98, 97, 100, 32, 100, 105, 114]) (by with_reducible (repeat (first | refine laL_le ?_ | refine haF_le ?_)); (try simp only [Nat.zero_add]); omega) 4 (by omega)) fun g3 => ?_
    refine pops_go ?_ ?_ (pops_end ?_)
    refine kn ?_; repeat (first | with_reducible refine blk_n ?_ | with_reducible refine beh_n ?_)
    (repeat refine ka ?_); refine kr ?_ ?_ (pops_end ?_)
    refine kn ?_; repeat (first | with_reducible refine blk_n ?_ | with_reducible refine beh_n ?_)
    exact ⟨(3, g3), by simp only; omega, by simp only; omega, (holds 2 (by repeat (first | exact .nil | refine has1 ?_)))⟩
  · show Tk _ _ ⟨_, [(0, PV.ptr 0 gb 0 0), (7, .ro 2 false enR), (8, .v (.int .i64 3)), (9, .v (.int .i64 3))], [⟨gb, true, 1, [[.vw 1 g 0 ((haF (laL (haF (laL (haF (laL L [98, 97, 100, 32, 115, 117, 109]) 2) [98, 97, 100, 32, 99, 111, 100, 101]) 3) [98, 97, 100, 32, 100, 105, 114]) 4)).length]]⟩, ⟨g, true, 8, itRows ((haF (laL (haF (laL (haF (laL L [98, 97, 100, 32, 115, 117, 109]) 2) [98, 97, 100, 32, 99, 111, 100, 101]) 3) [98, 97, 100, 32, 100, 105, 114]) 4))⟩]⟩ _
    (repeat refine ka ?_); refine kr ?_ ?_ (pops_end ?_)
    (repeat refine ka ?_); refine kcf ?_
    (repeat refine ka ?_); refine kx ?_; (repeat (first | with_reducible refine beh_x ?_ | with_reducible refine blk_up rfl ?_)); refine blk_here ?_; refine beh_n ?_
    refine ends_normal ?_
    exact ⟨g, rfl, rfl⟩
end Go.Proofs.Ytgbfbcbblndnoaa.Pv
