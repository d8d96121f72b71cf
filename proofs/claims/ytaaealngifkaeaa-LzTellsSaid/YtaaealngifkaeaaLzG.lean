-- carapacelaw04.awake.
import Derived.Test.YtaaealngifkaeaaLzF
namespace Go.Proofs.Ytaaealngifkaeaa.Pv
set_option linter.all false
open Go.RowKit Go.Proofs
set_option maxRecDepth 100000
set_option maxHeartbeats 4000000
theorem put_1111 : put [1, 1, 1, 1] = [2, 1, 0, 0] := by decide +kernel
theorem back_1111 : back [2, 1, 0, 0] 4 = ([1, 1, 1, 1], 0) := by decide +kernel
theorem find_1111 : find [1, 1, 1, 1] 1 = (1, 3) := by decide +kernel
theorem back_nil : back [] 1 = ([], 3) := by decide +kernel
theorem back_100 : back [1, 0, 0] 3 = ([], 2) := by decide +kernel
theorem awake_ok : PCall Try.prog 49 [] (.v (.bool true)) := by
  have p1 := put_ok [1, 1, 1, 1] (by intro x hx; simp at hx; omega) (by decide)
  rw [put_1111] at p1
  have p2 := back_ok [2, 1, 0, 0] 4 (by intro x hx; simp at hx; omega) (by decide)
  rw [back_1111] at p2
  have p3 := find_ok [1, 1, 1, 1] 1 (by decide)
  rw [find_1111] at p3
  have p4 := back_ok [] 1 (by intro x hx; simp at hx) (by decide)
  rw [back_nil] at p4
  have p5 := back_ok [1, 0, 0] 3 (by intro x hx; simp at hx; omega) (by decide)
  rw [back_100] at p5
  simp only at p2 p3 p4 p5
  obtain ⟨A, hA⟩ : ∃ A : List Int, A = [1, 1, 1, 1] := ⟨_, rfl⟩
  obtain ⟨B, hB⟩ : ∃ B : List Int, B = [2, 1, 0, 0] := ⟨_, rfl⟩
  rw [← hB] at p1
  rw [← hB, ← hA] at p2
  have b1 : B.length = 4 := by rw [hB]; rfl
  have b2 : B.getD (Int.toNat 0) 0 = 2 := by rw [hB]; rfl
  have b3 : B.getD (Int.toNat 3) 0 = 0 := by rw [hB]; rfl
  have a1 : A.length = 4 := by rw [hA]; rfl
  have a2 : A.getD (Int.toNat 3) 0 = 1 := by rw [hA]; rfl
  refine pcall_mk Try.func49 rfl [.tmp 0] Try.results49 77 rfl (tk_start ?_)
  (repeat refine ka ?_); refine kr ?_ ?_ (pops_end ?_)
  (repeat refine ka ?_); refine kr ?_ ?_ ?_
  refine ps_lit fun w1 => ?_
  refine ps_freeze 0 ?_
  refine ps_rcall [0] p1 (.cons (lend_ints (.head _) rfl rfl rfl) .nil) ?_ (.inr (frozen_one rfl rfl))
  refine pops_go ?_ ?_ (pops_end ?_)
  (repeat refine ka ?_); refine kr ?_ ?_ ?_
  refine ps_pcall p2 ?_
  refine pops_go ?_ ?_ (pops_end ?_)
  (repeat refine ka ?_); refine kr ?_ ?_ ?_
  refine ps_lit fun w2 => ?_
  refine ps_freeze 1 ?_
  refine ps_rcall [1] p3 (.cons (lend_ints (.head _) rfl rfl rfl) (.cons (.same (.v _)) .nil)) ?_ (.inr (frozen_one rfl rfl))
  refine pops_go ?_ ?_ (pops_end ?_)
  (repeat refine ka ?_); refine kr ?_ ?_ ?_
  refine ps_rcall [] p4 (.cons .nil (.cons (.same (.v _)) .nil)) ?_ (.inr (by simp))
  refine pops_go ?_ ?_ (pops_end ?_)
  (repeat refine ka ?_); refine kr ?_ ?_ ?_
  refine ps_lit fun w3 => ?_
  refine ps_freeze 2 ?_
  refine ps_rcall [2] p5 (.cons (lend_ints (.head _) rfl rfl rfl) (.cons (.same (.v _)) .nil)) ?_ (.inr (frozen_one rfl rfl))
  refine pops_go ?_ ?_ (pops_end ?_)
  (repeat refine ka ?_); refine kr ?_ ?_ (pops_end ?_)
  (repeat refine ka ?_); refine kret ?_; repeat (first | with_reducible refine beh_r ?_ | with_reducible refine blk_r ?_)
  refine ends_ret ?_ retPV_one
  rfl
end Go.Proofs.Ytaaealngifkaeaa.Pv
