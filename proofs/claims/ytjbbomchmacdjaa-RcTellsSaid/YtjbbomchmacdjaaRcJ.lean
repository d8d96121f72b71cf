-- carapacelaw05: awake, RcLearns, RcBack.
import Derived.Test.YtjbbomchmacdjaaRcI
import Derived.Test.YtjbbomchmacdjaaSameB
namespace Go.Proofs.Ytjbbomchmacdjaa.Pv
set_option linter.all false
open Go.RowKit Go.Proofs
set_option maxRecDepth 100000
set_option maxHeartbeats 4000000
theorem agree_self (C T : List Int) : Agree C (C ++ T) := fun k h1 h2 => List.take_append_of_le_length h1
theorem agree_cut (C : List Int) (n : Nat) : Agree C (C.take n) := fun k h1 h2 => by
  rw [List.take_take, Nat.min_eq_left (by rw [List.length_take] at h2; omega)]
theorem rput_bytes (b : List Int) : Oct (rput b) := (rput_spec b).1
theorem rput_len (b : List Int) : (rput b).length ≤ 8 * b.length + 5 := by
  obtain ⟨n, h1, h2, h3⟩ := encAll_ok b b.length
  have := (encAll_aAll b b.length).n
  rw [(rput_spec b).2.1, ← this, h3.n]
  omega
theorem rput_len5 (b : List Int) : 5 ≤ (rput b).length := by
  rw [(rput_spec b).2.1]
  have := (aAll_ok b b.length).n
  omega
theorem rput_first (b : List Int) : (rput b).getD 0 0 = 0 := by
  obtain ⟨hC, hCl, hCv⟩ := rput_spec b
  have ht := aAll_ok b b.length
  have hnf := ht.n
  have hv1 := ht.v1
  have hw0 := ht.w0
  generalize rput b = C at *
  generalize aAll b b.length = t at *
  have h := val_take C hC 1 (by omega)
  have e := take_succ_getD C 0 (by omega)
  rw [List.take_zero, List.nil_append] at e
  rw [Nat.zero_add] at e
  rw [e, val_one, hCv, show C.length - 1 = (t.n - 1) + 4 by omega, Int.pow_add] at h
  have hp := p256 (t.n - 1)
  rw [show (256 : Int) ^ 4 = 4294967296 from rfl] at h
  have h0 := (hC.getD 0).1
  rcases Int.lt_or_le 0 (C.getD 0 0) with h1 | h1
  · have hp2 : (0 : Int) ≤ 256 ^ (t.n - 1) * 4294967296 := by omega
    have := Int.mul_le_mul_of_nonneg_right (show 1 ≤ C.getD 0 0 by omega) hp2
    rw [Int.one_mul] at this
    omega
  · omega
theorem rput_nil : (rput []).length = 5 := by decide +kernel
theorem rback_0000 : rback [0, 0, 0, 0] 0 = ([], 3) := by decide +kernel
theorem rback_1 : rback [1, 0, 0, 0, 0] 0 = ([], 2) := by decide +kernel
theorem rc_awake : PCall Try.prog 13 [] (.v (.bool true)) := by
  have p1 := rc_put [7, 7, 7, 200, 0] (by intro x hx; simp at hx; omega) (by decide)
  have hba := rback_put [7, 7, 7, 200, 0] (rput [7, 7, 7, 200, 0]) (by intro x hx; simp at hx; omega) (by decide) (rput_bytes _) (fun k _ _ => rfl)
  rw [if_neg (Nat.lt_irrefl _), if_pos rfl] at hba
  have hpl := rput_len [7, 7, 7, 200, 0]
  have hpb := rput_bytes [7, 7, 7, 200, 0]
  generalize rput [7, 7, 7, 200, 0] = B at *
  have p2 := rc_back B 5 hpb (by simp at hpl; omega)
  rw [show (5 : Int) = (([7, 7, 7, 200, 0] : List Int).length : Int) from rfl, hba] at p2
  have p3 := sameb_ok [7, 7, 7, 200, 0] [7, 7, 7, 200, 0] (by decide) (by decide)
  rw [decide_eq_true rfl] at p3
  have p4 := rc_put [] (by intro x hx; cases hx) (by decide)
  have h4 := rput_nil
  generalize rput [] = E at *
  have p5 := rc_back [0, 0, 0, 0] 0 (by intro x hx; simp at hx; omega) (by decide)
  rw [rback_0000] at p5
  have p6 := rc_back [1, 0, 0, 0, 0] 0 (by intro x hx; simp at hx; omega) (by decide)
  rw [rback_1] at p6
  have p7 := rc_learn 1024 0
  have p8 := rc_learn 1024 1
  rw [show learn 1024 0 = 1056 by decide] at p7
  rw [show learn 1024 1 = 992 by decide] at p8
  refine pcall_mk Try.func13 rfl [.tmp 0] Try.results13 59 rfl (tk_start ?_)
  (repeat refine ka ?_); refine kr ?_ ?_ (pops_end ?_)
  (repeat refine ka ?_); refine kr ?_ ?_ ?_
  refine ps_lit fun w1 => ?_
  refine pops_go ?_ ?_ (pops_end ?_)
  (repeat refine ka ?_); refine kr ?_ ?_ ?_
  refine ps_freeze 0 ?_
  refine ps_rcall [0] p1 (.cons (lend_ints (.head _) rfl rfl rfl) .nil) ?_ (.inr (frozen_one rfl rfl))
  refine pops_go ?_ ?_ (pops_end ?_)
  (repeat refine ka ?_); refine kr ?_ ?_ ?_
  refine ps_pcall p2 ?_
  refine pops_go ?_ ?_ (pops_end ?_)
  (repeat refine ka ?_); refine kr ?_ ?_ ?_
  refine ps_rcall [0] p3 (.cons (lend_ints (.head _) rfl rfl rfl) (.cons (.same (by exact ints_pure _ _ _ _)) .nil)) ?_ (.inl (.v _))
  refine pops_go ?_ ?_ (pops_end ?_)
  (repeat refine ka ?_); refine kr ?_ ?_ ?_
  refine ps_rcall [] p4 (.cons .nil .nil) ?_ (.inr (by simp))
  refine pops_go ?_ ?_ (pops_end ?_)
  (repeat refine ka ?_); refine kr ?_ ?_ ?_
  refine ps_lit fun w2 => ?_
  refine ps_freeze 1 ?_
  refine ps_rcall [1] p5 (.cons (lend_ints (.head _) rfl rfl rfl) (.cons (.same (.v _)) .nil)) ?_ (.inr (frozen_one rfl rfl))
  refine pops_go ?_ ?_ (pops_end ?_)
  (repeat refine ka ?_); refine kr ?_ ?_ ?_
  refine ps_lit fun w3 => ?_
  refine ps_freeze 2 ?_
  refine ps_rcall [2] p6 (.cons (lend_ints (.head _) rfl rfl rfl) (.cons (.same (.v _)) .nil)) ?_ (.inr (frozen_one rfl rfl))
  refine pops_go ?_ ?_ (pops_end ?_)
  (repeat refine ka ?_); refine kr ?_ ?_ ?_
  refine ps_pcall_g p7 ?_
  refine pops_go ?_ ?_ ?_
  refine ps_pcall_g p8 ?_
  refine pops_go ?_ ?_ (pops_end ?_)
  (repeat refine ka ?_); refine kret ?_; repeat (first | with_reducible refine beh_r ?_ | with_reducible refine blk_r ?_)
  refine ends_ret ?_ retPV_one
  rfl
end Go.Proofs.Ytjbbomchmacdjaa.Pv
