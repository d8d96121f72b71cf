-- cpu: instructions on registers.
import Derived.Test.YtfjodfeoncoaoaaCpA
import Derived.Test.YtfjodfeoncoaoaaAm
namespace Go.Proofs.Ytfjodfeoncoaoaa.Pv
set_option linter.all false
open Go.RowKit Go.Proofs
set_option maxRecDepth 100000
set_option maxHeartbeats 4000000
theorem u32_rng (x : Int) : 0 ≤ IntKind.u32.wrap x ∧ IntKind.u32.wrap x < 4294967296 := by
  rw [IntKind.wrap_u32]
  omega
theorem shP_pos (y : Int) : 1 ≤ shP y := by
  unfold shP
  have : (0 : Int) < 2 ^ min (Go.bits .and .u32 y 31).toNat IntKind.u32.bits := Int.pow_pos (by decide)
  omega
theorem opV_rng (k : Nat) (x y : Int) (hx : 0 ≤ x ∧ x < 4294967296) : 0 ≤ opV k x y ∧ opV k x y < 4294967296 := by
  unfold opV
  split
  · exact u32_rng _
  · exact u32_rng _
  · exact u32_rng _
  · exact u32_rng _
  · exact u32_rng _
  · exact u32_rng _
  · exact u32_rng _
  · have := shP_pos y
    constructor
    · exact Int.ediv_nonneg hx.1 (by omega)
    · exact Int.lt_of_le_of_lt (Int.ediv_le_self _ hx.1) hx.2
  · omega
theorem aluV_rng (op x y : Int) (hx : 0 ≤ x ∧ x < 4294967296) : 0 ≤ aluV op x y ∧ aluV op x y < 4294967296 := opV_rng _ _ _ hx
theorem movV_rng (op x imm : Int) : 0 ≤ movV op x imm ∧ movV op x imm < 4294967296 := by
  unfold movV
  split
  · omega
  split
  · omega
  split
  · exact u32_rng _
  · omega
def CS.moved (s : CS) (op a imm : Int) : CS := s.put a (movV op (s.regs.getD a.toNat 0) imm)
def sumY (s : CS) (op c imm : Int) : Int := if op = 11 then IntKind.u32.wrap imm else s.regs.getD c.toNat 0
def CS.summed (s : CS) (op a b c imm : Int) : CS := s.put a (aluV op (s.regs.getD b.toNat 0) (sumY s op c imm))
theorem nx_put (s : CS) (a n : Int) : (s.put a n).nx = s.nx := by
  unfold CS.put
  split <;> rfl
theorem move_ok (s : CS) (hs : CsOk s) (op a b c imm : Int) (ha : 0 ≤ a ∧ a < 16) (hb : 0 ≤ b ∧ b < 16) (hc : 0 ≤ c ∧ c < 16) : CCall 66 [.agg [.v (.int .i64 op), .v (.int .i64 a), .v (.int .i64 b), .v (.int .i64 c), .v (.int .i64 imm)]] s (s.moved op a imm) (.tup [.v (.int .u32 s.nx), .v (.int .i64 0)]) := by
  intro gc gm gb gt
  have hl := hs.rl
  refine gcall_drop ?_
  rw [cpuB]
  have hm := moved_ok op (s.regs.getD a.toNat 0) imm
  have hr := movV_rng op (s.regs.getD a.toNat 0) imm
  have hp := put_ok s hs a (movV op (s.regs.getD a.toNat 0) imm) ha
  have hn := next_ok (s.put a (movV op (s.regs.getD a.toNat 0) imm)) (hs.put _ _ hr) 0
  rw [nx_put] at hn
  refine gcall_of_tr Try.func66 rfl [.tmp 4, .tmp 5] Try.results66 33 rfl (tk_start ?_)
  (repeat refine ka ?_); refine kr ?_ ?_ ?_
  refine ps_box fun g => ?_
  refine pops_go ?_ ?_ (pops_end ?_)
  (repeat refine ka ?_); refine kd ?_ ?_ ?_
  refine pd_pcall hm ?_
  refine pstl_go ?_ ?_ (pstl_end ?_)
  (repeat refine ka ?_); refine kr ?_ ?_ ?_
  refine ps_ccall hp fun g1 => ?_
  refine pops_go ?_ ?_ (pops_end ?_)
  (repeat refine ka ?_); refine kr ?_ ?_ ?_
  refine ps_ccall hn fun g2 => ?_
  refine pops_go ?_ ?_ (pops_end ?_)
  (repeat refine ka ?_); refine kret ?_; repeat (first | with_reducible refine beh_r ?_ | with_reducible refine blk_r ?_)
  refine ends_ret ?_ retPV_two
  exact ⟨4, g2, rfl, rfl⟩
theorem sum_ok (s : CS) (hs : CsOk s) (op a b c imm : Int) (ha : 0 ≤ a ∧ a < 16) (hb : 0 ≤ b ∧ b < 16) (hc : 0 ≤ c ∧ c < 16) : CCall 67 [.agg [.v (.int .i64 op), .v (.int .i64 a), .v (.int .i64 b), .v (.int .i64 c), .v (.int .i64 imm)]] s (s.summed op a b c imm) (.tup [.v (.int .u32 s.nx), .v (.int .i64 0)]) := by
  intro gc gm gb gt
  have hl := hs.rl
  refine gcall_drop ?_
  rw [cpuB]
  have hr := aluV_rng op (s.regs.getD b.toNat 0) (sumY s op c imm) (hs.reg _)
  have hm := alu_ok op (s.regs.getD b.toNat 0) (sumY s op c imm)
  have hp := put_ok s hs a (aluV op (s.regs.getD b.toNat 0) (sumY s op c imm)) ha
  have hn := next_ok (s.put a (aluV op (s.regs.getD b.toNat 0) (sumY s op c imm))) (hs.put _ _ hr) 0
  rw [nx_put] at hn
  have ey : (s.summed op a b c imm) = s.put a (aluV op (s.regs.getD b.toNat 0) (sumY s op c imm)) := rfl
  rw [ey]
  clear ey
  by_cases h : op = 11
  · have e : sumY s op c imm = IntKind.u32.wrap imm := if_pos h
    rw [e] at hm hp hn ⊢
    clear e hr
    refine gcall_of_tr Try.func67 rfl [.tmp 4, .tmp 5] Try.results67 47 rfl (tk_start ?_)
    (repeat refine ka ?_); refine kr ?_ ?_ ?_
    refine ps_box fun g => ?_
    refine pops_go ?_ ?_ (pops_end ?_)
    (repeat refine ka ?_); refine kd ?_ ?_ (pstl_end ?_)
    (repeat refine ka ?_); refine kr ?_ ?_ (pops_end ?_)
    (repeat refine ka ?_); refine kct ?_
    (repeat refine ka ?_); refine kr ?_ ?_ (pops_end ?_)
    (repeat refine ka ?_); refine kd ?_ ?_ ?_
    refine pd_pcall hm ?_
    refine pstl_go ?_ ?_ (pstl_end ?_)
    (repeat refine ka ?_); refine kr ?_ ?_ ?_
    refine ps_ccall hp fun g1 => ?_
    refine pops_go ?_ ?_ (pops_end ?_)
    (repeat refine ka ?_); refine kr ?_ ?_ ?_
    refine ps_ccall hn fun g2 => ?_
    refine pops_go ?_ ?_ (pops_end ?_)
    (repeat refine ka ?_); refine kret ?_; repeat (first | with_reducible refine beh_r ?_ | with_reducible refine blk_r ?_)
    refine ends_ret ?_ retPV_two
    exact ⟨4, g2, rfl, rfl⟩
  · have e : sumY s op c imm = s.regs.getD c.toNat 0 := if_neg h
    rw [e] at hm hp hn ⊢
    clear e hr
    refine gcall_of_tr Try.func67 rfl [.tmp 4, .tmp 5] Try.results67 47 rfl (tk_start ?_)
    (repeat refine ka ?_); refine kr ?_ ?_ ?_
    refine ps_box fun g => ?_
    refine pops_go ?_ ?_ (pops_end ?_)
    (repeat refine ka ?_); refine kd ?_ ?_ (pstl_end ?_)
    (repeat refine ka ?_); refine kr ?_ ?_ (pops_end ?_)
    (repeat refine ka ?_); refine kcf ?_
    (repeat refine ka ?_); refine ksk ?_
    (repeat refine ka ?_); refine kd ?_ ?_ ?_
    refine pd_pcall hm ?_
    refine pstl_go ?_ ?_ (pstl_end ?_)
    (repeat refine ka ?_); refine kr ?_ ?_ ?_
    refine ps_ccall hp fun g1 => ?_
    refine pops_go ?_ ?_ (pops_end ?_)
    (repeat refine ka ?_); refine kr ?_ ?_ ?_
    refine ps_ccall hn fun g2 => ?_
    refine pops_go ?_ ?_ (pops_end ?_)
    (repeat refine ka ?_); refine kret ?_; repeat (first | with_reducible refine beh_r ?_ | with_reducible refine blk_r ?_)
    refine ends_ret ?_ retPV_two
    exact ⟨4, g2, rfl, rfl⟩
def CS.branchPc (s : CS) (op a b imm : Int) : Int := if takV op (s.regs.getD a.toNat 0) (s.regs.getD b.toNat 0) = true then s.thr imm else s.nx
theorem branch_ok (s : CS) (hs : CsOk s) (op a b c imm : Int) (ha : 0 ≤ a ∧ a < 16) (hb : 0 ≤ b ∧ b < 16) (hc : 0 ≤ c ∧ c < 16) : CCall 69 [.agg [.v (.int .i64 op), .v (.int .i64 a), .v (.int .i64 b), .v (.int .i64 c), .v (.int .i64 imm)]] s s (.tup [.v (.int .u32 (s.branchPc op a b imm)), .v (.int .i64 0)]) := by
  intro gc gm gb gt
  have hl := hs.rl
  refine gcall_drop ?_
  rw [cpuB]
  have hm := taken_ok op (s.regs.getD a.toNat 0) (s.regs.getD b.toNat 0)
  have hp := there_ok s hs op a b c imm
  have hn := next_ok s hs 0
  cases h : takV op (s.regs.getD a.toNat 0) (s.regs.getD b.toNat 0) with
  | true =>
    rw [h] at hm
    have e : s.branchPc op a b imm = s.thr imm := if_pos h
    rw [e]
    clear e hn
    refine gcall_of_tr Try.func69 rfl [.tmp 4, .tmp 5] Try.results69 38 rfl (tk_start ?_)
    (repeat refine ka ?_); refine kr ?_ ?_ ?_
    refine ps_box fun g => ?_
    refine pops_go ?_ ?_ (pops_end ?_)
    (repeat refine ka ?_); refine kd ?_ ?_ ?_
    refine pd_pcall hm ?_
    refine pstl_go ?_ ?_ (pstl_end ?_)
    (repeat refine ka ?_); refine kr ?_ ?_ (pops_end ?_)
    (repeat refine ka ?_); refine kct ?_
    (repeat refine ka ?_); refine kr ?_ ?_ ?_
    refine ps_ccall hp fun g1 => ?_
    refine pops_go ?_ ?_ (pops_end ?_)
    (repeat refine ka ?_); refine kret ?_; repeat (first | with_reducible refine beh_r ?_ | with_reducible refine blk_r ?_)
    refine ends_ret ?_ retPV_two
    exact ⟨4, g1, rfl, rfl⟩
  | false =>
    rw [h] at hm
    have e : s.branchPc op a b imm = s.nx := if_neg (by rw [h]; decide)
    rw [e]
    clear e hp
    refine gcall_of_tr Try.func69 rfl [.tmp 4, .tmp 5] Try.results69 38 rfl (tk_start ?_)
    (repeat refine ka ?_); refine kr ?_ ?_ ?_
    refine ps_box fun g => ?_
    refine pops_go ?_ ?_ (pops_end ?_)
    (repeat refine ka ?_); refine kd ?_ ?_ ?_
    refine pd_pcall hm ?_
    refine pstl_go ?_ ?_ (pstl_end ?_)
    (repeat refine ka ?_); refine kr ?_ ?_ (pops_end ?_)
    (repeat refine ka ?_); refine kcf ?_
    (repeat refine ka ?_); refine ksk ?_
    (repeat refine ka ?_); refine kr ?_ ?_ ?_
    refine ps_ccall hn fun g1 => ?_
    refine pops_go ?_ ?_ (pops_end ?_)
    (repeat refine ka ?_); refine kret ?_; repeat (first | with_reducible refine beh_r ?_ | with_reducible refine blk_r ?_)
    refine ends_ret ?_ retPV_two
    exact ⟨4, g1, rfl, rfl⟩
theorem jump_ok (s : CS) (hs : CsOk s) (op a b c imm : Int) (ha : 0 ≤ a ∧ a < 16) (hb : 0 ≤ b ∧ b < 16) (hc : 0 ≤ c ∧ c < 16) : CCall 70 [.agg [.v (.int .i64 op), .v (.int .i64 a), .v (.int .i64 b), .v (.int .i64 c), .v (.int .i64 imm)]] s (s.put a s.nx) (.tup [.v (.int .u32 (s.thr imm)), .v (.int .i64 0)]) := by
  intro gc gm gb gt
  have hl := hs.rl
  refine gcall_drop ?_
  rw [cpuB]
  have hp := there_ok s hs op a b c imm
  have hn := put_ok s hs a s.nx ha
  have en : IntKind.u32.wrap (s.pc + 4) = s.nx := rfl
  refine gcall_of_tr Try.func70 rfl [.tmp 4, .tmp 5] Try.results70 21 rfl (tk_start ?_)
  (repeat refine ka ?_); refine kr ?_ ?_ ?_
  refine ps_box fun g => ?_
  refine pops_go ?_ ?_ (pops_end ?_)
  (repeat refine ka ?_); refine kr ?_ ?_ ?_
  refine ps_ccall hp fun g1 => ?_
  refine pops_go ?_ ?_ (pops_end ?_)
  (repeat refine ka ?_); refine kdt 9 ?_
  refine pstl_go ?_ ?_ (pstl_end ?_)
  refine ps_ccall hn fun g2 => ?_
  refine pops_go ?_ ?_ (pops_end ?_)
  (repeat refine ka ?_); refine kr ?_ ?_ (pops_end ?_)
  (repeat refine ka ?_); refine kret ?_; repeat (first | with_reducible refine beh_r ?_ | with_reducible refine blk_r ?_)
  refine ends_ret ?_ retPV_two
  exact ⟨4, g2, rfl, rfl⟩
theorem back_ok (s : CS) (hs : CsOk s) (op a b c imm : Int) (ha : 0 ≤ a ∧ a < 16) (hb : 0 ≤ b ∧ b < 16) (hc : 0 ≤ c ∧ c < 16) : CCall 71 [.agg [.v (.int .i64 op), .v (.int .i64 a), .v (.int .i64 b), .v (.int .i64 c), .v (.int .i64 imm)]] s s (.tup [.v (.int .u32 (s.regs.getD a.toNat 0)), .v (.int .i64 0)]) := by
  intro gc gm gb gt
  have hl := hs.rl
  refine gcall_drop ?_
  rw [cpuB]
  refine gcall_of_tr Try.func71 rfl [.tmp 4, .tmp 5] Try.results71 14 rfl (tk_start ?_)
  (repeat' (first | refine ka ?_ | refine ksk ?_ | (refine kr ?_ ?_ ?_; first | refine pops_end ?_ | (refine ps_split (fun hb => ?_) (fun hb => ?_); (fail_if_success (guard_hyp hb : true = true)); (fail_if_success (guard_hyp hb : false = true)); all_goals (have hp := hb; (try simp only [decide_eq_true_eq, Bool.eq_false_iff, ne_eq, Bool.not_eq_true', Bool.not_eq_false', Bool.and_eq_true, Bool.or_eq_true, decide_true, decide_false, Bool.and_true, Bool.true_and, Bool.false_eq_true, not_false_eq_true, true_and, and_true] at hp); (try rw [hb]); (try clear hb))) | refine ps_alloc fun g => ?_ | refine ps_box fun g => ?_ | refine ps_store ?_ | refine ps_lit fun g => ?_ | refine pops_nil ?_ | skip) | (refine kd ?_ ?_ ?_; first | refine pstl_end ?_ | (refine pd_split (fun hb => ?_) (fun hb => ?_); (fail_if_success (guard_hyp hb : true = true)); (fail_if_success (guard_hyp hb : false = true)); all_goals (have hp := hb; (try simp only [decide_eq_true_eq, Bool.eq_false_iff, ne_eq, Bool.not_eq_true', Bool.not_eq_false', Bool.and_eq_true, Bool.or_eq_true, decide_true, decide_false, Bool.and_true, Bool.true_and, Bool.false_eq_true, not_false_eq_true, true_and, and_true] at hp); (try rw [hb]); (try clear hb))) | skip) | refine kct ?_ | refine kcf ?_ | (refine kcs (fun hb => ?_) (fun hb => ?_) <;> (have hp := hb; (try simp only [decide_eq_true_eq, Bool.eq_false_iff, ne_eq, Bool.not_eq_true', Bool.not_eq_false', Bool.and_eq_true, Bool.or_eq_true, decide_true, decide_false, Bool.and_true, Bool.true_and, Bool.false_eq_true, not_false_eq_true, true_and, and_true] at hp); (try rw [hb]); (try clear hb))) | (refine kret ?_; repeat (first | with_reducible refine beh_r ?_ | with_reducible refine blk_r ?_)) | refine kb ?_ | (refine ps_split (fun hb => ?_) (fun hb => ?_); (fail_if_success (guard_hyp hb : true = true)); (fail_if_success (guard_hyp hb : false = true)); all_goals (have hp := hb; (try simp only [decide_eq_true_eq, Bool.eq_false_iff, ne_eq, Bool.not_eq_true', Bool.not_eq_false', Bool.and_eq_true, Bool.or_eq_true, decide_true, decide_false, Bool.and_true, Bool.true_and, Bool.false_eq_true, not_false_eq_true, true_and, and_true] at hp); (try rw [hb]); (try clear hb))) | refine ps_alloc fun g => ?_ | refine ps_box fun g => ?_ | refine ps_store ?_ | refine ps_lit fun g => ?_ | refine pops_nil ?_ | (refine pd_split (fun hb => ?_) (fun hb => ?_); (fail_if_success (guard_hyp hb : true = true)); (fail_if_success (guard_hyp hb : false = true)); all_goals (have hp := hb; (try simp only [decide_eq_true_eq, Bool.eq_false_iff, ne_eq, Bool.not_eq_true', Bool.not_eq_false', Bool.and_eq_true, Bool.or_eq_true, decide_true, decide_false, Bool.and_true, Bool.true_and, Bool.false_eq_true, not_false_eq_true, true_and, and_true] at hp); (try rw [hb]); (try clear hb))) | (refine pops_go ?_ ?_ ?_; first | refine pops_end ?_ | (refine ps_split (fun hb => ?_) (fun hb => ?_); (fail_if_success (guard_hyp hb : true = true)); (fail_if_success (guard_hyp hb : false = true)); all_goals (have hp := hb; (try simp only [decide_eq_true_eq, Bool.eq_false_iff, ne_eq, Bool.not_eq_true', Bool.not_eq_false', Bool.and_eq_true, Bool.or_eq_true, decide_true, decide_false, Bool.and_true, Bool.true_and, Bool.false_eq_true, not_false_eq_true, true_and, and_true] at hp); (try rw [hb]); (try clear hb))) | refine ps_alloc fun g => ?_ | refine ps_box fun g => ?_ | refine ps_store ?_ | refine ps_lit fun g => ?_ | refine pops_nil ?_) | (refine pstl_go ?_ ?_ ?_; first | refine pstl_end ?_ | (refine pd_split (fun hb => ?_) (fun hb => ?_); (fail_if_success (guard_hyp hb : true = true)); (fail_if_success (guard_hyp hb : false = true)); all_goals (have hp := hb; (try simp only [decide_eq_true_eq, Bool.eq_false_iff, ne_eq, Bool.not_eq_true', Bool.not_eq_false', Bool.and_eq_true, Bool.or_eq_true, decide_true, decide_false, Bool.and_true, Bool.true_and, Bool.false_eq_true, not_false_eq_true, true_and, and_true] at hp); (try rw [hb]); (try clear hb)))) | (refine kn ?_; repeat (first | with_reducible refine blk_n ?_ | with_reducible refine beh_n ?_)) | (refine kx ?_; (repeat (first | with_reducible refine beh_x ?_ | with_reducible refine blk_up rfl ?_)); refine blk_here ?_; refine beh_n ?_)))
  all_goals (refine ends_ret ?_ retPV_two; exact ⟨4, gt, rfl, rfl⟩)
end Go.Proofs.Ytfjodfeoncoaoaa.Pv
