-- cpu: State, New.
import Derived.Test.YtfjodfeoncoaoaaCpH
import Derived.Test.YtfjodfeoncoaoaaCl
namespace Go.Proofs.Ytfjodfeoncoaoaa.Pv
set_option linter.all false
open Go.RowKit Go.Proofs
set_option maxRecDepth 100000
set_option maxHeartbeats 4000000
theorem ci16 {k : IntKind} {l : List Int} (h : l.length = 16) : ci k l = [.v (.int k (l.getD 0 0)), .v (.int k (l.getD 1 0)), .v (.int k (l.getD 2 0)), .v (.int k (l.getD 3 0)), .v (.int k (l.getD 4 0)), .v (.int k (l.getD 5 0)), .v (.int k (l.getD 6 0)), .v (.int k (l.getD 7 0)), .v (.int k (l.getD 8 0)), .v (.int k (l.getD 9 0)), .v (.int k (l.getD 10 0)), .v (.int k (l.getD 11 0)), .v (.int k (l.getD 12 0)), .v (.int k (l.getD 13 0)), .v (.int k (l.getD 14 0)), .v (.int k (l.getD 15 0))] := by
  match l, h with
  | [_, _, _, _, _, _, _, _, _, _, _, _, _, _, _, _], _ => rfl
/-- A machine's state, as told. -/
def CS.stC (s : CS) : List PV := [.v (.int .u32 (s.regs.getD 0 0)), .v (.int .u32 (s.regs.getD 1 0)), .v (.int .u32 (s.regs.getD 2 0)), .v (.int .u32 (s.regs.getD 3 0)), .v (.int .u32 (s.regs.getD 4 0)), .v (.int .u32 (s.regs.getD 5 0)), .v (.int .u32 (s.regs.getD 6 0)), .v (.int .u32 (s.regs.getD 7 0)), .v (.int .u32 (s.regs.getD 8 0)), .v (.int .u32 (s.regs.getD 9 0)), .v (.int .u32 (s.regs.getD 10 0)), .v (.int .u32 (s.regs.getD 11 0)), .v (.int .u32 (s.regs.getD 12 0)), .v (.int .u32 (s.regs.getD 13 0)), .v (.int .u32 (s.regs.getD 14 0)), .v (.int .u32 (s.regs.getD 15 0)), .v (.int .u32 s.pc), .v (.int .i64 s.steps), .v (.int .i64 s.code), .v (.int .i64 s.trap), .v (.bool s.ended)]
theorem state_ok (s : CS) (hs : CsOk s) : CCall 22 [] s s (.agg s.stC) := by
  intro gc gm gb gt
  refine gcall_drop ?_
  have e : ci .u32 s.regs ++ cpuTl s 1 gm 3 gt = [.v (.int .u32 (s.regs.getD 0 0)), .v (.int .u32 (s.regs.getD 1 0)), .v (.int .u32 (s.regs.getD 2 0)), .v (.int .u32 (s.regs.getD 3 0)), .v (.int .u32 (s.regs.getD 4 0)), .v (.int .u32 (s.regs.getD 5 0)), .v (.int .u32 (s.regs.getD 6 0)), .v (.int .u32 (s.regs.getD 7 0)), .v (.int .u32 (s.regs.getD 8 0)), .v (.int .u32 (s.regs.getD 9 0)), .v (.int .u32 (s.regs.getD 10 0)), .v (.int .u32 (s.regs.getD 11 0)), .v (.int .u32 (s.regs.getD 12 0)), .v (.int .u32 (s.regs.getD 13 0)), .v (.int .u32 (s.regs.getD 14 0)), .v (.int .u32 (s.regs.getD 15 0))] ++ cpuTl s 1 gm 3 gt := by rw [ci16 hs.rl]
  rw [cpuB, e]
  simp only [List.cons_append, List.nil_append, cpuTl]
  refine gcall_of_tr Try.func22 rfl [.cell 2 64] Try.results22 7 rfl (tk_start ?_)
  (repeat' (first | refine ka ?_ | refine ksk ?_ | (refine kr ?_ ?_ ?_; first | refine pops_end ?_ | (refine ps_split (fun hb => ?_) (fun hb => ?_); (fail_if_success (guard_hyp hb : true = true)); (fail_if_success (guard_hyp hb : false = true)); all_goals (have hp := hb; (try simp only [decide_eq_true_eq, Bool.eq_false_iff, ne_eq, Bool.not_eq_true', Bool.not_eq_false', Bool.and_eq_true, Bool.or_eq_true, decide_true, decide_false, Bool.and_true, Bool.true_and, Bool.false_eq_true, not_false_eq_true, true_and, and_true] at hp); (try rw [hb]); (try clear hb))) | refine ps_alloc fun g => ?_ | refine ps_box fun g => ?_ | refine ps_store ?_ | refine ps_lit fun g => ?_ | refine pops_nil ?_ | skip) | (refine kd ?_ ?_ ?_; first | refine pstl_end ?_ | (refine pd_split (fun hb => ?_) (fun hb => ?_); (fail_if_success (guard_hyp hb : true = true)); (fail_if_success (guard_hyp hb : false = true)); all_goals (have hp := hb; (try simp only [decide_eq_true_eq, Bool.eq_false_iff, ne_eq, Bool.not_eq_true', Bool.not_eq_false', Bool.and_eq_true, Bool.or_eq_true, decide_true, decide_false, Bool.and_true, Bool.true_and, Bool.false_eq_true, not_false_eq_true, true_and, and_true] at hp); (try rw [hb]); (try clear hb))) | skip) | refine kct ?_ | refine kcf ?_ | (refine kcs (fun hb => ?_) (fun hb => ?_) <;> (have hp := hb; (try simp only [decide_eq_true_eq, Bool.eq_false_iff, ne_eq, Bool.not_eq_true', Bool.not_eq_false', Bool.and_eq_true, Bool.or_eq_true, decide_true, decide_false, Bool.and_true, Bool.true_and, Bool.false_eq_true, not_false_eq_true, true_and, and_true] at hp); (try rw [hb]); (try clear hb))) | (refine kret ?_; repeat (first | with_reducible refine beh_r ?_ | with_reducible refine blk_r ?_)) | refine kb ?_ | (refine ps_split (fun hb => ?_) (fun hb => ?_); (fail_if_success (guard_hyp hb : true = true)); (fail_if_success (guard_hyp hb : false = true)); all_goals (have hp := hb; (try simp only [decide_eq_true_eq, Bool.eq_false_iff, ne_eq, Bool.not_eq_true', Bool.not_eq_false', Bool.and_eq_true, Bool.or_eq_true, decide_true, decide_false, Bool.and_true, Bool.true_and, Bool.false_eq_true, not_false_eq_true, true_and, and_true] at hp); (try rw [hb]); (try clear hb))) | refine ps_alloc fun g => ?_ | refine ps_box fun g => ?_ | refine ps_store ?_ | refine ps_lit fun g => ?_ | refine pops_nil ?_ | (refine pd_split (fun hb => ?_) (fun hb => ?_); (fail_if_success (guard_hyp hb : true = true)); (fail_if_success (guard_hyp hb : false = true)); all_goals (have hp := hb; (try simp only [decide_eq_true_eq, Bool.eq_false_iff, ne_eq, Bool.not_eq_true', Bool.not_eq_false', Bool.and_eq_true, Bool.or_eq_true, decide_true, decide_false, Bool.and_true, Bool.true_and, Bool.false_eq_true, not_false_eq_true, true_and, and_true] at hp); (try rw [hb]); (try clear hb))) | (refine pops_go ?_ ?_ ?_; first | refine pops_end ?_ | (refine ps_split (fun hb => ?_) (fun hb => ?_); (fail_if_success (guard_hyp hb : true = true)); (fail_if_success (guard_hyp hb : false = true)); all_goals (have hp := hb; (try simp only [decide_eq_true_eq, Bool.eq_false_iff, ne_eq, Bool.not_eq_true', Bool.not_eq_false', Bool.and_eq_true, Bool.or_eq_true, decide_true, decide_false, Bool.and_true, Bool.true_and, Bool.false_eq_true, not_false_eq_true, true_and, and_true] at hp); (try rw [hb]); (try clear hb))) | refine ps_alloc fun g => ?_ | refine ps_box fun g => ?_ | refine ps_store ?_ | refine ps_lit fun g => ?_ | refine pops_nil ?_) | (refine pstl_go ?_ ?_ ?_; first | refine pstl_end ?_ | (refine pd_split (fun hb => ?_) (fun hb => ?_); (fail_if_success (guard_hyp hb : true = true)); (fail_if_success (guard_hyp hb : false = true)); all_goals (have hp := hb; (try simp only [decide_eq_true_eq, Bool.eq_false_iff, ne_eq, Bool.not_eq_true', Bool.not_eq_false', Bool.and_eq_true, Bool.or_eq_true, decide_true, decide_false, Bool.and_true, Bool.true_and, Bool.false_eq_true, not_false_eq_true, true_and, and_true] at hp); (try rw [hb]); (try clear hb)))) | (refine kn ?_; repeat (first | with_reducible refine blk_n ?_ | with_reducible refine beh_n ?_)) | (refine kx ?_; (repeat (first | with_reducible refine beh_x ?_ | with_reducible refine blk_up rfl ?_)); refine blk_here ?_; refine beh_n ?_)))
  all_goals (refine ends_ret ?_ (by exact retPV_1 res_cella); exact ⟨4, gt, by rw [cpuB, e]; rfl, rfl⟩)
def CS.made (regs : List Int) (pc : Int) (mem img key : List Int) : CS := ⟨regs, pc, 0, 0, 0, false, mem, img, key, [], 0⟩
theorem new_ok (gb gm : Nat) (mem img : List Int) (n : Nat) (hil : img.length ≤ 1000000000) (k0 k1 k2 k3 k4 k5 k6 k7 k8 k9 k10 k11 k12 k13 k14 k15 r0 r1 r2 r3 r4 r5 r6 r7 r8 r9 r10 r11 r12 r13 r14 r15 pc : Int) : GCall Try.prog 46 [.ptr 1 gm 0 0, .ro 1 false (ints .u8 img), .agg [.v (.int .u8 k0), .v (.int .u8 k1), .v (.int .u8 k2), .v (.int .u8 k3), .v (.int .u8 k4), .v (.int .u8 k5), .v (.int .u8 k6), .v (.int .u8 k7), .v (.int .u8 k8), .v (.int .u8 k9), .v (.int .u8 k10), .v (.int .u8 k11), .v (.int .u8 k12), .v (.int .u8 k13), .v (.int .u8 k14), .v (.int .u8 k15)], .agg [.v (.int .u32 r0), .v (.int .u32 r1), .v (.int .u32 r2), .v (.int .u32 r3), .v (.int .u32 r4), .v (.int .u32 r5), .v (.int .u32 r6), .v (.int .u32 r7), .v (.int .u32 r8), .v (.int .u32 r9), .v (.int .u32 r10), .v (.int .u32 r11), .v (.int .u32 r12), .v (.int .u32 r13), .v (.int .u32 r14), .v (.int .u32 r15)], .v (.int .u32 pc)]
    [⟨gb, true, 1, ints .u8 mem⟩, ⟨gm, true, 1, [[.vw 0 gb 0 n]]⟩] (fun x S' => ∃ J1 J2 gc gt, x = .ptr 4 gc 0 0 ∧ S' = [⟨gb, true, 1, ints .u8 mem⟩, ⟨gm, true, 1, [[.vw 0 gb 0 n]]⟩, J1, J2, ⟨gc, true, 41, [ci .u32 [0, r1, r2, r3, r4, r5, r6, r7, r8, r9, r10, r11, r12, r13, r14, r15] ++ cpuTl (CS.made [0, r1, r2, r3, r4, r5, r6, r7, r8, r9, r10, r11, r12, r13, r14, r15] pc mem img [k0, k1, k2, k3, k4, k5, k6, k7, k8, k9, k10, k11, k12, k13, k14, k15]) 1 gm 5 gt]⟩, ⟨gt, true, 2, []⟩]) := by
  have hc := clone_ok img (by omega)
  refine gcall_of_tr Try.func46 rfl [.tmp 10] Try.results46 21 rfl (tk_start ?_)
  (repeat refine ka ?_); refine kr ?_ ?_ ?_
  refine ps_box fun g1 => ?_
  refine pops_go ?_ ?_ ?_
  refine ps_box fun g2 => ?_
  refine pops_go ?_ ?_ (pops_end ?_)
  (repeat refine ka ?_); refine kr ?_ ?_ ?_
  refine ps_store ?_
  refine pops_go ?_ ?_ (pops_end ?_)
  (repeat refine ka ?_); refine kdt 7 ?_
  refine pstl_go ?_ ?_ ?_
  refine pd_pcall hc ?_
  refine pstl_go ?_ ?_ (pstl_end ?_)
  refine pops_go ?_ ?_ ?_
  refine ps_box fun g3 => ?_
  refine pops_go ?_ ?_ (pops_end ?_)
  refine kvoidc 4 39 2 (i := 0) (fun g4 => ?_)
  (repeat refine ka ?_); refine kret ?_; repeat (first | with_reducible refine beh_r ?_ | with_reducible refine blk_r ?_)
  refine ends_ret ?_ retPV_one
  exact ⟨_, _, g3, g4, rfl, rfl⟩
end Go.Proofs.Ytfjodfeoncoaoaa.Pv
