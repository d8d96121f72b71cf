-- carapacelaw17.ImageTells.
import Derived.Test.YtfjodfeoncoaoaaImZa
import Derived.Test.YtfjodfeoncoaoaaImU
import Derived.Test.YtfjodfeoncoaoaaImI
import Derived.Test.YtfjodfeoncoaoaaImV
namespace Go.Proofs.Ytfjodfeoncoaoaa.Pv
set_option linter.all false
open Go.RowKit Go.Proofs
set_option maxRecDepth 100000
set_option maxHeartbeats 4000000
theorem tells17 {x0 x1 x2 : PV} (h0 : ∃ xs, x0 = .agg xs ∧ SArr 2 SImg xs) (h1 : SSl 1 1 (SInt .u8) [x1]) (h2 : SSl 1 1 (SInt .u8) [x2]) : PCall Try.prog 3 [x0, x1, x2] (.v (.bool true)) := by
  obtain ⟨xs, rfl, rows, rfl, hrl, hrows⟩ := h0
  obtain ⟨p, e1, hp, hpl⟩ := ssl_one h1
  obtain ⟨b, e2, hb, hbl⟩ := ssl_one h2
  cases e1
  cases e2
  match rows, hrl with
  | [ra, rb], _ =>
  obtain ⟨x, rfl, hx, xs1, xs2, xs3⟩ := img_of (hrows ra (by simp))
  obtain ⟨y, rfl, hy, ys1, ys2, ys3⟩ := img_of (hrows rb (by simp))
  clear hrows h1 h2
  have hlx := large_ok x
  have hly := large_ok y
  simp only [List.flatten_cons, List.flatten_nil, List.append_nil]
  by_cases gx : largeF x = true
  · rw [gx] at hlx
    obtain ⟨⟨bcj, del, lz, rng, cry⟩, count, mid, raw, sum, n0, n1, stub, pay, dir⟩ := x
    obtain ⟨⟨bcj', del', lz', rng', cry'⟩, count', mid', raw', sum', n0', n1', stub', pay', dir'⟩ := y
    unfold Img.cells at *
    simp only [List.cons_append, List.nil_append] at hlx ⊢
    clear hly
    refine pcall_mk Try.func3 rfl [.tmp 6] Try.results3 126 rfl (tk_start ?_)
    (repeat refine ka ?_); refine kr ?_ ?_ ?_
    refine ps_box (fun gx => ?_)
    refine pops_go ?_ ?_ (pops_end ?_)
    (repeat refine ka ?_); refine kr ?_ ?_ ?_
    refine ps_pcall im_awake ?_
    refine pops_go ?_ ?_ (pops_end ?_)
    (repeat refine ka ?_); refine kr ?_ ?_ ?_
    simp only [show 0 + Int.toNat 0 * 14 = 0 from rfl, List.drop_zero, List.take_succ_cons, List.take_zero]
    refine ps_alloc fun g8 => ?_
    refine pops_go ?_ ?_ ?_
    refine ps_st_row ?_
    refine pops_nil ?_
    (repeat refine ka ?_); refine kr ?_ ?_ ?_
    simp only [show 0 + Int.toNat 1 * 14 = 14 from rfl, List.drop_succ_cons, List.drop_zero, List.take_succ_cons, List.take_zero]
    refine ps_alloc fun g9 => ?_
    refine pops_go ?_ ?_ ?_
    refine ps_st_row ?_
    refine pops_nil ?_
    (repeat' (first | refine ka ?_ | refine ksk ?_ | (refine kr ?_ ?_ ?_; first | refine pops_end ?_ | (refine ps_split (fun hb => ?_) (fun hb => ?_); (fail_if_success (guard_hyp hb : true = true)); (fail_if_success (guard_hyp hb : false = true)); all_goals (have hp := hb; (try simp only [decide_eq_true_eq, Bool.eq_false_iff, ne_eq, Bool.not_eq_true', Bool.not_eq_false', Bool.and_eq_true, Bool.or_eq_true, decide_true, decide_false, Bool.and_true, Bool.true_and, Bool.false_eq_true, not_false_eq_true, true_and, and_true] at hp); (try rw [hb]); (try clear hb))) | refine ps_pcall (im_awake) ?_ | refine ps_pcall_g (im_awake) ?_ | refine ps_pcall (hlx) ?_ | refine ps_pcall_g (hlx) ?_ | refine ps_alloc fun g => ?_ | refine ps_box fun g => ?_ | refine ps_store ?_ | refine ps_lit fun g => ?_ | refine pops_nil ?_ | skip) | (refine kd ?_ ?_ ?_; first | refine pstl_end ?_ | (refine pd_split (fun hb => ?_) (fun hb => ?_); (fail_if_success (guard_hyp hb : true = true)); (fail_if_success (guard_hyp hb : false = true)); all_goals (have hp := hb; (try simp only [decide_eq_true_eq, Bool.eq_false_iff, ne_eq, Bool.not_eq_true', Bool.not_eq_false', Bool.and_eq_true, Bool.or_eq_true, decide_true, decide_false, Bool.and_true, Bool.true_and, Bool.false_eq_true, not_false_eq_true, true_and, and_true] at hp); (try rw [hb]); (try clear hb))) | refine pd_pcall (im_awake) ?_ | refine pd_pcall_g (im_awake) ?_ | refine pd_pcall (hlx) ?_ | refine pd_pcall_g (hlx) ?_ | skip) | refine kct ?_ | refine kcf ?_ | (refine kcs (fun hb => ?_) (fun hb => ?_) <;> (have hp := hb; (try simp only [decide_eq_true_eq, Bool.eq_false_iff, ne_eq, Bool.not_eq_true', Bool.not_eq_false', Bool.and_eq_true, Bool.or_eq_true, decide_true, decide_false, Bool.and_true, Bool.true_and, Bool.false_eq_true, not_false_eq_true, true_and, and_true] at hp); (try rw [hb]); (try clear hb))) | (refine kret ?_; repeat (first | with_reducible refine beh_r ?_ | with_reducible refine blk_r ?_)) | refine kb ?_ | (refine ps_split (fun hb => ?_) (fun hb => ?_); (fail_if_success (guard_hyp hb : true = true)); (fail_if_success (guard_hyp hb : false = true)); all_goals (have hp := hb; (try simp only [decide_eq_true_eq, Bool.eq_false_iff, ne_eq, Bool.not_eq_true', Bool.not_eq_false', Bool.and_eq_true, Bool.or_eq_true, decide_true, decide_false, Bool.and_true, Bool.true_and, Bool.false_eq_true, not_false_eq_true, true_and, and_true] at hp); (try rw [hb]); (try clear hb))) | refine ps_pcall (im_awake) ?_ | refine ps_pcall_g (im_awake) ?_ | refine ps_pcall (hlx) ?_ | refine ps_pcall_g (hlx) ?_ | refine ps_alloc fun g => ?_ | refine ps_box fun g => ?_ | refine ps_store ?_ | refine ps_lit fun g => ?_ | refine pops_nil ?_ | (refine pd_split (fun hb => ?_) (fun hb => ?_); (fail_if_success (guard_hyp hb : true = true)); (fail_if_success (guard_hyp hb : false = true)); all_goals (have hp := hb; (try simp only [decide_eq_true_eq, Bool.eq_false_iff, ne_eq, Bool.not_eq_true', Bool.not_eq_false', Bool.and_eq_true, Bool.or_eq_true, decide_true, decide_false, Bool.and_true, Bool.true_and, Bool.false_eq_true, not_false_eq_true, true_and, and_true] at hp); (try rw [hb]); (try clear hb))) | refine pd_pcall (im_awake) ?_ | refine pd_pcall_g (im_awake) ?_ | refine pd_pcall (hlx) ?_ | refine pd_pcall_g (hlx) ?_ | (refine pops_go ?_ ?_ ?_; first | refine pops_end ?_ | (refine ps_split (fun hb => ?_) (fun hb => ?_); (fail_if_success (guard_hyp hb : true = true)); (fail_if_success (guard_hyp hb : false = true)); all_goals (have hp := hb; (try simp only [decide_eq_true_eq, Bool.eq_false_iff, ne_eq, Bool.not_eq_true', Bool.not_eq_false', Bool.and_eq_true, Bool.or_eq_true, decide_true, decide_false, Bool.and_true, Bool.true_and, Bool.false_eq_true, not_false_eq_true, true_and, and_true] at hp); (try rw [hb]); (try clear hb))) | refine ps_pcall (im_awake) ?_ | refine ps_pcall_g (im_awake) ?_ | refine ps_pcall (hlx) ?_ | refine ps_pcall_g (hlx) ?_ | refine ps_alloc fun g => ?_ | refine ps_box fun g => ?_ | refine ps_store ?_ | refine ps_lit fun g => ?_ | refine pops_nil ?_) | (refine pstl_go ?_ ?_ ?_; first | refine pstl_end ?_ | (refine pd_split (fun hb => ?_) (fun hb => ?_); (fail_if_success (guard_hyp hb : true = true)); (fail_if_success (guard_hyp hb : false = true)); all_goals (have hp := hb; (try simp only [decide_eq_true_eq, Bool.eq_false_iff, ne_eq, Bool.not_eq_true', Bool.not_eq_false', Bool.and_eq_true, Bool.or_eq_true, decide_true, decide_false, Bool.and_true, Bool.true_and, Bool.false_eq_true, not_false_eq_true, true_and, and_true] at hp); (try rw [hb]); (try clear hb))) | refine pd_pcall (im_awake) ?_ | refine pd_pcall_g (im_awake) ?_ | refine pd_pcall (hlx) ?_ | refine pd_pcall_g (hlx) ?_) | (refine kn ?_; repeat (first | with_reducible refine blk_n ?_ | with_reducible refine beh_n ?_)) | (refine kx ?_; (repeat (first | with_reducible refine beh_x ?_ | with_reducible refine blk_up rfl ?_)); refine blk_here ?_; refine beh_n ?_)))
    all_goals (refine ends_ret ?_ retPV_one; rfl)
  by_cases gy : largeF y = true
  · rw [gy] at hly
    rw [Bool.not_eq_true] at gx
    rw [gx] at hlx
    obtain ⟨⟨bcj, del, lz, rng, cry⟩, count, mid, raw, sum, n0, n1, stub, pay, dir⟩ := x
    obtain ⟨⟨bcj', del', lz', rng', cry'⟩, count', mid', raw', sum', n0', n1', stub', pay', dir'⟩ := y
    unfold Img.cells at *
    simp only [List.cons_append, List.nil_append] at hlx hly ⊢
    refine pcall_mk Try.func3 rfl [.tmp 6] Try.results3 126 rfl (tk_start ?_)
    (repeat refine ka ?_); refine kr ?_ ?_ ?_
    refine ps_box (fun gx => ?_)
    refine pops_go ?_ ?_ (pops_end ?_)
    (repeat refine ka ?_); refine kr ?_ ?_ ?_
    refine ps_pcall im_awake ?_
    refine pops_go ?_ ?_ (pops_end ?_)
    (repeat refine ka ?_); refine kr ?_ ?_ ?_
    simp only [show 0 + Int.toNat 0 * 14 = 0 from rfl, List.drop_zero, List.take_succ_cons, List.take_zero]
    refine ps_alloc fun g8 => ?_
    refine pops_go ?_ ?_ ?_
    refine ps_st_row ?_
    refine pops_nil ?_
    (repeat refine ka ?_); refine kr ?_ ?_ ?_
    simp only [show 0 + Int.toNat 1 * 14 = 14 from rfl, List.drop_succ_cons, List.drop_zero, List.take_succ_cons, List.take_zero]
    refine ps_alloc fun g9 => ?_
    refine pops_go ?_ ?_ ?_
    refine ps_st_row ?_
    refine pops_nil ?_
    (repeat' (first | refine ka ?_ | refine ksk ?_ | (refine kr ?_ ?_ ?_; first | refine pops_end ?_ | (refine ps_split (fun hb => ?_) (fun hb => ?_); (fail_if_success (guard_hyp hb : true = true)); (fail_if_success (guard_hyp hb : false = true)); all_goals (have hp := hb; (try simp only [decide_eq_true_eq, Bool.eq_false_iff, ne_eq, Bool.not_eq_true', Bool.not_eq_false', Bool.and_eq_true, Bool.or_eq_true, decide_true, decide_false, Bool.and_true, Bool.true_and, Bool.false_eq_true, not_false_eq_true, true_and, and_true] at hp); (try rw [hb]); (try clear hb))) | refine ps_pcall (im_awake) ?_ | refine ps_pcall_g (im_awake) ?_ | refine ps_pcall (hlx) ?_ | refine ps_pcall_g (hlx) ?_ | refine ps_pcall (hly) ?_ | refine ps_pcall_g (hly) ?_ | refine ps_alloc fun g => ?_ | refine ps_box fun g => ?_ | refine ps_store ?_ | refine ps_lit fun g => ?_ | refine pops_nil ?_ | skip) | (refine kd ?_ ?_ ?_; first | refine pstl_end ?_ | (refine pd_split (fun hb => ?_) (fun hb => ?_); (fail_if_success (guard_hyp hb : true = true)); (fail_if_success (guard_hyp hb : false = true)); all_goals (have hp := hb; (try simp only [decide_eq_true_eq, Bool.eq_false_iff, ne_eq, Bool.not_eq_true', Bool.not_eq_false', Bool.and_eq_true, Bool.or_eq_true, decide_true, decide_false, Bool.and_true, Bool.true_and, Bool.false_eq_true, not_false_eq_true, true_and, and_true] at hp); (try rw [hb]); (try clear hb))) | refine pd_pcall (im_awake) ?_ | refine pd_pcall_g (im_awake) ?_ | refine pd_pcall (hlx) ?_ | refine pd_pcall_g (hlx) ?_ | refine pd_pcall (hly) ?_ | refine pd_pcall_g (hly) ?_ | skip) | refine kct ?_ | refine kcf ?_ | (refine kcs (fun hb => ?_) (fun hb => ?_) <;> (have hp := hb; (try simp only [decide_eq_true_eq, Bool.eq_false_iff, ne_eq, Bool.not_eq_true', Bool.not_eq_false', Bool.and_eq_true, Bool.or_eq_true, decide_true, decide_false, Bool.and_true, Bool.true_and, Bool.false_eq_true, not_false_eq_true, true_and, and_true] at hp); (try rw [hb]); (try clear hb))) | (refine kret ?_; repeat (first | with_reducible refine beh_r ?_ | with_reducible refine blk_r ?_)) | refine kb ?_ | (refine ps_split (fun hb => ?_) (fun hb => ?_); (fail_if_success (guard_hyp hb : true = true)); (fail_if_success (guard_hyp hb : false = true)); all_goals (have hp := hb; (try simp only [decide_eq_true_eq, Bool.eq_false_iff, ne_eq, Bool.not_eq_true', Bool.not_eq_false', Bool.and_eq_true, Bool.or_eq_true, decide_true, decide_false, Bool.and_true, Bool.true_and, Bool.false_eq_true, not_false_eq_true, true_and, and_true] at hp); (try rw [hb]); (try clear hb))) | refine ps_pcall (im_awake) ?_ | refine ps_pcall_g (im_awake) ?_ | refine ps_pcall (hlx) ?_ | refine ps_pcall_g (hlx) ?_ | refine ps_pcall (hly) ?_ | refine ps_pcall_g (hly) ?_ | refine ps_alloc fun g => ?_ | refine ps_box fun g => ?_ | refine ps_store ?_ | refine ps_lit fun g => ?_ | refine pops_nil ?_ | (refine pd_split (fun hb => ?_) (fun hb => ?_); (fail_if_success (guard_hyp hb : true = true)); (fail_if_success (guard_hyp hb : false = true)); all_goals (have hp := hb; (try simp only [decide_eq_true_eq, Bool.eq_false_iff, ne_eq, Bool.not_eq_true', Bool.not_eq_false', Bool.and_eq_true, Bool.or_eq_true, decide_true, decide_false, Bool.and_true, Bool.true_and, Bool.false_eq_true, not_false_eq_true, true_and, and_true] at hp); (try rw [hb]); (try clear hb))) | refine pd_pcall (im_awake) ?_ | refine pd_pcall_g (im_awake) ?_ | refine pd_pcall (hlx) ?_ | refine pd_pcall_g (hlx) ?_ | refine pd_pcall (hly) ?_ | refine pd_pcall_g (hly) ?_ | (refine pops_go ?_ ?_ ?_; first | refine pops_end ?_ | (refine ps_split (fun hb => ?_) (fun hb => ?_); (fail_if_success (guard_hyp hb : true = true)); (fail_if_success (guard_hyp hb : false = true)); all_goals (have hp := hb; (try simp only [decide_eq_true_eq, Bool.eq_false_iff, ne_eq, Bool.not_eq_true', Bool.not_eq_false', Bool.and_eq_true, Bool.or_eq_true, decide_true, decide_false, Bool.and_true, Bool.true_and, Bool.false_eq_true, not_false_eq_true, true_and, and_true] at hp); (try rw [hb]); (try clear hb))) | refine ps_pcall (im_awake) ?_ | refine ps_pcall_g (im_awake) ?_ | refine ps_pcall (hlx) ?_ | refine ps_pcall_g (hlx) ?_ | refine ps_pcall (hly) ?_ | refine ps_pcall_g (hly) ?_ | refine ps_alloc fun g => ?_ | refine ps_box fun g => ?_ | refine ps_store ?_ | refine ps_lit fun g => ?_ | refine pops_nil ?_) | (refine pstl_go ?_ ?_ ?_; first | refine pstl_end ?_ | (refine pd_split (fun hb => ?_) (fun hb => ?_); (fail_if_success (guard_hyp hb : true = true)); (fail_if_success (guard_hyp hb : false = true)); all_goals (have hp := hb; (try simp only [decide_eq_true_eq, Bool.eq_false_iff, ne_eq, Bool.not_eq_true', Bool.not_eq_false', Bool.and_eq_true, Bool.or_eq_true, decide_true, decide_false, Bool.and_true, Bool.true_and, Bool.false_eq_true, not_false_eq_true, true_and, and_true] at hp); (try rw [hb]); (try clear hb))) | refine pd_pcall (im_awake) ?_ | refine pd_pcall_g (im_awake) ?_ | refine pd_pcall (hlx) ?_ | refine pd_pcall_g (hlx) ?_ | refine pd_pcall (hly) ?_ | refine pd_pcall_g (hly) ?_) | (refine kn ?_; repeat (first | with_reducible refine blk_n ?_ | with_reducible refine beh_n ?_)) | (refine kx ?_; (repeat (first | with_reducible refine beh_x ?_ | with_reducible refine blk_up rfl ?_)); refine blk_here ?_; refine beh_n ?_)))
    all_goals (refine ends_ret ?_ retPV_one; rfl)
  rw [Bool.not_eq_true] at gx gy
  rw [gx] at hlx
  rw [gy] at hly
  by_cases gp : (2000 : Int) < p.length ∧ (p.length : Int) ≤ 1000000
  · obtain ⟨gp1, gp2⟩ := gp
    obtain ⟨⟨bcj, del, lz, rng, cry⟩, count, mid, raw, sum, n0, n1, stub, pay, dir⟩ := x
    obtain ⟨⟨bcj', del', lz', rng', cry'⟩, count', mid', raw', sum', n0', n1', stub', pay', dir'⟩ := y
    unfold Img.cells at *
    simp only [List.cons_append, List.nil_append] at hlx hly ⊢
    refine pcall_mk Try.func3 rfl [.tmp 6] Try.results3 126 rfl (tk_start ?_)
    (repeat refine ka ?_); refine kr ?_ ?_ ?_
    refine ps_box (fun gx => ?_)
    refine pops_go ?_ ?_ (pops_end ?_)
    (repeat refine ka ?_); refine kr ?_ ?_ ?_
    refine ps_pcall im_awake ?_
    refine pops_go ?_ ?_ (pops_end ?_)
    (repeat refine ka ?_); refine kr ?_ ?_ ?_
    simp only [show 0 + Int.toNat 0 * 14 = 0 from rfl, List.drop_zero, List.take_succ_cons, List.take_zero]
    refine ps_alloc fun g8 => ?_
    refine pops_go ?_ ?_ ?_
    refine ps_st_row ?_
    refine pops_nil ?_
    (repeat refine ka ?_); refine kr ?_ ?_ ?_
    simp only [show 0 + Int.toNat 1 * 14 = 14 from rfl, List.drop_succ_cons, List.drop_zero, List.take_succ_cons, List.take_zero]
    refine ps_alloc fun g9 => ?_
    refine pops_go ?_ ?_ ?_
    refine ps_st_row ?_
    refine pops_nil ?_
    (repeat' (first | refine ka ?_ | refine ksk ?_ | (refine kr ?_ ?_ ?_; first | refine pops_end ?_ | (refine ps_split (fun hb => ?_) (fun hb => ?_); (fail_if_success (guard_hyp hb : true = true)); (fail_if_success (guard_hyp hb : false = true)); all_goals (have hp := hb; (try simp only [decide_eq_true_eq, Bool.eq_false_iff, ne_eq, Bool.not_eq_true', Bool.not_eq_false', Bool.and_eq_true, Bool.or_eq_true, decide_true, decide_false, Bool.and_true, Bool.true_and, Bool.false_eq_true, not_false_eq_true, true_and, and_true] at hp); (try rw [hb]); (try clear hb))) | refine ps_pcall (im_awake) ?_ | refine ps_pcall_g (im_awake) ?_ | refine ps_pcall (hlx) ?_ | refine ps_pcall_g (hlx) ?_ | refine ps_pcall (hly) ?_ | refine ps_pcall_g (hly) ?_ | refine ps_alloc fun g => ?_ | refine ps_box fun g => ?_ | refine ps_store ?_ | refine ps_lit fun g => ?_ | refine pops_nil ?_ | skip) | (refine kd ?_ ?_ ?_; first | refine pstl_end ?_ | (refine pd_split (fun hb => ?_) (fun hb => ?_); (fail_if_success (guard_hyp hb : true = true)); (fail_if_success (guard_hyp hb : false = true)); all_goals (have hp := hb; (try simp only [decide_eq_true_eq, Bool.eq_false_iff, ne_eq, Bool.not_eq_true', Bool.not_eq_false', Bool.and_eq_true, Bool.or_eq_true, decide_true, decide_false, Bool.and_true, Bool.true_and, Bool.false_eq_true, not_false_eq_true, true_and, and_true] at hp); (try rw [hb]); (try clear hb))) | refine pd_pcall (im_awake) ?_ | refine pd_pcall_g (im_awake) ?_ | refine pd_pcall (hlx) ?_ | refine pd_pcall_g (hlx) ?_ | refine pd_pcall (hly) ?_ | refine pd_pcall_g (hly) ?_ | skip) | refine kct ?_ | refine kcf ?_ | (refine kcs (fun hb => ?_) (fun hb => ?_) <;> (have hp := hb; (try simp only [decide_eq_true_eq, Bool.eq_false_iff, ne_eq, Bool.not_eq_true', Bool.not_eq_false', Bool.and_eq_true, Bool.or_eq_true, decide_true, decide_false, Bool.and_true, Bool.true_and, Bool.false_eq_true, not_false_eq_true, true_and, and_true] at hp); (try rw [hb]); (try clear hb))) | (refine kret ?_; repeat (first | with_reducible refine beh_r ?_ | with_reducible refine blk_r ?_)) | refine kb ?_ | (refine ps_split (fun hb => ?_) (fun hb => ?_); (fail_if_success (guard_hyp hb : true = true)); (fail_if_success (guard_hyp hb : false = true)); all_goals (have hp := hb; (try simp only [decide_eq_true_eq, Bool.eq_false_iff, ne_eq, Bool.not_eq_true', Bool.not_eq_false', Bool.and_eq_true, Bool.or_eq_true, decide_true, decide_false, Bool.and_true, Bool.true_and, Bool.false_eq_true, not_false_eq_true, true_and, and_true] at hp); (try rw [hb]); (try clear hb))) | refine ps_pcall (im_awake) ?_ | refine ps_pcall_g (im_awake) ?_ | refine ps_pcall (hlx) ?_ | refine ps_pcall_g (hlx) ?_ | refine ps_pcall (hly) ?_ | refine ps_pcall_g (hly) ?_ | refine ps_alloc fun g => ?_ | refine ps_box fun g => ?_ | refine ps_store ?_ | refine ps_lit fun g => ?_ | refine pops_nil ?_ | (refine pd_split (fun hb => ?_) (fun hb => ?_); (fail_if_success (guard_hyp hb : true = true)); (fail_if_success (guard_hyp hb : false = true)); all_goals (have hp := hb; (try simp only [decide_eq_true_eq, Bool.eq_false_iff, ne_eq, Bool.not_eq_true', Bool.not_eq_false', Bool.and_eq_true, Bool.or_eq_true, decide_true, decide_false, Bool.and_true, Bool.true_and, Bool.false_eq_true, not_false_eq_true, true_and, and_true] at hp); (try rw [hb]); (try clear hb))) | refine pd_pcall (im_awake) ?_ | refine pd_pcall_g (im_awake) ?_ | refine pd_pcall (hlx) ?_ | refine pd_pcall_g (hlx) ?_ | refine pd_pcall (hly) ?_ | refine pd_pcall_g (hly) ?_ | (refine pops_go ?_ ?_ ?_; first | refine pops_end ?_ | (refine ps_split (fun hb => ?_) (fun hb => ?_); (fail_if_success (guard_hyp hb : true = true)); (fail_if_success (guard_hyp hb : false = true)); all_goals (have hp := hb; (try simp only [decide_eq_true_eq, Bool.eq_false_iff, ne_eq, Bool.not_eq_true', Bool.not_eq_false', Bool.and_eq_true, Bool.or_eq_true, decide_true, decide_false, Bool.and_true, Bool.true_and, Bool.false_eq_true, not_false_eq_true, true_and, and_true] at hp); (try rw [hb]); (try clear hb))) | refine ps_pcall (im_awake) ?_ | refine ps_pcall_g (im_awake) ?_ | refine ps_pcall (hlx) ?_ | refine ps_pcall_g (hlx) ?_ | refine ps_pcall (hly) ?_ | refine ps_pcall_g (hly) ?_ | refine ps_alloc fun g => ?_ | refine ps_box fun g => ?_ | refine ps_store ?_ | refine ps_lit fun g => ?_ | refine pops_nil ?_) | (refine pstl_go ?_ ?_ ?_; first | refine pstl_end ?_ | (refine pd_split (fun hb => ?_) (fun hb => ?_); (fail_if_success (guard_hyp hb : true = true)); (fail_if_success (guard_hyp hb : false = true)); all_goals (have hp := hb; (try simp only [decide_eq_true_eq, Bool.eq_false_iff, ne_eq, Bool.not_eq_true', Bool.not_eq_false', Bool.and_eq_true, Bool.or_eq_true, decide_true, decide_false, Bool.and_true, Bool.true_and, Bool.false_eq_true, not_false_eq_true, true_and, and_true] at hp); (try rw [hb]); (try clear hb))) | refine pd_pcall (im_awake) ?_ | refine pd_pcall_g (im_awake) ?_ | refine pd_pcall (hlx) ?_ | refine pd_pcall_g (hlx) ?_ | refine pd_pcall (hly) ?_ | refine pd_pcall_g (hly) ?_) | (refine kn ?_; repeat (first | with_reducible refine blk_n ?_ | with_reducible refine beh_n ?_)) | (refine kx ?_; (repeat (first | with_reducible refine beh_x ?_ | with_reducible refine blk_up rfl ?_)); refine blk_here ?_; refine beh_n ?_)))
    all_goals (refine ends_ret ?_ retPV_one; first | rfl | (exfalso; omega))
  by_cases gb : (80000 : Int) < b.length ∧ (b.length : Int) ≤ 1048576
  · obtain ⟨gb1, gb2⟩ := gb
    obtain ⟨⟨bcj, del, lz, rng, cry⟩, count, mid, raw, sum, n0, n1, stub, pay, dir⟩ := x
    obtain ⟨⟨bcj', del', lz', rng', cry'⟩, count', mid', raw', sum', n0', n1', stub', pay', dir'⟩ := y
    unfold Img.cells at *
    simp only [List.cons_append, List.nil_append] at hlx hly ⊢
    by_cases gp1 : (2000 : Int) < p.length
    · have gp2 : ¬ (p.length : Int) ≤ 1000000 := fun h => gp ⟨gp1, h⟩
      refine pcall_mk Try.func3 rfl [.tmp 6] Try.results3 126 rfl (tk_start ?_)
      (repeat refine ka ?_); refine kr ?_ ?_ ?_
      refine ps_box (fun gx => ?_)
      refine pops_go ?_ ?_ (pops_end ?_)
      (repeat refine ka ?_); refine kr ?_ ?_ ?_
      refine ps_pcall im_awake ?_
      refine pops_go ?_ ?_ (pops_end ?_)
      (repeat refine ka ?_); refine kr ?_ ?_ ?_
      simp only [show 0 + Int.toNat 0 * 14 = 0 from rfl, List.drop_zero, List.take_succ_cons, List.take_zero]
      refine ps_alloc fun g8 => ?_
      refine pops_go ?_ ?_ ?_
      refine ps_st_row ?_
      refine pops_nil ?_
      (repeat refine ka ?_); refine kr ?_ ?_ ?_
      simp only [show 0 + Int.toNat 1 * 14 = 14 from rfl, List.drop_succ_cons, List.drop_zero, List.take_succ_cons, List.take_zero]
      refine ps_alloc fun g9 => ?_
      refine pops_go ?_ ?_ ?_
      refine ps_st_row ?_
      refine pops_nil ?_
      (repeat' (first | refine ka ?_ | refine ksk ?_ | (refine kr ?_ ?_ ?_; first | refine pops_end ?_ | (refine ps_split (fun hb => ?_) (fun hb => ?_); (fail_if_success (guard_hyp hb : true = true)); (fail_if_success (guard_hyp hb : false = true)); all_goals (have hp := hb; (try simp only [decide_eq_true_eq, Bool.eq_false_iff, ne_eq, Bool.not_eq_true', Bool.not_eq_false', Bool.and_eq_true, Bool.or_eq_true, decide_true, decide_false, Bool.and_true, Bool.true_and, Bool.false_eq_true, not_false_eq_true, true_and, and_true] at hp); (try rw [hb]); (try clear hb))) | refine ps_pcall (im_awake) ?_ | refine ps_pcall_g (im_awake) ?_ | refine ps_pcall (hlx) ?_ | refine ps_pcall_g (hlx) ?_ | refine ps_pcall (hly) ?_ | refine ps_pcall_g (hly) ?_ | refine ps_alloc fun g => ?_ | refine ps_box fun g => ?_ | refine ps_store ?_ | refine ps_lit fun g => ?_ | refine pops_nil ?_ | skip) | (refine kd ?_ ?_ ?_; first | refine pstl_end ?_ | (refine pd_split (fun hb => ?_) (fun hb => ?_); (fail_if_success (guard_hyp hb : true = true)); (fail_if_success (guard_hyp hb : false = true)); all_goals (have hp := hb; (try simp only [decide_eq_true_eq, Bool.eq_false_iff, ne_eq, Bool.not_eq_true', Bool.not_eq_false', Bool.and_eq_true, Bool.or_eq_true, decide_true, decide_false, Bool.and_true, Bool.true_and, Bool.false_eq_true, not_false_eq_true, true_and, and_true] at hp); (try rw [hb]); (try clear hb))) | refine pd_pcall (im_awake) ?_ | refine pd_pcall_g (im_awake) ?_ | refine pd_pcall (hlx) ?_ | refine pd_pcall_g (hlx) ?_ | refine pd_pcall (hly) ?_ | refine pd_pcall_g (hly) ?_ | skip) | refine kct ?_ | refine kcf ?_ | (refine kcs (fun hb => ?_) (fun hb => ?_) <;> (have hp := hb; (try simp only [decide_eq_true_eq, Bool.eq_false_iff, ne_eq, Bool.not_eq_true', Bool.not_eq_false', Bool.and_eq_true, Bool.or_eq_true, decide_true, decide_false, Bool.and_true, Bool.true_and, Bool.false_eq_true, not_false_eq_true, true_and, and_true] at hp); (try rw [hb]); (try clear hb))) | (refine kret ?_; repeat (first | with_reducible refine beh_r ?_ | with_reducible refine blk_r ?_)) | refine kb ?_ | (refine ps_split (fun hb => ?_) (fun hb => ?_); (fail_if_success (guard_hyp hb : true = true)); (fail_if_success (guard_hyp hb : false = true)); all_goals (have hp := hb; (try simp only [decide_eq_true_eq, Bool.eq_false_iff, ne_eq, Bool.not_eq_true', Bool.not_eq_false', Bool.and_eq_true, Bool.or_eq_true, decide_true, decide_false, Bool.and_true, Bool.true_and, Bool.false_eq_true, not_false_eq_true, true_and, and_true] at hp); (try rw [hb]); (try clear hb))) | refine ps_pcall (im_awake) ?_ | refine ps_pcall_g (im_awake) ?_ | refine ps_pcall (hlx) ?_ | refine ps_pcall_g (hlx) ?_ | refine ps_pcall (hly) ?_ | refine ps_pcall_g (hly) ?_ | refine ps_alloc fun g => ?_ | refine ps_box fun g => ?_ | refine ps_store ?_ | refine ps_lit fun g => ?_ | refine pops_nil ?_ | (refine pd_split (fun hb => ?_) (fun hb => ?_); (fail_if_success (guard_hyp hb : true = true)); (fail_if_success (guard_hyp hb : false = true)); all_goals (have hp := hb; (try simp only [decide_eq_true_eq, Bool.eq_false_iff, ne_eq, Bool.not_eq_true', Bool.not_eq_false', Bool.and_eq_true, Bool.or_eq_true, decide_true, decide_false, Bool.and_true, Bool.true_and, Bool.false_eq_true, not_false_eq_true, true_and, and_true] at hp); (try rw [hb]); (try clear hb))) | refine pd_pcall (im_awake) ?_ | refine pd_pcall_g (im_awake) ?_ | refine pd_pcall (hlx) ?_ | refine pd_pcall_g (hlx) ?_ | refine pd_pcall (hly) ?_ | refine pd_pcall_g (hly) ?_ | (refine pops_go ?_ ?_ ?_; first | refine pops_end ?_ | (refine ps_split (fun hb => ?_) (fun hb => ?_); (fail_if_success (guard_hyp hb : true = true)); (fail_if_success (guard_hyp hb : false = true)); all_goals (have hp := hb; (try simp only [decide_eq_true_eq, Bool.eq_false_iff, ne_eq, Bool.not_eq_true', Bool.not_eq_false', Bool.and_eq_true, Bool.or_eq_true, decide_true, decide_false, Bool.and_true, Bool.true_and, Bool.false_eq_true, not_false_eq_true, true_and, and_true] at hp); (try rw [hb]); (try clear hb))) | refine ps_pcall (im_awake) ?_ | refine ps_pcall_g (im_awake) ?_ | refine ps_pcall (hlx) ?_ | refine ps_pcall_g (hlx) ?_ | refine ps_pcall (hly) ?_ | refine ps_pcall_g (hly) ?_ | refine ps_alloc fun g => ?_ | refine ps_box fun g => ?_ | refine ps_store ?_ | refine ps_lit fun g => ?_ | refine pops_nil ?_) | (refine pstl_go ?_ ?_ ?_; first | refine pstl_end ?_ | (refine pd_split (fun hb => ?_) (fun hb => ?_); (fail_if_success (guard_hyp hb : true = true)); (fail_if_success (guard_hyp hb : false = true)); all_goals (have hp := hb; (try simp only [decide_eq_true_eq, Bool.eq_false_iff, ne_eq, Bool.not_eq_true', Bool.not_eq_false', Bool.and_eq_true, Bool.or_eq_true, decide_true, decide_false, Bool.and_true, Bool.true_and, Bool.false_eq_true, not_false_eq_true, true_and, and_true] at hp); (try rw [hb]); (try clear hb))) | refine pd_pcall (im_awake) ?_ | refine pd_pcall_g (im_awake) ?_ | refine pd_pcall (hlx) ?_ | refine pd_pcall_g (hlx) ?_ | refine pd_pcall (hly) ?_ | refine pd_pcall_g (hly) ?_) | (refine kn ?_; repeat (first | with_reducible refine blk_n ?_ | with_reducible refine beh_n ?_)) | (refine kx ?_; (repeat (first | with_reducible refine beh_x ?_ | with_reducible refine blk_up rfl ?_)); refine blk_here ?_; refine beh_n ?_)))
      all_goals (refine ends_ret ?_ retPV_one; first | rfl | (exfalso; omega))
    · refine pcall_mk Try.func3 rfl [.tmp 6] Try.results3 126 rfl (tk_start ?_)
      (repeat refine ka ?_); refine kr ?_ ?_ ?_
      refine ps_box (fun gx => ?_)
      refine pops_go ?_ ?_ (pops_end ?_)
      (repeat refine ka ?_); refine kr ?_ ?_ ?_
      refine ps_pcall im_awake ?_
      refine pops_go ?_ ?_ (pops_end ?_)
      (repeat refine ka ?_); refine kr ?_ ?_ ?_
      simp only [show 0 + Int.toNat 0 * 14 = 0 from rfl, List.drop_zero, List.take_succ_cons, List.take_zero]
      refine ps_alloc fun g8 => ?_
      refine pops_go ?_ ?_ ?_
      refine ps_st_row ?_
      refine pops_nil ?_
      (repeat refine ka ?_); refine kr ?_ ?_ ?_
      simp only [show 0 + Int.toNat 1 * 14 = 14 from rfl, List.drop_succ_cons, List.drop_zero, List.take_succ_cons, List.take_zero]
      refine ps_alloc fun g9 => ?_
      refine pops_go ?_ ?_ ?_
      refine ps_st_row ?_
      refine pops_nil ?_
      (repeat' (first | refine ka ?_ | refine ksk ?_ | (refine kr ?_ ?_ ?_; first | refine pops_end ?_ | (refine ps_split (fun hb => ?_) (fun hb => ?_); (fail_if_success (guard_hyp hb : true = true)); (fail_if_success (guard_hyp hb : false = true)); all_goals (have hp := hb; (try simp only [decide_eq_true_eq, Bool.eq_false_iff, ne_eq, Bool.not_eq_true', Bool.not_eq_false', Bool.and_eq_true, Bool.or_eq_true, decide_true, decide_false, Bool.and_true, Bool.true_and, Bool.false_eq_true, not_false_eq_true, true_and, and_true] at hp); (try rw [hb]); (try clear hb))) | refine ps_pcall (im_awake) ?_ | refine ps_pcall_g (im_awake) ?_ | refine ps_pcall (hlx) ?_ | refine ps_pcall_g (hlx) ?_ | refine ps_pcall (hly) ?_ | refine ps_pcall_g (hly) ?_ | refine ps_alloc fun g => ?_ | refine ps_box fun g => ?_ | refine ps_store ?_ | refine ps_lit fun g => ?_ | refine pops_nil ?_ | skip) | (refine kd ?_ ?_ ?_; first | refine pstl_end ?_ | (refine pd_split (fun hb => ?_) (fun hb => ?_); (fail_if_success (guard_hyp hb : true = true)); (fail_if_success (guard_hyp hb : false = true)); all_goals (have hp := hb; (try simp only [decide_eq_true_eq, Bool.eq_false_iff, ne_eq, Bool.not_eq_true', Bool.not_eq_false', Bool.and_eq_true, Bool.or_eq_true, decide_true, decide_false, Bool.and_true, Bool.true_and, Bool.false_eq_true, not_false_eq_true, true_and, and_true] at hp); (try rw [hb]); (try clear hb))) | refine pd_pcall (im_awake) ?_ | refine pd_pcall_g (im_awake) ?_ | refine pd_pcall (hlx) ?_ | refine pd_pcall_g (hlx) ?_ | refine pd_pcall (hly) ?_ | refine pd_pcall_g (hly) ?_ | skip) | refine kct ?_ | refine kcf ?_ | (refine kcs (fun hb => ?_) (fun hb => ?_) <;> (have hp := hb; (try simp only [decide_eq_true_eq, Bool.eq_false_iff, ne_eq, Bool.not_eq_true', Bool.not_eq_false', Bool.and_eq_true, Bool.or_eq_true, decide_true, decide_false, Bool.and_true, Bool.true_and, Bool.false_eq_true, not_false_eq_true, true_and, and_true] at hp); (try rw [hb]); (try clear hb))) | (refine kret ?_; repeat (first | with_reducible refine beh_r ?_ | with_reducible refine blk_r ?_)) | refine kb ?_ | (refine ps_split (fun hb => ?_) (fun hb => ?_); (fail_if_success (guard_hyp hb : true = true)); (fail_if_success (guard_hyp hb : false = true)); all_goals (have hp := hb; (try simp only [decide_eq_true_eq, Bool.eq_false_iff, ne_eq, Bool.not_eq_true', Bool.not_eq_false', Bool.and_eq_true, Bool.or_eq_true, decide_true, decide_false, Bool.and_true, Bool.true_and, Bool.false_eq_true, not_false_eq_true, true_and, and_true] at hp); (try rw [hb]); (try clear hb))) | refine ps_pcall (im_awake) ?_ | refine ps_pcall_g (im_awake) ?_ | refine ps_pcall (hlx) ?_ | refine ps_pcall_g (hlx) ?_ | refine ps_pcall (hly) ?_ | refine ps_pcall_g (hly) ?_ | refine ps_alloc fun g => ?_ | refine ps_box fun g => ?_ | refine ps_store ?_ | refine ps_lit fun g => ?_ | refine pops_nil ?_ | (refine pd_split (fun hb => ?_) (fun hb => ?_); (fail_if_success (guard_hyp hb : true = true)); (fail_if_success (guard_hyp hb : false = true)); all_goals (have hp := hb; (try simp only [decide_eq_true_eq, Bool.eq_false_iff, ne_eq, Bool.not_eq_true', Bool.not_eq_false', Bool.and_eq_true, Bool.or_eq_true, decide_true, decide_false, Bool.and_true, Bool.true_and, Bool.false_eq_true, not_false_eq_true, true_and, and_true] at hp); (try rw [hb]); (try clear hb))) | refine pd_pcall (im_awake) ?_ | refine pd_pcall_g (im_awake) ?_ | refine pd_pcall (hlx) ?_ | refine pd_pcall_g (hlx) ?_ | refine pd_pcall (hly) ?_ | refine pd_pcall_g (hly) ?_ | (refine pops_go ?_ ?_ ?_; first | refine pops_end ?_ | (refine ps_split (fun hb => ?_) (fun hb => ?_); (fail_if_success (guard_hyp hb : true = true)); (fail_if_success (guard_hyp hb : false = true)); all_goals (have hp := hb; (try simp only [decide_eq_true_eq, Bool.eq_false_iff, ne_eq, Bool.not_eq_true', Bool.not_eq_false', Bool.and_eq_true, Bool.or_eq_true, decide_true, decide_false, Bool.and_true, Bool.true_and, Bool.false_eq_true, not_false_eq_true, true_and, and_true] at hp); (try rw [hb]); (try clear hb))) | refine ps_pcall (im_awake) ?_ | refine ps_pcall_g (im_awake) ?_ | refine ps_pcall (hlx) ?_ | refine ps_pcall_g (hlx) ?_ | refine ps_pcall (hly) ?_ | refine ps_pcall_g (hly) ?_ | refine ps_alloc fun g => ?_ | refine ps_box fun g => ?_ | refine ps_store ?_ | refine ps_lit fun g => ?_ | refine pops_nil ?_) | (refine pstl_go ?_ ?_ ?_; first | refine pstl_end ?_ | (refine pd_split (fun hb => ?_) (fun hb => ?_); (fail_if_success (guard_hyp hb : true = true)); (fail_if_success (guard_hyp hb : false = true)); all_goals (have hp := hb; (try simp only [decide_eq_true_eq, Bool.eq_false_iff, ne_eq, Bool.not_eq_true', Bool.not_eq_false', Bool.and_eq_true, Bool.or_eq_true, decide_true, decide_false, Bool.and_true, Bool.true_and, Bool.false_eq_true, not_false_eq_true, true_and, and_true] at hp); (try rw [hb]); (try clear hb))) | refine pd_pcall (im_awake) ?_ | refine pd_pcall_g (im_awake) ?_ | refine pd_pcall (hlx) ?_ | refine pd_pcall_g (hlx) ?_ | refine pd_pcall (hly) ?_ | refine pd_pcall_g (hly) ?_) | (refine kn ?_; repeat (first | with_reducible refine blk_n ?_ | with_reducible refine beh_n ?_)) | (refine kx ?_; (repeat (first | with_reducible refine beh_x ?_ | with_reducible refine blk_up rfl ?_)); refine blk_here ?_; refine beh_n ?_)))
      all_goals (refine ends_ret ?_ retPV_one; first | rfl | (exfalso; omega))
  have sx : x.stub.length ≤ 5000 ∧ x.pay.length ≤ 3000 ∧ x.dir.length ≤ 3000 := by
    unfold largeF at gx
    rw [decide_eq_false_iff_not] at gx
    omega
  have sy : y.stub.length ≤ 5000 ∧ y.pay.length ≤ 3000 ∧ y.dir.length ≤ 3000 := by
    unfold largeF at gy
    rw [decide_eq_false_iff_not] at gy
    omega
  have c1 := bytes_ok p x hx (by omega) (by omega) (by omega) (by omega)
  have c2 := rbytes_ok p x hx (by omega) (by omega) (by omega) (by omega)
  have c3 := read_ok b hb (by omega)
  have c4 := rread_ok b hb (by omega)
  have c5 := sameb_ok (bytesF p x).1 (bytesF p x).1 (bytesF_len p x) (bytesF_len p x)
  rw [decide_eq_true rfl] at c5
  obtain ⟨u1, u2, u3, u4⟩ := readF_fine hb
  have c6 := rsame_ok (readF b).1 (readF b).1 u1 u1 u2 u3 u4 u2 u3 u4
  rw [sameF_self] at c6
  have c7 := iright_ok x (by omega) (by omega)
  have c8 := iright17_ok x (by omega) (by omega)
  have c9 := isame_ok x y hx hy (by omega) (by omega) (by omega) (by omega) (by omega) (by omega)
  have c10 := rsame_ok x y hx hy (by omega) (by omega) (by omega) (by omega) (by omega) (by omega)
  unfold readP at c3 c4
  generalize bytesF p x = B at *
  generalize readF b = R at *
  generalize sameF x y = W at *
  generalize x.right = V at *
  obtain ⟨B1, B2⟩ := B
  obtain ⟨u, w, e⟩ := R
  simp only at c1 c2 c3 c4 c5 c6
  clear u1 u2 u3 u4 hx hy xs1 xs2 xs3 ys1 ys2 ys3 sx sy gx gy
  obtain ⟨⟨bcj, del, lz, rng, cry⟩, count, mid, raw, sum, n0, n1, stub, pay, dir⟩ := x
  obtain ⟨⟨bcj', del', lz', rng', cry'⟩, count', mid', raw', sum', n0', n1', stub', pay', dir'⟩ := y
  obtain ⟨⟨bcj2, del2, lz2, rng2, cry2⟩, count2, mid2, raw2, sum2, m0, m1, stub2, pay2, dir2⟩ := u
  obtain ⟨w0, w1, w2, w3, w4⟩ := w
  unfold Img.cells at *
  unfold Wh.cells at *
  simp only [List.cons_append, List.nil_append] at *
  refine pcall_mk Try.func3 rfl [.tmp 6] Try.results3 126 rfl (tk_start ?_)
  (repeat refine ka ?_); refine kr ?_ ?_ ?_
  refine ps_box (fun gx => ?_)
  refine pops_go ?_ ?_ (pops_end ?_)
  (repeat refine ka ?_); refine kr ?_ ?_ ?_
  refine ps_pcall im_awake ?_
  refine pops_go ?_ ?_ (pops_end ?_)
  (repeat refine ka ?_); refine kr ?_ ?_ ?_
  simp only [show 0 + Int.toNat 0 * 14 = 0 from rfl, List.drop_zero, List.take_succ_cons, List.take_zero]
  refine ps_alloc fun g8 => ?_
  refine pops_go ?_ ?_ ?_
  refine ps_st_row ?_
  refine pops_nil ?_
  (repeat refine ka ?_); refine kr ?_ ?_ ?_
  simp only [show 0 + Int.toNat 1 * 14 = 14 from rfl, List.drop_succ_cons, List.drop_zero, List.take_succ_cons, List.take_zero]
  refine ps_alloc fun g9 => ?_
  refine pops_go ?_ ?_ ?_
  refine ps_st_row ?_
  refine pops_nil ?_
  (repeat refine ka ?_)
  refine kcut (fun _ : Unit => [(1, PV.ro 1 false (ints .u8 p)), (2, .ro 1 false (ints .u8 b)), (3, .ptr 0 gx 0 0), (7, .v (.bool true)), (8, .ptr 1 g8 0 0), (9, .ptr 2 g9 0 0), (52, .v (.bool false))]) (fun _ => [⟨gx, true, 28, [[.v (.bool bcj), .v (.int .i64 del), .v (.bool lz), .v (.bool rng), .v (.bool cry), .v (.int .i64 count), .v (.int .i64 mid), .v (.int .i64 raw), .v (.int .u32 sum), .v (.int .u32 n0), .v (.int .u32 n1), .ro 1 false (ints .u8 stub), .ro 1 false (ints .u8 pay), .ro 1 false (ints .u8 dir)] ++ [.v (.bool bcj'), .v (.int .i64 del'), .v (.bool lz'), .v (.bool rng'), .v (.bool cry'), .v (.int .i64 count'), .v (.int .i64 mid'), .v (.int .i64 raw'), .v (.int .u32 sum'), .v (.int .u32 n0'), .v (.int .u32 n1'), .ro 1 false (ints .u8 stub'), .ro 1 false (ints .u8 pay'), .ro 1 false (ints .u8 dir')]]⟩, ⟨g8, true, 14, [[.v (.bool bcj), .v (.int .i64 del), .v (.bool lz), .v (.bool rng), .v (.bool cry), .v (.int .i64 count), .v (.int .i64 mid), .v (.int .i64 raw), .v (.int .u32 sum), .v (.int .u32 n0), .v (.int .u32 n1), .ro 1 false (ints .u8 stub), .ro 1 false (ints .u8 pay), .ro 1 false (ints .u8 dir)]]⟩, ⟨g9, true, 14, [[.v (.bool bcj'), .v (.int .i64 del'), .v (.bool lz'), .v (.bool rng'), .v (.bool cry'), .v (.int .i64 count'), .v (.int .i64 mid'), .v (.int .i64 raw'), .v (.int .u32 sum'), .v (.int .u32 n0'), .v (.int .u32 n1'), .ro 1 false (ints .u8 stub'), .ro 1 false (ints .u8 pay'), .ro 1 false (ints .u8 dir')]]⟩]) (fun _ => True) ?_ ?_ (by simp)
  · simp only [List.cons_append, List.nil_append]
    by_cases gp1 : (2000 : Int) < p.length
    · have gp2 : ¬ (p.length : Int) ≤ 1000000 := fun h => gp ⟨gp1, h⟩
      by_cases gb1 : (80000 : Int) < b.length
      · have gb2 : ¬ (b.length : Int) ≤ 1048576 := fun h => gb ⟨gb1, h⟩
        clear gp gb
        (repeat refine ka ?_); refine kr ?_ ?_ ?_
        refine ps_pcall hlx ?_
        refine pops_go ?_ ?_ ?_
        refine ps_pcall_g hly ?_
        refine pops_go ?_ ?_ (pops_end ?_)
        refine kn ?_; repeat (first | with_reducible refine blk_n ?_ | with_reducible refine beh_n ?_)
        exact ⟨(), trivial, (holds 3 (by repeat (first | exact .nil | refine has1 ?_)))⟩
      · clear gp gb
        (repeat refine ka ?_); refine kr ?_ ?_ ?_
        refine ps_pcall hlx ?_
        refine pops_go ?_ ?_ ?_
        refine ps_pcall_g hly ?_
        refine pops_go ?_ ?_ (pops_end ?_)
        refine kn ?_; repeat (first | with_reducible refine blk_n ?_ | with_reducible refine beh_n ?_)
        exact ⟨(), trivial, (holds 3 (by repeat (first | exact .nil | refine has1 ?_)))⟩
    · by_cases gb1 : (80000 : Int) < b.length
      · have gb2 : ¬ (b.length : Int) ≤ 1048576 := fun h => gb ⟨gb1, h⟩
        clear gp gb
        (repeat refine ka ?_); refine kr ?_ ?_ ?_
        refine ps_pcall hlx ?_
        refine pops_go ?_ ?_ ?_
        refine ps_pcall_g hly ?_
        refine pops_go ?_ ?_ (pops_end ?_)
        refine kn ?_; repeat (first | with_reducible refine blk_n ?_ | with_reducible refine beh_n ?_)
        exact ⟨(), trivial, (holds 3 (by repeat (first | exact .nil | refine has1 ?_)))⟩
      · clear gp gb
        (repeat refine ka ?_); refine kr ?_ ?_ ?_
        refine ps_pcall hlx ?_
        refine pops_go ?_ ?_ ?_
        refine ps_pcall_g hly ?_
        refine pops_go ?_ ?_ (pops_end ?_)
        refine kn ?_; repeat (first | with_reducible refine blk_n ?_ | with_reducible refine beh_n ?_)
        exact ⟨(), trivial, (holds 3 (by repeat (first | exact .nil | refine has1 ?_)))⟩
  intro _ _
  clear gp gb hlx hly hpl hbl
  simp only [List.cons_append, List.nil_append]
  (repeat refine ka ?_); refine kcf ?_
  (repeat refine ka ?_); refine ksk ?_
  (repeat' (first | refine ka ?_ | refine ksk ?_ | (refine kr ?_ ?_ ?_; first | refine pops_end ?_ | (refine ps_split (fun hb => ?_) (fun hb => ?_); (fail_if_success (guard_hyp hb : true = true)); (fail_if_success (guard_hyp hb : false = true)); all_goals (have hp := hb; (try simp only [decide_eq_true_eq, Bool.eq_false_iff, ne_eq, Bool.not_eq_true', Bool.not_eq_false', Bool.and_eq_true, Bool.or_eq_true, decide_true, decide_false, Bool.and_true, Bool.true_and, Bool.false_eq_true, not_false_eq_true, true_and, and_true] at hp); (try rw [hb]); (try clear hb))) | refine ps_pcall (c1) ?_ | refine ps_pcall_g (c1) ?_ | refine ps_pcall (c2) ?_ | refine ps_pcall_g (c2) ?_ | refine ps_pcall (c3) ?_ | refine ps_pcall_g (c3) ?_ | refine ps_pcall (c4) ?_ | refine ps_pcall_g (c4) ?_ | refine ps_pcall (c5) ?_ | refine ps_pcall_g (c5) ?_ | refine ps_pcall (c6) ?_ | refine ps_pcall_g (c6) ?_ | refine ps_pcall (c7) ?_ | refine ps_pcall_g (c7) ?_ | refine ps_pcall (c8) ?_ | refine ps_pcall_g (c8) ?_ | refine ps_pcall (c9) ?_ | refine ps_pcall_g (c9) ?_ | refine ps_pcall (c10) ?_ | refine ps_pcall_g (c10) ?_ | refine ps_alloc fun g => ?_ | refine ps_box fun g => ?_ | refine ps_store ?_ | refine ps_lit fun g => ?_ | refine pops_nil ?_ | skip) | (refine kd ?_ ?_ ?_; first | refine pstl_end ?_ | (refine pd_split (fun hb => ?_) (fun hb => ?_); (fail_if_success (guard_hyp hb : true = true)); (fail_if_success (guard_hyp hb : false = true)); all_goals (have hp := hb; (try simp only [decide_eq_true_eq, Bool.eq_false_iff, ne_eq, Bool.not_eq_true', Bool.not_eq_false', Bool.and_eq_true, Bool.or_eq_true, decide_true, decide_false, Bool.and_true, Bool.true_and, Bool.false_eq_true, not_false_eq_true, true_and, and_true] at hp); (try rw [hb]); (try clear hb))) | refine pd_pcall (c1) ?_ | refine pd_pcall_g (c1) ?_ | refine pd_pcall (c2) ?_ | refine pd_pcall_g (c2) ?_ | refine pd_pcall (c3) ?_ | refine pd_pcall_g (c3) ?_ | refine pd_pcall (c4) ?_ | refine pd_pcall_g (c4) ?_ | refine pd_pcall (c5) ?_ | refine pd_pcall_g (c5) ?_ | refine pd_pcall (c6) ?_ | refine pd_pcall_g (c6) ?_ | refine pd_pcall (c7) ?_ | refine pd_pcall_g (c7) ?_ | refine pd_pcall (c8) ?_ | refine pd_pcall_g (c8) ?_ | refine pd_pcall (c9) ?_ | refine pd_pcall_g (c9) ?_ | refine pd_pcall (c10) ?_ | refine pd_pcall_g (c10) ?_ | skip) | refine kct ?_ | refine kcf ?_ | (refine kcs (fun hb => ?_) (fun hb => ?_) <;> (have hp := hb; (try simp only [decide_eq_true_eq, Bool.eq_false_iff, ne_eq, Bool.not_eq_true', Bool.not_eq_false', Bool.and_eq_true, Bool.or_eq_true, decide_true, decide_false, Bool.and_true, Bool.true_and, Bool.false_eq_true, not_false_eq_true, true_and, and_true] at hp); (try rw [hb]); (try clear hb))) | (refine kret ?_; repeat (first | with_reducible refine beh_r ?_ | with_reducible refine blk_r ?_)) | refine kb ?_ | (refine ps_split (fun hb => ?_) (fun hb => ?_); (fail_if_success (guard_hyp hb : true = true)); (fail_if_success (guard_hyp hb : false = true)); all_goals (have hp := hb; (try simp only [decide_eq_true_eq, Bool.eq_false_iff, ne_eq, Bool.not_eq_true', Bool.not_eq_false', Bool.and_eq_true, Bool.or_eq_true, decide_true, decide_false, Bool.and_true, Bool.true_and, Bool.false_eq_true, not_false_eq_true, true_and, and_true] at hp); (try rw [hb]); (try clear hb))) | refine ps_pcall (c1) ?_ | refine ps_pcall_g (c1) ?_ | refine ps_pcall (c2) ?_ | refine ps_pcall_g (c2) ?_ | refine ps_pcall (c3) ?_ | refine ps_pcall_g (c3) ?_ | refine ps_pcall (c4) ?_ | refine ps_pcall_g (c4) ?_ | refine ps_pcall (c5) ?_ | refine ps_pcall_g (c5) ?_ | refine ps_pcall (c6) ?_ | refine ps_pcall_g (c6) ?_ | refine ps_pcall (c7) ?_ | refine ps_pcall_g (c7) ?_ | refine ps_pcall (c8) ?_ | refine ps_pcall_g (c8) ?_ | refine ps_pcall (c9) ?_ | refine ps_pcall_g (c9) ?_ | refine ps_pcall (c10) ?_ | refine ps_pcall_g (c10) ?_ | refine ps_alloc fun g => ?_ | refine ps_box fun g => ?_ | refine ps_store ?_ | refine ps_lit fun g => ?_ | refine pops_nil ?_ | (refine pd_split (fun hb => ?_) (fun hb => ?_); (fail_if_success (guard_hyp hb : true = true)); (fail_if_success (guard_hyp hb : false = true)); all_goals (have hp := hb; (try simp only [decide_eq_true_eq, Bool.eq_false_iff, ne_eq, Bool.not_eq_true', Bool.not_eq_false', Bool.and_eq_true, Bool.or_eq_true, decide_true, decide_false, Bool.and_true, Bool.true_and, Bool.false_eq_true, not_false_eq_true, true_and, and_true] at hp); (try rw [hb]); (try clear hb))) | refine pd_pcall (c1) ?_ | refine pd_pcall_g (c1) ?_ | refine pd_pcall (c2) ?_ | refine pd_pcall_g (c2) ?_ | refine pd_pcall (c3) ?_ | refine pd_pcall_g (c3) ?_ | refine pd_pcall (c4) ?_ | refine pd_pcall_g (c4) ?_ | refine pd_pcall (c5) ?_ | refine pd_pcall_g (c5) ?_ | refine pd_pcall (c6) ?_ | refine pd_pcall_g (c6) ?_ | refine pd_pcall (c7) ?_ | refine pd_pcall_g (c7) ?_ | refine pd_pcall (c8) ?_ | refine pd_pcall_g (c8) ?_ | refine pd_pcall (c9) ?_ | refine pd_pcall_g (c9) ?_ | refine pd_pcall (c10) ?_ | refine pd_pcall_g (c10) ?_ | (refine pops_go ?_ ?_ ?_; first | refine pops_end ?_ | (refine ps_split (fun hb => ?_) (fun hb => ?_); (fail_if_success (guard_hyp hb : true = true)); (fail_if_success (guard_hyp hb : false = true)); all_goals (have hp := hb; (try simp only [decide_eq_true_eq, Bool.eq_false_iff, ne_eq, Bool.not_eq_true', Bool.not_eq_false', Bool.and_eq_true, Bool.or_eq_true, decide_true, decide_false, Bool.and_true, Bool.true_and, Bool.false_eq_true, not_false_eq_true, true_and, and_true] at hp); (try rw [hb]); (try clear hb))) | refine ps_pcall (c1) ?_ | refine ps_pcall_g (c1) ?_ | refine ps_pcall (c2) ?_ | refine ps_pcall_g (c2) ?_ | refine ps_pcall (c3) ?_ | refine ps_pcall_g (c3) ?_ | refine ps_pcall (c4) ?_ | refine ps_pcall_g (c4) ?_ | refine ps_pcall (c5) ?_ | refine ps_pcall_g (c5) ?_ | refine ps_pcall (c6) ?_ | refine ps_pcall_g (c6) ?_ | refine ps_pcall (c7) ?_ | refine ps_pcall_g (c7) ?_ | refine ps_pcall (c8) ?_ | refine ps_pcall_g (c8) ?_ | refine ps_pcall (c9) ?_ | refine ps_pcall_g (c9) ?_ | refine ps_pcall (c10) ?_ | refine ps_pcall_g (c10) ?_ | refine ps_alloc fun g => ?_ | refine ps_box fun g => ?_ | refine ps_store ?_ | refine ps_lit fun g => ?_ | refine pops_nil ?_) | (refine pstl_go ?_ ?_ ?_; first | refine pstl_end ?_ | (refine pd_split (fun hb => ?_) (fun hb => ?_); (fail_if_success (guard_hyp hb : true = true)); (fail_if_success (guard_hyp hb : false = true)); all_goals (have hp := hb; (try simp only [decide_eq_true_eq, Bool.eq_false_iff, ne_eq, Bool.not_eq_true', Bool.not_eq_false', Bool.and_eq_true, Bool.or_eq_true, decide_true, decide_false, Bool.and_true, Bool.true_and, Bool.false_eq_true, not_false_eq_true, true_and, and_true] at hp); (try rw [hb]); (try clear hb))) | refine pd_pcall (c1) ?_ | refine pd_pcall_g (c1) ?_ | refine pd_pcall (c2) ?_ | refine pd_pcall_g (c2) ?_ | refine pd_pcall (c3) ?_ | refine pd_pcall_g (c3) ?_ | refine pd_pcall (c4) ?_ | refine pd_pcall_g (c4) ?_ | refine pd_pcall (c5) ?_ | refine pd_pcall_g (c5) ?_ | refine pd_pcall (c6) ?_ | refine pd_pcall_g (c6) ?_ | refine pd_pcall (c7) ?_ | refine pd_pcall_g (c7) ?_ | refine pd_pcall (c8) ?_ | refine pd_pcall_g (c8) ?_ | refine pd_pcall (c9) ?_ | refine pd_pcall_g (c9) ?_ | refine pd_pcall (c10) ?_ | refine pd_pcall_g (c10) ?_) | (refine kn ?_; repeat (first | with_reducible refine blk_n ?_ | with_reducible refine beh_n ?_)) | (refine kx ?_; (repeat (first | with_reducible refine beh_x ?_ | with_reducible refine blk_up rfl ?_)); refine blk_here ?_; refine beh_n ?_)))
  all_goals (refine ends_ret ?_ retPV_one; first | rfl | (exfalso; omega))
end Go.Proofs.Ytfjodfeoncoaoaa.Pv
