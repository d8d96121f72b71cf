-- carapacelaw17.ImageBack.
import Derived.Test.YtfjodfeoncoaoaaImZa
namespace Go.Proofs.Ytfjodfeoncoaoaa.Pv
set_option linter.all false
open Go.RowKit Go.Proofs
set_option maxRecDepth 100000
set_option maxHeartbeats 4000000
theorem back17 {x0 x1 x2 : PV} (h0 : ∃ xs, x0 = .agg xs ∧ SImg xs) (h1 : SSl 1 1 (SInt .u8) [x1]) (h2 : SSl 1 1 (SInt .u8) [x2]) : PCall Try.prog 4 [x0, x1, x2] (.v (.bool true)) := by
  obtain ⟨xs, rfl, hxs⟩ := h0
  obtain ⟨p, e1, hp, hpl⟩ := ssl_one h1
  obtain ⟨h, e2, hh, hhl⟩ := ssl_one h2
  cases e1
  cases e2
  obtain ⟨x, rfl, hx, xs1, xs2, xs3⟩ := img_of hxs
  clear hxs h1 h2
  have hlx := large_ok x
  by_cases gx : largeF x = true
  · rw [gx] at hlx
    obtain ⟨⟨bcj, del, lz, rng, cry⟩, count, mid, raw, sum, n0, n1, stub, pay, dir⟩ := x
    unfold Img.cells at *
    simp only at hlx ⊢
    refine pcall_mk Try.func4 rfl [.tmp 6] Try.results4 155 rfl (tk_start ?_)
    (repeat' (first | refine ka ?_ | refine ksk ?_ | (refine kr ?_ ?_ ?_; first | refine pops_end ?_ | (refine ps_split (fun hb => ?_) (fun hb => ?_); (fail_if_success (guard_hyp hb : true = true)); (fail_if_success (guard_hyp hb : false = true)); all_goals (have hp := hb; (try simp only [decide_eq_true_eq, Bool.eq_false_iff, ne_eq, Bool.not_eq_true', Bool.not_eq_false', Bool.and_eq_true, Bool.or_eq_true, decide_true, decide_false, Bool.and_true, Bool.true_and, Bool.false_eq_true, not_false_eq_true, true_and, and_true] at hp); (try rw [hb]); (try clear hb))) | refine ps_pcall (im_awake) ?_ | refine ps_pcall_g (im_awake) ?_ | refine ps_pcall (hlx) ?_ | refine ps_pcall_g (hlx) ?_ | refine ps_alloc fun g => ?_ | refine ps_box fun g => ?_ | refine ps_store ?_ | refine ps_lit fun g => ?_ | refine pops_nil ?_ | skip) | (refine kd ?_ ?_ ?_; first | refine pstl_end ?_ | (refine pd_split (fun hb => ?_) (fun hb => ?_); (fail_if_success (guard_hyp hb : true = true)); (fail_if_success (guard_hyp hb : false = true)); all_goals (have hp := hb; (try simp only [decide_eq_true_eq, Bool.eq_false_iff, ne_eq, Bool.not_eq_true', Bool.not_eq_false', Bool.and_eq_true, Bool.or_eq_true, decide_true, decide_false, Bool.and_true, Bool.true_and, Bool.false_eq_true, not_false_eq_true, true_and, and_true] at hp); (try rw [hb]); (try clear hb))) | refine pd_pcall (im_awake) ?_ | refine pd_pcall_g (im_awake) ?_ | refine pd_pcall (hlx) ?_ | refine pd_pcall_g (hlx) ?_ | skip) | refine kct ?_ | refine kcf ?_ | (refine kcs (fun hb => ?_) (fun hb => ?_) <;> (have hp := hb; (try simp only [decide_eq_true_eq, Bool.eq_false_iff, ne_eq, Bool.not_eq_true', Bool.not_eq_false', Bool.and_eq_true, Bool.or_eq_true, decide_true, decide_false, Bool.and_true, Bool.true_and, Bool.false_eq_true, not_false_eq_true, true_and, and_true] at hp); (try rw [hb]); (try clear hb))) | (refine kret ?_; repeat (first | with_reducible refine beh_r ?_ | with_reducible refine blk_r ?_)) | refine kb ?_ | (refine ps_split (fun hb => ?_) (fun hb => ?_); (fail_if_success (guard_hyp hb : true = true)); (fail_if_success (guard_hyp hb : false = true)); all_goals (have hp := hb; (try simp only [decide_eq_true_eq, Bool.eq_false_iff, ne_eq, Bool.not_eq_true', Bool.not_eq_false', Bool.and_eq_true, Bool.or_eq_true, decide_true, decide_false, Bool.and_true, Bool.true_and, Bool.false_eq_true, not_false_eq_true, true_and, and_true] at hp); (try rw [hb]); (try clear hb))) | refine ps_pcall (im_awake) ?_ | refine ps_pcall_g (im_awake) ?_ | refine ps_pcall (hlx) ?_ | refine ps_pcall_g (hlx) ?_ | refine ps_alloc fun g => ?_ | refine ps_box fun g => ?_ | refine ps_store ?_ | refine ps_lit fun g => ?_ | refine pops_nil ?_ | (refine pd_split (fun hb => ?_) (fun hb => ?_); (fail_if_success (guard_hyp hb : true = true)); (fail_if_success (guard_hyp hb : false = true)); all_goals (have hp := hb; (try simp only [decide_eq_true_eq, Bool.eq_false_iff, ne_eq, Bool.not_eq_true', Bool.not_eq_false', Bool.and_eq_true, Bool.or_eq_true, decide_true, decide_false, Bool.and_true, Bool.true_and, Bool.false_eq_true, not_false_eq_true, true_and, and_true] at hp); (try rw [hb]); (try clear hb))) | refine pd_pcall (im_awake) ?_ | refine pd_pcall_g (im_awake) ?_ | refine pd_pcall (hlx) ?_ | refine pd_pcall_g (hlx) ?_ | (refine pops_go ?_ ?_ ?_; first | refine pops_end ?_ | (refine ps_split (fun hb => ?_) (fun hb => ?_); (fail_if_success (guard_hyp hb : true = true)); (fail_if_success (guard_hyp hb : false = true)); all_goals (have hp := hb; (try simp only [decide_eq_true_eq, Bool.eq_false_iff, ne_eq, Bool.not_eq_true', Bool.not_eq_false', Bool.and_eq_true, Bool.or_eq_true, decide_true, decide_false, Bool.and_true, Bool.true_and, Bool.false_eq_true, not_false_eq_true, true_and, and_true] at hp); (try rw [hb]); (try clear hb))) | refine ps_pcall (im_awake) ?_ | refine ps_pcall_g (im_awake) ?_ | refine ps_pcall (hlx) ?_ | refine ps_pcall_g (hlx) ?_ | refine ps_alloc fun g => ?_ | refine ps_box fun g => ?_ | refine ps_store ?_ | refine ps_lit fun g => ?_ | refine pops_nil ?_) | (refine pstl_go ?_ ?_ ?_; first | refine pstl_end ?_ | (refine pd_split (fun hb => ?_) (fun hb => ?_); (fail_if_success (guard_hyp hb : true = true)); (fail_if_success (guard_hyp hb : false = true)); all_goals (have hp := hb; (try simp only [decide_eq_true_eq, Bool.eq_false_iff, ne_eq, Bool.not_eq_true', Bool.not_eq_false', Bool.and_eq_true, Bool.or_eq_true, decide_true, decide_false, Bool.and_true, Bool.true_and, Bool.false_eq_true, not_false_eq_true, true_and, and_true] at hp); (try rw [hb]); (try clear hb))) | refine pd_pcall (im_awake) ?_ | refine pd_pcall_g (im_awake) ?_ | refine pd_pcall (hlx) ?_ | refine pd_pcall_g (hlx) ?_) | (refine kn ?_; repeat (first | with_reducible refine blk_n ?_ | with_reducible refine beh_n ?_)) | (refine kx ?_; (repeat (first | with_reducible refine beh_x ?_ | with_reducible refine blk_up rfl ?_)); refine blk_here ?_; refine beh_n ?_)))
    all_goals (refine ends_ret ?_ retPV_one; rfl)
  rw [Bool.not_eq_true] at gx
  rw [gx] at hlx
  by_cases gp : (2000 : Int) < p.length
  · obtain ⟨⟨bcj, del, lz, rng, cry⟩, count, mid, raw, sum, n0, n1, stub, pay, dir⟩ := x
    unfold Img.cells at *
    simp only at hlx ⊢
    refine pcall_mk Try.func4 rfl [.tmp 6] Try.results4 155 rfl (tk_start ?_)
    (repeat' (first | refine ka ?_ | refine ksk ?_ | (refine kr ?_ ?_ ?_; first | refine pops_end ?_ | (refine ps_split (fun hb => ?_) (fun hb => ?_); (fail_if_success (guard_hyp hb : true = true)); (fail_if_success (guard_hyp hb : false = true)); all_goals (have hp := hb; (try simp only [decide_eq_true_eq, Bool.eq_false_iff, ne_eq, Bool.not_eq_true', Bool.not_eq_false', Bool.and_eq_true, Bool.or_eq_true, decide_true, decide_false, Bool.and_true, Bool.true_and, Bool.false_eq_true, not_false_eq_true, true_and, and_true] at hp); (try rw [hb]); (try clear hb))) | refine ps_pcall (im_awake) ?_ | refine ps_pcall_g (im_awake) ?_ | refine ps_pcall (hlx) ?_ | refine ps_pcall_g (hlx) ?_ | refine ps_alloc fun g => ?_ | refine ps_box fun g => ?_ | refine ps_store ?_ | refine ps_lit fun g => ?_ | refine pops_nil ?_ | skip) | (refine kd ?_ ?_ ?_; first | refine pstl_end ?_ | (refine pd_split (fun hb => ?_) (fun hb => ?_); (fail_if_success (guard_hyp hb : true = true)); (fail_if_success (guard_hyp hb : false = true)); all_goals (have hp := hb; (try simp only [decide_eq_true_eq, Bool.eq_false_iff, ne_eq, Bool.not_eq_true', Bool.not_eq_false', Bool.and_eq_true, Bool.or_eq_true, decide_true, decide_false, Bool.and_true, Bool.true_and, Bool.false_eq_true, not_false_eq_true, true_and, and_true] at hp); (try rw [hb]); (try clear hb))) | refine pd_pcall (im_awake) ?_ | refine pd_pcall_g (im_awake) ?_ | refine pd_pcall (hlx) ?_ | refine pd_pcall_g (hlx) ?_ | skip) | refine kct ?_ | refine kcf ?_ | (refine kcs (fun hb => ?_) (fun hb => ?_) <;> (have hp := hb; (try simp only [decide_eq_true_eq, Bool.eq_false_iff, ne_eq, Bool.not_eq_true', Bool.not_eq_false', Bool.and_eq_true, Bool.or_eq_true, decide_true, decide_false, Bool.and_true, Bool.true_and, Bool.false_eq_true, not_false_eq_true, true_and, and_true] at hp); (try rw [hb]); (try clear hb))) | (refine kret ?_; repeat (first | with_reducible refine beh_r ?_ | with_reducible refine blk_r ?_)) | refine kb ?_ | (refine ps_split (fun hb => ?_) (fun hb => ?_); (fail_if_success (guard_hyp hb : true = true)); (fail_if_success (guard_hyp hb : false = true)); all_goals (have hp := hb; (try simp only [decide_eq_true_eq, Bool.eq_false_iff, ne_eq, Bool.not_eq_true', Bool.not_eq_false', Bool.and_eq_true, Bool.or_eq_true, decide_true, decide_false, Bool.and_true, Bool.true_and, Bool.false_eq_true, not_false_eq_true, true_and, and_true] at hp); (try rw [hb]); (try clear hb))) | refine ps_pcall (im_awake) ?_ | refine ps_pcall_g (im_awake) ?_ | refine ps_pcall (hlx) ?_ | refine ps_pcall_g (hlx) ?_ | refine ps_alloc fun g => ?_ | refine ps_box fun g => ?_ | refine ps_store ?_ | refine ps_lit fun g => ?_ | refine pops_nil ?_ | (refine pd_split (fun hb => ?_) (fun hb => ?_); (fail_if_success (guard_hyp hb : true = true)); (fail_if_success (guard_hyp hb : false = true)); all_goals (have hp := hb; (try simp only [decide_eq_true_eq, Bool.eq_false_iff, ne_eq, Bool.not_eq_true', Bool.not_eq_false', Bool.and_eq_true, Bool.or_eq_true, decide_true, decide_false, Bool.and_true, Bool.true_and, Bool.false_eq_true, not_false_eq_true, true_and, and_true] at hp); (try rw [hb]); (try clear hb))) | refine pd_pcall (im_awake) ?_ | refine pd_pcall_g (im_awake) ?_ | refine pd_pcall (hlx) ?_ | refine pd_pcall_g (hlx) ?_ | (refine pops_go ?_ ?_ ?_; first | refine pops_end ?_ | (refine ps_split (fun hb => ?_) (fun hb => ?_); (fail_if_success (guard_hyp hb : true = true)); (fail_if_success (guard_hyp hb : false = true)); all_goals (have hp := hb; (try simp only [decide_eq_true_eq, Bool.eq_false_iff, ne_eq, Bool.not_eq_true', Bool.not_eq_false', Bool.and_eq_true, Bool.or_eq_true, decide_true, decide_false, Bool.and_true, Bool.true_and, Bool.false_eq_true, not_false_eq_true, true_and, and_true] at hp); (try rw [hb]); (try clear hb))) | refine ps_pcall (im_awake) ?_ | refine ps_pcall_g (im_awake) ?_ | refine ps_pcall (hlx) ?_ | refine ps_pcall_g (hlx) ?_ | refine ps_alloc fun g => ?_ | refine ps_box fun g => ?_ | refine ps_store ?_ | refine ps_lit fun g => ?_ | refine pops_nil ?_) | (refine pstl_go ?_ ?_ ?_; first | refine pstl_end ?_ | (refine pd_split (fun hb => ?_) (fun hb => ?_); (fail_if_success (guard_hyp hb : true = true)); (fail_if_success (guard_hyp hb : false = true)); all_goals (have hp := hb; (try simp only [decide_eq_true_eq, Bool.eq_false_iff, ne_eq, Bool.not_eq_true', Bool.not_eq_false', Bool.and_eq_true, Bool.or_eq_true, decide_true, decide_false, Bool.and_true, Bool.true_and, Bool.false_eq_true, not_false_eq_true, true_and, and_true] at hp); (try rw [hb]); (try clear hb))) | refine pd_pcall (im_awake) ?_ | refine pd_pcall_g (im_awake) ?_ | refine pd_pcall (hlx) ?_ | refine pd_pcall_g (hlx) ?_) | (refine kn ?_; repeat (first | with_reducible refine blk_n ?_ | with_reducible refine beh_n ?_)) | (refine kx ?_; (repeat (first | with_reducible refine beh_x ?_ | with_reducible refine blk_up rfl ?_)); refine blk_here ?_; refine beh_n ?_)))
    all_goals (refine ends_ret ?_ retPV_one; first | rfl | (exfalso; omega))
  by_cases gh : (70000 : Int) < h.length
  · obtain ⟨⟨bcj, del, lz, rng, cry⟩, count, mid, raw, sum, n0, n1, stub, pay, dir⟩ := x
    unfold Img.cells at *
    simp only at hlx ⊢
    refine pcall_mk Try.func4 rfl [.tmp 6] Try.results4 155 rfl (tk_start ?_)
    (repeat' (first | refine ka ?_ | refine ksk ?_ | (refine kr ?_ ?_ ?_; first | refine pops_end ?_ | (refine ps_split (fun hb => ?_) (fun hb => ?_); (fail_if_success (guard_hyp hb : true = true)); (fail_if_success (guard_hyp hb : false = true)); all_goals (have hp := hb; (try simp only [decide_eq_true_eq, Bool.eq_false_iff, ne_eq, Bool.not_eq_true', Bool.not_eq_false', Bool.and_eq_true, Bool.or_eq_true, decide_true, decide_false, Bool.and_true, Bool.true_and, Bool.false_eq_true, not_false_eq_true, true_and, and_true] at hp); (try rw [hb]); (try clear hb))) | refine ps_pcall (im_awake) ?_ | refine ps_pcall_g (im_awake) ?_ | refine ps_pcall (hlx) ?_ | refine ps_pcall_g (hlx) ?_ | refine ps_alloc fun g => ?_ | refine ps_box fun g => ?_ | refine ps_store ?_ | refine ps_lit fun g => ?_ | refine pops_nil ?_ | skip) | (refine kd ?_ ?_ ?_; first | refine pstl_end ?_ | (refine pd_split (fun hb => ?_) (fun hb => ?_); (fail_if_success (guard_hyp hb : true = true)); (fail_if_success (guard_hyp hb : false = true)); all_goals (have hp := hb; (try simp only [decide_eq_true_eq, Bool.eq_false_iff, ne_eq, Bool.not_eq_true', Bool.not_eq_false', Bool.and_eq_true, Bool.or_eq_true, decide_true, decide_false, Bool.and_true, Bool.true_and, Bool.false_eq_true, not_false_eq_true, true_and, and_true] at hp); (try rw [hb]); (try clear hb))) | refine pd_pcall (im_awake) ?_ | refine pd_pcall_g (im_awake) ?_ | refine pd_pcall (hlx) ?_ | refine pd_pcall_g (hlx) ?_ | skip) | refine kct ?_ | refine kcf ?_ | (refine kcs (fun hb => ?_) (fun hb => ?_) <;> (have hp := hb; (try simp only [decide_eq_true_eq, Bool.eq_false_iff, ne_eq, Bool.not_eq_true', Bool.not_eq_false', Bool.and_eq_true, Bool.or_eq_true, decide_true, decide_false, Bool.and_true, Bool.true_and, Bool.false_eq_true, not_false_eq_true, true_and, and_true] at hp); (try rw [hb]); (try clear hb))) | (refine kret ?_; repeat (first | with_reducible refine beh_r ?_ | with_reducible refine blk_r ?_)) | refine kb ?_ | (refine ps_split (fun hb => ?_) (fun hb => ?_); (fail_if_success (guard_hyp hb : true = true)); (fail_if_success (guard_hyp hb : false = true)); all_goals (have hp := hb; (try simp only [decide_eq_true_eq, Bool.eq_false_iff, ne_eq, Bool.not_eq_true', Bool.not_eq_false', Bool.and_eq_true, Bool.or_eq_true, decide_true, decide_false, Bool.and_true, Bool.true_and, Bool.false_eq_true, not_false_eq_true, true_and, and_true] at hp); (try rw [hb]); (try clear hb))) | refine ps_pcall (im_awake) ?_ | refine ps_pcall_g (im_awake) ?_ | refine ps_pcall (hlx) ?_ | refine ps_pcall_g (hlx) ?_ | refine ps_alloc fun g => ?_ | refine ps_box fun g => ?_ | refine ps_store ?_ | refine ps_lit fun g => ?_ | refine pops_nil ?_ | (refine pd_split (fun hb => ?_) (fun hb => ?_); (fail_if_success (guard_hyp hb : true = true)); (fail_if_success (guard_hyp hb : false = true)); all_goals (have hp := hb; (try simp only [decide_eq_true_eq, Bool.eq_false_iff, ne_eq, Bool.not_eq_true', Bool.not_eq_false', Bool.and_eq_true, Bool.or_eq_true, decide_true, decide_false, Bool.and_true, Bool.true_and, Bool.false_eq_true, not_false_eq_true, true_and, and_true] at hp); (try rw [hb]); (try clear hb))) | refine pd_pcall (im_awake) ?_ | refine pd_pcall_g (im_awake) ?_ | refine pd_pcall (hlx) ?_ | refine pd_pcall_g (hlx) ?_ | (refine pops_go ?_ ?_ ?_; first | refine pops_end ?_ | (refine ps_split (fun hb => ?_) (fun hb => ?_); (fail_if_success (guard_hyp hb : true = true)); (fail_if_success (guard_hyp hb : false = true)); all_goals (have hp := hb; (try simp only [decide_eq_true_eq, Bool.eq_false_iff, ne_eq, Bool.not_eq_true', Bool.not_eq_false', Bool.and_eq_true, Bool.or_eq_true, decide_true, decide_false, Bool.and_true, Bool.true_and, Bool.false_eq_true, not_false_eq_true, true_and, and_true] at hp); (try rw [hb]); (try clear hb))) | refine ps_pcall (im_awake) ?_ | refine ps_pcall_g (im_awake) ?_ | refine ps_pcall (hlx) ?_ | refine ps_pcall_g (hlx) ?_ | refine ps_alloc fun g => ?_ | refine ps_box fun g => ?_ | refine ps_store ?_ | refine ps_lit fun g => ?_ | refine pops_nil ?_) | (refine pstl_go ?_ ?_ ?_; first | refine pstl_end ?_ | (refine pd_split (fun hb => ?_) (fun hb => ?_); (fail_if_success (guard_hyp hb : true = true)); (fail_if_success (guard_hyp hb : false = true)); all_goals (have hp := hb; (try simp only [decide_eq_true_eq, Bool.eq_false_iff, ne_eq, Bool.not_eq_true', Bool.not_eq_false', Bool.and_eq_true, Bool.or_eq_true, decide_true, decide_false, Bool.and_true, Bool.true_and, Bool.false_eq_true, not_false_eq_true, true_and, and_true] at hp); (try rw [hb]); (try clear hb))) | refine pd_pcall (im_awake) ?_ | refine pd_pcall_g (im_awake) ?_ | refine pd_pcall (hlx) ?_ | refine pd_pcall_g (hlx) ?_) | (refine kn ?_; repeat (first | with_reducible refine blk_n ?_ | with_reducible refine beh_n ?_)) | (refine kx ?_; (repeat (first | with_reducible refine beh_x ?_ | with_reducible refine blk_up rfl ?_)); refine blk_here ?_; refine beh_n ?_)))
    all_goals (refine ends_ret ?_ retPV_one; first | rfl | (exfalso; omega))
  have sx : x.stub.length ≤ 5000 ∧ x.pay.length ≤ 3000 ∧ x.dir.length ≤ 3000 := by
    unfold largeF at gx
    rw [decide_eq_false_iff_not] at gx
    omega
  have hal := x.all_length
  have c1 := bytes_ok p x hx (by omega) (by omega) (by omega) (by omega)
  have c7 := iright_ok x (by omega) (by omega)
  cases hR : x.right with
  | false =>
    have hbf : bytesF p x = ([], 1) := by unfold bytesF; rw [hR]; rfl
    rw [hbf] at c1
    rw [hR] at c7
    obtain ⟨⟨bcj, del, lz, rng, cry⟩, count, mid, raw, sum, n0, n1, stub, pay, dir⟩ := x
    unfold Img.cells at *
    simp only at hlx c1 c7 ⊢
    clear hx
    refine pcall_mk Try.func4 rfl [.tmp 6] Try.results4 155 rfl (tk_start ?_)
    (repeat' (first | refine ka ?_ | refine ksk ?_ | (refine kr ?_ ?_ ?_; first | refine pops_end ?_ | (refine ps_split (fun hb => ?_) (fun hb => ?_); (fail_if_success (guard_hyp hb : true = true)); (fail_if_success (guard_hyp hb : false = true)); all_goals (have hp := hb; (try simp only [decide_eq_true_eq, Bool.eq_false_iff, ne_eq, Bool.not_eq_true', Bool.not_eq_false', Bool.and_eq_true, Bool.or_eq_true, decide_true, decide_false, Bool.and_true, Bool.true_and, Bool.false_eq_true, not_false_eq_true, true_and, and_true] at hp); (try rw [hb]); (try clear hb))) | refine ps_pcall (im_awake) ?_ | refine ps_pcall_g (im_awake) ?_ | refine ps_pcall (hlx) ?_ | refine ps_pcall_g (hlx) ?_ | refine ps_pcall (c1) ?_ | refine ps_pcall_g (c1) ?_ | refine ps_pcall (c7) ?_ | refine ps_pcall_g (c7) ?_ | refine ps_alloc fun g => ?_ | refine ps_box fun g => ?_ | refine ps_store ?_ | refine ps_lit fun g => ?_ | refine pops_nil ?_ | skip) | (refine kd ?_ ?_ ?_; first | refine pstl_end ?_ | (refine pd_split (fun hb => ?_) (fun hb => ?_); (fail_if_success (guard_hyp hb : true = true)); (fail_if_success (guard_hyp hb : false = true)); all_goals (have hp := hb; (try simp only [decide_eq_true_eq, Bool.eq_false_iff, ne_eq, Bool.not_eq_true', Bool.not_eq_false', Bool.and_eq_true, Bool.or_eq_true, decide_true, decide_false, Bool.and_true, Bool.true_and, Bool.false_eq_true, not_false_eq_true, true_and, and_true] at hp); (try rw [hb]); (try clear hb))) | refine pd_pcall (im_awake) ?_ | refine pd_pcall_g (im_awake) ?_ | refine pd_pcall (hlx) ?_ | refine pd_pcall_g (hlx) ?_ | refine pd_pcall (c1) ?_ | refine pd_pcall_g (c1) ?_ | refine pd_pcall (c7) ?_ | refine pd_pcall_g (c7) ?_ | skip) | refine kct ?_ | refine kcf ?_ | (refine kcs (fun hb => ?_) (fun hb => ?_) <;> (have hp := hb; (try simp only [decide_eq_true_eq, Bool.eq_false_iff, ne_eq, Bool.not_eq_true', Bool.not_eq_false', Bool.and_eq_true, Bool.or_eq_true, decide_true, decide_false, Bool.and_true, Bool.true_and, Bool.false_eq_true, not_false_eq_true, true_and, and_true] at hp); (try rw [hb]); (try clear hb))) | (refine kret ?_; repeat (first | with_reducible refine beh_r ?_ | with_reducible refine blk_r ?_)) | refine kb ?_ | (refine ps_split (fun hb => ?_) (fun hb => ?_); (fail_if_success (guard_hyp hb : true = true)); (fail_if_success (guard_hyp hb : false = true)); all_goals (have hp := hb; (try simp only [decide_eq_true_eq, Bool.eq_false_iff, ne_eq, Bool.not_eq_true', Bool.not_eq_false', Bool.and_eq_true, Bool.or_eq_true, decide_true, decide_false, Bool.and_true, Bool.true_and, Bool.false_eq_true, not_false_eq_true, true_and, and_true] at hp); (try rw [hb]); (try clear hb))) | refine ps_pcall (im_awake) ?_ | refine ps_pcall_g (im_awake) ?_ | refine ps_pcall (hlx) ?_ | refine ps_pcall_g (hlx) ?_ | refine ps_pcall (c1) ?_ | refine ps_pcall_g (c1) ?_ | refine ps_pcall (c7) ?_ | refine ps_pcall_g (c7) ?_ | refine ps_alloc fun g => ?_ | refine ps_box fun g => ?_ | refine ps_store ?_ | refine ps_lit fun g => ?_ | refine pops_nil ?_ | (refine pd_split (fun hb => ?_) (fun hb => ?_); (fail_if_success (guard_hyp hb : true = true)); (fail_if_success (guard_hyp hb : false = true)); all_goals (have hp := hb; (try simp only [decide_eq_true_eq, Bool.eq_false_iff, ne_eq, Bool.not_eq_true', Bool.not_eq_false', Bool.and_eq_true, Bool.or_eq_true, decide_true, decide_false, Bool.and_true, Bool.true_and, Bool.false_eq_true, not_false_eq_true, true_and, and_true] at hp); (try rw [hb]); (try clear hb))) | refine pd_pcall (im_awake) ?_ | refine pd_pcall_g (im_awake) ?_ | refine pd_pcall (hlx) ?_ | refine pd_pcall_g (hlx) ?_ | refine pd_pcall (c1) ?_ | refine pd_pcall_g (c1) ?_ | refine pd_pcall (c7) ?_ | refine pd_pcall_g (c7) ?_ | (refine pops_go ?_ ?_ ?_; first | refine pops_end ?_ | (refine ps_split (fun hb => ?_) (fun hb => ?_); (fail_if_success (guard_hyp hb : true = true)); (fail_if_success (guard_hyp hb : false = true)); all_goals (have hp := hb; (try simp only [decide_eq_true_eq, Bool.eq_false_iff, ne_eq, Bool.not_eq_true', Bool.not_eq_false', Bool.and_eq_true, Bool.or_eq_true, decide_true, decide_false, Bool.and_true, Bool.true_and, Bool.false_eq_true, not_false_eq_true, true_and, and_true] at hp); (try rw [hb]); (try clear hb))) | refine ps_pcall (im_awake) ?_ | refine ps_pcall_g (im_awake) ?_ | refine ps_pcall (hlx) ?_ | refine ps_pcall_g (hlx) ?_ | refine ps_pcall (c1) ?_ | refine ps_pcall_g (c1) ?_ | refine ps_pcall (c7) ?_ | refine ps_pcall_g (c7) ?_ | refine ps_alloc fun g => ?_ | refine ps_box fun g => ?_ | refine ps_store ?_ | refine ps_lit fun g => ?_ | refine pops_nil ?_) | (refine pstl_go ?_ ?_ ?_; first | refine pstl_end ?_ | (refine pd_split (fun hb => ?_) (fun hb => ?_); (fail_if_success (guard_hyp hb : true = true)); (fail_if_success (guard_hyp hb : false = true)); all_goals (have hp := hb; (try simp only [decide_eq_true_eq, Bool.eq_false_iff, ne_eq, Bool.not_eq_true', Bool.not_eq_false', Bool.and_eq_true, Bool.or_eq_true, decide_true, decide_false, Bool.and_true, Bool.true_and, Bool.false_eq_true, not_false_eq_true, true_and, and_true] at hp); (try rw [hb]); (try clear hb))) | refine pd_pcall (im_awake) ?_ | refine pd_pcall_g (im_awake) ?_ | refine pd_pcall (hlx) ?_ | refine pd_pcall_g (hlx) ?_ | refine pd_pcall (c1) ?_ | refine pd_pcall_g (c1) ?_ | refine pd_pcall (c7) ?_ | refine pd_pcall_g (c7) ?_) | (refine kn ?_; repeat (first | with_reducible refine blk_n ?_ | with_reducible refine beh_n ?_)) | (refine kx ?_; (repeat (first | with_reducible refine beh_x ?_ | with_reducible refine blk_up rfl ?_)); refine blk_here ?_; refine beh_n ?_)))
    all_goals (refine ends_ret ?_ retPV_one; first | rfl | (exfalso; omega))
  | true =>
    have hbf : bytesF p x = (x.bytes p, 0) := by
      unfold bytesF
      rw [hR, if_pos rfl, if_neg (by omega)]
    rw [hbf] at c1
    rw [hR] at c7
    simp only at c1
    have hrb := read_bytes x hx hR p
    have hBo := x.bytes_oct hx hp
    have hBl : (x.bytes p).length = p.length + x.all.length + 12 := by simp [Img.bytes, le4_length]; omega
    have c9 := isame_ok x x hx hx (by omega) (by omega) (by omega) (by omega) (by omega) (by omega)
    rw [sameF_self] at c9
    have hz := zero_ok
    generalize x.bytes p = B at *
    generalize x.all = A at *
    clear gx xs1 xs2 xs3 hbf
    obtain ⟨⟨bcj, del, lz, rng, cry⟩, count, mid, raw, sum, n0, n1, stub, pay, dir⟩ := x
    simp only at sx hal
    unfold Img.cells at hlx c1 c7 c9
    simp only at hlx c1 c7 c9
    show PCall _ _ [.agg [.v (.bool bcj), .v (.int .i64 del), .v (.bool lz), .v (.bool rng), .v (.bool cry), .v (.int .i64 count), .v (.int .i64 mid), .v (.int .i64 raw), .v (.int .u32 sum), .v (.int .u32 n0), .v (.int .u32 n1), .ro 1 false (ints .u8 stub), .ro 1 false (ints .u8 pay), .ro 1 false (ints .u8 dir)], _, _] _
    clear hx hR
    refine pcall_mk Try.func4 rfl [.tmp 6] Try.results4 155 rfl (tk_start ?_)
    (repeat refine ka ?_); refine kr ?_ ?_ ?_
    refine ps_box (fun gx => ?_)
    refine pops_go ?_ ?_ (pops_end ?_)
    (repeat refine ka ?_); refine kr ?_ ?_ ?_
    refine ps_pcall im_awake ?_
    refine pops_go ?_ ?_ (pops_end ?_)
    (repeat refine ka ?_); refine kr ?_ ?_ ?_
    refine ps_pcall hlx ?_
    refine pops_go ?_ ?_ (pops_end ?_)
    (repeat refine ka ?_); refine kcf ?_
    (repeat refine ka ?_); refine ksk ?_
    (repeat refine ka ?_); refine kr ?_ ?_ ?_
    refine ps_pcall c1 ?_
    refine pops_go ?_ ?_ (pops_end ?_)
    (repeat refine ka ?_); refine kr ?_ ?_ ?_
    refine ps_pcall c7 ?_
    refine pops_go ?_ ?_ (pops_end ?_)
    (repeat refine ka ?_); refine kcf ?_
    (repeat refine ka ?_); refine ksk ?_
    (repeat refine ka ?_); refine kr ?_ ?_ (pops_end ?_)
    (repeat refine ka ?_); refine kcf ?_
    (repeat refine ka ?_); refine ksk ?_
    (repeat refine ka ?_); refine kr ?_ ?_ (pops_end ?_)
    (repeat refine ka ?_); refine kb ?_
    refine kw (fun i : Nat => [(1, PV.ro 1 false (ints .u8 p)), (2, .ro 1 false (ints .u8 h)), (3, .ptr 0 gx 0 0), (7, .v (.bool true)), (8, .ro 1 false (ints .u8 B)), (9, .v (.int .i64 0)), (10, .v (.int .i64 i))]) (fun _ => [⟨gx, true, 14, [[.v (.bool bcj), .v (.int .i64 del), .v (.bool lz), .v (.bool rng), .v (.bool cry), .v (.int .i64 count), .v (.int .i64 mid), .v (.int .i64 raw), .v (.int .u32 sum), .v (.int .u32 n0), .v (.int .u32 n1), .ro 1 false (ints .u8 stub), .ro 1 false (ints .u8 pay), .ro 1 false (ints .u8 dir)]]⟩]) (fun i => i ≤ h.length ∧ ∀ j, j < i → at4 h j = false) (fun i => h.length - i) 0 ⟨Nat.zero_le _, fun j hj => absurd hj (Nat.not_lt_zero _)⟩ (holds 1 (by repeat (first | exact .nil | refine has1 ?_))) ?_
    rintro i ⟨hi, hno⟩
    by_cases g : (i : Int) + 3 < h.length
    · have hat : at4 h i = decide (h.getD (i : Int).toNat 0 = 49 ∧ h.getD ((i : Int) + 1).toNat 0 = 88 ∧ h.getD ((i : Int) + 2).toNat 0 = 70 ∧ h.getD ((i : Int) + 3).toNat 0 = 83) := by
        rw [show ((i : Int) + 1).toNat = i + 1 by omega, show ((i : Int) + 2).toNat = i + 2 by omega, show ((i : Int) + 3).toNat = i + 3 by omega, Int.toNat_natCast]
        rfl
      have nx : at4 h i = false → (i + 1 ≤ h.length ∧ ∀ j, j < i + 1 → at4 h j = false) := fun hf => ⟨by omega, fun j hj => by
        rcases Nat.lt_or_ge j i with h1 | h1
        · exact hno j h1
        · obtain rfl : j = i := by omega
          exact hf⟩
      by_cases d0 : h.getD (i : Int).toNat 0 = 49
      rotate_left
      · have nx := nx (by rw [hat]; exact decide_eq_false (fun q => d0 q.1))
        (repeat refine ka ?_); refine kr ?_ ?_ (pops_end ?_)
        (repeat refine ka ?_); refine kct ?_
        (repeat refine ka ?_); refine ksk ?_
        (repeat refine ka ?_); refine kb ?_
        (repeat refine ka ?_); refine kr ?_ ?_ (pops_end ?_)
        (repeat refine ka ?_); refine kcf ?_
        (repeat refine ka ?_); refine ksk ?_
        refine kn ?_; repeat (first | with_reducible refine blk_n ?_ | with_reducible refine beh_n ?_)
        (repeat refine ka ?_); refine kr ?_ ?_ (pops_end ?_)
        refine kn ?_; repeat (first | with_reducible refine blk_n ?_ | with_reducible refine beh_n ?_)
        exact ⟨i + 1, nx, by omega, (holds 1 (by repeat (first | exact .nil | refine has1 ?_)))⟩
      by_cases d1 : h.getD ((i : Int) + 1).toNat 0 = 88
      rotate_left
      · have nx := nx (by rw [hat]; exact decide_eq_false (fun q => d1 q.2.1))
        (repeat refine ka ?_); refine kr ?_ ?_ (pops_end ?_)
        (repeat refine ka ?_); refine kct ?_
        (repeat refine ka ?_); refine ksk ?_
        (repeat refine ka ?_); refine kb ?_
        (repeat refine ka ?_); refine kr ?_ ?_ (pops_end ?_)
        (repeat refine ka ?_); refine kcf ?_
        (repeat refine ka ?_); refine ksk ?_
        refine kn ?_; repeat (first | with_reducible refine blk_n ?_ | with_reducible refine beh_n ?_)
        (repeat refine ka ?_); refine kr ?_ ?_ (pops_end ?_)
        refine kn ?_; repeat (first | with_reducible refine blk_n ?_ | with_reducible refine beh_n ?_)
        exact ⟨i + 1, nx, by omega, (holds 1 (by repeat (first | exact .nil | refine has1 ?_)))⟩
      by_cases d2 : h.getD ((i : Int) + 2).toNat 0 = 70
      rotate_left
      · have nx := nx (by rw [hat]; exact decide_eq_false (fun q => d2 q.2.2.1))
        (repeat refine ka ?_); refine kr ?_ ?_ (pops_end ?_)
        (repeat refine ka ?_); refine kct ?_
        (repeat refine ka ?_); refine ksk ?_
        (repeat refine ka ?_); refine kb ?_
        (repeat refine ka ?_); refine kr ?_ ?_ (pops_end ?_)
        (repeat refine ka ?_); refine kcf ?_
        (repeat refine ka ?_); refine ksk ?_
        refine kn ?_; repeat (first | with_reducible refine blk_n ?_ | with_reducible refine beh_n ?_)
        (repeat refine ka ?_); refine kr ?_ ?_ (pops_end ?_)
        refine kn ?_; repeat (first | with_reducible refine blk_n ?_ | with_reducible refine beh_n ?_)
        exact ⟨i + 1, nx, by omega, (holds 1 (by repeat (first | exact .nil | refine has1 ?_)))⟩
      by_cases d3 : h.getD ((i : Int) + 3).toNat 0 = 83
      rotate_left
      · have nx := nx (by rw [hat]; exact decide_eq_false (fun q => d3 q.2.2.2))
        (repeat refine ka ?_); refine kr ?_ ?_ (pops_end ?_)
        (repeat refine ka ?_); refine kct ?_
        (repeat refine ka ?_); refine ksk ?_
        (repeat refine ka ?_); refine kb ?_
        (repeat refine ka ?_); refine kr ?_ ?_ (pops_end ?_)
        (repeat refine ka ?_); refine kcf ?_
        (repeat refine ka ?_); refine ksk ?_
        refine kn ?_; repeat (first | with_reducible refine blk_n ?_ | with_reducible refine beh_n ?_)
        (repeat refine ka ?_); refine kr ?_ ?_ (pops_end ?_)
        refine kn ?_; repeat (first | with_reducible refine blk_n ?_ | with_reducible refine beh_n ?_)
        exact ⟨i + 1, nx, by omega, (holds 1 (by repeat (first | exact .nil | refine has1 ?_)))⟩
      (repeat refine ka ?_); refine kr ?_ ?_ (pops_end ?_)
      (repeat refine ka ?_); refine kct ?_
      (repeat refine ka ?_); refine ksk ?_
      (repeat refine ka ?_); refine kb ?_
      (repeat refine ka ?_); refine kr ?_ ?_ (pops_end ?_)
      (repeat refine ka ?_); refine kct ?_
      (repeat refine ka ?_); refine kr ?_ ?_ (pops_end ?_)
      (repeat refine ka ?_); refine kret ?_; repeat (first | with_reducible refine beh_r ?_ | with_reducible refine blk_r ?_)
      refine ends_ret ?_ retPV_one
      rfl
    have hno' : ∀ j, j + 3 < h.length → at4 h j = false := fun j hj => hno j (by omega)
    obtain ⟨f1, f2⟩ := hrb h hno' (by omega)
    have hrd := read_ok (B ++ h) (fun y hy => by rcases List.mem_append.1 hy with q | q; exact hBo y q; exact hh y q) (by rw [List.length_append]; omega)
    unfold readP at hrd
    clear hno hno' hrb
    by_cases gl : (65536 : Int) < h.length
    · rw [f2 (by omega)] at hrd
      clear f1 f2
      (repeat refine ka ?_); refine kr ?_ ?_ (pops_end ?_)
      (repeat refine ka ?_); refine kcf ?_
      (repeat refine ka ?_); refine kx ?_; (repeat (first | with_reducible refine beh_x ?_ | with_reducible refine blk_up rfl ?_)); refine blk_here ?_; refine beh_n ?_
      (repeat refine ka ?_); refine kr ?_ ?_ ?_
      refine ps_lit (fun g1 => ?_)
      refine pops_go ?_ ?_ ?_
      refine ps_app_vw (rows' := ints .u8 B) (m := B.length) (fun g2 => ?_) (hsrc := rfl) (hrows := List.nil_append _)
      refine pops_go ?_ ?_ ?_
      refine ps_app_vw (rows' := ints .u8 (B ++ h)) (m := B.length + h.length) (fun g3 => ?_) (hsrc := rfl) (hrows := ints_append _ _ _)
      refine ps_freeze 1 ?_
      refine ps_rcall [1] hrd (.cons (lend_ints (List.mem_singleton.2 rfl) rfl rfl (by rw [List.length_append])) .nil) ?_ (.inr (frozen_one rfl rfl))
      refine pops_go ?_ ?_ ?_
      refine ps_alloc fun g4 => ?_
      refine pops_go ?_ ?_ ?_
      refine ps_alloc fun g5 => ?_
      refine pops_go ?_ ?_ ?_
      refine ps_st_row ?_
      refine ps_st_row ?_
      refine pops_go ?_ ?_ (pops_end ?_)
      (repeat refine ka ?_); refine kr ?_ ?_ (pops_end ?_)
      (repeat refine ka ?_); refine kct ?_
      (repeat refine ka ?_); refine kr ?_ ?_ (pops_end ?_)
      (repeat refine ka ?_); refine kret ?_; repeat (first | with_reducible refine beh_r ?_ | with_reducible refine blk_r ?_)
      refine ends_ret ?_ retPV_one
      rfl
    · rw [f1 (by omega)] at hrd
      unfold Img.cells Wh.cells at hrd
      simp only at hrd
      clear f1 f2
      (repeat refine ka ?_); refine kr ?_ ?_ (pops_end ?_)
      (repeat refine ka ?_); refine kcf ?_
      (repeat refine ka ?_); refine kx ?_; (repeat (first | with_reducible refine beh_x ?_ | with_reducible refine blk_up rfl ?_)); refine blk_here ?_; refine beh_n ?_
      (repeat refine ka ?_); refine kr ?_ ?_ ?_
      refine ps_lit (fun g1 => ?_)
      refine pops_go ?_ ?_ ?_
      refine ps_app_vw (rows' := ints .u8 B) (m := B.length) (fun g2 => ?_) (hsrc := rfl) (hrows := List.nil_append _)
      refine pops_go ?_ ?_ ?_
      refine ps_app_vw (rows' := ints .u8 (B ++ h)) (m := B.length + h.length) (fun g3 => ?_) (hsrc := rfl) (hrows := ints_append _ _ _)
      refine ps_freeze 1 ?_
      refine ps_rcall [1] hrd (.cons (lend_ints (List.mem_singleton.2 rfl) rfl rfl (by rw [List.length_append])) .nil) ?_ (.inr (frozen_one rfl rfl))
      refine pops_go ?_ ?_ ?_
      refine ps_alloc fun g4 => ?_
      refine pops_go ?_ ?_ ?_
      refine ps_alloc fun g5 => ?_
      refine pops_go ?_ ?_ ?_
      refine ps_st_row ?_
      refine ps_st_row ?_
      refine pops_go ?_ ?_ (pops_end ?_)
      (repeat refine ka ?_); refine kr ?_ ?_ (pops_end ?_)
      (repeat refine ka ?_); refine kcf ?_
      (repeat refine ka ?_); refine ksk ?_
      (repeat refine ka ?_); refine kr ?_ ?_ ?_
      refine ps_ug ?_
      refine ps_pcall c9 ?_
      refine pops_go ?_ ?_ (pops_end ?_)
      (repeat refine ka ?_); refine kret ?_; repeat (first | with_reducible refine beh_r ?_ | with_reducible refine blk_r ?_)
      refine ends_ret ?_ retPV_one
      rfl
end Go.Proofs.Ytfjodfeoncoaoaa.Pv
