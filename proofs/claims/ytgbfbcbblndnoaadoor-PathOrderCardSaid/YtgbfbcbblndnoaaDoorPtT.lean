-- PathOrder.
import Derived.Test.YtgbfbcbblndnoaaDoorPtS
import Derived.Test.YtgbfbcbblndnoaaDoorSlt
namespace Go.Proofs.YtgbfbcbblndnoaaDoor.Pv
set_option linter.all false
set_option linter.unusedVariables false
open Go.RowKit Go.Proofs
set_option maxRecDepth 100000
set_option maxHeartbeats 4000000
theorem clashes_perm {L M : List (List Int)} (h : L.Perm M) : clashes L ↔ clashes M := by
  rw [clashes_iff, clashes_iff, h.nodup_iff]
  unfold begins
  simp only [h.mem_iff]
theorem rsetF_perm {L M : List (List Int)} (h : L.Perm M) : rsetF L = rsetF M := by
  unfold rsetF
  rw [h.length_eq]
  have e1 : (∀ x ∈ L, rmayP x) ↔ ∀ x ∈ M, rmayP x := ⟨fun k x hx => k x (h.mem_iff.2 hx), fun k x hx => k x (h.mem_iff.1 hx)⟩
  have e2 := clashes_perm h
  by_cases h1 : 200 < M.length
  · rw [if_pos h1, if_pos h1]
  · rw [if_neg h1, if_neg h1]
    by_cases h2 : ∀ x ∈ M, rmayP x
    · rw [if_pos h2, if_pos (e1.2 h2)]
      by_cases h3 : clashes M
      · rw [if_pos h3, if_pos (e2.2 h3)]
      · rw [if_neg h3, if_neg (fun k => h3 (e2.1 k))]
    · rw [if_neg h2, if_neg (fun k => h2 (e1.1 k))]
theorem rsetF_zero {L : List (List Int)} : rsetF L = 0 ↔ L.length ≤ 200 ∧ (∀ x ∈ L, rmayP x) ∧ ¬ clashes L := by
  unfold rsetF
  constructor
  · intro h
    split at h
    · cases h
    · split at h
      · split at h
        · cases h
        · rename_i h1 h2 h3
          exact ⟨by omega, h2, h3⟩
      · cases h
  · rintro ⟨h1, h2, h3⟩
    rw [if_neg (by omega), if_pos h2, if_neg h3]
theorem rsetF_take {L : List (List Int)} (h : rsetF L = 0) (k : Nat) : rsetF (L.take k) = 0 := by
  obtain ⟨h1, h2, h3⟩ := rsetF_zero.1 h
  refine rsetF_zero.2 ⟨by rw [List.length_take]; omega, fun x hx => h2 x (List.mem_of_mem_take hx), fun hc => h3 ?_⟩
  rw [clashes_iff] at hc ⊢
  rcases hc with hc | ⟨y, hy, q, hb⟩
  · exact .inl fun hn => hc ((List.take_sublist k L).nodup hn)
  · exact .inr ⟨y, List.mem_of_mem_take hy, q, hb.1, hb.2.1, List.mem_of_mem_take hb.2.2⟩
theorem rsortF_perm {L M : List (List Int)} (h : L.Perm M) : rsortF L = rsortF M :=
  sorted_unique (le := leF) (fun a b => leF_antisymm) (rsortF_sorted L) (rsortF_sorted M) ((rsort_perm L).trans (h.trans (rsort_perm M).symm))
theorem order06 {x0 x1 : PV} (h0 : SSl 1 16 SStr [x0]) (h1 : SInt .i64 [x1]) : PCall Tryd.prog 4 [x0, x1] (.v (.bool true)) := by
  obtain ⟨L, e0, oL, lL, lx⟩ := arg_strs h0
  obtain ⟨at_, e1, hat⟩ := h1
  cases e0; cases e1
  have up := path_awake
  have la := strRows_length L
  obtain ⟨big, hbig, cl⟩ := large06 L (by omega) lx
  by_cases ga : at_ < 0
  · refine pcall_mk Tryd.func4 rfl [.tmp 4] Tryd.results4 108 rfl (tk_start ?_)
    (repeat' (first | refine ka ?_ | refine ksk ?_ | (refine kr ?_ ?_ ?_; first | refine pops_end ?_ | (refine ps_split (fun hb => ?_) (fun hb => ?_); (fail_if_success (guard_hyp hb : true = true)); (fail_if_success (guard_hyp hb : false = true)); all_goals (have hp := hb; (try simp only [decide_eq_true_eq, Bool.eq_false_iff, ne_eq, Bool.not_eq_true', Bool.not_eq_false', Bool.and_eq_true, Bool.or_eq_true, decide_true, decide_false, Bool.and_true, Bool.true_and, Bool.false_eq_true, not_false_eq_true, true_and, and_true] at hp); (try rw [hb]); (try clear hb))) | refine ps_pcall (up) ?_ | refine ps_pcall_g (up) ?_ | refine ps_pcall (cl) ?_ | refine ps_pcall_g (cl) ?_ | refine ps_alloc fun g => ?_ | refine ps_box fun g => ?_ | refine ps_store ?_ | refine ps_lit fun g => ?_ | refine pops_nil ?_ | skip) | (refine kd ?_ ?_ ?_; first | refine pstl_end ?_ | (refine pd_split (fun hb => ?_) (fun hb => ?_); (fail_if_success (guard_hyp hb : true = true)); (fail_if_success (guard_hyp hb : false = true)); all_goals (have hp := hb; (try simp only [decide_eq_true_eq, Bool.eq_false_iff, ne_eq, Bool.not_eq_true', Bool.not_eq_false', Bool.and_eq_true, Bool.or_eq_true, decide_true, decide_false, Bool.and_true, Bool.true_and, Bool.false_eq_true, not_false_eq_true, true_and, and_true] at hp); (try rw [hb]); (try clear hb))) | refine pd_pcall (up) ?_ | refine pd_pcall_g (up) ?_ | refine pd_pcall (cl) ?_ | refine pd_pcall_g (cl) ?_ | skip) | refine kct ?_ | refine kcf ?_ | (refine kcs (fun hb => ?_) (fun hb => ?_) <;> (have hp := hb; (try simp only [decide_eq_true_eq, Bool.eq_false_iff, ne_eq, Bool.not_eq_true', Bool.not_eq_false', Bool.and_eq_true, Bool.or_eq_true, decide_true, decide_false, Bool.and_true, Bool.true_and, Bool.false_eq_true, not_false_eq_true, true_and, and_true] at hp); (try rw [hb]); (try clear hb))) | (refine kret ?_; repeat (first | with_reducible refine beh_r ?_ | with_reducible refine blk_r ?_)) | refine kb ?_ | (refine ps_split (fun hb => ?_) (fun hb => ?_); (fail_if_success (guard_hyp hb : true = true)); (fail_if_success (guard_hyp hb : false = true)); all_goals (have hp := hb; (try simp only [decide_eq_true_eq, Bool.eq_false_iff, ne_eq, Bool.not_eq_true', Bool.not_eq_false', Bool.and_eq_true, Bool.or_eq_true, decide_true, decide_false, Bool.and_true, Bool.true_and, Bool.false_eq_true, not_false_eq_true, true_and, and_true] at hp); (try rw [hb]); (try clear hb))) | refine ps_pcall (up) ?_ | refine ps_pcall_g (up) ?_ | refine ps_pcall (cl) ?_ | refine ps_pcall_g (cl) ?_ | refine ps_alloc fun g => ?_ | refine ps_box fun g => ?_ | refine ps_store ?_ | refine ps_lit fun g => ?_ | refine pops_nil ?_ | (refine pd_split (fun hb => ?_) (fun hb => ?_); (fail_if_success (guard_hyp hb : true = true)); (fail_if_success (guard_hyp hb : false = true)); all_goals (have hp := hb; (try simp only [decide_eq_true_eq, Bool.eq_false_iff, ne_eq, Bool.not_eq_true', Bool.not_eq_false', Bool.and_eq_true, Bool.or_eq_true, decide_true, decide_false, Bool.and_true, Bool.true_and, Bool.false_eq_true, not_false_eq_true, true_and, and_true] at hp); (try rw [hb]); (try clear hb))) | refine pd_pcall (up) ?_ | refine pd_pcall_g (up) ?_ | refine pd_pcall (cl) ?_ | refine pd_pcall_g (cl) ?_ | (refine pops_go ?_ ?_ ?_; first | refine pops_end ?_ | (refine ps_split (fun hb => ?_) (fun hb => ?_); (fail_if_success (guard_hyp hb : true = true)); (fail_if_success (guard_hyp hb : false = true)); all_goals (have hp := hb; (try simp only [decide_eq_true_eq, Bool.eq_false_iff, ne_eq, Bool.not_eq_true', Bool.not_eq_false', Bool.and_eq_true, Bool.or_eq_true, decide_true, decide_false, Bool.and_true, Bool.true_and, Bool.false_eq_true, not_false_eq_true, true_and, and_true] at hp); (try rw [hb]); (try clear hb))) | refine ps_pcall (up) ?_ | refine ps_pcall_g (up) ?_ | refine ps_pcall (cl) ?_ | refine ps_pcall_g (cl) ?_ | refine ps_alloc fun g => ?_ | refine ps_box fun g => ?_ | refine ps_store ?_ | refine ps_lit fun g => ?_ | refine pops_nil ?_) | (refine pstl_go ?_ ?_ ?_; first | refine pstl_end ?_ | (refine pd_split (fun hb => ?_) (fun hb => ?_); (fail_if_success (guard_hyp hb : true = true)); (fail_if_success (guard_hyp hb : false = true)); all_goals (have hp := hb; (try simp only [decide_eq_true_eq, Bool.eq_false_iff, ne_eq, Bool.not_eq_true', Bool.not_eq_false', Bool.and_eq_true, Bool.or_eq_true, decide_true, decide_false, Bool.and_true, Bool.true_and, Bool.false_eq_true, not_false_eq_true, true_and, and_true] at hp); (try rw [hb]); (try clear hb))) | refine pd_pcall (up) ?_ | refine pd_pcall_g (up) ?_ | refine pd_pcall (cl) ?_ | refine pd_pcall_g (cl) ?_) | (refine kn ?_; repeat (first | with_reducible refine blk_n ?_ | with_reducible refine beh_n ?_)) | (refine kx ?_; (repeat (first | with_reducible refine beh_x ?_ | with_reducible refine blk_up rfl ?_)); refine blk_here ?_; refine beh_n ?_)))
    all_goals (refine ends_ret ?_ retPV_one; rfl)
  by_cases gb : (L.length : Int) < at_
  · refine pcall_mk Tryd.func4 rfl [.tmp 4] Tryd.results4 108 rfl (tk_start ?_)
    (repeat' (first | refine ka ?_ | refine ksk ?_ | (refine kr ?_ ?_ ?_; first | refine pops_end ?_ | (refine ps_split (fun hb => ?_) (fun hb => ?_); (fail_if_success (guard_hyp hb : true = true)); (fail_if_success (guard_hyp hb : false = true)); all_goals (have hp := hb; (try simp only [decide_eq_true_eq, Bool.eq_false_iff, ne_eq, Bool.not_eq_true', Bool.not_eq_false', Bool.and_eq_true, Bool.or_eq_true, decide_true, decide_false, Bool.and_true, Bool.true_and, Bool.false_eq_true, not_false_eq_true, true_and, and_true] at hp); (try rw [hb]); (try clear hb))) | refine ps_pcall (up) ?_ | refine ps_pcall_g (up) ?_ | refine ps_pcall (cl) ?_ | refine ps_pcall_g (cl) ?_ | refine ps_alloc fun g => ?_ | refine ps_box fun g => ?_ | refine ps_store ?_ | refine ps_lit fun g => ?_ | refine pops_nil ?_ | skip) | (refine kd ?_ ?_ ?_; first | refine pstl_end ?_ | (refine pd_split (fun hb => ?_) (fun hb => ?_); (fail_if_success (guard_hyp hb : true = true)); (fail_if_success (guard_hyp hb : false = true)); all_goals (have hp := hb; (try simp only [decide_eq_true_eq, Bool.eq_false_iff, ne_eq, Bool.not_eq_true', Bool.not_eq_false', Bool.and_eq_true, Bool.or_eq_true, decide_true, decide_false, Bool.and_true, Bool.true_and, Bool.false_eq_true, not_false_eq_true, true_and, and_true] at hp); (try rw [hb]); (try clear hb))) | refine pd_pcall (up) ?_ | refine pd_pcall_g (up) ?_ | refine pd_pcall (cl) ?_ | refine pd_pcall_g (cl) ?_ | skip) | refine kct ?_ | refine kcf ?_ | (refine kcs (fun hb => ?_) (fun hb => ?_) <;> (have hp := hb; (try simp only [decide_eq_true_eq, Bool.eq_false_iff, ne_eq, Bool.not_eq_true', Bool.not_eq_false', Bool.and_eq_true, Bool.or_eq_true, decide_true, decide_false, Bool.and_true, Bool.true_and, Bool.false_eq_true, not_false_eq_true, true_and, and_true] at hp); (try rw [hb]); (try clear hb))) | (refine kret ?_; repeat (first | with_reducible refine beh_r ?_ | with_reducible refine blk_r ?_)) | refine kb ?_ | (refine ps_split (fun hb => ?_) (fun hb => ?_); (fail_if_success (guard_hyp hb : true = true)); (fail_if_success (guard_hyp hb : false = true)); all_goals (have hp := hb; (try simp only [decide_eq_true_eq, Bool.eq_false_iff, ne_eq, Bool.not_eq_true', Bool.not_eq_false', Bool.and_eq_true, Bool.or_eq_true, decide_true, decide_false, Bool.and_true, Bool.true_and, Bool.false_eq_true, not_false_eq_true, true_and, and_true] at hp); (try rw [hb]); (try clear hb))) | refine ps_pcall (up) ?_ | refine ps_pcall_g (up) ?_ | refine ps_pcall (cl) ?_ | refine ps_pcall_g (cl) ?_ | refine ps_alloc fun g => ?_ | refine ps_box fun g => ?_ | refine ps_store ?_ | refine ps_lit fun g => ?_ | refine pops_nil ?_ | (refine pd_split (fun hb => ?_) (fun hb => ?_); (fail_if_success (guard_hyp hb : true = true)); (fail_if_success (guard_hyp hb : false = true)); all_goals (have hp := hb; (try simp only [decide_eq_true_eq, Bool.eq_false_iff, ne_eq, Bool.not_eq_true', Bool.not_eq_false', Bool.and_eq_true, Bool.or_eq_true, decide_true, decide_false, Bool.and_true, Bool.true_and, Bool.false_eq_true, not_false_eq_true, true_and, and_true] at hp); (try rw [hb]); (try clear hb))) | refine pd_pcall (up) ?_ | refine pd_pcall_g (up) ?_ | refine pd_pcall (cl) ?_ | refine pd_pcall_g (cl) ?_ | (refine pops_go ?_ ?_ ?_; first | refine pops_end ?_ | (refine ps_split (fun hb => ?_) (fun hb => ?_); (fail_if_success (guard_hyp hb : true = true)); (fail_if_success (guard_hyp hb : false = true)); all_goals (have hp := hb; (try simp only [decide_eq_true_eq, Bool.eq_false_iff, ne_eq, Bool.not_eq_true', Bool.not_eq_false', Bool.and_eq_true, Bool.or_eq_true, decide_true, decide_false, Bool.and_true, Bool.true_and, Bool.false_eq_true, not_false_eq_true, true_and, and_true] at hp); (try rw [hb]); (try clear hb))) | refine ps_pcall (up) ?_ | refine ps_pcall_g (up) ?_ | refine ps_pcall (cl) ?_ | refine ps_pcall_g (cl) ?_ | refine ps_alloc fun g => ?_ | refine ps_box fun g => ?_ | refine ps_store ?_ | refine ps_lit fun g => ?_ | refine pops_nil ?_) | (refine pstl_go ?_ ?_ ?_; first | refine pstl_end ?_ | (refine pd_split (fun hb => ?_) (fun hb => ?_); (fail_if_success (guard_hyp hb : true = true)); (fail_if_success (guard_hyp hb : false = true)); all_goals (have hp := hb; (try simp only [decide_eq_true_eq, Bool.eq_false_iff, ne_eq, Bool.not_eq_true', Bool.not_eq_false', Bool.and_eq_true, Bool.or_eq_true, decide_true, decide_false, Bool.and_true, Bool.true_and, Bool.false_eq_true, not_false_eq_true, true_and, and_true] at hp); (try rw [hb]); (try clear hb))) | refine pd_pcall (up) ?_ | refine pd_pcall_g (up) ?_ | refine pd_pcall (cl) ?_ | refine pd_pcall_g (cl) ?_) | (refine kn ?_; repeat (first | with_reducible refine blk_n ?_ | with_reducible refine beh_n ?_)) | (refine kx ?_; (repeat (first | with_reducible refine beh_x ?_ | with_reducible refine blk_up rfl ?_)); refine blk_here ?_; refine beh_n ?_)))
    all_goals (refine ends_ret ?_ retPV_one; rfl)
  cases big with
  | true =>
    refine pcall_mk Tryd.func4 rfl [.tmp 4] Tryd.results4 108 rfl (tk_start ?_)
    (repeat' (first | refine ka ?_ | refine ksk ?_ | (refine kr ?_ ?_ ?_; first | refine pops_end ?_ | (refine ps_split (fun hb => ?_) (fun hb => ?_); (fail_if_success (guard_hyp hb : true = true)); (fail_if_success (guard_hyp hb : false = true)); all_goals (have hp := hb; (try simp only [decide_eq_true_eq, Bool.eq_false_iff, ne_eq, Bool.not_eq_true', Bool.not_eq_false', Bool.and_eq_true, Bool.or_eq_true, decide_true, decide_false, Bool.and_true, Bool.true_and, Bool.false_eq_true, not_false_eq_true, true_and, and_true] at hp); (try rw [hb]); (try clear hb))) | refine ps_pcall (up) ?_ | refine ps_pcall_g (up) ?_ | refine ps_pcall (cl) ?_ | refine ps_pcall_g (cl) ?_ | refine ps_alloc fun g => ?_ | refine ps_box fun g => ?_ | refine ps_store ?_ | refine ps_lit fun g => ?_ | refine pops_nil ?_ | skip) | (refine kd ?_ ?_ ?_; first | refine pstl_end ?_ | (refine pd_split (fun hb => ?_) (fun hb => ?_); (fail_if_success (guard_hyp hb : true = true)); (fail_if_success (guard_hyp hb : false = true)); all_goals (have hp := hb; (try simp only [decide_eq_true_eq, Bool.eq_false_iff, ne_eq, Bool.not_eq_true', Bool.not_eq_false', Bool.and_eq_true, Bool.or_eq_true, decide_true, decide_false, Bool.and_true, Bool.true_and, Bool.false_eq_true, not_false_eq_true, true_and, and_true] at hp); (try rw [hb]); (try clear hb))) | refine pd_pcall (up) ?_ | refine pd_pcall_g (up) ?_ | refine pd_pcall (cl) ?_ | refine pd_pcall_g (cl) ?_ | skip) | refine kct ?_ | refine kcf ?_ | (refine kcs (fun hb => ?_) (fun hb => ?_) <;> (have hp := hb; (try simp only [decide_eq_true_eq, Bool.eq_false_iff, ne_eq, Bool.not_eq_true', Bool.not_eq_false', Bool.and_eq_true, Bool.or_eq_true, decide_true, decide_false, Bool.and_true, Bool.true_and, Bool.false_eq_true, not_false_eq_true, true_and, and_true] at hp); (try rw [hb]); (try clear hb))) | (refine kret ?_; repeat (first | with_reducible refine beh_r ?_ | with_reducible refine blk_r ?_)) | refine kb ?_ | (refine ps_split (fun hb => ?_) (fun hb => ?_); (fail_if_success (guard_hyp hb : true = true)); (fail_if_success (guard_hyp hb : false = true)); all_goals (have hp := hb; (try simp only [decide_eq_true_eq, Bool.eq_false_iff, ne_eq, Bool.not_eq_true', Bool.not_eq_false', Bool.and_eq_true, Bool.or_eq_true, decide_true, decide_false, Bool.and_true, Bool.true_and, Bool.false_eq_true, not_false_eq_true, true_and, and_true] at hp); (try rw [hb]); (try clear hb))) | refine ps_pcall (up) ?_ | refine ps_pcall_g (up) ?_ | refine ps_pcall (cl) ?_ | refine ps_pcall_g (cl) ?_ | refine ps_alloc fun g => ?_ | refine ps_box fun g => ?_ | refine ps_store ?_ | refine ps_lit fun g => ?_ | refine pops_nil ?_ | (refine pd_split (fun hb => ?_) (fun hb => ?_); (fail_if_success (guard_hyp hb : true = true)); (fail_if_success (guard_hyp hb : false = true)); all_goals (have hp := hb; (try simp only [decide_eq_true_eq, Bool.eq_false_iff, ne_eq, Bool.not_eq_true', Bool.not_eq_false', Bool.and_eq_true, Bool.or_eq_true, decide_true, decide_false, Bool.and_true, Bool.true_and, Bool.false_eq_true, not_false_eq_true, true_and, and_true] at hp); (try rw [hb]); (try clear hb))) | refine pd_pcall (up) ?_ | refine pd_pcall_g (up) ?_ | refine pd_pcall (cl) ?_ | refine pd_pcall_g (cl) ?_ | (refine pops_go ?_ ?_ ?_; first | refine pops_end ?_ | (refine ps_split (fun hb => ?_) (fun hb => ?_); (fail_if_success (guard_hyp hb : true = true)); (fail_if_success (guard_hyp hb : false = true)); all_goals (have hp := hb; (try simp only [decide_eq_true_eq, Bool.eq_false_iff, ne_eq, Bool.not_eq_true', Bool.not_eq_false', Bool.and_eq_true, Bool.or_eq_true, decide_true, decide_false, Bool.and_true, Bool.true_and, Bool.false_eq_true, not_false_eq_true, true_and, and_true] at hp); (try rw [hb]); (try clear hb))) | refine ps_pcall (up) ?_ | refine ps_pcall_g (up) ?_ | refine ps_pcall (cl) ?_ | refine ps_pcall_g (cl) ?_ | refine ps_alloc fun g => ?_ | refine ps_box fun g => ?_ | refine ps_store ?_ | refine ps_lit fun g => ?_ | refine pops_nil ?_) | (refine pstl_go ?_ ?_ ?_; first | refine pstl_end ?_ | (refine pd_split (fun hb => ?_) (fun hb => ?_); (fail_if_success (guard_hyp hb : true = true)); (fail_if_success (guard_hyp hb : false = true)); all_goals (have hp := hb; (try simp only [decide_eq_true_eq, Bool.eq_false_iff, ne_eq, Bool.not_eq_true', Bool.not_eq_false', Bool.and_eq_true, Bool.or_eq_true, decide_true, decide_false, Bool.and_true, Bool.true_and, Bool.false_eq_true, not_false_eq_true, true_and, and_true] at hp); (try rw [hb]); (try clear hb))) | refine pd_pcall (up) ?_ | refine pd_pcall_g (up) ?_ | refine pd_pcall (cl) ?_ | refine pd_pcall_g (cl) ?_) | (refine kn ?_; repeat (first | with_reducible refine blk_n ?_ | with_reducible refine beh_n ?_)) | (refine kx ?_; (repeat (first | with_reducible refine beh_x ?_ | with_reducible refine blk_up rfl ?_)); refine blk_here ?_; refine beh_n ?_)))
    all_goals (refine ends_ret ?_ retPV_one; rfl)
  | false =>
  obtain ⟨l1, l2⟩ := hbig rfl
  obtain ⟨m, rfl⟩ : ∃ m : Nat, at_ = (m : Int) := ⟨at_.toNat, by omega⟩
  have hm : m ≤ L.length := by omega
  have e : ((m : Nat) : Int).toNat = m := Int.toNat_natCast m
  have lx2 : ∀ x ∈ L, x.length ≤ 1000000000 := fun x hx => by have := totN_mem hx; omega
  have pT : (L.drop m ++ L.take m).Perm L := List.perm_append_comm.trans (by rw [List.take_append_drop])
  have pS := rsort_perm L
  have oT : ∀ x ∈ L.drop m ++ L.take m, Oct x := fun x hx => oL x (pT.mem_iff.1 hx)
  have oS : ∀ x ∈ rsortF L, Oct x := fun x hx => oL x (pS.mem_iff.1 hx)
  have c0 := pset_ok L oL (by omega) lx2
  have c1 := pset_ok (L.drop m ++ L.take m) oT (by rw [pT.length_eq]; omega) (fun x hx => lx2 x (pT.mem_iff.1 hx))
  have c2 := psorted_ok L oL (by omega)
  have c3 := pset_ok (rsortF L) oS (by rw [pS.length_eq]; omega) (fun x hx => lx2 x (pS.mem_iff.1 hx))
  have c4 := psorted_ok (L.drop m ++ L.take m) oT (by rw [pT.length_eq]; omega)
  have c5 := same06 (rsortF L) (rsortF L) oS oS (by rw [pS.length_eq]; omega) (by rw [pS.length_eq]; omega)
  have c6 := pset_ok (L.take m) (fun x hx => oL x (List.mem_of_mem_take hx)) (by rw [List.length_take]; omega) (fun x hx => lx2 x (List.mem_of_mem_take hx))
  rw [rsetF_perm pT] at c1
  rw [rsetF_perm pS] at c3
  rw [rsortF_perm pT] at c4
  rw [decide_eq_true rfl] at c5
  have hz := rsetF_take (L := L) (k := m)
  have hnd : rsetF L = 0 → (rsortF L).Nodup := fun h => by
    have := (rsetF_zero.1 h).2.2
    rw [clashes_iff] at this
    exact pS.nodup_iff.2 (Classical.not_not.1 fun h => this (.inl h))
  have hso := rsortF_sorted L
  have lS := rsortF_length L
  have lsr := strRows_length (rsortF L)
  have hlt : (L.take m).length = m := by rw [List.length_take]; omega
  have hld : (L.drop m).length = L.length - m := List.length_drop
  have s1 : (strRows L).take ((m : Nat) : Int).toNat = strRows (L.take m) := by rw [e, strRows_take]
  have s2 : (strRows L).drop ((m : Nat) : Int).toNat = strRows (L.drop m) := by rw [e, strRows_drop]
  have hall : (L.drop m ++ L.take m).length = L.length := by rw [List.length_append, hlt, hld]; omega
  generalize rsetF L = st at c0 c1 c3 hz hnd
  generalize hO : rsortF L = O at c2 c3 c4 c5 lS lsr hso hnd oS
  generalize rsetF (L.take m) = st2 at c6 hz
  refine pcall_mk Tryd.func4 rfl [.tmp 4] Tryd.results4 108 rfl (tk_start ?_)
  (repeat refine ka ?_); refine kr ?_ ?_ (pops_end ?_)
  (repeat refine ka ?_); refine kr ?_ ?_ ?_
  refine ps_pcall up ?_
  refine pops_go ?_ ?_ (pops_end ?_)
  (repeat refine ka ?_); refine kr ?_ ?_ ?_
  refine ps_pcall cl ?_
  refine pops_go ?_ ?_ (pops_end ?_)
  (repeat refine ka ?_); refine kr ?_ ?_ (pops_end ?_)
  (repeat refine ka ?_); refine kcf ?_
  (repeat refine ka ?_); refine ksk ?_
  (repeat refine ka ?_); refine kr ?_ ?_ ?_
  refine ps_pcall c0 ?_
  refine pops_go ?_ ?_ (pops_end ?_)
  (repeat refine ka ?_); refine kds [1, 2, 3, 5, 6, 7] [0, 4, 8, 9] ?_
  refine pstl_go ?_ ?_ (pstl_end ?_)
  refine hs_w [] [1, 2, 3, 5, 6, 7] ?_ (by refine pstl_go ?_ ?_ (pstl_end ?_); exact rfl); refine pstl_go ?_ ?_ (pstl_end ?_); refine ⟨rfl, ?_⟩
  refine ps_lit fun g1 => ?_
  refine pops_nil ?_
  refine hs_w [1, 2, 3] [5, 6, 7] ?_ (by refine pstl_go ?_ ?_ (pstl_end ?_); exact rfl); refine pstl_go ?_ ?_ (pstl_end ?_); refine ⟨rfl, ?_⟩
  refine ps_app_vw (rows' := strRows (L.drop m)) (m := L.length - m) (fun g2 => ?_) (hsrc := rfl) (hrows := by rfl) (hlen := by rfl) (hm := by rw [strRows_length, hld]; omega)
  refine pops_nil ?_
  refine hs_w [5, 6, 7] [] ?_ (by refine pstl_go ?_ ?_ (pstl_end ?_); exact rfl); refine pstl_go ?_ ?_ (pstl_end ?_); refine ⟨rfl, ?_⟩
  refine ps_app_vw (rows' := strRows (L.drop m ++ L.take m)) (m := L.length) (fun g3 => ?_) (hsrc := rfl) (hrows := by rw [strRows_app]) (hlen := by rw [strRows_length, hld]) (hm := by rw [strRows_length, hlt]; omega)
  refine pops_nil ?_
  refine hs_w [] [] ?_ (by refine pstl_go ?_ ?_ (pstl_end ?_); exact rfl); refine pstl_go ?_ ?_ (pstl_end ?_); refine ⟨rfl, ?_⟩
  refine ps_ev (p := .vw 0 g3 0 L.length) ?_ rfl
  refine pops_nil ?_
  refine hs_end ?_; refine pstl_go ?_ ?_ (pstl_end ?_); refine ⟨rfl, ?_⟩
  refine kfreeze 0 ?_
  refine kfzT 8 [0] (y := .ro 1 false (strRows (L.drop m ++ L.take m))) ?_ (lend_strs (List.mem_singleton.2 rfl) rfl rfl hall) (by intro τ hτ blk hb; cases List.mem_singleton.1 hτ; cases hb; rfl)
  (repeat refine ka ?_); refine kr ?_ ?_ ?_
  refine ps_pcall c2 ?_
  refine pops_go ?_ ?_ (pops_end ?_)
  (repeat refine ka ?_); refine kr ?_ ?_ ?_
  refine ps_pcall c1 ?_
  refine pops_go ?_ ?_ ?_
  refine ps_pcall_g c3 ?_
  refine pops_go ?_ ?_ (pops_end ?_)
  (repeat refine ka ?_); refine kcf ?_
  (repeat refine ka ?_); refine ksk ?_
  (repeat refine ka ?_); refine kr ?_ ?_ (pops_end ?_)
  (repeat refine ka ?_); refine kb ?_
  refine kw (fun i : Nat => [(0, .ro 1 false (strRows L)), (1, .v (.int .i64 m)), (5, .v (.bool true)), (7, .v (.int .i64 st)), (8, .ro 1 false (strRows (L.drop m ++ L.take m))), (9, .ro 1 false (strRows O)), (10, .v (.int .i64 (((i + 1 : Nat) : Nat) : Int)))]) (fun _ => []) (fun i => i ≤ O.length) (fun i => O.length - i) 0 (Nat.zero_le _) (holds 0 (by repeat (first | exact .nil | refine has1 ?_))) ?_
  intro i hi
  by_cases h : i + 1 < O.length
  · obtain ⟨x, hx⟩ : ∃ x, O[i + 1]? = some x := ⟨O[i + 1], by simp [h]⟩
    obtain ⟨y, hy⟩ : ∃ y, O[i]? = some y := ⟨O[i], by simp [show i < O.length by omega]⟩
    have r1 := strRows_get hx
    have r2 := strRows_get hy
    have ei : (((i + 1 : Nat) : Int) - 1) = ((i : Nat) : Int) := by omega
    have ox := oS x (List.mem_of_getElem? hx)
    have oy := oS y (List.mem_of_getElem? hy)
    obtain ⟨hx1, hx2⟩ := List.getElem?_eq_some_iff.1 hx
    obtain ⟨hy1, hy2⟩ := List.getElem?_eq_some_iff.1 hy
    have hle : leF y x := by
      have := (List.pairwise_iff_getElem.1 hso) i (i + 1) hy1 hx1 (by omega)
      rw [hx2, hy2] at this
      exact this
    have hcmp : cmpS .lss x y = some false := by
      show some (lessF x y) = some false
      rw [hle]
    (repeat refine ka ?_); refine kr ?_ ?_ (pops_end ?_)
    (repeat refine ka ?_); refine kct ?_
    (repeat refine ka ?_); refine ksk ?_
    (repeat refine ka ?_); refine kb ?_
    have r3 : (strRows O)[(((i + 1 : Nat) : Int) - 1).toNat]? = some [.v (.string (str y))] := by rw [ei]; exact r2
    by_cases hst : st = 0
    · have hne : ¬ x = y := fun exy => by
        have hn := hnd hst
        have := (List.getElem?_inj hx1 hn (j := i)).1 (by rw [hx, hy, exy])
        omega
      (repeat refine ka ?_); refine kd ?_ ?_ ?_
      refine pd_scmp ox oy hcmp ?_
      refine pstl_go ?_ ?_ (pstl_end ?_)
      (repeat refine ka ?_); refine kcf ?_
      (repeat refine ka ?_); refine ksk ?_
      refine kn ?_; repeat (first | with_reducible refine blk_n ?_ | with_reducible refine beh_n ?_)
      (repeat refine ka ?_); refine kr ?_ ?_ (pops_end ?_)
      refine kn ?_; repeat (first | with_reducible refine blk_n ?_ | with_reducible refine beh_n ?_)
      exact ⟨i + 1, by omega, by omega, (holds 0 (by repeat (first | exact .nil | refine has1 ?_)))⟩
    · (repeat refine ka ?_); refine kd ?_ ?_ ?_
      refine pd_scmp ox oy hcmp ?_
      refine pstl_go ?_ ?_ (pstl_end ?_)
      (repeat refine ka ?_); refine kcf ?_
      (repeat refine ka ?_); refine ksk ?_
      refine kn ?_; repeat (first | with_reducible refine blk_n ?_ | with_reducible refine beh_n ?_)
      (repeat refine ka ?_); refine kr ?_ ?_ (pops_end ?_)
      refine kn ?_; repeat (first | with_reducible refine blk_n ?_ | with_reducible refine beh_n ?_)
      exact ⟨i + 1, by omega, by omega, (holds 0 (by repeat (first | exact .nil | refine has1 ?_)))⟩
  · (repeat refine ka ?_); refine kr ?_ ?_ (pops_end ?_)
    (repeat refine ka ?_); refine kcf ?_
    (repeat refine ka ?_); refine kx ?_; (repeat (first | with_reducible refine beh_x ?_ | with_reducible refine blk_up rfl ?_)); refine blk_here ?_; refine beh_n ?_
    (repeat refine ka ?_); refine kr ?_ ?_ ?_
    refine ps_pcall c4 ?_
    refine pops_go ?_ ?_ ?_
    refine ps_pcall c5 ?_
    refine pops_go ?_ ?_ (pops_end ?_)
    by_cases hst : st = 0
    · rw [hz hst] at c6
      (repeat refine ka ?_); refine kr ?_ ?_ ?_
      refine ps_pcall_g c6 ?_
      refine pops_go ?_ ?_ (pops_end ?_)
      (repeat refine ka ?_); refine kret ?_; repeat (first | with_reducible refine beh_r ?_ | with_reducible refine blk_r ?_)
      refine ends_ret ?_ retPV_one
      rfl
    · (repeat refine ka ?_); refine kr ?_ ?_ (pops_end ?_)
      (repeat refine ka ?_); refine kret ?_; repeat (first | with_reducible refine beh_r ?_ | with_reducible refine blk_r ?_)
      refine ends_ret ?_ retPV_one
      rfl
end Go.Proofs.YtgbfbcbblndnoaaDoor.Pv
