-- carapaceref07: Right, Word, Of.
import Derived.Test.YtjbbomchmacdjaaInE
namespace Go.Proofs.Ytjbbomchmacdjaa.Pv
set_option linter.all false
open Go.RowKit Go.Proofs
set_option maxRecDepth 100000
set_option maxHeartbeats 4000000
theorem decide_bool (p : Prop) [Decidable p] : ∃ b : Bool, decide p = b ∧ (b = true ↔ p) := ⟨decide p, rfl, decide_eq_true_iff⟩
theorem rright_eq (op a b c imm : Int) : rightF (form op) a b c imm ↔ (form op ≠ [] ∧ (a = 0 ∨ 97 ∈ form op ∧ 1 ≤ a ∧ a ≤ 15) ∧ (b = 0 ∨ 98 ∈ form op ∧ 1 ≤ b ∧ b ≤ 15) ∧ (c = 0 ∨ 99 ∈ form op ∧ 1 ≤ c ∧ c ≤ 15) ∧
    ((117 ∈ form op ∧ 0 ≤ imm ∧ imm ≤ 65535) ∨ (¬ 117 ∈ form op ∧ 115 ∈ form op ∧ -32768 ≤ imm ∧ imm ≤ 32767) ∨ (¬ 117 ∈ form op ∧ ¬ 115 ∈ form op ∧ imm = 0))) := by
  rcases form_cases op with ⟨e, h1⟩ | ⟨e, h1⟩ | ⟨e, h1⟩ | ⟨e, h1⟩ | ⟨e, h1⟩ | ⟨e, h1⟩ | ⟨e, h1⟩ <;> rw [e] <;> simp [rightF, lo, hi, endsIn] <;> omega
theorem rright_ok (op a b c imm : Int) : PCall Try.prog 80 [.agg [.v (.int .i64 op), .v (.int .i64 a), .v (.int .i64 b), .v (.int .i64 c), .v (.int .i64 imm)]] (.v (.bool (decide (rightF (form op) a b c imm)))) := by
  obtain ⟨r, hr, hr'⟩ := decide_bool (rightF (form op) a b c imm)
  rw [hr]
  rw [rright_eq] at hr'
  clear hr
  have c1 := rform_ok op
  have hF := form_oct op
  have hl := form_le op
  generalize form op = F at *
  have c2 := has_ok F 97 hF hl
  have c3 := has_ok F 98 hF hl
  have c4 := has_ok F 99 hF hl
  have c5 := has_ok F 117 hF hl
  have c6 := has_ok F 115 hF hl
  obtain ⟨b1, e1, g1⟩ := decide_bool (97 ∈ F)
  obtain ⟨b2, e2, g2⟩ := decide_bool (98 ∈ F)
  obtain ⟨b3, e3, g3⟩ := decide_bool (99 ∈ F)
  obtain ⟨b4, e4, g4⟩ := decide_bool (117 ∈ F)
  obtain ⟨b5, e5, g5⟩ := decide_bool (115 ∈ F)
  rw [e1] at c2
  rw [e2] at c3
  rw [e3] at c4
  rw [e4] at c5
  rw [e5] at c6
  have c7 := register_ok a b1
  have c8 := register_ok b b2
  have c9 := register_ok c b3
  rw [← g1, ← g2, ← g3, ← g4, ← g5] at hr'
  obtain ⟨r1, e7, g7⟩ := decide_bool (a = 0 ∨ b1 = true ∧ 1 ≤ a ∧ a ≤ 15)
  obtain ⟨r2, e8, g8⟩ := decide_bool (b = 0 ∨ b2 = true ∧ 1 ≤ b ∧ b ≤ 15)
  obtain ⟨r3, e9, g9⟩ := decide_bool (c = 0 ∨ b3 = true ∧ 1 ≤ c ∧ c ≤ 15)
  rw [e7] at c7
  rw [e8] at c8
  rw [e9] at c9
  rw [← g7, ← g8, ← g9] at hr'
  clear e1 e2 e3 e4 e5 e7 e8 e9 g1 g2 g3 g4 g5 g7 g8 g9
  refine pcall_mk Try.func80 rfl [.tmp 2] Try.results80 56 rfl (tk_start ?_)
  (repeat' (first | refine ka ?_ | refine ksk ?_ | (refine kr ?_ ?_ ?_; first | refine pops_end ?_ | (refine ps_split (fun hb => ?_) (fun hb => ?_); (fail_if_success (guard_hyp hb : true = true)); (fail_if_success (guard_hyp hb : false = true)); all_goals (have hp := hb; (try simp only [decide_eq_true_eq, Bool.eq_false_iff, ne_eq, Bool.not_eq_true', Bool.not_eq_false', Bool.and_eq_true, Bool.or_eq_true, decide_true, decide_false, Bool.and_true, Bool.true_and, Bool.false_eq_true, not_false_eq_true, true_and, and_true] at hp); (try rw [hb]); (try clear hb))) | refine ps_pcall (c1) ?_ | refine ps_pcall_g (c1) ?_ | refine ps_pcall (c2) ?_ | refine ps_pcall_g (c2) ?_ | refine ps_pcall (c3) ?_ | refine ps_pcall_g (c3) ?_ | refine ps_pcall (c4) ?_ | refine ps_pcall_g (c4) ?_ | refine ps_pcall (c5) ?_ | refine ps_pcall_g (c5) ?_ | refine ps_pcall (c6) ?_ | refine ps_pcall_g (c6) ?_ | refine ps_pcall (c7) ?_ | refine ps_pcall_g (c7) ?_ | refine ps_pcall (c8) ?_ | refine ps_pcall_g (c8) ?_ | refine ps_pcall (c9) ?_ | refine ps_pcall_g (c9) ?_ | refine ps_alloc fun g => ?_ | refine ps_box fun g => ?_ | refine ps_store ?_ | refine ps_lit fun g => ?_ | refine pops_nil ?_ | skip) | (refine kd ?_ ?_ ?_; first | refine pstl_end ?_ | (refine pd_split (fun hb => ?_) (fun hb => ?_); (fail_if_success (guard_hyp hb : true = true)); (fail_if_success (guard_hyp hb : false = true)); all_goals (have hp := hb; (try simp only [decide_eq_true_eq, Bool.eq_false_iff, ne_eq, Bool.not_eq_true', Bool.not_eq_false', Bool.and_eq_true, Bool.or_eq_true, decide_true, decide_false, Bool.and_true, Bool.true_and, Bool.false_eq_true, not_false_eq_true, true_and, and_true] at hp); (try rw [hb]); (try clear hb))) | refine pd_pcall (c1) ?_ | refine pd_pcall_g (c1) ?_ | refine pd_pcall (c2) ?_ | refine pd_pcall_g (c2) ?_ | refine pd_pcall (c3) ?_ | refine pd_pcall_g (c3) ?_ | refine pd_pcall (c4) ?_ | refine pd_pcall_g (c4) ?_ | refine pd_pcall (c5) ?_ | refine pd_pcall_g (c5) ?_ | refine pd_pcall (c6) ?_ | refine pd_pcall_g (c6) ?_ | refine pd_pcall (c7) ?_ | refine pd_pcall_g (c7) ?_ | refine pd_pcall (c8) ?_ | refine pd_pcall_g (c8) ?_ | refine pd_pcall (c9) ?_ | refine pd_pcall_g (c9) ?_ | skip) | refine kct ?_ | refine kcf ?_ | (refine kcs (fun hb => ?_) (fun hb => ?_) <;> (have hp := hb; (try simp only [decide_eq_true_eq, Bool.eq_false_iff, ne_eq, Bool.not_eq_true', Bool.not_eq_false', Bool.and_eq_true, Bool.or_eq_true, decide_true, decide_false, Bool.and_true, Bool.true_and, Bool.false_eq_true, not_false_eq_true, true_and, and_true] at hp); (try rw [hb]); (try clear hb))) | (refine kret ?_; repeat (first | with_reducible refine beh_r ?_ | with_reducible refine blk_r ?_)) | refine kb ?_ | (refine ps_split (fun hb => ?_) (fun hb => ?_); (fail_if_success (guard_hyp hb : true = true)); (fail_if_success (guard_hyp hb : false = true)); all_goals (have hp := hb; (try simp only [decide_eq_true_eq, Bool.eq_false_iff, ne_eq, Bool.not_eq_true', Bool.not_eq_false', Bool.and_eq_true, Bool.or_eq_true, decide_true, decide_false, Bool.and_true, Bool.true_and, Bool.false_eq_true, not_false_eq_true, true_and, and_true] at hp); (try rw [hb]); (try clear hb))) | refine ps_pcall (c1) ?_ | refine ps_pcall_g (c1) ?_ | refine ps_pcall (c2) ?_ | refine ps_pcall_g (c2) ?_ | refine ps_pcall (c3) ?_ | refine ps_pcall_g (c3) ?_ | refine ps_pcall (c4) ?_ | refine ps_pcall_g (c4) ?_ | refine ps_pcall (c5) ?_ | refine ps_pcall_g (c5) ?_ | refine ps_pcall (c6) ?_ | refine ps_pcall_g (c6) ?_ | refine ps_pcall (c7) ?_ | refine ps_pcall_g (c7) ?_ | refine ps_pcall (c8) ?_ | refine ps_pcall_g (c8) ?_ | refine ps_pcall (c9) ?_ | refine ps_pcall_g (c9) ?_ | refine ps_alloc fun g => ?_ | refine ps_box fun g => ?_ | refine ps_store ?_ | refine ps_lit fun g => ?_ | refine pops_nil ?_ | (refine pd_split (fun hb => ?_) (fun hb => ?_); (fail_if_success (guard_hyp hb : true = true)); (fail_if_success (guard_hyp hb : false = true)); all_goals (have hp := hb; (try simp only [decide_eq_true_eq, Bool.eq_false_iff, ne_eq, Bool.not_eq_true', Bool.not_eq_false', Bool.and_eq_true, Bool.or_eq_true, decide_true, decide_false, Bool.and_true, Bool.true_and, Bool.false_eq_true, not_false_eq_true, true_and, and_true] at hp); (try rw [hb]); (try clear hb))) | refine pd_pcall (c1) ?_ | refine pd_pcall_g (c1) ?_ | refine pd_pcall (c2) ?_ | refine pd_pcall_g (c2) ?_ | refine pd_pcall (c3) ?_ | refine pd_pcall_g (c3) ?_ | refine pd_pcall (c4) ?_ | refine pd_pcall_g (c4) ?_ | refine pd_pcall (c5) ?_ | refine pd_pcall_g (c5) ?_ | refine pd_pcall (c6) ?_ | refine pd_pcall_g (c6) ?_ | refine pd_pcall (c7) ?_ | refine pd_pcall_g (c7) ?_ | refine pd_pcall (c8) ?_ | refine pd_pcall_g (c8) ?_ | refine pd_pcall (c9) ?_ | refine pd_pcall_g (c9) ?_ | (refine pops_go ?_ ?_ ?_; first | refine pops_end ?_ | (refine ps_split (fun hb => ?_) (fun hb => ?_); (fail_if_success (guard_hyp hb : true = true)); (fail_if_success (guard_hyp hb : false = true)); all_goals (have hp := hb; (try simp only [decide_eq_true_eq, Bool.eq_false_iff, ne_eq, Bool.not_eq_true', Bool.not_eq_false', Bool.and_eq_true, Bool.or_eq_true, decide_true, decide_false, Bool.and_true, Bool.true_and, Bool.false_eq_true, not_false_eq_true, true_and, and_true] at hp); (try rw [hb]); (try clear hb))) | refine ps_pcall (c1) ?_ | refine ps_pcall_g (c1) ?_ | refine ps_pcall (c2) ?_ | refine ps_pcall_g (c2) ?_ | refine ps_pcall (c3) ?_ | refine ps_pcall_g (c3) ?_ | refine ps_pcall (c4) ?_ | refine ps_pcall_g (c4) ?_ | refine ps_pcall (c5) ?_ | refine ps_pcall_g (c5) ?_ | refine ps_pcall (c6) ?_ | refine ps_pcall_g (c6) ?_ | refine ps_pcall (c7) ?_ | refine ps_pcall_g (c7) ?_ | refine ps_pcall (c8) ?_ | refine ps_pcall_g (c8) ?_ | refine ps_pcall (c9) ?_ | refine ps_pcall_g (c9) ?_ | refine ps_alloc fun g => ?_ | refine ps_box fun g => ?_ | refine ps_store ?_ | refine ps_lit fun g => ?_ | refine pops_nil ?_) | (refine pstl_go ?_ ?_ ?_; first | refine pstl_end ?_ | (refine pd_split (fun hb => ?_) (fun hb => ?_); (fail_if_success (guard_hyp hb : true = true)); (fail_if_success (guard_hyp hb : false = true)); all_goals (have hp := hb; (try simp only [decide_eq_true_eq, Bool.eq_false_iff, ne_eq, Bool.not_eq_true', Bool.not_eq_false', Bool.and_eq_true, Bool.or_eq_true, decide_true, decide_false, Bool.and_true, Bool.true_and, Bool.false_eq_true, not_false_eq_true, true_and, and_true] at hp); (try rw [hb]); (try clear hb))) | refine pd_pcall (c1) ?_ | refine pd_pcall_g (c1) ?_ | refine pd_pcall (c2) ?_ | refine pd_pcall_g (c2) ?_ | refine pd_pcall (c3) ?_ | refine pd_pcall_g (c3) ?_ | refine pd_pcall (c4) ?_ | refine pd_pcall_g (c4) ?_ | refine pd_pcall (c5) ?_ | refine pd_pcall_g (c5) ?_ | refine pd_pcall (c6) ?_ | refine pd_pcall_g (c6) ?_ | refine pd_pcall (c7) ?_ | refine pd_pcall_g (c7) ?_ | refine pd_pcall (c8) ?_ | refine pd_pcall_g (c8) ?_ | refine pd_pcall (c9) ?_ | refine pd_pcall_g (c9) ?_) | (refine kn ?_; repeat (first | with_reducible refine blk_n ?_ | with_reducible refine beh_n ?_)) | (refine kx ?_; (repeat (first | with_reducible refine beh_x ?_ | with_reducible refine blk_up rfl ?_)); refine blk_here ?_; refine beh_n ?_)))
  all_goals refine ends_ret ?_ retPV_one
  all_goals
    cases r with
    | true =>
      have k := hr'.1 rfl
      simp_all <;> omega
    | false =>
      have k : ¬ _ := fun h => Bool.false_ne_true (hr'.2 h)
      simp_all <;> omega
end Go.Proofs.Ytjbbomchmacdjaa.Pv
