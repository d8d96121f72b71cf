-- carapacelaw07.InstUnlike.
import Derived.Test.YtaaealngifkaeaaInH
namespace Go.Proofs.Ytaaealngifkaeaa.Pv
set_option linter.all false
open Go.RowKit Go.Proofs
set_option maxRecDepth 100000
set_option maxHeartbeats 4000000
theorem beq_dec {p q : Prop} [Decidable p] [Decidable q] (h : p ↔ q) : (decide p == decide q) = true := by
  by_cases k : p
  · rw [decide_eq_true k, decide_eq_true (h.1 k)]; rfl
  · rw [decide_eq_false k, decide_eq_false (fun j => k (h.2 j))]; rfl
theorem unlike_in {x0 x1 x2 : PV} (h0 : ∃ xs, x0 = .agg xs ∧ SFs [SInt .i64, SInt .i64, SInt .i64, SInt .i64, SInt .i64] xs) (h1 : ∃ xs, x1 = .agg xs ∧ SFs [SInt .i64, SInt .i64, SInt .i64, SInt .i64, SInt .i64] xs) (h2 : ∃ xs, x2 = .agg xs ∧ SArr 2 (SInt .u32) xs) : PCall Try.prog 11 [x0, x1, x2] (.v (.bool true)) := by
  obtain ⟨op, a, b, c, imm, rfl, -⟩ := in_five h0
  obtain ⟨op', a', b', c', imm', rfl, -⟩ := in_five h1
  obtain ⟨xs, rfl, hxs⟩ := h2
  obtain ⟨ws, rfl, hn, hwf⟩ := arr_ints hxs
  clear h0 h1 hxs
  match ws, hn with
  | [v, w], _ =>
  obtain ⟨v0, v1⟩ := wf_u32 (hwf v (by simp))
  obtain ⟨w0, w1⟩ := wf_u32 (hwf w (by simp))
  clear hwf
  simp only [List.map_cons, List.map_nil]
  have p1 := word_ok op a b c imm
  have p2 := word_ok op' a' b' c' imm'
  have p3 := of_ok v v0 v1
  have p4 := of_ok w w0 w1
  -- what is told of the two words
  have second : ∃ (X Y : Int × Int × Int × Int × Int) (g h : Int), PCall Try.prog 43 [.v (.int .u32 v)] (.tup [.agg [.v (.int .i64 X.1), .v (.int .i64 X.2.1), .v (.int .i64 X.2.2.1), .v (.int .i64 X.2.2.2.1), .v (.int .i64 X.2.2.2.2)], .v (.int .i64 g)]) ∧
      PCall Try.prog 43 [.v (.int .u32 w)] (.tup [.agg [.v (.int .i64 Y.1), .v (.int .i64 Y.2.1), .v (.int .i64 Y.2.2.1), .v (.int .i64 Y.2.2.2.1), .v (.int .i64 Y.2.2.2.2)], .v (.int .i64 h)]) ∧ (g = 0 → h = 0 → (X = Y ↔ v = w)) := by
    refine ⟨(if wR v then v / 16777216 else 0, if wR v then v / 1048576 % 16 else 0, if wR v then v / 65536 % 16 else 0, if wR v then wC v else 0, if wR v then wI v else 0), (if wR w then w / 16777216 else 0, if wR w then w / 1048576 % 16 else 0, if wR w then w / 65536 % 16 else 0, if wR w then wC w else 0, if wR w then wI w else 0), if wR v then 0 else 2, if wR w then 0 else 2, p3, p4, ?_⟩
    intro hg hh
    have r1 : wR v := by
      by_cases h : wR v
      · exact h
      · rw [if_neg h] at hg; cases hg
    have r2 : wR w := by
      by_cases h : wR w
      · exact h
      · rw [if_neg h] at hh; cases hh
    simp only [if_pos r1, if_pos r2, Prod.mk.injEq]
    constructor
    · rintro ⟨e1, e2, e3, e4, e5⟩
      have k1 := word_of_w v v0 v1
      have k2 := word_of_w w w0 w1
      rw [← k1, ← k2, e1, e2, e3, e4, e5]
    · intro e
      rw [e]
      exact ⟨rfl, rfl, rfl, rfl, rfl⟩
  have first : ∃ (W W' e f : Int), PCall Try.prog 41 [.agg [.v (.int .i64 op), .v (.int .i64 a), .v (.int .i64 b), .v (.int .i64 c), .v (.int .i64 imm)]] (.tup [.v (.int .u32 W), .v (.int .i64 e)]) ∧
      PCall Try.prog 41 [.agg [.v (.int .i64 op'), .v (.int .i64 a'), .v (.int .i64 b'), .v (.int .i64 c'), .v (.int .i64 imm')]] (.tup [.v (.int .u32 W'), .v (.int .i64 f)]) ∧ (e = 0 → f = 0 → (W = W' ↔ (op = op' ∧ a = a' ∧ b = b' ∧ c = c' ∧ imm = imm'))) := by
    refine ⟨_, _, _, _, p1, p2, ?_⟩
    intro he hf
    have r1 : rightF (form op) a b c imm := by
      by_cases h : rightF (form op) a b c imm
      · exact h
      · rw [if_neg h] at he; cases he
    have r2 : rightF (form op') a' b' c' imm' := by
      by_cases h : rightF (form op') a' b' c' imm'
      · exact h
      · rw [if_neg h] at hf; cases hf
    simp only [if_pos r1, if_pos r2]
    constructor
    · intro e
      obtain ⟨e1, e2, e3, e4, e5, _⟩ := of_word r1
      obtain ⟨k1, k2, k3, k4, k5, _⟩ := of_word r2
      rw [← e] at k1 k2 k3 k4 k5
      exact ⟨e1.symm.trans k1, e2.symm.trans k2, e3.symm.trans k3, e4.symm.trans k4, e5.symm.trans k5⟩
    · rintro ⟨rfl, rfl, rfl, rfl, rfl⟩
      rfl
  clear p1 p2 p3 p4
  obtain ⟨⟨y1, y2, y3, y4, y5⟩, ⟨z1, z2, z3, z4, z5⟩, g, h, p3, p4, hyz⟩ := second
  obtain ⟨W, W', e, f, p1, p2, hW⟩ := first
  simp only [Prod.mk.injEq] at p3 p4 hyz
  refine pcall_mk Try.func11 rfl [.tmp 6] Try.results11 74 rfl (tk_start ?_)
  (repeat' (first | refine ka ?_ | refine ksk ?_ | (refine kr ?_ ?_ ?_; first | refine pops_end ?_ | (refine ps_split (fun hb => ?_) (fun hb => ?_); (fail_if_success (guard_hyp hb : true = true)); (fail_if_success (guard_hyp hb : false = true)); all_goals (have hp := hb; (try simp only [decide_eq_true_eq, Bool.eq_false_iff, ne_eq, Bool.not_eq_true', Bool.not_eq_false', Bool.and_eq_true, Bool.or_eq_true, decide_true, decide_false, Bool.and_true, Bool.true_and, Bool.false_eq_true, not_false_eq_true, true_and, and_true] at hp); (try rw [hb]); (try clear hb))) | refine ps_pcall (in_awake) ?_ | refine ps_pcall_g (in_awake) ?_ | refine ps_pcall (p1) ?_ | refine ps_pcall_g (p1) ?_ | refine ps_pcall (p2) ?_ | refine ps_pcall_g (p2) ?_ | refine ps_pcall (p3) ?_ | refine ps_pcall_g (p3) ?_ | refine ps_pcall (p4) ?_ | refine ps_pcall_g (p4) ?_ | refine ps_alloc fun g => ?_ | refine ps_box fun g => ?_ | refine ps_store ?_ | refine ps_lit fun g => ?_ | refine pops_nil ?_ | skip) | (refine kd ?_ ?_ ?_; first | refine pstl_end ?_ | (refine pd_split (fun hb => ?_) (fun hb => ?_); (fail_if_success (guard_hyp hb : true = true)); (fail_if_success (guard_hyp hb : false = true)); all_goals (have hp := hb; (try simp only [decide_eq_true_eq, Bool.eq_false_iff, ne_eq, Bool.not_eq_true', Bool.not_eq_false', Bool.and_eq_true, Bool.or_eq_true, decide_true, decide_false, Bool.and_true, Bool.true_and, Bool.false_eq_true, not_false_eq_true, true_and, and_true] at hp); (try rw [hb]); (try clear hb))) | refine pd_pcall (in_awake) ?_ | refine pd_pcall_g (in_awake) ?_ | refine pd_pcall (p1) ?_ | refine pd_pcall_g (p1) ?_ | refine pd_pcall (p2) ?_ | refine pd_pcall_g (p2) ?_ | refine pd_pcall (p3) ?_ | refine pd_pcall_g (p3) ?_ | refine pd_pcall (p4) ?_ | refine pd_pcall_g (p4) ?_ | skip) | refine kct ?_ | refine kcf ?_ | (refine kcs (fun hb => ?_) (fun hb => ?_) <;> (have hp := hb; (try simp only [decide_eq_true_eq, Bool.eq_false_iff, ne_eq, Bool.not_eq_true', Bool.not_eq_false', Bool.and_eq_true, Bool.or_eq_true, decide_true, decide_false, Bool.and_true, Bool.true_and, Bool.false_eq_true, not_false_eq_true, true_and, and_true] at hp); (try rw [hb]); (try clear hb))) | (refine kret ?_; repeat (first | with_reducible refine beh_r ?_ | with_reducible refine blk_r ?_)) | refine kb ?_ | (refine ps_split (fun hb => ?_) (fun hb => ?_); (fail_if_success (guard_hyp hb : true = true)); (fail_if_success (guard_hyp hb : false = true)); all_goals (have hp := hb; (try simp only [decide_eq_true_eq, Bool.eq_false_iff, ne_eq, Bool.not_eq_true', Bool.not_eq_false', Bool.and_eq_true, Bool.or_eq_true, decide_true, decide_false, Bool.and_true, Bool.true_and, Bool.false_eq_true, not_false_eq_true, true_and, and_true] at hp); (try rw [hb]); (try clear hb))) | refine ps_pcall (in_awake) ?_ | refine ps_pcall_g (in_awake) ?_ | refine ps_pcall (p1) ?_ | refine ps_pcall_g (p1) ?_ | refine ps_pcall (p2) ?_ | refine ps_pcall_g (p2) ?_ | refine ps_pcall (p3) ?_ | refine ps_pcall_g (p3) ?_ | refine ps_pcall (p4) ?_ | refine ps_pcall_g (p4) ?_ | refine ps_alloc fun g => ?_ | refine ps_box fun g => ?_ | refine ps_store ?_ | refine ps_lit fun g => ?_ | refine pops_nil ?_ | (refine pd_split (fun hb => ?_) (fun hb => ?_); (fail_if_success (guard_hyp hb : true = true)); (fail_if_success (guard_hyp hb : false = true)); all_goals (have hp := hb; (try simp only [decide_eq_true_eq, Bool.eq_false_iff, ne_eq, Bool.not_eq_true', Bool.not_eq_false', Bool.and_eq_true, Bool.or_eq_true, decide_true, decide_false, Bool.and_true, Bool.true_and, Bool.false_eq_true, not_false_eq_true, true_and, and_true] at hp); (try rw [hb]); (try clear hb))) | refine pd_pcall (in_awake) ?_ | refine pd_pcall_g (in_awake) ?_ | refine pd_pcall (p1) ?_ | refine pd_pcall_g (p1) ?_ | refine pd_pcall (p2) ?_ | refine pd_pcall_g (p2) ?_ | refine pd_pcall (p3) ?_ | refine pd_pcall_g (p3) ?_ | refine pd_pcall (p4) ?_ | refine pd_pcall_g (p4) ?_ | (refine pops_go ?_ ?_ ?_; first | refine pops_end ?_ | (refine ps_split (fun hb => ?_) (fun hb => ?_); (fail_if_success (guard_hyp hb : true = true)); (fail_if_success (guard_hyp hb : false = true)); all_goals (have hp := hb; (try simp only [decide_eq_true_eq, Bool.eq_false_iff, ne_eq, Bool.not_eq_true', Bool.not_eq_false', Bool.and_eq_true, Bool.or_eq_true, decide_true, decide_false, Bool.and_true, Bool.true_and, Bool.false_eq_true, not_false_eq_true, true_and, and_true] at hp); (try rw [hb]); (try clear hb))) | refine ps_pcall (in_awake) ?_ | refine ps_pcall_g (in_awake) ?_ | refine ps_pcall (p1) ?_ | refine ps_pcall_g (p1) ?_ | refine ps_pcall (p2) ?_ | refine ps_pcall_g (p2) ?_ | refine ps_pcall (p3) ?_ | refine ps_pcall_g (p3) ?_ | refine ps_pcall (p4) ?_ | refine ps_pcall_g (p4) ?_ | refine ps_alloc fun g => ?_ | refine ps_box fun g => ?_ | refine ps_store ?_ | refine ps_lit fun g => ?_ | refine pops_nil ?_) | (refine pstl_go ?_ ?_ ?_; first | refine pstl_end ?_ | (refine pd_split (fun hb => ?_) (fun hb => ?_); (fail_if_success (guard_hyp hb : true = true)); (fail_if_success (guard_hyp hb : false = true)); all_goals (have hp := hb; (try simp only [decide_eq_true_eq, Bool.eq_false_iff, ne_eq, Bool.not_eq_true', Bool.not_eq_false', Bool.and_eq_true, Bool.or_eq_true, decide_true, decide_false, Bool.and_true, Bool.true_and, Bool.false_eq_true, not_false_eq_true, true_and, and_true] at hp); (try rw [hb]); (try clear hb))) | refine pd_pcall (in_awake) ?_ | refine pd_pcall_g (in_awake) ?_ | refine pd_pcall (p1) ?_ | refine pd_pcall_g (p1) ?_ | refine pd_pcall (p2) ?_ | refine pd_pcall_g (p2) ?_ | refine pd_pcall (p3) ?_ | refine pd_pcall_g (p3) ?_ | refine pd_pcall (p4) ?_ | refine pd_pcall_g (p4) ?_) | (refine kn ?_; repeat (first | with_reducible refine blk_n ?_ | with_reducible refine beh_n ?_)) | (refine kx ?_; (repeat (first | with_reducible refine beh_x ?_ | with_reducible refine blk_up rfl ?_)); refine blk_here ?_; refine beh_n ?_)))
  all_goals refine ends_ret ?_ retPV_one
  all_goals first
    | rfl
    | (exfalso
       have k := hW (by omega) (by omega)
       have k2 := beq_dec k
       simp only [Bool.decide_and] at k2
       exact absurd k2 (by assumption))
    | (have k := hyz (by omega) (by omega)
       have k2 := beq_dec k
       simp only [Bool.decide_and] at k2
       rw [k2])
end Go.Proofs.Ytaaealngifkaeaa.Pv
