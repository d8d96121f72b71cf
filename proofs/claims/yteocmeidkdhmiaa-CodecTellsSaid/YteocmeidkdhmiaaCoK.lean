-- carapacelaw16.CodecTells.
import Derived.Test.YteocmeidkdhmiaaCoI
namespace Go.Proofs.Yteocmeidkdhmiaa.Pv
set_option linter.all false
open Go.RowKit Go.Proofs
set_option maxRecDepth 100000
set_option maxHeartbeats 4000000
theorem packed_of {xs : List PV} (h : SFs [SSl 1 1 (SInt .u8), SInt .i64] xs) : ∃ (b : List Int) (mid : Int), xs = [.ro 1 false (ints .u8 b), .v (.int .i64 mid)] ∧ Oct b := by
  obtain ⟨p0, q0, rfl, ⟨rows, rfl, r1, r2, r3⟩, p1, q1, rfl, ⟨n, rfl, hn⟩, rfl⟩ := h
  obtain ⟨b, e, hb1, hb2⟩ := sl_ints (x := .ro 1 false rows) ⟨rows, rfl, r1, r2, r3⟩
  cases e
  exact ⟨b, n, rfl, wf_u8 hb2⟩
/-- What Put answers. -/
def putR (o : Op5) (st : List Int → List Int) (b : List Int) : List Int × Int × Int := if o.right = false then ([], 0, 1) else if 65536 < b.length then ([], 0, 4) else (c5 o st b, (c3 o b).length, 0)
theorem cputR (o : Op5) (K N : List PV) [hK : PureL K] [hN : PureL N] (hk : K.length = 16) (hn : N.length = 2) (st : List Int → List Int) (b : List Int) (hb : Oct b) (hl : b.length ≤ 1000000)
    (hs : ∀ l, l.length ≤ 1000000 → PCall Try.prog 29 [.agg K, .agg N, .ro 1 false (ints .u8 l)] (.ro 1 false (ints .u8 (st l)))) :
    PCall Try.prog 7 [.agg o.cells, .agg K, .agg N, .ro 1 false (ints .u8 b)] (.tup [.agg [.ro 1 false (ints .u8 (putR o st b).1), .v (.int .i64 (putR o st b).2.1)], .v (.int .i64 (putR o st b).2.2)]) := by
  unfold putR
  cases hr : o.right with
  | false => exact cput_bad1 o K N hk hn b hr
  | true =>
    rw [if_neg (by decide)]
    split
    · exact cput_bad2 o K N hk hn b hr (by omega) (by omega)
    · exact cput_ok o K N hk hn st b hb (by omega) hr (fun l _ h => hs l h)
theorem rputR (o : Op5) (K N : List PV) [hK : PureL K] [hN : PureL N] (hk : K.length = 16) (hn : N.length = 2) (st : List Int → List Int) (b : List Int) (hb : Oct b) (hl : b.length ≤ 1000000)
    (hs : ∀ l, l.length ≤ 1000000 → PCall Try.prog 22 [.agg K, .agg N, .ro 1 false (ints .u8 l)] (.ro 1 false (ints .u8 (st l)))) :
    PCall Try.prog 8 [.agg o.cells, .agg K, .agg N, .ro 1 false (ints .u8 b)] (.tup [.agg [.ro 1 false (ints .u8 (putR o st b).1), .v (.int .i64 (putR o st b).2.1)], .v (.int .i64 (putR o st b).2.2)]) := by
  unfold putR
  cases hr : o.right with
  | false => exact rput16_bad1 o K N hk hn b hr
  | true =>
    rw [if_neg (by decide)]
    split
    · exact rput16_bad2 o K N hk hn b hr (by omega) (by omega)
    · exact rput16_ok o K N hk hn b st hb (by omega) hr (fun l _ h => hs l h)
theorem putR_len (o : Op5) (st : List Int → List Int) (b : List Int) (hb : Oct b) (hst : ∀ l, Oct l → Oct (st l) ∧ (st l).length = l.length ∧ st (st l) = l) : (putR o st b).1.length ≤ 1000000 := by
  unfold putR
  split
  · simp
  split
  · simp
  · have q3 := c3_ok o hb
    have q4 := c4_ok o hb
    unfold c5
    split
    · have := (hst _ q4.1).2.1
      dsimp only
      omega
    · dsimp only
      omega
theorem cback_len (o : Op5) (st : List Int → List Int) (mid raw : Int) {b : List Int} (hb : Oct b) (hst : Oct (e1 o st b) ∧ (e1 o st b).length ≤ 1000000) : (cback o st mid raw b).1.length ≤ 1000000 := by
  have k3 := (back_lz2 o st mid raw hb hst).2
  have k4 := e4_ok o st mid raw k3
  unfold cback
  split
  · simp
  split
  · simp
  split
  · simp
  split
  · simp
  · show (e5 o st mid raw b).length ≤ _
    unfold e5
    split
    · rw [bcjF_length]; exact k4.2
    · exact k4.2
theorem tells16 {x0 x1 x2 : PV} (h0 : ∃ xs, x0 = .agg xs ∧ SCase xs) (h1 : ∃ xs, x1 = .agg xs ∧ SFs [SSl 1 1 (SInt .u8), SInt .i64] xs) (h2 : SInt .i64 [x2]) : PCall Try.prog 3 [x0, x1, x2] (.v (.bool true)) := by
  obtain ⟨xs, rfl, hxs⟩ := h0
  obtain ⟨o, kl, nl, b, rfl, h16, hok, hn2, hnu, hb, hdl⟩ := case_of hxs
  clear hxs
  obtain ⟨ys, rfl, hys⟩ := h1
  obtain ⟨p, mid, rfl, hp⟩ := packed_of hys
  obtain ⟨raw, hraw, _⟩ := h2
  cases hraw
  clear hys
  obtain ⟨st, hst, hs, hs2⟩ := cipher kl nl h16 hok hn2 hnu
  by_cases g : (400 < (b.length : Int) ∧ (b.length : Int) ≤ 65536) ∨ 65600 < (b.length : Int) ∨ 400 < (p.length : Int)
  · clear hst hs hs2 hok hnu
    match kl, h16, nl, hn2 with
    | [k0, k1, k2, k3, k4, k5, k6, k7, k8, k9, k10, k11, k12, k13, k14, k15], _, [n0, n1], _ =>
    obtain ⟨bcj, del, lz, rng, cry⟩ := o
    unfold Op5.cells
    simp only [ci, List.map_cons, List.map_nil, List.cons_append, List.nil_append]
    refine pcall_mk Try.func3 rfl [.tmp 6] Try.results3 140 rfl (tk_start ?_)
    (repeat' (first | refine ka ?_ | refine ksk ?_ | (refine kr ?_ ?_ ?_; first | refine pops_end ?_ | (refine ps_split (fun hb => ?_) (fun hb => ?_); (fail_if_success (guard_hyp hb : true = true)); (fail_if_success (guard_hyp hb : false = true)); all_goals (have hp := hb; (try simp only [decide_eq_true_eq, Bool.eq_false_iff, ne_eq, Bool.not_eq_true', Bool.not_eq_false', Bool.and_eq_true, Bool.or_eq_true, decide_true, decide_false, Bool.and_true, Bool.true_and, Bool.false_eq_true, not_false_eq_true, true_and, and_true] at hp); (try rw [hb]); (try clear hb))) | refine ps_pcall (co_awake) ?_ | refine ps_pcall_g (co_awake) ?_ | refine ps_alloc fun g => ?_ | refine ps_box fun g => ?_ | refine ps_store ?_ | refine ps_lit fun g => ?_ | refine pops_nil ?_ | skip) | (refine kd ?_ ?_ ?_; first | refine pstl_end ?_ | (refine pd_split (fun hb => ?_) (fun hb => ?_); (fail_if_success (guard_hyp hb : true = true)); (fail_if_success (guard_hyp hb : false = true)); all_goals (have hp := hb; (try simp only [decide_eq_true_eq, Bool.eq_false_iff, ne_eq, Bool.not_eq_true', Bool.not_eq_false', Bool.and_eq_true, Bool.or_eq_true, decide_true, decide_false, Bool.and_true, Bool.true_and, Bool.false_eq_true, not_false_eq_true, true_and, and_true] at hp); (try rw [hb]); (try clear hb))) | refine pd_pcall (co_awake) ?_ | refine pd_pcall_g (co_awake) ?_ | skip) | refine kct ?_ | refine kcf ?_ | (refine kcs (fun hb => ?_) (fun hb => ?_) <;> (have hp := hb; (try simp only [decide_eq_true_eq, Bool.eq_false_iff, ne_eq, Bool.not_eq_true', Bool.not_eq_false', Bool.and_eq_true, Bool.or_eq_true, decide_true, decide_false, Bool.and_true, Bool.true_and, Bool.false_eq_true, not_false_eq_true, true_and, and_true] at hp); (try rw [hb]); (try clear hb))) | (refine kret ?_; repeat (first | with_reducible refine beh_r ?_ | with_reducible refine blk_r ?_)) | refine kb ?_ | (refine ps_split (fun hb => ?_) (fun hb => ?_); (fail_if_success (guard_hyp hb : true = true)); (fail_if_success (guard_hyp hb : false = true)); all_goals (have hp := hb; (try simp only [decide_eq_true_eq, Bool.eq_false_iff, ne_eq, Bool.not_eq_true', Bool.not_eq_false', Bool.and_eq_true, Bool.or_eq_true, decide_true, decide_false, Bool.and_true, Bool.true_and, Bool.false_eq_true, not_false_eq_true, true_and, and_true] at hp); (try rw [hb]); (try clear hb))) | refine ps_pcall (co_awake) ?_ | refine ps_pcall_g (co_awake) ?_ | refine ps_alloc fun g => ?_ | refine ps_box fun g => ?_ | refine ps_store ?_ | refine ps_lit fun g => ?_ | refine pops_nil ?_ | (refine pd_split (fun hb => ?_) (fun hb => ?_); (fail_if_success (guard_hyp hb : true = true)); (fail_if_success (guard_hyp hb : false = true)); all_goals (have hp := hb; (try simp only [decide_eq_true_eq, Bool.eq_false_iff, ne_eq, Bool.not_eq_true', Bool.not_eq_false', Bool.and_eq_true, Bool.or_eq_true, decide_true, decide_false, Bool.and_true, Bool.true_and, Bool.false_eq_true, not_false_eq_true, true_and, and_true] at hp); (try rw [hb]); (try clear hb))) | refine pd_pcall (co_awake) ?_ | refine pd_pcall_g (co_awake) ?_ | (refine pops_go ?_ ?_ ?_; first | refine pops_end ?_ | (refine ps_split (fun hb => ?_) (fun hb => ?_); (fail_if_success (guard_hyp hb : true = true)); (fail_if_success (guard_hyp hb : false = true)); all_goals (have hp := hb; (try simp only [decide_eq_true_eq, Bool.eq_false_iff, ne_eq, Bool.not_eq_true', Bool.not_eq_false', Bool.and_eq_true, Bool.or_eq_true, decide_true, decide_false, Bool.and_true, Bool.true_and, Bool.false_eq_true, not_false_eq_true, true_and, and_true] at hp); (try rw [hb]); (try clear hb))) | refine ps_pcall (co_awake) ?_ | refine ps_pcall_g (co_awake) ?_ | refine ps_alloc fun g => ?_ | refine ps_box fun g => ?_ | refine ps_store ?_ | refine ps_lit fun g => ?_ | refine pops_nil ?_) | (refine pstl_go ?_ ?_ ?_; first | refine pstl_end ?_ | (refine pd_split (fun hb => ?_) (fun hb => ?_); (fail_if_success (guard_hyp hb : true = true)); (fail_if_success (guard_hyp hb : false = true)); all_goals (have hp := hb; (try simp only [decide_eq_true_eq, Bool.eq_false_iff, ne_eq, Bool.not_eq_true', Bool.not_eq_false', Bool.and_eq_true, Bool.or_eq_true, decide_true, decide_false, Bool.and_true, Bool.true_and, Bool.false_eq_true, not_false_eq_true, true_and, and_true] at hp); (try rw [hb]); (try clear hb))) | refine pd_pcall (co_awake) ?_ | refine pd_pcall_g (co_awake) ?_) | (refine kn ?_; repeat (first | with_reducible refine blk_n ?_ | with_reducible refine beh_n ?_)) | (refine kx ?_; (repeat (first | with_reducible refine beh_x ?_ | with_reducible refine blk_up rfl ?_)); refine blk_here ?_; refine beh_n ?_)))
    all_goals first | (refine ends_ret ?_ retPV_one; rfl) | (exfalso; omega)
  have hE : Oct (e1 o st p) ∧ (e1 o st p).length ≤ 1000000 := by
    unfold e1
    split
    · exact ⟨(hst p hp).1, by rw [(hst p hp).2.1]; omega⟩
    · exact ⟨hp, by omega⟩
  have c1 := cputR o (ci .u8 kl) (ci .u32 nl) (by rw [ci_length, h16]) (by rw [ci_length, hn2]) st b hb (by omega) hs
  have c2 := rputR o (ci .u8 kl) (ci .u32 nl) (by rw [ci_length, h16]) (by rw [ci_length, hn2]) st b hb (by omega) hs2
  have c3 := cback_ok o (ci .u8 kl) (ci .u32 nl) (by rw [ci_length, h16]) (by rw [ci_length, hn2]) p mid raw st hp (by omega) hE (hs p (by omega))
  have c4 := rback16_ok o (ci .u8 kl) (ci .u32 nl) (by rw [ci_length, h16]) (by rw [ci_length, hn2]) p mid raw st hp (by omega) hE (hs2 p (by omega))
  have l1 := putR_len o st b hb hst
  have l2 := cback_len o st mid raw hp hE
  have c5 := sameb_ok (putR o st b).1 (putR o st b).1 (by omega) (by omega)
  have c6 := sameb_ok (cback o st mid raw p).1 (cback o st mid raw p).1 (by omega) (by omega)
  rw [decide_eq_true rfl] at c5 c6
  have d1 := right_ok o
  have d2 := rright_ok o
  have d3 := byte_ok o
  have d4 := rbyte_ok o
  clear hst hs hs2 hok hnu hE l1 l2
  generalize putR o st b = R at *
  generalize cback o st mid raw p = B at *
  generalize byteTo o 4 = by4 at *
  generalize o.right = rt at *
  obtain ⟨R1, R2, R3⟩ := R
  obtain ⟨B1, B2⟩ := B
  match kl, h16, nl, hn2 with
  | [k0, k1, k2, k3, k4, k5, k6, k7, k8, k9, k10, k11, k12, k13, k14, k15], _, [n0, n1], _ =>
  obtain ⟨bcj, del, lz, rng, cry⟩ := o
  unfold Op5.cells at c1 c2 c3 c4 d1 d2 d3 d4 ⊢
  simp only [ci, List.map_cons, List.map_nil, List.cons_append, List.nil_append] at c1 c2 c3 c4 c5 c6 d1 d2 d3 d4 ⊢
  refine pcall_mk Try.func3 rfl [.tmp 6] Try.results3 140 rfl (tk_start ?_)
  (repeat' (first | refine ka ?_ | refine ksk ?_ | (refine kr ?_ ?_ ?_; first | refine pops_end ?_ | (refine ps_split (fun hb => ?_) (fun hb => ?_); (fail_if_success (guard_hyp hb : true = true)); (fail_if_success (guard_hyp hb : false = true)); all_goals (have hp := hb; (try simp only [decide_eq_true_eq, Bool.eq_false_iff, ne_eq, Bool.not_eq_true', Bool.not_eq_false', Bool.and_eq_true, Bool.or_eq_true, decide_true, decide_false, Bool.and_true, Bool.true_and, Bool.false_eq_true, not_false_eq_true, true_and, and_true] at hp); (try rw [hb]); (try clear hb))) | refine ps_pcall (co_awake) ?_ | refine ps_pcall_g (co_awake) ?_ | refine ps_pcall (c1) ?_ | refine ps_pcall_g (c1) ?_ | refine ps_pcall (c2) ?_ | refine ps_pcall_g (c2) ?_ | refine ps_pcall (c3) ?_ | refine ps_pcall_g (c3) ?_ | refine ps_pcall (c4) ?_ | refine ps_pcall_g (c4) ?_ | refine ps_pcall (c5) ?_ | refine ps_pcall_g (c5) ?_ | refine ps_pcall (c6) ?_ | refine ps_pcall_g (c6) ?_ | refine ps_pcall (d1) ?_ | refine ps_pcall_g (d1) ?_ | refine ps_pcall (d2) ?_ | refine ps_pcall_g (d2) ?_ | refine ps_pcall (d3) ?_ | refine ps_pcall_g (d3) ?_ | refine ps_pcall (d4) ?_ | refine ps_pcall_g (d4) ?_ | refine ps_alloc fun g => ?_ | refine ps_box fun g => ?_ | refine ps_store ?_ | refine ps_lit fun g => ?_ | refine pops_nil ?_ | skip) | (refine kd ?_ ?_ ?_; first | refine pstl_end ?_ | (refine pd_split (fun hb => ?_) (fun hb => ?_); (fail_if_success (guard_hyp hb : true = true)); (fail_if_success (guard_hyp hb : false = true)); all_goals (have hp := hb; (try simp only [decide_eq_true_eq, Bool.eq_false_iff, ne_eq, Bool.not_eq_true', Bool.not_eq_false', Bool.and_eq_true, Bool.or_eq_true, decide_true, decide_false, Bool.and_true, Bool.true_and, Bool.false_eq_true, not_false_eq_true, true_and, and_true] at hp); (try rw [hb]); (try clear hb))) | refine pd_pcall (co_awake) ?_ | refine pd_pcall_g (co_awake) ?_ | refine pd_pcall (c1) ?_ | refine pd_pcall_g (c1) ?_ | refine pd_pcall (c2) ?_ | refine pd_pcall_g (c2) ?_ | refine pd_pcall (c3) ?_ | refine pd_pcall_g (c3) ?_ | refine pd_pcall (c4) ?_ | refine pd_pcall_g (c4) ?_ | refine pd_pcall (c5) ?_ | refine pd_pcall_g (c5) ?_ | refine pd_pcall (c6) ?_ | refine pd_pcall_g (c6) ?_ | refine pd_pcall (d1) ?_ | refine pd_pcall_g (d1) ?_ | refine pd_pcall (d2) ?_ | refine pd_pcall_g (d2) ?_ | refine pd_pcall (d3) ?_ | refine pd_pcall_g (d3) ?_ | refine pd_pcall (d4) ?_ | refine pd_pcall_g (d4) ?_ | skip) | refine kct ?_ | refine kcf ?_ | (refine kcs (fun hb => ?_) (fun hb => ?_) <;> (have hp := hb; (try simp only [decide_eq_true_eq, Bool.eq_false_iff, ne_eq, Bool.not_eq_true', Bool.not_eq_false', Bool.and_eq_true, Bool.or_eq_true, decide_true, decide_false, Bool.and_true, Bool.true_and, Bool.false_eq_true, not_false_eq_true, true_and, and_true] at hp); (try rw [hb]); (try clear hb))) | (refine kret ?_; repeat (first | with_reducible refine beh_r ?_ | with_reducible refine blk_r ?_)) | refine kb ?_ | (refine ps_split (fun hb => ?_) (fun hb => ?_); (fail_if_success (guard_hyp hb : true = true)); (fail_if_success (guard_hyp hb : false = true)); all_goals (have hp := hb; (try simp only [decide_eq_true_eq, Bool.eq_false_iff, ne_eq, Bool.not_eq_true', Bool.not_eq_false', Bool.and_eq_true, Bool.or_eq_true, decide_true, decide_false, Bool.and_true, Bool.true_and, Bool.false_eq_true, not_false_eq_true, true_and, and_true] at hp); (try rw [hb]); (try clear hb))) | refine ps_pcall (co_awake) ?_ | refine ps_pcall_g (co_awake) ?_ | refine ps_pcall (c1) ?_ | refine ps_pcall_g (c1) ?_ | refine ps_pcall (c2) ?_ | refine ps_pcall_g (c2) ?_ | refine ps_pcall (c3) ?_ | refine ps_pcall_g (c3) ?_ | refine ps_pcall (c4) ?_ | refine ps_pcall_g (c4) ?_ | refine ps_pcall (c5) ?_ | refine ps_pcall_g (c5) ?_ | refine ps_pcall (c6) ?_ | refine ps_pcall_g (c6) ?_ | refine ps_pcall (d1) ?_ | refine ps_pcall_g (d1) ?_ | refine ps_pcall (d2) ?_ | refine ps_pcall_g (d2) ?_ | refine ps_pcall (d3) ?_ | refine ps_pcall_g (d3) ?_ | refine ps_pcall (d4) ?_ | refine ps_pcall_g (d4) ?_ | refine ps_alloc fun g => ?_ | refine ps_box fun g => ?_ | refine ps_store ?_ | refine ps_lit fun g => ?_ | refine pops_nil ?_ | (refine pd_split (fun hb => ?_) (fun hb => ?_); (fail_if_success (guard_hyp hb : true = true)); (fail_if_success (guard_hyp hb : false = true)); all_goals (have hp := hb; (try simp only [decide_eq_true_eq, Bool.eq_false_iff, ne_eq, Bool.not_eq_true', Bool.not_eq_false', Bool.and_eq_true, Bool.or_eq_true, decide_true, decide_false, Bool.and_true, Bool.true_and, Bool.false_eq_true, not_false_eq_true, true_and, and_true] at hp); (try rw [hb]); (try clear hb))) | refine pd_pcall (co_awake) ?_ | refine pd_pcall_g (co_awake) ?_ | refine pd_pcall (c1) ?_ | refine pd_pcall_g (c1) ?_ | refine pd_pcall (c2) ?_ | refine pd_pcall_g (c2) ?_ | refine pd_pcall (c3) ?_ | refine pd_pcall_g (c3) ?_ | refine pd_pcall (c4) ?_ | refine pd_pcall_g (c4) ?_ | refine pd_pcall (c5) ?_ | refine pd_pcall_g (c5) ?_ | refine pd_pcall (c6) ?_ | refine pd_pcall_g (c6) ?_ | refine pd_pcall (d1) ?_ | refine pd_pcall_g (d1) ?_ | refine pd_pcall (d2) ?_ | refine pd_pcall_g (d2) ?_ | refine pd_pcall (d3) ?_ | refine pd_pcall_g (d3) ?_ | refine pd_pcall (d4) ?_ | refine pd_pcall_g (d4) ?_ | (refine pops_go ?_ ?_ ?_; first | refine pops_end ?_ | (refine ps_split (fun hb => ?_) (fun hb => ?_); (fail_if_success (guard_hyp hb : true = true)); (fail_if_success (guard_hyp hb : false = true)); all_goals (have hp := hb; (try simp only [decide_eq_true_eq, Bool.eq_false_iff, ne_eq, Bool.not_eq_true', Bool.not_eq_false', Bool.and_eq_true, Bool.or_eq_true, decide_true, decide_false, Bool.and_true, Bool.true_and, Bool.false_eq_true, not_false_eq_true, true_and, and_true] at hp); (try rw [hb]); (try clear hb))) | refine ps_pcall (co_awake) ?_ | refine ps_pcall_g (co_awake) ?_ | refine ps_pcall (c1) ?_ | refine ps_pcall_g (c1) ?_ | refine ps_pcall (c2) ?_ | refine ps_pcall_g (c2) ?_ | refine ps_pcall (c3) ?_ | refine ps_pcall_g (c3) ?_ | refine ps_pcall (c4) ?_ | refine ps_pcall_g (c4) ?_ | refine ps_pcall (c5) ?_ | refine ps_pcall_g (c5) ?_ | refine ps_pcall (c6) ?_ | refine ps_pcall_g (c6) ?_ | refine ps_pcall (d1) ?_ | refine ps_pcall_g (d1) ?_ | refine ps_pcall (d2) ?_ | refine ps_pcall_g (d2) ?_ | refine ps_pcall (d3) ?_ | refine ps_pcall_g (d3) ?_ | refine ps_pcall (d4) ?_ | refine ps_pcall_g (d4) ?_ | refine ps_alloc fun g => ?_ | refine ps_box fun g => ?_ | refine ps_store ?_ | refine ps_lit fun g => ?_ | refine pops_nil ?_) | (refine pstl_go ?_ ?_ ?_; first | refine pstl_end ?_ | (refine pd_split (fun hb => ?_) (fun hb => ?_); (fail_if_success (guard_hyp hb : true = true)); (fail_if_success (guard_hyp hb : false = true)); all_goals (have hp := hb; (try simp only [decide_eq_true_eq, Bool.eq_false_iff, ne_eq, Bool.not_eq_true', Bool.not_eq_false', Bool.and_eq_true, Bool.or_eq_true, decide_true, decide_false, Bool.and_true, Bool.true_and, Bool.false_eq_true, not_false_eq_true, true_and, and_true] at hp); (try rw [hb]); (try clear hb))) | refine pd_pcall (co_awake) ?_ | refine pd_pcall_g (co_awake) ?_ | refine pd_pcall (c1) ?_ | refine pd_pcall_g (c1) ?_ | refine pd_pcall (c2) ?_ | refine pd_pcall_g (c2) ?_ | refine pd_pcall (c3) ?_ | refine pd_pcall_g (c3) ?_ | refine pd_pcall (c4) ?_ | refine pd_pcall_g (c4) ?_ | refine pd_pcall (c5) ?_ | refine pd_pcall_g (c5) ?_ | refine pd_pcall (c6) ?_ | refine pd_pcall_g (c6) ?_ | refine pd_pcall (d1) ?_ | refine pd_pcall_g (d1) ?_ | refine pd_pcall (d2) ?_ | refine pd_pcall_g (d2) ?_ | refine pd_pcall (d3) ?_ | refine pd_pcall_g (d3) ?_ | refine pd_pcall (d4) ?_ | refine pd_pcall_g (d4) ?_) | (refine kn ?_; repeat (first | with_reducible refine blk_n ?_ | with_reducible refine beh_n ?_)) | (refine kx ?_; (repeat (first | with_reducible refine beh_x ?_ | with_reducible refine blk_up rfl ?_)); refine blk_here ?_; refine beh_n ?_)))
  all_goals first | (refine ends_ret ?_ retPV_one; rfl) | (exfalso; omega) | skip
end Go.Proofs.Yteocmeidkdhmiaa.Pv
