-- LinkTells.
import Derived.Test.YtjbbomchmacdjaaLkH
import Derived.Test.YtjbbomchmacdjaaLkI
import Derived.Test.YtjbbomchmacdjaaSameB
namespace Go.Proofs.Ytjbbomchmacdjaa.Pv
set_option linter.all false
open Go.RowKit Go.Proofs
set_option maxRecDepth 100000
theorem wfu32 {n : Int} (h : (Lit.int .u32 n).wf = true) : 0 ≤ n ∧ n < 4294967296 := by
  simp [Lit.wf, IntKind.min, IntKind.max, IntKind.bits, IntKind.signed] at h
  omega
theorem wfi64 {n : Int} (h : (Lit.int .i64 n).wf = true) : -9223372036854775808 ≤ n ∧ n ≤ 9223372036854775807 := by
  simp [Lit.wf, IntKind.min, IntKind.max, IntKind.bits, IntKind.signed] at h
  omega
/-- Any code that a law may be handed. -/
structure Cd.any (c : Cd) : Prop where
  w : Wd c.W
  n : c.W.length ≤ 140737488351232
  m : c.R.length ≤ 140737488351232
  r : ∀ x ∈ c.R, -9223372036854775808 ≤ x.1 ∧ x.1 ≤ 9223372036854775807
theorem Cd.any.ok {c : Cd} (h : c.any) (hs : c.W.length ≤ 300 ∧ c.R.length ≤ 300) : c.ok := ⟨h.w, by omega, by omega, h.r⟩
theorem rels_of : ∀ {rows : List (List PV)}, (∀ row ∈ rows, SFs [SInt .i64, SBool] row) → ∃ R : List (Int × Bool), rows = relRows R ∧ ∀ x ∈ R, -9223372036854775808 ≤ x.1 ∧ x.1 ≤ 9223372036854775807
  | [], _ => ⟨[], rfl, by simp⟩
  | row :: rows, h => by
    obtain ⟨R, rfl, hR⟩ := rels_of (rows := rows) fun r hr => h r (by simp [hr])
    obtain ⟨p1, q1, e1, ⟨a, rfl, h1⟩, p2, q2, rfl, ⟨b, rfl⟩, rfl⟩ := h row (by simp)
    refine ⟨(a, b) :: R, ?_, ?_⟩
    · rw [e1]; rfl
    · intro x hx
      rcases List.mem_cons.1 hx with rfl | hx
      · exact wfi64 h1
      · exact hR x hx
theorem code_of {row : List PV} (h : SFs [SSl 1 4 (SInt .u32), SSl 2 16 (SFs [SInt .i64, SBool])] row) : ∃ c : Cd, row = c.row ∧ c.any := by
  obtain ⟨p1, q1, e1, ⟨r1, rfl, h1, h2, h3⟩, p2, q2, rfl, ⟨r2, rfl, h4, h5, h6⟩, rfl⟩ := h
  obtain ⟨W, rfl, hW⟩ := rows_ints h3
  obtain ⟨R, rfl, hR⟩ := rels_of h6
  rw [ints_length] at h1
  rw [relRows_length] at h4
  exact ⟨⟨W, R⟩, by rw [e1]; rfl, fun n hn => wfu32 (hW n hn), by simp only; omega, by simp only; omega, hR⟩
theorem codes_of : ∀ {rows : List (List PV)}, (∀ row ∈ rows, SFs [SSl 1 4 (SInt .u32), SSl 2 16 (SFs [SInt .i64, SBool])] row) → ∃ L : List Cd, rows = codeRows L ∧ ∀ c ∈ L, c.any
  | [], _ => ⟨[], rfl, by simp⟩
  | row :: rows, h => by
    obtain ⟨L, rfl, hL⟩ := codes_of (rows := rows) fun r hr => h r (by simp [hr])
    obtain ⟨c, rfl, hc⟩ := code_of (h row (by simp))
    refine ⟨c :: L, rfl, ?_⟩
    intro x hx
    rcases List.mem_cons.1 hx with rfl | hx
    · exact hc
    · exact hL x hx
theorem small14b (c : Cd) (hl : c.any) : PCall Try.prog 22 [c.pv] (.v (.bool (decide (c.W.length ≤ 300 ∧ c.R.length ≤ 300)))) := by
  have hrl := relRows_length c.R
  have hn := hl.n
  have hm := hl.m
  clear hl
  obtain ⟨W, R⟩ := c
  dsimp only at hn hm hrl
  refine pcall_mk Try.func22 rfl [.tmp 2] Try.results22 13 rfl (tk_start ?_)
  unfold Cd.pv Cd.row
  dsimp only
  by_cases h1 : (W.length : Int) ≤ 300
  · by_cases h2 : (R.length : Int) ≤ 300
    · have e : (W.length ≤ 300 ∧ R.length ≤ 300) := by omega
      rw [decide_eq_true e]
      have h2' : ((relRows R).length : Int) ≤ 300 := by omega
      (repeat' (first | refine ka ?_ | refine ksk ?_ | (refine kr ?_ ?_ ?_; first | refine pops_end ?_ | (refine ps_split (fun hb => ?_) (fun hb => ?_); (fail_if_success (guard_hyp hb : true = true)); (fail_if_success (guard_hyp hb : false = true)); all_goals (have hp := hb; (try simp only [decide_eq_true_eq, Bool.eq_false_iff, ne_eq, Bool.not_eq_true', Bool.not_eq_false', Bool.and_eq_true, Bool.or_eq_true, decide_true, decide_false, Bool.and_true, Bool.true_and, Bool.false_eq_true, not_false_eq_true, true_and, and_true] at hp); (try rw [hb]); (try clear hb))) | refine ps_alloc fun g => ?_ | refine ps_box fun g => ?_ | refine ps_store ?_ | refine ps_lit fun g => ?_ | refine pops_nil ?_ | skip) | (refine kd ?_ ?_ ?_; first | refine pstl_end ?_ | (refine pd_split (fun hb => ?_) (fun hb => ?_); (fail_if_success (guard_hyp hb : true = true)); (fail_if_success (guard_hyp hb : false = true)); all_goals (have hp := hb; (try simp only [decide_eq_true_eq, Bool.eq_false_iff, ne_eq, Bool.not_eq_true', Bool.not_eq_false', Bool.and_eq_true, Bool.or_eq_true, decide_true, decide_false, Bool.and_true, Bool.true_and, Bool.false_eq_true, not_false_eq_true, true_and, and_true] at hp); (try rw [hb]); (try clear hb))) | skip) | refine kct ?_ | refine kcf ?_ | (refine kcs (fun hb => ?_) (fun hb => ?_) <;> (have hp := hb; (try simp only [decide_eq_true_eq, Bool.eq_false_iff, ne_eq, Bool.not_eq_true', Bool.not_eq_false', Bool.and_eq_true, Bool.or_eq_true, decide_true, decide_false, Bool.and_true, Bool.true_and, Bool.false_eq_true, not_false_eq_true, true_and, and_true] at hp); (try rw [hb]); (try clear hb))) | (refine kret ?_; repeat (first | with_reducible refine beh_r ?_ | with_reducible refine blk_r ?_)) | refine kb ?_ | (refine ps_split (fun hb => ?_) (fun hb => ?_); (fail_if_success (guard_hyp hb : true = true)); (fail_if_success (guard_hyp hb : false = true)); all_goals (have hp := hb; (try simp only [decide_eq_true_eq, Bool.eq_false_iff, ne_eq, Bool.not_eq_true', Bool.not_eq_false', Bool.and_eq_true, Bool.or_eq_true, decide_true, decide_false, Bool.and_true, Bool.true_and, Bool.false_eq_true, not_false_eq_true, true_and, and_true] at hp); (try rw [hb]); (try clear hb))) | refine ps_alloc fun g => ?_ | refine ps_box fun g => ?_ | refine ps_store ?_ | refine ps_lit fun g => ?_ | refine pops_nil ?_ | (refine pd_split (fun hb => ?_) (fun hb => ?_); (fail_if_success (guard_hyp hb : true = true)); (fail_if_success (guard_hyp hb : false = true)); all_goals (have hp := hb; (try simp only [decide_eq_true_eq, Bool.eq_false_iff, ne_eq, Bool.not_eq_true', Bool.not_eq_false', Bool.and_eq_true, Bool.or_eq_true, decide_true, decide_false, Bool.and_true, Bool.true_and, Bool.false_eq_true, not_false_eq_true, true_and, and_true] at hp); (try rw [hb]); (try clear hb))) | (refine pops_go ?_ ?_ ?_; first | refine pops_end ?_ | (refine ps_split (fun hb => ?_) (fun hb => ?_); (fail_if_success (guard_hyp hb : true = true)); (fail_if_success (guard_hyp hb : false = true)); all_goals (have hp := hb; (try simp only [decide_eq_true_eq, Bool.eq_false_iff, ne_eq, Bool.not_eq_true', Bool.not_eq_false', Bool.and_eq_true, Bool.or_eq_true, decide_true, decide_false, Bool.and_true, Bool.true_and, Bool.false_eq_true, not_false_eq_true, true_and, and_true] at hp); (try rw [hb]); (try clear hb))) | refine ps_alloc fun g => ?_ | refine ps_box fun g => ?_ | refine ps_store ?_ | refine ps_lit fun g => ?_ | refine pops_nil ?_) | (refine pstl_go ?_ ?_ ?_; first | refine pstl_end ?_ | (refine pd_split (fun hb => ?_) (fun hb => ?_); (fail_if_success (guard_hyp hb : true = true)); (fail_if_success (guard_hyp hb : false = true)); all_goals (have hp := hb; (try simp only [decide_eq_true_eq, Bool.eq_false_iff, ne_eq, Bool.not_eq_true', Bool.not_eq_false', Bool.and_eq_true, Bool.or_eq_true, decide_true, decide_false, Bool.and_true, Bool.true_and, Bool.false_eq_true, not_false_eq_true, true_and, and_true] at hp); (try rw [hb]); (try clear hb)))) | (refine kn ?_; repeat (first | with_reducible refine blk_n ?_ | with_reducible refine beh_n ?_)) | (refine kx ?_; (repeat (first | with_reducible refine beh_x ?_ | with_reducible refine blk_up rfl ?_)); refine blk_here ?_; refine beh_n ?_)))
      refine ends_ret ?_ retPV_one
      rfl
    · rw [decide_eq_false (show ¬ (W.length ≤ 300 ∧ R.length ≤ 300) by omega)]
      have h2' : ¬ ((relRows R).length : Int) ≤ 300 := by omega
      (repeat' (first | refine ka ?_ | refine ksk ?_ | (refine kr ?_ ?_ ?_; first | refine pops_end ?_ | (refine ps_split (fun hb => ?_) (fun hb => ?_); (fail_if_success (guard_hyp hb : true = true)); (fail_if_success (guard_hyp hb : false = true)); all_goals (have hp := hb; (try simp only [decide_eq_true_eq, Bool.eq_false_iff, ne_eq, Bool.not_eq_true', Bool.not_eq_false', Bool.and_eq_true, Bool.or_eq_true, decide_true, decide_false, Bool.and_true, Bool.true_and, Bool.false_eq_true, not_false_eq_true, true_and, and_true] at hp); (try rw [hb]); (try clear hb))) | refine ps_alloc fun g => ?_ | refine ps_box fun g => ?_ | refine ps_store ?_ | refine ps_lit fun g => ?_ | refine pops_nil ?_ | skip) | (refine kd ?_ ?_ ?_; first | refine pstl_end ?_ | (refine pd_split (fun hb => ?_) (fun hb => ?_); (fail_if_success (guard_hyp hb : true = true)); (fail_if_success (guard_hyp hb : false = true)); all_goals (have hp := hb; (try simp only [decide_eq_true_eq, Bool.eq_false_iff, ne_eq, Bool.not_eq_true', Bool.not_eq_false', Bool.and_eq_true, Bool.or_eq_true, decide_true, decide_false, Bool.and_true, Bool.true_and, Bool.false_eq_true, not_false_eq_true, true_and, and_true] at hp); (try rw [hb]); (try clear hb))) | skip) | refine kct ?_ | refine kcf ?_ | (refine kcs (fun hb => ?_) (fun hb => ?_) <;> (have hp := hb; (try simp only [decide_eq_true_eq, Bool.eq_false_iff, ne_eq, Bool.not_eq_true', Bool.not_eq_false', Bool.and_eq_true, Bool.or_eq_true, decide_true, decide_false, Bool.and_true, Bool.true_and, Bool.false_eq_true, not_false_eq_true, true_and, and_true] at hp); (try rw [hb]); (try clear hb))) | (refine kret ?_; repeat (first | with_reducible refine beh_r ?_ | with_reducible refine blk_r ?_)) | refine kb ?_ | (refine ps_split (fun hb => ?_) (fun hb => ?_); (fail_if_success (guard_hyp hb : true = true)); (fail_if_success (guard_hyp hb : false = true)); all_goals (have hp := hb; (try simp only [decide_eq_true_eq, Bool.eq_false_iff, ne_eq, Bool.not_eq_true', Bool.not_eq_false', Bool.and_eq_true, Bool.or_eq_true, decide_true, decide_false, Bool.and_true, Bool.true_and, Bool.false_eq_true, not_false_eq_true, true_and, and_true] at hp); (try rw [hb]); (try clear hb))) | refine ps_alloc fun g => ?_ | refine ps_box fun g => ?_ | refine ps_store ?_ | refine ps_lit fun g => ?_ | refine pops_nil ?_ | (refine pd_split (fun hb => ?_) (fun hb => ?_); (fail_if_success (guard_hyp hb : true = true)); (fail_if_success (guard_hyp hb : false = true)); all_goals (have hp := hb; (try simp only [decide_eq_true_eq, Bool.eq_false_iff, ne_eq, Bool.not_eq_true', Bool.not_eq_false', Bool.and_eq_true, Bool.or_eq_true, decide_true, decide_false, Bool.and_true, Bool.true_and, Bool.false_eq_true, not_false_eq_true, true_and, and_true] at hp); (try rw [hb]); (try clear hb))) | (refine pops_go ?_ ?_ ?_; first | refine pops_end ?_ | (refine ps_split (fun hb => ?_) (fun hb => ?_); (fail_if_success (guard_hyp hb : true = true)); (fail_if_success (guard_hyp hb : false = true)); all_goals (have hp := hb; (try simp only [decide_eq_true_eq, Bool.eq_false_iff, ne_eq, Bool.not_eq_true', Bool.not_eq_false', Bool.and_eq_true, Bool.or_eq_true, decide_true, decide_false, Bool.and_true, Bool.true_and, Bool.false_eq_true, not_false_eq_true, true_and, and_true] at hp); (try rw [hb]); (try clear hb))) | refine ps_alloc fun g => ?_ | refine ps_box fun g => ?_ | refine ps_store ?_ | refine ps_lit fun g => ?_ | refine pops_nil ?_) | (refine pstl_go ?_ ?_ ?_; first | refine pstl_end ?_ | (refine pd_split (fun hb => ?_) (fun hb => ?_); (fail_if_success (guard_hyp hb : true = true)); (fail_if_success (guard_hyp hb : false = true)); all_goals (have hp := hb; (try simp only [decide_eq_true_eq, Bool.eq_false_iff, ne_eq, Bool.not_eq_true', Bool.not_eq_false', Bool.and_eq_true, Bool.or_eq_true, decide_true, decide_false, Bool.and_true, Bool.true_and, Bool.false_eq_true, not_false_eq_true, true_and, and_true] at hp); (try rw [hb]); (try clear hb)))) | (refine kn ?_; repeat (first | with_reducible refine blk_n ?_ | with_reducible refine beh_n ?_)) | (refine kx ?_; (repeat (first | with_reducible refine beh_x ?_ | with_reducible refine blk_up rfl ?_)); refine blk_here ?_; refine beh_n ?_)))
      refine ends_ret ?_ retPV_one
      rfl
  · rw [decide_eq_false (show ¬ (W.length ≤ 300 ∧ R.length ≤ 300) by omega)]
    (repeat' (first | refine ka ?_ | refine ksk ?_ | (refine kr ?_ ?_ ?_; first | refine pops_end ?_ | (refine ps_split (fun hb => ?_) (fun hb => ?_); (fail_if_success (guard_hyp hb : true = true)); (fail_if_success (guard_hyp hb : false = true)); all_goals (have hp := hb; (try simp only [decide_eq_true_eq, Bool.eq_false_iff, ne_eq, Bool.not_eq_true', Bool.not_eq_false', Bool.and_eq_true, Bool.or_eq_true, decide_true, decide_false, Bool.and_true, Bool.true_and, Bool.false_eq_true, not_false_eq_true, true_and, and_true] at hp); (try rw [hb]); (try clear hb))) | refine ps_alloc fun g => ?_ | refine ps_box fun g => ?_ | refine ps_store ?_ | refine ps_lit fun g => ?_ | refine pops_nil ?_ | skip) | (refine kd ?_ ?_ ?_; first | refine pstl_end ?_ | (refine pd_split (fun hb => ?_) (fun hb => ?_); (fail_if_success (guard_hyp hb : true = true)); (fail_if_success (guard_hyp hb : false = true)); all_goals (have hp := hb; (try simp only [decide_eq_true_eq, Bool.eq_false_iff, ne_eq, Bool.not_eq_true', Bool.not_eq_false', Bool.and_eq_true, Bool.or_eq_true, decide_true, decide_false, Bool.and_true, Bool.true_and, Bool.false_eq_true, not_false_eq_true, true_and, and_true] at hp); (try rw [hb]); (try clear hb))) | skip) | refine kct ?_ | refine kcf ?_ | (refine kcs (fun hb => ?_) (fun hb => ?_) <;> (have hp := hb; (try simp only [decide_eq_true_eq, Bool.eq_false_iff, ne_eq, Bool.not_eq_true', Bool.not_eq_false', Bool.and_eq_true, Bool.or_eq_true, decide_true, decide_false, Bool.and_true, Bool.true_and, Bool.false_eq_true, not_false_eq_true, true_and, and_true] at hp); (try rw [hb]); (try clear hb))) | (refine kret ?_; repeat (first | with_reducible refine beh_r ?_ | with_reducible refine blk_r ?_)) | refine kb ?_ | (refine ps_split (fun hb => ?_) (fun hb => ?_); (fail_if_success (guard_hyp hb : true = true)); (fail_if_success (guard_hyp hb : false = true)); all_goals (have hp := hb; (try simp only [decide_eq_true_eq, Bool.eq_false_iff, ne_eq, Bool.not_eq_true', Bool.not_eq_false', Bool.and_eq_true, Bool.or_eq_true, decide_true, decide_false, Bool.and_true, Bool.true_and, Bool.false_eq_true, not_false_eq_true, true_and, and_true] at hp); (try rw [hb]); (try clear hb))) | refine ps_alloc fun g => ?_ | refine ps_box fun g => ?_ | refine ps_store ?_ | refine ps_lit fun g => ?_ | refine pops_nil ?_ | (refine pd_split (fun hb => ?_) (fun hb => ?_); (fail_if_success (guard_hyp hb : true = true)); (fail_if_success (guard_hyp hb : false = true)); all_goals (have hp := hb; (try simp only [decide_eq_true_eq, Bool.eq_false_iff, ne_eq, Bool.not_eq_true', Bool.not_eq_false', Bool.and_eq_true, Bool.or_eq_true, decide_true, decide_false, Bool.and_true, Bool.true_and, Bool.false_eq_true, not_false_eq_true, true_and, and_true] at hp); (try rw [hb]); (try clear hb))) | (refine pops_go ?_ ?_ ?_; first | refine pops_end ?_ | (refine ps_split (fun hb => ?_) (fun hb => ?_); (fail_if_success (guard_hyp hb : true = true)); (fail_if_success (guard_hyp hb : false = true)); all_goals (have hp := hb; (try simp only [decide_eq_true_eq, Bool.eq_false_iff, ne_eq, Bool.not_eq_true', Bool.not_eq_false', Bool.and_eq_true, Bool.or_eq_true, decide_true, decide_false, Bool.and_true, Bool.true_and, Bool.false_eq_true, not_false_eq_true, true_and, and_true] at hp); (try rw [hb]); (try clear hb))) | refine ps_alloc fun g => ?_ | refine ps_box fun g => ?_ | refine ps_store ?_ | refine ps_lit fun g => ?_ | refine pops_nil ?_) | (refine pstl_go ?_ ?_ ?_; first | refine pstl_end ?_ | (refine pd_split (fun hb => ?_) (fun hb => ?_); (fail_if_success (guard_hyp hb : true = true)); (fail_if_success (guard_hyp hb : false = true)); all_goals (have hp := hb; (try simp only [decide_eq_true_eq, Bool.eq_false_iff, ne_eq, Bool.not_eq_true', Bool.not_eq_false', Bool.and_eq_true, Bool.or_eq_true, decide_true, decide_false, Bool.and_true, Bool.true_and, Bool.false_eq_true, not_false_eq_true, true_and, and_true] at hp); (try rw [hb]); (try clear hb)))) | (refine kn ?_; repeat (first | with_reducible refine blk_n ?_ | with_reducible refine beh_n ?_)) | (refine kx ?_; (repeat (first | with_reducible refine beh_x ?_ | with_reducible refine blk_up rfl ?_)); refine blk_here ?_; refine beh_n ?_)))
    refine ends_ret ?_ retPV_one
    rfl
theorem codeRows_snoc {L : List Cd} {i : Nat} {c : Cd} (h : L[i]? = some c) : codeRows (L.take (i + 1)) = codeRows (L.take i) ++ [[.ro 1 false (ints .u32 c.W), .ro 2 false (relRows c.R)]] := by
  obtain ⟨h1, h2⟩ := List.getElem?_eq_some_iff.1 h
  rw [List.take_succ_eq_append_getElem h1, h2]
  simp [codeRows, Cd.row]
theorem loadF_length (c : Cd) (b : Int) : (loadF c b).1.length ≤ 4 * c.W.length := by
  unfold loadF
  split
  · simp
  · simp only [bytesF_length, turnGo_length]; omega
theorem lend_rows {S : List Blk} {T : List Nat} {τ g gg len sz : Nat} {o : Bool} {rows : List (List PV)} (hT : τ ∈ T) (hb : S[τ]? = some ⟨gg, o, sz, rows⟩) (hg : gg = g) (hl : rows.length = len) (hp : ∀ row ∈ rows, ∀ x ∈ row, PV.Pure x) : Lend S T (.vw τ g 0 len) (.ro sz false rows) :=
  .vw hT hb hg (by rw [List.drop_zero, ← hl, List.take_length]) hp
theorem tells14 {x0 x1 x2 : PV} (h0 : SSl 2 48 (SFs [SSl 1 4 (SInt .u32), SSl 2 16 (SFs [SInt .i64, SBool])]) [x0]) (h1 : SInt .u32 [x1]) (h2 : SInt .i64 [x2]) : PCall Try.prog 6 [x0, x1, x2] (.v (.bool true)) := by
  obtain ⟨base, rfl, hb⟩ := one_int h1
  obtain ⟨n, rfl, hn⟩ := one_int h2
  have hb := wfu32 hb
  have hn := wfi64 hn
  obtain ⟨rows, e1, hB, hM, hR⟩ := h0
  simp only [List.cons.injEq, and_true] at e1
  subst e1
  obtain ⟨L, rfl, hL⟩ := codes_of hR
  have hcl := codeRows_length L
  rw [hcl] at hB
  clear hR hM h1 h2
  refine pcall_mk Try.func6 rfl [.tmp 6] Try.results6 137 rfl (tk_start ?_)
  (repeat refine ka ?_); refine kr ?_ ?_ (pops_end ?_)
  (repeat refine ka ?_); refine kr ?_ ?_ ?_
  refine ps_pcall awake14 ?_
  refine pops_go ?_ ?_ (pops_end ?_)
  by_cases hk : 20 < (L.length : Int)
  · (repeat refine ka ?_); refine kr ?_ ?_ (pops_end ?_)
    (repeat refine ka ?_); refine kct ?_
    (repeat refine ka ?_); refine kr ?_ ?_ (pops_end ?_)
    (repeat refine ka ?_); refine kret ?_; repeat (first | with_reducible refine beh_r ?_ | with_reducible refine blk_r ?_)
    refine ends_ret ?_ retPV_one
    rfl
  (repeat refine ka ?_); refine kr ?_ ?_ (pops_end ?_)
  (repeat refine ka ?_); refine kcf ?_
  (repeat refine ka ?_); refine ksk ?_
  (repeat refine ka ?_); refine kr ?_ ?_ (pops_end ?_)
  refine kvoid 8 2 (fun g0 => ?_)
  (repeat refine ka ?_); refine kr ?_ ?_ (pops_end ?_)
  (repeat refine ka ?_); refine kb ?_
  refine kw (fun s : Nat × Nat => [(0, .ro 2 false (codeRows L)), (1, .v (.int .u32 base)), (2, .v (.int .i64 n)), (7, .v (.bool true)), (8, .vw 0 s.2 0 s.1), (9, .v (.int .i64 s.1))]) (fun s => [⟨s.2, true, 2, codeRows (L.take s.1)⟩])
    (fun s => s.1 ≤ L.length ∧ ∀ c ∈ L.take s.1, c.W.length ≤ 300 ∧ c.R.length ≤ 300) (fun s => L.length - s.1) (0, g0) (by simp) (holds 1 (by repeat (first | exact .nil | refine has1 ?_))) ?_
  rintro ⟨i, g0⟩ ⟨hi, hs⟩
  simp only at hi hs ⊢
  by_cases h : i < L.length
  · obtain ⟨c, hc⟩ : ∃ c, L[i]? = some c := ⟨L[i], by simp [h]⟩
    have hcm := List.mem_of_getElem? hc
    have hrow := codeRows_get hc
    have hsn := codeRows_snoc hc
    have htl : (codeRows (L.take i)).length = i := by rw [codeRows_length, List.length_take]; omega
    have hca := hL c hcm
    have c1 := small14b c hca
    by_cases hsm : c.W.length ≤ 300 ∧ c.R.length ≤ 300
    rotate_left
    · rw [decide_eq_false hsm] at c1
      unfold Cd.pv Cd.row at c1
      (repeat refine ka ?_); refine kr ?_ ?_ (pops_end ?_)
      (repeat refine ka ?_); refine kct ?_
      (repeat refine ka ?_); refine ksk ?_
      (repeat refine ka ?_); refine kb ?_
      (repeat refine ka ?_); refine kr ?_ ?_ ?_
      refine ps_pcall c1 ?_
      refine pops_go ?_ ?_ (pops_end ?_)
      (repeat refine ka ?_); refine kr ?_ ?_ (pops_end ?_)
      (repeat refine ka ?_); refine kct ?_
      (repeat refine ka ?_); refine kr ?_ ?_ (pops_end ?_)
      (repeat refine ka ?_); refine kret ?_; repeat (first | with_reducible refine beh_r ?_ | with_reducible refine blk_r ?_)
      refine ends_ret ?_ retPV_one
      rfl
    rw [decide_eq_true hsm] at c1
    have hok := hca.ok hsm
    have c2 := own14 c (by omega)
    have c3 := lk_load c hok base hb.1 hb.2
    have c4 := ref_load c hok base hb.1 hb.2
    have c5 := lk_value c hok n hn.1 hn.2
    have c6 := ref_value14 c hok n hn.1 hn.2
    have hll := loadF_length c base
    have c7 := sameb_ok (loadF c base).1 (loadF c base).1 (by omega) (by omega)
    rw [decide_eq_true (rfl : (loadF c base).1 = (loadF c base).1)] at c7
    have c8 := lk_right c hok
    have c9 := ref_right c hok
    unfold Cd.pv Cd.row at c1 c2 c3 c4 c5 c6 c8 c9
    generalize loadF c base = X at *
    generalize valueF c n = Y at *
    generalize c.right = Z at *
    (repeat refine ka ?_); refine kr ?_ ?_ (pops_end ?_)
    (repeat refine ka ?_); refine kct ?_
    (repeat refine ka ?_); refine ksk ?_
    (repeat refine ka ?_); refine kb ?_
    (repeat refine ka ?_); refine kr ?_ ?_ ?_
    refine ps_pcall c1 ?_
    refine pops_go ?_ ?_ (pops_end ?_)
    (repeat refine ka ?_); refine kr ?_ ?_ (pops_end ?_)
    (repeat refine ka ?_); refine kcf ?_
    (repeat refine ka ?_); refine ksk ?_
    (repeat refine ka ?_); refine kr ?_ ?_ ?_
    refine ps_pcall c2 ?_
    refine ps_alloc fun g1 => ?_
    refine ps_store ?_
    refine pops_nil ?_
    (repeat refine ka ?_); refine kr ?_ ?_ ?_
    refine ps_lit fun g2 => ?_
    refine ps_app_vw (rows' := codeRows (L.take (i + 1))) (m := i + 1) (fun g3 => ?_) (hrows := hsn.symm)
    refine pops_go ?_ ?_ (pops_end ?_)
    (repeat refine ka ?_); refine kr ?_ ?_ ?_
    refine ps_pcall c3 ?_
    refine pops_go ?_ ?_ (pops_end ?_)
    (repeat refine ka ?_); refine kr ?_ ?_ ?_
    refine ps_pcall c4 ?_
    refine pops_go ?_ ?_ (pops_end ?_)
    (repeat refine ka ?_); refine kr ?_ ?_ ?_
    refine ps_pcall c5 ?_
    refine pops_go ?_ ?_ (pops_end ?_)
    (repeat refine ka ?_); refine kr ?_ ?_ ?_
    refine ps_pcall c6 ?_
    refine pops_go ?_ ?_ (pops_end ?_)
    (repeat refine ka ?_); refine kr ?_ ?_ ?_
    refine ps_pcall c7 ?_
    refine pops_go ?_ ?_ (pops_end ?_)
    (repeat refine ka ?_); refine kd ?_ ?_ ?_
    refine pd_pcall_g c8 ?_
    refine pstl_go ?_ ?_ ?_
    refine pd_pcall_g c9 ?_
    refine pstl_go ?_ ?_ (pstl_end ?_)
    (repeat refine ka ?_); refine kcf ?_
    (repeat refine ka ?_); refine ksk ?_
    refine kn ?_; repeat (first | with_reducible refine blk_n ?_ | with_reducible refine beh_n ?_)
    (repeat refine ka ?_); refine kr ?_ ?_ (pops_end ?_)
    refine kn ?_; repeat (first | with_reducible refine blk_n ?_ | with_reducible refine beh_n ?_)
    refine ⟨(i + 1, g3), ⟨by simp only; omega, fun x hx => ?_⟩, by simp only; omega, (holds 1 (by repeat (first | exact .nil | refine has1 ?_)))⟩
    simp only at hx
    rw [List.take_succ_eq_append_getElem h] at hx
    rcases List.mem_append.1 hx with hx | hx
    · exact hs x hx
    · simp only [List.mem_singleton] at hx
      rw [List.getElem?_eq_getElem h] at hc
      cases hc
      subst hx
      exact hsm
  · obtain rfl : i = L.length := by omega
    rw [List.take_length] at hs ⊢
    have hLok : ∀ c ∈ L, c.ok := fun c hc => (hL c hc).ok (hs c hc)
    have hL2 : ∀ c ∈ L, c.W.length ≤ 100000 ∧ c.R.length ≤ 100000 := fun c hc => by have := hs c hc; omega
    have c1 := lk_link L hLok hL2 (by omega)
    have c2 := ref_link L hLok hL2 (by omega)
    have hal := allTo_len L 300 hs L.length (Nat.le_refl _)
    have hA : (linkF L).1.W.length ≤ 6000 ∧ (linkF L).1.R.length ≤ 6000 := by
      unfold linkF
      split
      · exact ⟨by decide, by decide⟩
      · split
        · exact ⟨by decide, by decide⟩
        · have h20 : L.length ≤ 20 := by omega
          have := Nat.mul_le_mul_right 300 h20
          simp only; omega
    generalize linkF L = A at *
    obtain ⟨A, e⟩ := A
    dsimp only at c1 c2 hA
    have c3 := own14 A (by omega)
    have c4 := same12 A (by omega) (by omega)
    unfold Cd.pv Cd.row at c1 c2 c3 c4
    (repeat refine ka ?_); refine kr ?_ ?_ (pops_end ?_)
    (repeat refine ka ?_); refine kcf ?_
    (repeat refine ka ?_); refine kx ?_; (repeat (first | with_reducible refine beh_x ?_ | with_reducible refine blk_up rfl ?_)); refine blk_here ?_; refine beh_n ?_
    refine kfreeze 0 ?_
    refine kfzT 8 [0] (y := .ro 2 false (codeRows L)) ?_ (lend_rows (List.mem_singleton.2 rfl) rfl rfl hcl (codeRows_pure L)) (by simp)
    (repeat refine ka ?_); refine kr ?_ ?_ ?_
    refine ps_pcall c1 ?_
    refine pops_go ?_ ?_ ?_
    refine ps_alloc fun g1 => ?_
    refine ps_store ?_
    refine pops_go ?_ ?_ (pops_end ?_)
    (repeat refine ka ?_); refine kr ?_ ?_ ?_
    refine ps_pcall c2 ?_
    refine pops_go ?_ ?_ ?_
    refine ps_alloc fun g2 => ?_
    refine ps_store ?_
    refine pops_go ?_ ?_ (pops_end ?_)
    (repeat refine ka ?_); refine kd ?_ ?_ ?_
    refine pd_pcall c3 ?_
    refine pstl_go ?_ ?_ ?_
    refine pd_pcall c4 ?_
    refine pstl_go ?_ ?_ (pstl_end ?_)
    (repeat refine ka ?_); refine kr ?_ ?_ (pops_end ?_)
    (repeat refine ka ?_); refine kret ?_; repeat (first | with_reducible refine beh_r ?_ | with_reducible refine blk_r ?_)
    refine ends_ret ?_ retPV_one
    rfl
end Go.Proofs.Ytjbbomchmacdjaa.Pv
