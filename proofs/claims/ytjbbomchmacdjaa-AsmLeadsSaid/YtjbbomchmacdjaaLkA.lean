-- link: code, as lists; own, small, pair, told.
import Derived.Test.YtjbbomchmacdjaaInG
namespace Go.Proofs.Ytjbbomchmacdjaa.Pv
set_option linter.all false
open Go.RowKit Go.Proofs
set_option maxRecDepth 100000
set_option maxHeartbeats 4000000
def relRows (R : List (Int × Bool)) : List (List PV) := R.map fun r => [.v (.int .i64 r.1), .v (.bool r.2)]
theorem relRows_length (R : List (Int × Bool)) : (relRows R).length = R.length := by simp [relRows]
theorem relRows_snoc (R : List (Int × Bool)) (r : Int × Bool) : relRows R ++ [[.v (.int .i64 r.1), .v (.bool r.2)]] = relRows (R ++ [r]) := by simp [relRows]
theorem relRows_get {R : List (Int × Bool)} {i : Nat} {r : Int × Bool} (h : R[i]? = some r) : (relRows R)[((i : Nat) : Int).toNat]? = some [.v (.int .i64 r.1), .v (.bool r.2)] := by
  rw [Int.toNat_natCast, relRows, List.getElem?_map, h]; rfl
theorem relRows_pure (R : List (Int × Bool)) : ∀ row ∈ relRows R, ∀ x ∈ row, PV.Pure x := by
  intro row hr x hx
  obtain ⟨r, _, rfl⟩ := List.mem_map.1 hr
  simp only [List.mem_cons, List.not_mem_nil, or_false] at hx
  rcases hx with rfl | rfl <;> exact .v _
instance (sz : Nat) (f : Bool) (R : List (Int × Bool)) : PureC (.ro sz f (relRows R)) := ⟨.ro (relRows_pure R)⟩
/-- Code. -/
structure Cd where
  W : List Int
  R : List (Int × Bool)
def Cd.row (c : Cd) : List PV := [.ro 1 false (ints .u32 c.W), .ro 2 false (relRows c.R)]
def Cd.pv (c : Cd) : PV := .agg c.row
instance (c : Cd) : PureL c.row := ⟨fun x hx => by
  simp only [Cd.row, List.mem_cons, List.not_mem_nil, or_false] at hx
  rcases hx with rfl | rfl
  · exact ints_pure _ _ _ _
  · exact .ro (relRows_pure _)⟩
instance (c : Cd) : PureC c.pv := ⟨.agg (PureL.h (xs := c.row))⟩
theorem gives_rows {S : List Blk} {τ g gg len sz : Nat} {o : Bool} {rows : List (List PV)} (hb : S[τ]? = some ⟨gg, o, sz, rows⟩) (hg : gg = g) (hl : rows.length = len) (hp : ∀ row ∈ rows, ∀ x ∈ row, PV.Pure x) : Gives S (.vw τ g 0 len) (.ro sz false rows) :=
  .vw hb hg (by rw [List.drop_zero, ← hl, List.take_length]) hp
theorem gives_agg2 {S : List Blk} {x y x' y' : PV} (h : Gives S x x') (k : Gives S y y') : Gives S (.agg [x, y]) (.agg [x', y']) := .agg rfl fun i a b ha hb => by
  match i, ha, hb with
  | 0, ha, hb => simp at ha hb; subst ha hb; exact h
  | 1, ha, hb => simp at ha hb; subst ha hb; exact k
  | i + 2, ha, hb => simp at ha
theorem own14 (c : Cd) (hl : c.R.length ≤ 1000000) : PCall Try.prog 23 [c.pv] c.pv := by
  have hrl := relRows_length c.R
  obtain ⟨W, R⟩ := c
  dsimp only at hl hrl
  refine pcall_mkg Try.func23 rfl [.cell 2 44] Try.results23 26 rfl (tk_start ?_)
  unfold Cd.pv Cd.row
  dsimp only
  (repeat refine ka ?_); refine kr ?_ ?_ ?_
  refine ps_box fun g0 => ?_
  refine ps_alloc fun g1 => ?_
  refine pops_nil ?_
  (repeat refine ka ?_); refine kr ?_ ?_ ?_
  refine ps_alloc fun g2 => ?_
  refine ps_store ?_
  refine pops_nil ?_
  (repeat refine ka ?_)
  refine kvoidc 2 1 2 (i := 0) (fun g3 => ?_)
  (repeat refine ka ?_); refine kr ?_ ?_ (pops_end ?_)
  (repeat refine ka ?_); refine kb ?_
  refine kw (fun s : Nat × Nat => [(1, .ptr 0 g0 0 0), (2, .ptr 1 g1 0 0), (3, .ptr 2 g2 0 0), (4, .v (.int .i64 s.1))]) (fun s => [⟨g0, true, 2, [[.ro 1 false (ints .u32 W), .ro 2 false (relRows R)]]⟩, ⟨g1, true, 2, [[.v (.slice none 0 0), .v (.slice none 0 0)]]⟩, ⟨g2, true, 2, [[.ro 1 false (ints .u32 W), .vw 3 s.2 0 s.1]]⟩, ⟨s.2, true, 2, relRows (R.take s.1)⟩])
    (fun s => s.1 ≤ R.length) (fun s => R.length - s.1) (0, g3) (by simp) (holds 4 (by repeat (first | exact .nil | refine has1 ?_))) ?_
  rintro ⟨i, g3⟩ hi
  simp only at hi ⊢
  have htl : (relRows (R.take i)).length = i := by rw [relRows_length, List.length_take]; omega
  by_cases h : i < R.length
  · obtain ⟨r, hr⟩ : ∃ r, R[i]? = some r := ⟨R[i], by simp [h]⟩
    have hrow := relRows_get hr
    have hts : relRows (R.take (i + 1)) = relRows (R.take i) ++ [[.v (.int .i64 r.1), .v (.bool r.2)]] := by
      rw [relRows_snoc, List.take_succ_eq_append_getElem h]
      congr 3
      rw [List.getElem?_eq_getElem h] at hr
      exact Option.some.inj hr
    (repeat refine ka ?_); refine kr ?_ ?_ (pops_end ?_)
    (repeat refine ka ?_); refine kct ?_
    (repeat refine ka ?_); refine ksk ?_
    (repeat refine ka ?_); refine kb ?_
    (repeat refine ka ?_); refine kds [0, 1, 2, 3, 4, 5, 6, 9] [7, 8, 10] ?_
    refine pstl_go ?_ ?_ (pstl_end ?_)
    refine hs_w [2, 3, 4, 5, 6] [0, 1, 9] ?_ (by refine pstl_go ?_ ?_ (pstl_end ?_); exact rfl); refine pstl_go ?_ ?_ (pstl_end ?_); refine ⟨rfl, ?_⟩
    refine ps_lit (fun g4 => ?_)
    refine pops_nil ?_
    refine hs_w [0, 1] [9] ?_ (by refine pstl_go ?_ ?_ (pstl_end ?_); exact rfl); refine pstl_go ?_ ?_ (pstl_end ?_); refine ⟨rfl, ?_⟩
    refine ps_app_vw (rows' := relRows (R.take (i + 1))) (fun g5 => ?_) (hrows := hts.symm) (hlen := htl.symm) (hsrc := by simp [srcRows, PS.get, look])
    refine pops_nil ?_
    refine hs_w [9] [] ?_ (by refine pstl_go ?_ ?_ (pstl_end ?_); exact rfl); refine pstl_go ?_ ?_ (pstl_end ?_); refine ⟨rfl, ?_⟩
    refine ps_store ?_
    refine pops_nil ?_
    refine hs_end ?_; refine pstl_go ?_ ?_ (pstl_end ?_); refine ⟨rfl, ?_⟩
    refine kn ?_; repeat (first | with_reducible refine blk_n ?_ | with_reducible refine beh_n ?_)
    (repeat refine ka ?_); refine kr ?_ ?_ (pops_end ?_)
    refine kn ?_; repeat (first | with_reducible refine blk_n ?_ | with_reducible refine beh_n ?_)
    exact ⟨(i + 1, g5), by simp only; omega, by simp only; omega, (holds 4 (by repeat (first | exact .nil | refine has1 ?_)))⟩
  · obtain rfl : i = R.length := by omega
    rw [List.take_length] at htl ⊢
    have htl' := htl
    (repeat refine ka ?_); refine kr ?_ ?_ (pops_end ?_)
    (repeat refine ka ?_); refine kcf ?_
    (repeat refine ka ?_); refine kx ?_; (repeat (first | with_reducible refine beh_x ?_ | with_reducible refine blk_up rfl ?_)); refine blk_here ?_; refine beh_n ?_
    (repeat refine ka ?_); refine kr ?_ ?_ ?_
    refine ps_store ?_
    refine pops_nil ?_
    (repeat refine ka ?_); refine kret ?_; repeat (first | with_reducible refine beh_r ?_ | with_reducible refine blk_r ?_)
    refine ends_ret ?_ (retPV_1 res_cella)
    exact gives_agg2 (.same (ints_pure _ _ _ _)) (gives_rows rfl rfl htl' (relRows_pure _))
theorem small14 (c : Cd) (hl : c.R.length ≤ 1000000000) : PCall Try.prog 22 [c.pv] (.v (.bool (decide (c.W.length ≤ 300 ∧ c.R.length ≤ 300)))) := by
  have hrl := relRows_length c.R
  obtain ⟨W, R⟩ := c
  dsimp only at hl hrl
  refine pcall_mk Try.func22 rfl [.tmp 2] Try.results22 13 rfl (tk_start ?_)
  unfold Cd.pv Cd.row
  dsimp only
  by_cases h1 : (W.length : Int) ≤ 300
  · by_cases h2 : (R.length : Int) ≤ 300
    · have e : (W.length ≤ 300 ∧ R.length ≤ 300) := by omega
      rw [decide_eq_true e]
      have h2' : ((relRows R).length : Int) ≤ 300 := by omega
      (repeat' (first | refine ka ?_ | refine ksk ?_ | (refine kr ?_ ?_ ?_; first | refine pops_end ?_ | (refine ps_split (fun hb => ?_) (fun hb => ?_); (fail_if_success (guard_hyp hb : true = true)); (fail_if_success (guard_hyp hb : false = true)); all_goals (have hp := hb; (try simp only [decide_eq_true_eq, Bool.eq_false_iff, ne_eq, Bool.not_eq_true', Bool.not_eq_false', Bool.and_eq_true, Bool.or_eq_true, decide_true, decide_false, Bool.and_true, Bool.true_and, Bool.false_eq_true, not_false_eq_true, true_and, and_true] at hp); (try rw [hb]); (try clear hb))) | refine ps_alloc fun g => ?_ | refine ps_box fun g => ?_ | refine ps_store ?_ | refine ps_lit fun g => ?_ | refine pops_nil ?_ | skip) | (refine kd ?_ ?_ ?_; first | refine pstl_end ?_ | (refine pd_split (fun hb => ?_) (fun hb => ?_); (fail_if_success (guard_hyp hb : true = true)); (fail_if_success (guard_hyp hb : false = true)); all_goals (have hp := hb; (try simp only [decide_eq_true_eq, Bool.eq_false_iff, ne_eq, Bool.not_eq_true', Bool.not_eq_false', Bool.and_eq_true, Bool.or_eq_true, decide_true, decide_false, Bool.and_true, Bool.true_and, Bool.false_eq_true, not_false_eq_true, true_and, and_true] at hp); (try rw [hb]); (try clear hb))) | skip) | refine kct ?_ | refine kcf ?_ | (refine kcs (fun hb => ?_) (fun hb => ?_) <;> (have hp := hb; (try simp only [decide_eq_true_eq, Bool.eq_false_iff, ne_eq, Bool.not_eq_true', Bool.not_eq_false', Bool.and_eq_true, Bool.or_eq_true, decide_true, decide_false, Bool.and_true, Bool.true_and, Bool.false_eq_true, not_false_eq_true, true_and, and_true] at hp); (try rw [hb]); (try clear hb))) | (refine kret ?_; repeat (first | with_reducible refine beh_r ?_ | with_reducible refine blk_r ?_)) | refine kb ?_ | (refine ps_split (fun hb => ?_) (fun hb => ?_); (fail_if_success (guard_hyp hb : true = true)); (fail_if_success (guard_hyp hb : false = true)); all_goals (have hp := hb; (try simp only [decide_eq_true_eq, Bool.eq_false_iff, ne_eq, Bool.not_eq_true', Bool.not_eq_false', Bool.and_eq_true, Bool.or_eq_true, decide_true, decide_false, Bool.and_true, Bool.true_and, Bool.false_eq_true, not_false_eq_true, true_and, and_true] at hp); (try rw [hb]); (try clear hb))) | refine ps_alloc fun g => ?_ | refine ps_box fun g => ?_ | refine ps_store ?_ | refine ps_lit fun g => ?_ | refine pops_nil ?_ | (refine pd_split (fun hb => ?_) (fun hb => ?_); (fail_if_success (guard_hyp hb : true = true)); (fail_if_success (guard_hyp hb : false = true)); all_goals (have hp := hb; (try simp only [decide_eq_true_eq, Bool.eq_false_iff, ne_eq, Bool.not_eq_true', Bool.not_eq_false', Bool.and_eq_true, Bool.or_eq_true, decide_true, decide_false, Bool.and_true, Bool.true_and, Bool.false_eq_true, not_false_eq_true, true_and, and_true] at hp); (try rw [hb]); (try clear hb))) | (refine pops_go ?_ ?_ ?_; first | refine pops_end ?_ | (refine ps_split (fun hb => ?_) (fun hb => ?_); (fail_if_success (guard_hyp hb : true = true)); (fail_if_success (guard_hyp hb : false = true)); all_goals (have hp := hb; (try simp only [decide_eq_true_eq, Bool.eq_false_iff, ne_eq, Bool.not_eq_true', Bool.not_eq_false', Bool.and_eq_true, Bool.or_eq_true, decide_true, decide_false, Bool.and_true, Bool.true_and, Bool.false_eq_true, not_false_eq_true, true_and, and_true] at hp); (try rw [hb]); (try clear hb))) | refine ps_alloc fun g => ?_ | refine ps_box fun g => ?_ | refine ps_store ?_ | refine ps_lit fun g => ?_ | refine pops_nil ?_) | (refine pstl_go ?_ ?_ ?_; first | refine pstl_end ?_ | (refine pd_split (fun hb => ?_) (fun hb => ?_); (fail_if_success (guard_hyp hb : true = true)); (fail_if_success (guard_hyp hb : false = true)); all_goals (have hp := hb; (try simp only [decide_eq_true_eq, Bool.eq_false_iff, ne_eq, Bool.not_eq_true', Bool.not_eq_false', Bool.and_eq_true, Bool.or_eq_true, decide_true, decide_false, Bool.and_true, Bool.true_and, Bool.false_eq_true, not_false_eq_true, true_and, and_true] at hp); (try rw [hb]); (try clear hb)))) | (refine kn ?_; repeat (first | with_reducible refine blk_n ?_ | with_reducible refine beh_n ?_)) | (refine kx ?_; (repeat (first | with_reducible refine beh_x ?_ | with_reducible refine blk_up rfl ?_)); refine blk_here ?_; refine beh_n ?_)))
      refine ends_ret ?_ retPV_one
      rfl
    · rw [decide_eq_false (show ¬ (W.length ≤ 300 ∧ R.length ≤ 300) by omega)]
      have h2' : ¬ ((relRows R).length : Int) ≤ 300 := by omega
      (repeat' (first | refine ka ?_ | refine ksk ?_ | (refine kr ?_ ?_ ?_; first | refine pops_end ?_ | (refine ps_split (fun hb => ?_) (fun hb => ?_); (fail_if_success (guard_hyp hb : true = true)); (fail_if_success (guard_hyp hb : false = true)); all_goals (have hp := hb; (try simp only [decide_eq_true_eq, Bool.eq_false_iff, ne_eq, Bool.not_eq_true', Bool.not_eq_false', Bool.and_eq_true, Bool.or_eq_true, decide_true, decide_false, Bool.and_true, Bool.true_and, Bool.false_eq_true, not_false_eq_true, true_and, and_true] at hp); (try rw [hb]); (try clear hb))) | refine ps_alloc fun g => ?_ | refine ps_box fun g => ?_ | refine ps_store ?_ | refine ps_lit fun g => ?_ | refine pops_nil ?_ | skip) | (refine kd ?_ ?_ ?_; first | refine pstl_end ?_ | (refine pd_split (fun hb => ?_) (fun hb => ?_); (fail_if_success (guard_hyp hb : true = true)); (fail_if_success (guard_hyp hb : false = true)); all_goals (have hp := hb; (try simp only [decide_eq_true_eq, Bool.eq_false_iff, ne_eq, Bool.not_eq_true', Bool.not_eq_false', Bool.and_eq_true, Bool.or_eq_true, decide_true, decide_false, Bool.and_true, Bool.true_and, Bool.false_eq_true, not_false_eq_true, true_and, and_true] at hp); (try rw [hb]); (try clear hb))) | skip) | refine kct ?_ | refine kcf ?_ | (refine kcs (fun hb => ?_) (fun hb => ?_) <;> (have hp := hb; (try simp only [decide_eq_true_eq, Bool.eq_false_iff, ne_eq, Bool.not_eq_true', Bool.not_eq_false', Bool.and_eq_true, Bool.or_eq_true, decide_true, decide_false, Bool.and_true, Bool.true_and, Bool.false_eq_true, not_false_eq_true, true_and, and_true] at hp); (try rw [hb]); (try clear hb))) | (refine kret ?_; repeat (first | with_reducible refine beh_r ?_ | with_reducible refine blk_r ?_)) | refine kb ?_ | (refine ps_split (fun hb => ?_) (fun hb => ?_); (fail_if_success (guard_hyp hb : true = true)); (fail_if_success (guard_hyp hb : false = true)); all_goals (have hp := hb; (try simp only [decide_eq_true_eq, Bool.eq_false_iff, ne_eq, Bool.not_eq_true', Bool.not_eq_false', Bool.and_eq_true, Bool.or_eq_true, decide_true, decide_false, Bool.and_true, Bool.true_and, Bool.false_eq_true, not_false_eq_true, true_and, and_true] at hp); (try rw [hb]); (try clear hb))) | refine ps_alloc fun g => ?_ | refine ps_box fun g => ?_ | refine ps_store ?_ | refine ps_lit fun g => ?_ | refine pops_nil ?_ | (refine pd_split (fun hb => ?_) (fun hb => ?_); (fail_if_success (guard_hyp hb : true = true)); (fail_if_success (guard_hyp hb : false = true)); all_goals (have hp := hb; (try simp only [decide_eq_true_eq, Bool.eq_false_iff, ne_eq, Bool.not_eq_true', Bool.not_eq_false', Bool.and_eq_true, Bool.or_eq_true, decide_true, decide_false, Bool.and_true, Bool.true_and, Bool.false_eq_true, not_false_eq_true, true_and, and_true] at hp); (try rw [hb]); (try clear hb))) | (refine pops_go ?_ ?_ ?_; first | refine pops_end ?_ | (refine ps_split (fun hb => ?_) (fun hb => ?_); (fail_if_success (guard_hyp hb : true = true)); (fail_if_success (guard_hyp hb : false = true)); all_goals (have hp := hb; (try simp only [decide_eq_true_eq, Bool.eq_false_iff, ne_eq, Bool.not_eq_true', Bool.not_eq_false', Bool.and_eq_true, Bool.or_eq_true, decide_true, decide_false, Bool.and_true, Bool.true_and, Bool.false_eq_true, not_false_eq_true, true_and, and_true] at hp); (try rw [hb]); (try clear hb))) | refine ps_alloc fun g => ?_ | refine ps_box fun g => ?_ | refine ps_store ?_ | refine ps_lit fun g => ?_ | refine pops_nil ?_) | (refine pstl_go ?_ ?_ ?_; first | refine pstl_end ?_ | (refine pd_split (fun hb => ?_) (fun hb => ?_); (fail_if_success (guard_hyp hb : true = true)); (fail_if_success (guard_hyp hb : false = true)); all_goals (have hp := hb; (try simp only [decide_eq_true_eq, Bool.eq_false_iff, ne_eq, Bool.not_eq_true', Bool.not_eq_false', Bool.and_eq_true, Bool.or_eq_true, decide_true, decide_false, Bool.and_true, Bool.true_and, Bool.false_eq_true, not_false_eq_true, true_and, and_true] at hp); (try rw [hb]); (try clear hb)))) | (refine kn ?_; repeat (first | with_reducible refine blk_n ?_ | with_reducible refine beh_n ?_)) | (refine kx ?_; (repeat (first | with_reducible refine beh_x ?_ | with_reducible refine blk_up rfl ?_)); refine blk_here ?_; refine beh_n ?_)))
      refine ends_ret ?_ retPV_one
      rfl
  · rw [decide_eq_false (show ¬ (W.length ≤ 300 ∧ R.length ≤ 300) by omega)]
    (repeat' (first | refine ka ?_ | refine ksk ?_ | (refine kr ?_ ?_ ?_; first | refine pops_end ?_ | (refine ps_split (fun hb => ?_) (fun hb => ?_); (fail_if_success (guard_hyp hb : true = true)); (fail_if_success (guard_hyp hb : false = true)); all_goals (have hp := hb; (try simp only [decide_eq_true_eq, Bool.eq_false_iff, ne_eq, Bool.not_eq_true', Bool.not_eq_false', Bool.and_eq_true, Bool.or_eq_true, decide_true, decide_false, Bool.and_true, Bool.true_and, Bool.false_eq_true, not_false_eq_true, true_and, and_true] at hp); (try rw [hb]); (try clear hb))) | refine ps_alloc fun g => ?_ | refine ps_box fun g => ?_ | refine ps_store ?_ | refine ps_lit fun g => ?_ | refine pops_nil ?_ | skip) | (refine kd ?_ ?_ ?_; first | refine pstl_end ?_ | (refine pd_split (fun hb => ?_) (fun hb => ?_); (fail_if_success (guard_hyp hb : true = true)); (fail_if_success (guard_hyp hb : false = true)); all_goals (have hp := hb; (try simp only [decide_eq_true_eq, Bool.eq_false_iff, ne_eq, Bool.not_eq_true', Bool.not_eq_false', Bool.and_eq_true, Bool.or_eq_true, decide_true, decide_false, Bool.and_true, Bool.true_and, Bool.false_eq_true, not_false_eq_true, true_and, and_true] at hp); (try rw [hb]); (try clear hb))) | skip) | refine kct ?_ | refine kcf ?_ | (refine kcs (fun hb => ?_) (fun hb => ?_) <;> (have hp := hb; (try simp only [decide_eq_true_eq, Bool.eq_false_iff, ne_eq, Bool.not_eq_true', Bool.not_eq_false', Bool.and_eq_true, Bool.or_eq_true, decide_true, decide_false, Bool.and_true, Bool.true_and, Bool.false_eq_true, not_false_eq_true, true_and, and_true] at hp); (try rw [hb]); (try clear hb))) | (refine kret ?_; repeat (first | with_reducible refine beh_r ?_ | with_reducible refine blk_r ?_)) | refine kb ?_ | (refine ps_split (fun hb => ?_) (fun hb => ?_); (fail_if_success (guard_hyp hb : true = true)); (fail_if_success (guard_hyp hb : false = true)); all_goals (have hp := hb; (try simp only [decide_eq_true_eq, Bool.eq_false_iff, ne_eq, Bool.not_eq_true', Bool.not_eq_false', Bool.and_eq_true, Bool.or_eq_true, decide_true, decide_false, Bool.and_true, Bool.true_and, Bool.false_eq_true, not_false_eq_true, true_and, and_true] at hp); (try rw [hb]); (try clear hb))) | refine ps_alloc fun g => ?_ | refine ps_box fun g => ?_ | refine ps_store ?_ | refine ps_lit fun g => ?_ | refine pops_nil ?_ | (refine pd_split (fun hb => ?_) (fun hb => ?_); (fail_if_success (guard_hyp hb : true = true)); (fail_if_success (guard_hyp hb : false = true)); all_goals (have hp := hb; (try simp only [decide_eq_true_eq, Bool.eq_false_iff, ne_eq, Bool.not_eq_true', Bool.not_eq_false', Bool.and_eq_true, Bool.or_eq_true, decide_true, decide_false, Bool.and_true, Bool.true_and, Bool.false_eq_true, not_false_eq_true, true_and, and_true] at hp); (try rw [hb]); (try clear hb))) | (refine pops_go ?_ ?_ ?_; first | refine pops_end ?_ | (refine ps_split (fun hb => ?_) (fun hb => ?_); (fail_if_success (guard_hyp hb : true = true)); (fail_if_success (guard_hyp hb : false = true)); all_goals (have hp := hb; (try simp only [decide_eq_true_eq, Bool.eq_false_iff, ne_eq, Bool.not_eq_true', Bool.not_eq_false', Bool.and_eq_true, Bool.or_eq_true, decide_true, decide_false, Bool.and_true, Bool.true_and, Bool.false_eq_true, not_false_eq_true, true_and, and_true] at hp); (try rw [hb]); (try clear hb))) | refine ps_alloc fun g => ?_ | refine ps_box fun g => ?_ | refine ps_store ?_ | refine ps_lit fun g => ?_ | refine pops_nil ?_) | (refine pstl_go ?_ ?_ ?_; first | refine pstl_end ?_ | (refine pd_split (fun hb => ?_) (fun hb => ?_); (fail_if_success (guard_hyp hb : true = true)); (fail_if_success (guard_hyp hb : false = true)); all_goals (have hp := hb; (try simp only [decide_eq_true_eq, Bool.eq_false_iff, ne_eq, Bool.not_eq_true', Bool.not_eq_false', Bool.and_eq_true, Bool.or_eq_true, decide_true, decide_false, Bool.and_true, Bool.true_and, Bool.false_eq_true, not_false_eq_true, true_and, and_true] at hp); (try rw [hb]); (try clear hb)))) | (refine kn ?_; repeat (first | with_reducible refine blk_n ?_ | with_reducible refine beh_n ?_)) | (refine kx ?_; (repeat (first | with_reducible refine beh_x ?_ | with_reducible refine blk_up rfl ?_)); refine blk_here ?_; refine beh_n ?_)))
    refine ends_ret ?_ retPV_one
    rfl
end Go.Proofs.Ytjbbomchmacdjaa.Pv
