-- Options: whether they may be, and their byte (of the program and of the document).
import Derived.Test.YtfjodfeoncoaoaaPvT
namespace Go.Proofs.Ytfjodfeoncoaoaa.Pv
set_option linter.all false
open Go.RowKit Go.Proofs
set_option maxRecDepth 100000
set_option maxHeartbeats 4000000
structure Op5 where
  bcj : Bool
  del : Int
  lz : Bool
  rng : Bool
  cry : Bool
def Op5.cells (o : Op5) : List PV := [.v (.bool o.bcj), .v (.int .i64 o.del), .v (.bool o.lz), .v (.bool o.rng), .v (.bool o.cry)]
def Op5.pv (o : Op5) : PV := .agg o.cells
def Op5.right (o : Op5) : Bool := decide (0 ≤ o.del) && decide (o.del ≤ 255)
instance op5Pure (o : Op5) : PureL o.cells := ⟨fun x hx => by
  simp only [Op5.cells, List.mem_cons, List.not_mem_nil, or_false] at hx
  rcases hx with rfl | rfl | rfl | rfl | rfl <;> exact .v _⟩
theorem right_ok (o : Op5) : PCall Try.prog 39 [.agg o.cells] (.v (.bool o.right)) := by
  unfold Op5.cells Op5.right
  refine pcall_mk Try.func39 rfl [.tmp 2] Try.results39 11 rfl (tk_start ?_)
  (repeat refine ka ?_); refine kr ?_ ?_ ?_
  refine ps_box (fun g0 => ?_)
  refine pops_go ?_ ?_ (pops_end ?_)
  by_cases h0 : 0 ≤ o.del
  · (repeat refine ka ?_); refine kr ?_ ?_ (pops_end ?_)
    (repeat refine ka ?_); refine kret ?_; repeat (first | with_reducible refine beh_r ?_ | with_reducible refine blk_r ?_)
    refine ends_ret ?_ retPV_one
    simp [h0]
  · (repeat refine ka ?_); refine kr ?_ ?_ (pops_end ?_)
    (repeat refine ka ?_); refine kret ?_; repeat (first | with_reducible refine beh_r ?_ | with_reducible refine blk_r ?_)
    refine ends_ret ?_ retPV_one
    simp [h0]
theorem rright_ok (o : Op5) : PCall Try.prog 41 [.agg o.cells] (.v (.bool o.right)) := by
  unfold Op5.cells Op5.right
  refine pcall_mk Try.func41 rfl [.tmp 2] Try.results41 11 rfl (tk_start ?_)
  (repeat refine ka ?_); refine kr ?_ ?_ ?_
  refine ps_box (fun g0 => ?_)
  refine pops_go ?_ ?_ (pops_end ?_)
  by_cases h0 : 0 ≤ o.del
  · (repeat refine ka ?_); refine kr ?_ ?_ (pops_end ?_)
    (repeat refine ka ?_); refine kret ?_; repeat (first | with_reducible refine beh_r ?_ | with_reducible refine blk_r ?_)
    refine ends_ret ?_ retPV_one
    simp [h0]
  · (repeat refine ka ?_); refine kr ?_ ?_ (pops_end ?_)
    (repeat refine ka ?_); refine kret ?_; repeat (first | with_reducible refine beh_r ?_ | with_reducible refine blk_r ?_)
    refine ends_ret ?_ retPV_one
    simp [h0]
def b1 (b : Bool) (k : Int) : Int := if b then k else 0
def byteTo (o : Op5) : Nat → Int
  | 0 => 0
  | 1 => b1 o.bcj 1
  | 2 => b1 o.bcj 1 + b1 o.lz 2
  | 3 => b1 o.bcj 1 + b1 o.lz 2 + b1 o.rng 4
  | _ => b1 o.bcj 1 + b1 o.lz 2 + b1 o.rng 4 + b1 o.cry 8
theorem byte_ok (o : Op5) : PCall Try.prog 51 [.agg o.cells] (.v (.int .u8 (byteTo o 4))) := by
  obtain ⟨bcj, del, lz, rng, cry⟩ := o
  unfold Op5.cells
  refine pcall_mk Try.func51 rfl [.tmp 2] Try.results51 26 rfl (tk_start ?_)
  (repeat refine ka ?_); refine kr ?_ ?_ ?_
  refine ps_box (fun g0 => ?_)
  refine pops_go ?_ ?_ (pops_end ?_)
  (repeat refine ka ?_); refine kr ?_ ?_ (pops_end ?_)
  (repeat refine ka ?_); refine kr ?_ ?_ (pops_end ?_)
  (repeat refine ka ?_); refine kb ?_
  refine kw (fun i : Nat => [(1, PV.ptr 0 g0 0 0), (14, .agg [.v (.bool bcj), .v (.bool lz), .v (.bool rng), .v (.bool cry)]), (3, .v (.int .u8 (byteTo ⟨bcj, del, lz, rng, cry⟩ i))), (15, .v (.int .i64 i))]) (fun i => [⟨g0, true, 5, [[.v (.bool bcj), .v (.int .i64 del), .v (.bool lz), .v (.bool rng), .v (.bool cry)]]⟩]) (fun i => i ≤ 4) (fun i => 4 - i) 0 (by decide) (holds 1 (by repeat (first | exact .nil | refine has1 ?_))) ?_
  intro i hi
  have hc : i = 0 ∨ i = 1 ∨ i = 2 ∨ i = 3 ∨ i = 4 := by omega
  rcases hc with rfl | rfl | rfl | rfl | rfl <;> simp only [Int.cast_ofNat_Int]
  · cases bcj
    · have hz : byteTo ⟨false, del, lz, rng, cry⟩ 1 = byteTo ⟨false, del, lz, rng, cry⟩ 0 := by rfl
      (repeat refine ka ?_); refine kr ?_ ?_ (pops_end ?_)
      (repeat refine ka ?_); refine kct ?_
      (repeat refine ka ?_); refine ksk ?_
      (repeat refine ka ?_); refine kb ?_
      (repeat refine ka ?_); refine kr ?_ ?_ (pops_end ?_)
      (repeat refine ka ?_); refine kr ?_ ?_ (pops_end ?_)
      (repeat refine ka ?_); refine kcf ?_
      (repeat refine ka ?_); refine ksk ?_
      refine kn ?_; repeat (first | with_reducible refine blk_n ?_ | with_reducible refine beh_n ?_)
      (repeat refine ka ?_); refine kr ?_ ?_ (pops_end ?_)
      refine kn ?_; repeat (first | with_reducible refine blk_n ?_ | with_reducible refine beh_n ?_)
      refine ⟨1, by decide, by decide, ?_⟩
      rw [hz]
      exact (holds 1 (by repeat (first | exact .nil | refine has1 ?_)))
    · have hor : Go.bits .or .u8 (byteTo ⟨true, del, lz, rng, cry⟩ 0) (1 * 1) = byteTo ⟨true, del, lz, rng, cry⟩ 1 := by (simp only [byteTo, b1, ↓reduceIte, Bool.false_eq_true]; decide +kernel)
      (repeat refine ka ?_); refine kr ?_ ?_ (pops_end ?_)
      (repeat refine ka ?_); refine kct ?_
      (repeat refine ka ?_); refine ksk ?_
      (repeat refine ka ?_); refine kb ?_
      (repeat refine ka ?_); refine kr ?_ ?_ (pops_end ?_)
      (repeat refine ka ?_); refine kr ?_ ?_ (pops_end ?_)
      (repeat refine ka ?_); refine kct ?_
      (repeat refine ka ?_); refine kr ?_ ?_ (pops_end ?_)
      refine kn ?_; repeat (first | with_reducible refine blk_n ?_ | with_reducible refine beh_n ?_)
      (repeat refine ka ?_); refine kr ?_ ?_ (pops_end ?_)
      refine kn ?_; repeat (first | with_reducible refine blk_n ?_ | with_reducible refine beh_n ?_)
      exact ⟨1, by decide, by decide, (holds 1 (by repeat (first | exact .nil | refine has1 ?_)))⟩
  · cases lz
    · have hz : byteTo ⟨bcj, del, false, rng, cry⟩ 2 = byteTo ⟨bcj, del, false, rng, cry⟩ 1 := by cases bcj <;> rfl
      (repeat refine ka ?_); refine kr ?_ ?_ (pops_end ?_)
      (repeat refine ka ?_); refine kct ?_
      (repeat refine ka ?_); refine ksk ?_
      (repeat refine ka ?_); refine kb ?_
      (repeat refine ka ?_); refine kr ?_ ?_ (pops_end ?_)
      (repeat refine ka ?_); refine kr ?_ ?_ (pops_end ?_)
      (repeat refine ka ?_); refine kcf ?_
      (repeat refine ka ?_); refine ksk ?_
      refine kn ?_; repeat (first | with_reducible refine blk_n ?_ | with_reducible refine beh_n ?_)
      (repeat refine ka ?_); refine kr ?_ ?_ (pops_end ?_)
      refine kn ?_; repeat (first | with_reducible refine blk_n ?_ | with_reducible refine beh_n ?_)
      refine ⟨2, by decide, by decide, ?_⟩
      rw [hz]
      exact (holds 1 (by repeat (first | exact .nil | refine has1 ?_)))
    · have hor : Go.bits .or .u8 (byteTo ⟨bcj, del, true, rng, cry⟩ 1) (1 * 2) = byteTo ⟨bcj, del, true, rng, cry⟩ 2 := by cases bcj <;> (simp only [byteTo, b1, ↓reduceIte, Bool.false_eq_true]; decide +kernel)
      (repeat refine ka ?_); refine kr ?_ ?_ (pops_end ?_)
      (repeat refine ka ?_); refine kct ?_
      (repeat refine ka ?_); refine ksk ?_
      (repeat refine ka ?_); refine kb ?_
      (repeat refine ka ?_); refine kr ?_ ?_ (pops_end ?_)
      (repeat refine ka ?_); refine kr ?_ ?_ (pops_end ?_)
      (repeat refine ka ?_); refine kct ?_
      (repeat refine ka ?_); refine kr ?_ ?_ (pops_end ?_)
      refine kn ?_; repeat (first | with_reducible refine blk_n ?_ | with_reducible refine beh_n ?_)
      (repeat refine ka ?_); refine kr ?_ ?_ (pops_end ?_)
      refine kn ?_; repeat (first | with_reducible refine blk_n ?_ | with_reducible refine beh_n ?_)
      exact ⟨2, by decide, by decide, (holds 1 (by repeat (first | exact .nil | refine has1 ?_)))⟩
  · cases rng
    · have hz : byteTo ⟨bcj, del, lz, false, cry⟩ 3 = byteTo ⟨bcj, del, lz, false, cry⟩ 2 := by cases bcj <;> cases lz <;> rfl
      (repeat refine ka ?_); refine kr ?_ ?_ (pops_end ?_)
      (repeat refine ka ?_); refine kct ?_
      (repeat refine ka ?_); refine ksk ?_
      (repeat refine ka ?_); refine kb ?_
      (repeat refine ka ?_); refine kr ?_ ?_ (pops_end ?_)
      (repeat refine ka ?_); refine kr ?_ ?_ (pops_end ?_)
      (repeat refine ka ?_); refine kcf ?_
      (repeat refine ka ?_); refine ksk ?_
      refine kn ?_; repeat (first | with_reducible refine blk_n ?_ | with_reducible refine beh_n ?_)
      (repeat refine ka ?_); refine kr ?_ ?_ (pops_end ?_)
      refine kn ?_; repeat (first | with_reducible refine blk_n ?_ | with_reducible refine beh_n ?_)
      refine ⟨3, by decide, by decide, ?_⟩
      rw [hz]
      exact (holds 1 (by repeat (first | exact .nil | refine has1 ?_)))
    · have hor : Go.bits .or .u8 (byteTo ⟨bcj, del, lz, true, cry⟩ 2) (1 * 4) = byteTo ⟨bcj, del, lz, true, cry⟩ 3 := by cases bcj <;> cases lz <;> (simp only [byteTo, b1, ↓reduceIte, Bool.false_eq_true]; decide +kernel)
      (repeat refine ka ?_); refine kr ?_ ?_ (pops_end ?_)
      (repeat refine ka ?_); refine kct ?_
      (repeat refine ka ?_); refine ksk ?_
      (repeat refine ka ?_); refine kb ?_
      (repeat refine ka ?_); refine kr ?_ ?_ (pops_end ?_)
      (repeat refine ka ?_); refine kr ?_ ?_ (pops_end ?_)
      (repeat refine ka ?_); refine kct ?_
      (repeat refine ka ?_); refine kr ?_ ?_ (pops_end ?_)
      refine kn ?_; repeat (first | with_reducible refine blk_n ?_ | with_reducible refine beh_n ?_)
      (repeat refine ka ?_); refine kr ?_ ?_ (pops_end ?_)
      refine kn ?_; repeat (first | with_reducible refine blk_n ?_ | with_reducible refine beh_n ?_)
      exact ⟨3, by decide, by decide, (holds 1 (by repeat (first | exact .nil | refine has1 ?_)))⟩
  · cases cry
    · have hz : byteTo ⟨bcj, del, lz, rng, false⟩ 4 = byteTo ⟨bcj, del, lz, rng, false⟩ 3 := by cases bcj <;> cases lz <;> cases rng <;> rfl
      (repeat refine ka ?_); refine kr ?_ ?_ (pops_end ?_)
      (repeat refine ka ?_); refine kct ?_
      (repeat refine ka ?_); refine ksk ?_
      (repeat refine ka ?_); refine kb ?_
      (repeat refine ka ?_); refine kr ?_ ?_ (pops_end ?_)
      (repeat refine ka ?_); refine kr ?_ ?_ (pops_end ?_)
      (repeat refine ka ?_); refine kcf ?_
      (repeat refine ka ?_); refine ksk ?_
      refine kn ?_; repeat (first | with_reducible refine blk_n ?_ | with_reducible refine beh_n ?_)
      (repeat refine ka ?_); refine kr ?_ ?_ (pops_end ?_)
      refine kn ?_; repeat (first | with_reducible refine blk_n ?_ | with_reducible refine beh_n ?_)
      refine ⟨4, by decide, by decide, ?_⟩
      rw [hz]
      exact (holds 1 (by repeat (first | exact .nil | refine has1 ?_)))
    · have hor : Go.bits .or .u8 (byteTo ⟨bcj, del, lz, rng, true⟩ 3) (1 * 8) = byteTo ⟨bcj, del, lz, rng, true⟩ 4 := by cases bcj <;> cases lz <;> cases rng <;> (simp only [byteTo, b1, ↓reduceIte, Bool.false_eq_true]; decide +kernel)
      (repeat refine ka ?_); refine kr ?_ ?_ (pops_end ?_)
      (repeat refine ka ?_); refine kct ?_
      (repeat refine ka ?_); refine ksk ?_
      (repeat refine ka ?_); refine kb ?_
      (repeat refine ka ?_); refine kr ?_ ?_ (pops_end ?_)
      (repeat refine ka ?_); refine kr ?_ ?_ (pops_end ?_)
      (repeat refine ka ?_); refine kct ?_
      (repeat refine ka ?_); refine kr ?_ ?_ (pops_end ?_)
      refine kn ?_; repeat (first | with_reducible refine blk_n ?_ | with_reducible refine beh_n ?_)
      (repeat refine ka ?_); refine kr ?_ ?_ (pops_end ?_)
      refine kn ?_; repeat (first | with_reducible refine blk_n ?_ | with_reducible refine beh_n ?_)
      exact ⟨4, by decide, by decide, (holds 1 (by repeat (first | exact .nil | refine has1 ?_)))⟩
  · (repeat refine ka ?_); refine kr ?_ ?_ (pops_end ?_)
    (repeat refine ka ?_); refine kcf ?_
    (repeat refine ka ?_); refine kx ?_; (repeat (first | with_reducible refine beh_x ?_ | with_reducible refine blk_up rfl ?_)); refine blk_here ?_; refine beh_n ?_
    (repeat refine ka ?_); refine kr ?_ ?_ (pops_end ?_)
    (repeat refine ka ?_); refine kret ?_; repeat (first | with_reducible refine beh_r ?_ | with_reducible refine blk_r ?_)
    refine ends_ret ?_ retPV_one
    rfl
theorem rbyte_ok (o : Op5) : PCall Try.prog 53 [.agg o.cells] (.v (.int .u8 (byteTo o 4))) := by
  obtain ⟨bcj, del, lz, rng, cry⟩ := o
  unfold Op5.cells
  cases bcj <;> cases lz <;> cases rng <;> cases cry <;>
  · refine pcall_mk Try.func53 rfl [.tmp 2] Try.results53 21 rfl (tk_start ?_)
    (repeat' (first | refine ka ?_ | refine ksk ?_ | (refine kr ?_ ?_ ?_; first | refine pops_end ?_ | (refine ps_split (fun hb => ?_) (fun hb => ?_); (fail_if_success (guard_hyp hb : true = true)); (fail_if_success (guard_hyp hb : false = true)); all_goals (have hp := hb; (try simp only [decide_eq_true_eq, Bool.eq_false_iff, ne_eq, Bool.not_eq_true', Bool.not_eq_false', Bool.and_eq_true, Bool.or_eq_true, decide_true, decide_false, Bool.and_true, Bool.true_and, Bool.false_eq_true, not_false_eq_true, true_and, and_true] at hp); (try rw [hb]); (try clear hb))) | refine ps_alloc fun g => ?_ | refine ps_box fun g => ?_ | refine ps_store ?_ | refine ps_lit fun g => ?_ | refine pops_nil ?_ | skip) | (refine kd ?_ ?_ ?_; first | refine pstl_end ?_ | (refine pd_split (fun hb => ?_) (fun hb => ?_); (fail_if_success (guard_hyp hb : true = true)); (fail_if_success (guard_hyp hb : false = true)); all_goals (have hp := hb; (try simp only [decide_eq_true_eq, Bool.eq_false_iff, ne_eq, Bool.not_eq_true', Bool.not_eq_false', Bool.and_eq_true, Bool.or_eq_true, decide_true, decide_false, Bool.and_true, Bool.true_and, Bool.false_eq_true, not_false_eq_true, true_and, and_true] at hp); (try rw [hb]); (try clear hb))) | skip) | refine kct ?_ | refine kcf ?_ | (refine kcs (fun hb => ?_) (fun hb => ?_) <;> (have hp := hb; (try simp only [decide_eq_true_eq, Bool.eq_false_iff, ne_eq, Bool.not_eq_true', Bool.not_eq_false', Bool.and_eq_true, Bool.or_eq_true, decide_true, decide_false, Bool.and_true, Bool.true_and, Bool.false_eq_true, not_false_eq_true, true_and, and_true] at hp); (try rw [hb]); (try clear hb))) | (refine kret ?_; repeat (first | with_reducible refine beh_r ?_ | with_reducible refine blk_r ?_)) | refine kb ?_ | (refine ps_split (fun hb => ?_) (fun hb => ?_); (fail_if_success (guard_hyp hb : true = true)); (fail_if_success (guard_hyp hb : false = true)); all_goals (have hp := hb; (try simp only [decide_eq_true_eq, Bool.eq_false_iff, ne_eq, Bool.not_eq_true', Bool.not_eq_false', Bool.and_eq_true, Bool.or_eq_true, decide_true, decide_false, Bool.and_true, Bool.true_and, Bool.false_eq_true, not_false_eq_true, true_and, and_true] at hp); (try rw [hb]); (try clear hb))) | refine ps_alloc fun g => ?_ | refine ps_box fun g => ?_ | refine ps_store ?_ | refine ps_lit fun g => ?_ | refine pops_nil ?_ | (refine pd_split (fun hb => ?_) (fun hb => ?_); (fail_if_success (guard_hyp hb : true = true)); (fail_if_success (guard_hyp hb : false = true)); all_goals (have hp := hb; (try simp only [decide_eq_true_eq, Bool.eq_false_iff, ne_eq, Bool.not_eq_true', Bool.not_eq_false', Bool.and_eq_true, Bool.or_eq_true, decide_true, decide_false, Bool.and_true, Bool.true_and, Bool.false_eq_true, not_false_eq_true, true_and, and_true] at hp); (try rw [hb]); (try clear hb))) | (refine pops_go ?_ ?_ ?_; first | refine pops_end ?_ | (refine ps_split (fun hb => ?_) (fun hb => ?_); (fail_if_success (guard_hyp hb : true = true)); (fail_if_success (guard_hyp hb : false = true)); all_goals (have hp := hb; (try simp only [decide_eq_true_eq, Bool.eq_false_iff, ne_eq, Bool.not_eq_true', Bool.not_eq_false', Bool.and_eq_true, Bool.or_eq_true, decide_true, decide_false, Bool.and_true, Bool.true_and, Bool.false_eq_true, not_false_eq_true, true_and, and_true] at hp); (try rw [hb]); (try clear hb))) | refine ps_alloc fun g => ?_ | refine ps_box fun g => ?_ | refine ps_store ?_ | refine ps_lit fun g => ?_ | refine pops_nil ?_) | (refine pstl_go ?_ ?_ ?_; first | refine pstl_end ?_ | (refine pd_split (fun hb => ?_) (fun hb => ?_); (fail_if_success (guard_hyp hb : true = true)); (fail_if_success (guard_hyp hb : false = true)); all_goals (have hp := hb; (try simp only [decide_eq_true_eq, Bool.eq_false_iff, ne_eq, Bool.not_eq_true', Bool.not_eq_false', Bool.and_eq_true, Bool.or_eq_true, decide_true, decide_false, Bool.and_true, Bool.true_and, Bool.false_eq_true, not_false_eq_true, true_and, and_true] at hp); (try rw [hb]); (try clear hb)))) | (refine kn ?_; repeat (first | with_reducible refine blk_n ?_ | with_reducible refine beh_n ?_)) | (refine kx ?_; (repeat (first | with_reducible refine beh_x ?_ | with_reducible refine blk_up rfl ?_)); refine blk_here ?_; refine beh_n ?_)))
    refine ends_ret ?_ retPV_one
    rfl
end Go.Proofs.Ytfjodfeoncoaoaa.Pv
