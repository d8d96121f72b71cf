-- carapaceref09.Mem: what its methods do to its bytes.
import Derived.Test.YtaaealngifkaeaaMmD
namespace Go.Proofs.Ytaaealngifkaeaa.Pv
set_option linter.all false
open Go.RowKit Go.Proofs
set_option maxRecDepth 100000
set_option maxHeartbeats 4000000
theorem ref_new (n : Int) : GCall Try.prog 25 [.v (.int .i64 n)] [] (fun x S' => ((n < 0 ∨ 1048576 < n) ∧ S' = [] ∧ x = .tup [.v (.pointer none), .v (.int .i64 1)]) ∨
    ((0 ≤ n ∧ n ≤ 1048576) ∧ ∃ g0 g1, S' = [⟨g1, true, 1, ints .u8 (List.replicate n.toNat 0)⟩, ⟨g0, true, 1, [[.vw 0 g1 0 n.toNat]]⟩] ∧ x = .tup [.ptr 1 g0 0 0, .v (.int .i64 0)])) := by
  refine gcall_of_tr Try.func25 rfl [.tmp 2, .tmp 3] Try.results25 14 rfl (tk_start ?_)
  by_cases h1 : n < 0
  · (repeat' (first | refine ka ?_ | refine ksk ?_ | (refine kr ?_ ?_ ?_; first | refine pops_end ?_ | (refine ps_split (fun hb => ?_) (fun hb => ?_); (fail_if_success (guard_hyp hb : true = true)); (fail_if_success (guard_hyp hb : false = true)); all_goals (have hp := hb; (try simp only [decide_eq_true_eq, Bool.eq_false_iff, ne_eq, Bool.not_eq_true', Bool.not_eq_false', Bool.and_eq_true, Bool.or_eq_true, decide_true, decide_false, Bool.and_true, Bool.true_and, Bool.false_eq_true, not_false_eq_true, true_and, and_true] at hp); (try rw [hb]); (try clear hb))) | refine ps_alloc fun g => ?_ | refine ps_box fun g => ?_ | refine ps_store ?_ | refine ps_lit fun g => ?_ | refine pops_nil ?_ | skip) | (refine kd ?_ ?_ ?_; first | refine pstl_end ?_ | (refine pd_split (fun hb => ?_) (fun hb => ?_); (fail_if_success (guard_hyp hb : true = true)); (fail_if_success (guard_hyp hb : false = true)); all_goals (have hp := hb; (try simp only [decide_eq_true_eq, Bool.eq_false_iff, ne_eq, Bool.not_eq_true', Bool.not_eq_false', Bool.and_eq_true, Bool.or_eq_true, decide_true, decide_false, Bool.and_true, Bool.true_and, Bool.false_eq_true, not_false_eq_true, true_and, and_true] at hp); (try rw [hb]); (try clear hb))) | skip) | refine kct ?_ | refine kcf ?_ | (refine kcs (fun hb => ?_) (fun hb => ?_) <;> (have hp := hb; (try simp only [decide_eq_true_eq, Bool.eq_false_iff, ne_eq, Bool.not_eq_true', Bool.not_eq_false', Bool.and_eq_true, Bool.or_eq_true, decide_true, decide_false, Bool.and_true, Bool.true_and, Bool.false_eq_true, not_false_eq_true, true_and, and_true] at hp); (try rw [hb]); (try clear hb))) | (refine kret ?_; repeat (first | with_reducible refine beh_r ?_ | with_reducible refine blk_r ?_)) | refine kb ?_ | (refine ps_split (fun hb => ?_) (fun hb => ?_); (fail_if_success (guard_hyp hb : true = true)); (fail_if_success (guard_hyp hb : false = true)); all_goals (have hp := hb; (try simp only [decide_eq_true_eq, Bool.eq_false_iff, ne_eq, Bool.not_eq_true', Bool.not_eq_false', Bool.and_eq_true, Bool.or_eq_true, decide_true, decide_false, Bool.and_true, Bool.true_and, Bool.false_eq_true, not_false_eq_true, true_and, and_true] at hp); (try rw [hb]); (try clear hb))) | refine ps_alloc fun g => ?_ | refine ps_box fun g => ?_ | refine ps_store ?_ | refine ps_lit fun g => ?_ | refine pops_nil ?_ | (refine pd_split (fun hb => ?_) (fun hb => ?_); (fail_if_success (guard_hyp hb : true = true)); (fail_if_success (guard_hyp hb : false = true)); all_goals (have hp := hb; (try simp only [decide_eq_true_eq, Bool.eq_false_iff, ne_eq, Bool.not_eq_true', Bool.not_eq_false', Bool.and_eq_true, Bool.or_eq_true, decide_true, decide_false, Bool.and_true, Bool.true_and, Bool.false_eq_true, not_false_eq_true, true_and, and_true] at hp); (try rw [hb]); (try clear hb))) | (refine pops_go ?_ ?_ ?_; first | refine pops_end ?_ | (refine ps_split (fun hb => ?_) (fun hb => ?_); (fail_if_success (guard_hyp hb : true = true)); (fail_if_success (guard_hyp hb : false = true)); all_goals (have hp := hb; (try simp only [decide_eq_true_eq, Bool.eq_false_iff, ne_eq, Bool.not_eq_true', Bool.not_eq_false', Bool.and_eq_true, Bool.or_eq_true, decide_true, decide_false, Bool.and_true, Bool.true_and, Bool.false_eq_true, not_false_eq_true, true_and, and_true] at hp); (try rw [hb]); (try clear hb))) | refine ps_alloc fun g => ?_ | refine ps_box fun g => ?_ | refine ps_store ?_ | refine ps_lit fun g => ?_ | refine pops_nil ?_) | (refine pstl_go ?_ ?_ ?_; first | refine pstl_end ?_ | (refine pd_split (fun hb => ?_) (fun hb => ?_); (fail_if_success (guard_hyp hb : true = true)); (fail_if_success (guard_hyp hb : false = true)); all_goals (have hp := hb; (try simp only [decide_eq_true_eq, Bool.eq_false_iff, ne_eq, Bool.not_eq_true', Bool.not_eq_false', Bool.and_eq_true, Bool.or_eq_true, decide_true, decide_false, Bool.and_true, Bool.true_and, Bool.false_eq_true, not_false_eq_true, true_and, and_true] at hp); (try rw [hb]); (try clear hb)))) | (refine kn ?_; repeat (first | with_reducible refine blk_n ?_ | with_reducible refine beh_n ?_)) | (refine kx ?_; (repeat (first | with_reducible refine beh_x ?_ | with_reducible refine blk_up rfl ?_)); refine blk_here ?_; refine beh_n ?_)))
    refine ends_ret ?_ retPV_two
    exact .inl ⟨.inl h1, rfl, rfl⟩
  by_cases h2 : 1048576 < n
  · (repeat' (first | refine ka ?_ | refine ksk ?_ | (refine kr ?_ ?_ ?_; first | refine pops_end ?_ | (refine ps_split (fun hb => ?_) (fun hb => ?_); (fail_if_success (guard_hyp hb : true = true)); (fail_if_success (guard_hyp hb : false = true)); all_goals (have hp := hb; (try simp only [decide_eq_true_eq, Bool.eq_false_iff, ne_eq, Bool.not_eq_true', Bool.not_eq_false', Bool.and_eq_true, Bool.or_eq_true, decide_true, decide_false, Bool.and_true, Bool.true_and, Bool.false_eq_true, not_false_eq_true, true_and, and_true] at hp); (try rw [hb]); (try clear hb))) | refine ps_alloc fun g => ?_ | refine ps_box fun g => ?_ | refine ps_store ?_ | refine ps_lit fun g => ?_ | refine pops_nil ?_ | skip) | (refine kd ?_ ?_ ?_; first | refine pstl_end ?_ | (refine pd_split (fun hb => ?_) (fun hb => ?_); (fail_if_success (guard_hyp hb : true = true)); (fail_if_success (guard_hyp hb : false = true)); all_goals (have hp := hb; (try simp only [decide_eq_true_eq, Bool.eq_false_iff, ne_eq, Bool.not_eq_true', Bool.not_eq_false', Bool.and_eq_true, Bool.or_eq_true, decide_true, decide_false, Bool.and_true, Bool.true_and, Bool.false_eq_true, not_false_eq_true, true_and, and_true] at hp); (try rw [hb]); (try clear hb))) | skip) | refine kct ?_ | refine kcf ?_ | (refine kcs (fun hb => ?_) (fun hb => ?_) <;> (have hp := hb; (try simp only [decide_eq_true_eq, Bool.eq_false_iff, ne_eq, Bool.not_eq_true', Bool.not_eq_false', Bool.and_eq_true, Bool.or_eq_true, decide_true, decide_false, Bool.and_true, Bool.true_and, Bool.false_eq_true, not_false_eq_true, true_and, and_true] at hp); (try rw [hb]); (try clear hb))) | (refine kret ?_; repeat (first | with_reducible refine beh_r ?_ | with_reducible refine blk_r ?_)) | refine kb ?_ | (refine ps_split (fun hb => ?_) (fun hb => ?_); (fail_if_success (guard_hyp hb : true = true)); (fail_if_success (guard_hyp hb : false = true)); all_goals (have hp := hb; (try simp only [decide_eq_true_eq, Bool.eq_false_iff, ne_eq, Bool.not_eq_true', Bool.not_eq_false', Bool.and_eq_true, Bool.or_eq_true, decide_true, decide_false, Bool.and_true, Bool.true_and, Bool.false_eq_true, not_false_eq_true, true_and, and_true] at hp); (try rw [hb]); (try clear hb))) | refine ps_alloc fun g => ?_ | refine ps_box fun g => ?_ | refine ps_store ?_ | refine ps_lit fun g => ?_ | refine pops_nil ?_ | (refine pd_split (fun hb => ?_) (fun hb => ?_); (fail_if_success (guard_hyp hb : true = true)); (fail_if_success (guard_hyp hb : false = true)); all_goals (have hp := hb; (try simp only [decide_eq_true_eq, Bool.eq_false_iff, ne_eq, Bool.not_eq_true', Bool.not_eq_false', Bool.and_eq_true, Bool.or_eq_true, decide_true, decide_false, Bool.and_true, Bool.true_and, Bool.false_eq_true, not_false_eq_true, true_and, and_true] at hp); (try rw [hb]); (try clear hb))) | (refine pops_go ?_ ?_ ?_; first | refine pops_end ?_ | (refine ps_split (fun hb => ?_) (fun hb => ?_); (fail_if_success (guard_hyp hb : true = true)); (fail_if_success (guard_hyp hb : false = true)); all_goals (have hp := hb; (try simp only [decide_eq_true_eq, Bool.eq_false_iff, ne_eq, Bool.not_eq_true', Bool.not_eq_false', Bool.and_eq_true, Bool.or_eq_true, decide_true, decide_false, Bool.and_true, Bool.true_and, Bool.false_eq_true, not_false_eq_true, true_and, and_true] at hp); (try rw [hb]); (try clear hb))) | refine ps_alloc fun g => ?_ | refine ps_box fun g => ?_ | refine ps_store ?_ | refine ps_lit fun g => ?_ | refine pops_nil ?_) | (refine pstl_go ?_ ?_ ?_; first | refine pstl_end ?_ | (refine pd_split (fun hb => ?_) (fun hb => ?_); (fail_if_success (guard_hyp hb : true = true)); (fail_if_success (guard_hyp hb : false = true)); all_goals (have hp := hb; (try simp only [decide_eq_true_eq, Bool.eq_false_iff, ne_eq, Bool.not_eq_true', Bool.not_eq_false', Bool.and_eq_true, Bool.or_eq_true, decide_true, decide_false, Bool.and_true, Bool.true_and, Bool.false_eq_true, not_false_eq_true, true_and, and_true] at hp); (try rw [hb]); (try clear hb)))) | (refine kn ?_; repeat (first | with_reducible refine blk_n ?_ | with_reducible refine beh_n ?_)) | (refine kx ?_; (repeat (first | with_reducible refine beh_x ?_ | with_reducible refine blk_up rfl ?_)); refine blk_here ?_; refine beh_n ?_)))
    refine ends_ret ?_ retPV_two
    exact .inl ⟨.inr h2, rfl, rfl⟩
  (repeat refine ka ?_); refine kr ?_ ?_ (pops_end ?_)
  (repeat refine ka ?_); refine kr ?_ ?_ (pops_end ?_)
  (repeat refine ka ?_); refine kcf ?_
  (repeat refine ka ?_); refine ksk ?_
  (repeat refine ka ?_); refine kr ?_ ?_ ?_
  have hnn : n = (n.toNat : Int) := by omega
  refine ps_make n.toNat (hl := hnn) fun g1 => ?_
  refine pops_go ?_ ?_ ?_
  refine ps_box fun g0 => ?_
  refine pops_go ?_ ?_ (pops_end ?_)
  (repeat refine ka ?_); refine kret ?_; repeat (first | with_reducible refine beh_r ?_ | with_reducible refine blk_r ?_)
  refine ends_ret ?_ retPV_two
  have hrep : List.replicate n.toNat [PV.v (.int .u8 0)] = ints .u8 (List.replicate n.toNat 0) := by simp [ints]
  refine .inr ⟨by omega, g0, g1, ?_, rfl⟩
  rw [← hrep]
theorem ref_is (l : List Int) (g0 g1 : Nat) (a : Int) (ha : 0 ≤ a ∧ a < 4294967296) (n : Int) (hn : 0 ≤ n ∧ n < 4294967296) (hl : l.length ≤ 1048576) : GCall Try.prog 60 [.ptr 0 g0 0 0, .v (.int .u32 a), .v (.int .i64 n)]
    [⟨g0, true, 1, [[.vw 1 g1 0 l.length]]⟩, ⟨g1, true, 1, ints .u8 l⟩] (fun x S' => x = .v (.bool (decide (a + n ≤ l.length))) ∧ S' = [⟨g0, true, 1, [[.vw 1 g1 0 l.length]]⟩, ⟨g1, true, 1, ints .u8 l⟩]) := by
  refine gcall_of_tr Try.func60 rfl [.tmp 6] Try.results60 21 rfl (tk_start ?_)
  (repeat' (first | refine ka ?_ | refine ksk ?_ | (refine kr ?_ ?_ ?_; first | refine pops_end ?_ | (refine ps_split (fun hb => ?_) (fun hb => ?_); (fail_if_success (guard_hyp hb : true = true)); (fail_if_success (guard_hyp hb : false = true)); all_goals (have hp := hb; (try simp only [decide_eq_true_eq, Bool.eq_false_iff, ne_eq, Bool.not_eq_true', Bool.not_eq_false', Bool.and_eq_true, Bool.or_eq_true, decide_true, decide_false, Bool.and_true, Bool.true_and, Bool.false_eq_true, not_false_eq_true, true_and, and_true] at hp); (try rw [hb]); (try clear hb))) | refine ps_alloc fun g => ?_ | refine ps_box fun g => ?_ | refine ps_store ?_ | refine ps_lit fun g => ?_ | refine pops_nil ?_ | skip) | (refine kd ?_ ?_ ?_; first | refine pstl_end ?_ | (refine pd_split (fun hb => ?_) (fun hb => ?_); (fail_if_success (guard_hyp hb : true = true)); (fail_if_success (guard_hyp hb : false = true)); all_goals (have hp := hb; (try simp only [decide_eq_true_eq, Bool.eq_false_iff, ne_eq, Bool.not_eq_true', Bool.not_eq_false', Bool.and_eq_true, Bool.or_eq_true, decide_true, decide_false, Bool.and_true, Bool.true_and, Bool.false_eq_true, not_false_eq_true, true_and, and_true] at hp); (try rw [hb]); (try clear hb))) | skip) | refine kct ?_ | refine kcf ?_ | (refine kcs (fun hb => ?_) (fun hb => ?_) <;> (have hp := hb; (try simp only [decide_eq_true_eq, Bool.eq_false_iff, ne_eq, Bool.not_eq_true', Bool.not_eq_false', Bool.and_eq_true, Bool.or_eq_true, decide_true, decide_false, Bool.and_true, Bool.true_and, Bool.false_eq_true, not_false_eq_true, true_and, and_true] at hp); (try rw [hb]); (try clear hb))) | (refine kret ?_; repeat (first | with_reducible refine beh_r ?_ | with_reducible refine blk_r ?_)) | refine kb ?_ | (refine ps_split (fun hb => ?_) (fun hb => ?_); (fail_if_success (guard_hyp hb : true = true)); (fail_if_success (guard_hyp hb : false = true)); all_goals (have hp := hb; (try simp only [decide_eq_true_eq, Bool.eq_false_iff, ne_eq, Bool.not_eq_true', Bool.not_eq_false', Bool.and_eq_true, Bool.or_eq_true, decide_true, decide_false, Bool.and_true, Bool.true_and, Bool.false_eq_true, not_false_eq_true, true_and, and_true] at hp); (try rw [hb]); (try clear hb))) | refine ps_alloc fun g => ?_ | refine ps_box fun g => ?_ | refine ps_store ?_ | refine ps_lit fun g => ?_ | refine pops_nil ?_ | (refine pd_split (fun hb => ?_) (fun hb => ?_); (fail_if_success (guard_hyp hb : true = true)); (fail_if_success (guard_hyp hb : false = true)); all_goals (have hp := hb; (try simp only [decide_eq_true_eq, Bool.eq_false_iff, ne_eq, Bool.not_eq_true', Bool.not_eq_false', Bool.and_eq_true, Bool.or_eq_true, decide_true, decide_false, Bool.and_true, Bool.true_and, Bool.false_eq_true, not_false_eq_true, true_and, and_true] at hp); (try rw [hb]); (try clear hb))) | (refine pops_go ?_ ?_ ?_; first | refine pops_end ?_ | (refine ps_split (fun hb => ?_) (fun hb => ?_); (fail_if_success (guard_hyp hb : true = true)); (fail_if_success (guard_hyp hb : false = true)); all_goals (have hp := hb; (try simp only [decide_eq_true_eq, Bool.eq_false_iff, ne_eq, Bool.not_eq_true', Bool.not_eq_false', Bool.and_eq_true, Bool.or_eq_true, decide_true, decide_false, Bool.and_true, Bool.true_and, Bool.false_eq_true, not_false_eq_true, true_and, and_true] at hp); (try rw [hb]); (try clear hb))) | refine ps_alloc fun g => ?_ | refine ps_box fun g => ?_ | refine ps_store ?_ | refine ps_lit fun g => ?_ | refine pops_nil ?_) | (refine pstl_go ?_ ?_ ?_; first | refine pstl_end ?_ | (refine pd_split (fun hb => ?_) (fun hb => ?_); (fail_if_success (guard_hyp hb : true = true)); (fail_if_success (guard_hyp hb : false = true)); all_goals (have hp := hb; (try simp only [decide_eq_true_eq, Bool.eq_false_iff, ne_eq, Bool.not_eq_true', Bool.not_eq_false', Bool.and_eq_true, Bool.or_eq_true, decide_true, decide_false, Bool.and_true, Bool.true_and, Bool.false_eq_true, not_false_eq_true, true_and, and_true] at hp); (try rw [hb]); (try clear hb)))) | (refine kn ?_; repeat (first | with_reducible refine blk_n ?_ | with_reducible refine beh_n ?_)) | (refine kx ?_; (repeat (first | with_reducible refine beh_x ?_ | with_reducible refine blk_up rfl ?_)); refine blk_here ?_; refine beh_n ?_)))
  refine ends_ret ?_ retPV_one
  exact ⟨rfl, rfl⟩
theorem ref_byte (l : List Int) (g0 g1 : Nat) (a : Int) (ha : 0 ≤ a ∧ a < 4294967296) (hl : l.length ≤ 1048576) : GCall Try.prog 33 [.ptr 0 g0 0 0, .v (.int .u32 a)]
    [⟨g0, true, 1, [[.vw 1 g1 0 l.length]]⟩, ⟨g1, true, 1, ints .u8 l⟩] (fun x S' => x = .tup [.v (.int .u8 (if a + 1 ≤ l.length then l.getD a.toNat 0 else 0)), .v (.bool (decide (a + 1 ≤ l.length)))] ∧ S' = [⟨g0, true, 1, [[.vw 1 g1 0 l.length]]⟩, ⟨g1, true, 1, ints .u8 l⟩]) := by
  refine gcall_of_tr Try.func33 rfl [.tmp 4, .tmp 5] Try.results33 17 rfl (tk_start ?_)
  (repeat refine ka ?_); refine kr ?_ ?_ (pops_end ?_)
  (repeat refine ka ?_); refine kr ?_ ?_ ?_
  refine ps_gcall (ref_is l g0 g1 a ha 1 (by decide) hl) ?_
  rintro x S' ⟨rfl, rfl⟩
  by_cases h : a + 1 ≤ l.length
  · rw [if_pos h, decide_eq_true h]
    have e0 : 0 + a.toNat = a.toNat := Nat.zero_add _
    refine pops_go ?_ ?_ (pops_end ?_)
    (repeat refine ka ?_); refine kcf ?_
    (repeat refine ka ?_); refine ksk ?_
    (repeat refine ka ?_); refine kr ?_ ?_ (pops_end ?_)
    (repeat refine ka ?_); refine kret ?_; repeat (first | with_reducible refine beh_r ?_ | with_reducible refine blk_r ?_)
    refine ends_ret ?_ retPV_two
    rw [Nat.zero_add]
    exact ⟨rfl, rfl⟩
  · rw [if_neg h, decide_eq_false h]
    refine pops_go ?_ ?_ (pops_end ?_)
    (repeat refine ka ?_); refine kct ?_
    (repeat refine ka ?_); refine kr ?_ ?_ (pops_end ?_)
    (repeat refine ka ?_); refine kret ?_; repeat (first | with_reducible refine beh_r ?_ | with_reducible refine blk_r ?_)
    refine ends_ret ?_ retPV_two
    exact ⟨rfl, rfl⟩
theorem ref_putbyte (l : List Int) (g0 g1 : Nat) (a : Int) (ha : 0 ≤ a ∧ a < 4294967296) (c : Int) (hl : l.length ≤ 1048576) : GCall Try.prog 27 [.ptr 0 g0 0 0, .v (.int .u32 a), .v (.int .u8 c)]
    [⟨g0, true, 1, [[.vw 1 g1 0 l.length]]⟩, ⟨g1, true, 1, ints .u8 l⟩] (fun x S' => x = .v (.bool (decide (a + 1 ≤ l.length))) ∧ S' = [⟨g0, true, 1, [[.vw 1 g1 0 (putIf l a [c]).length]]⟩, ⟨g1, true, 1, ints .u8 (putIf l a [c])⟩]) := by
  refine gcall_of_tr Try.func27 rfl [.tmp 6] Try.results27 18 rfl (tk_start ?_)
  (repeat refine ka ?_); refine kr ?_ ?_ (pops_end ?_)
  (repeat refine ka ?_); refine kr ?_ ?_ ?_
  refine ps_gcall (ref_is l g0 g1 a ha 1 (by decide) hl) ?_
  rintro x S' ⟨rfl, rfl⟩
  rw [putIf_length _ _ _ ha.1]
  by_cases h : a + 1 ≤ l.length
  · rw [decide_eq_true h, putIf, if_pos (by simpa using h)]
    refine pops_go ?_ ?_ (pops_end ?_)
    (repeat refine ka ?_); refine kcf ?_
    (repeat refine ka ?_); refine ksk ?_
    (repeat refine ka ?_); refine kr ?_ ?_ ?_
    refine ps_seti (k0 := .u8) (l := l) (hi := by omega) ?_
    refine pops_nil ?_
    (repeat refine ka ?_); refine kr ?_ ?_ (pops_end ?_)
    (repeat refine ka ?_); refine kret ?_; repeat (first | with_reducible refine beh_r ?_ | with_reducible refine blk_r ?_)
    refine ends_ret ?_ retPV_one
    refine ⟨rfl, ?_⟩
    have : putAt l a.toNat [c] = l.set (0 + a.toNat) c := by
      rw [Nat.zero_add]
      unfold putAt
      rw [List.set_eq_take_append_cons_drop, if_pos (by omega)]
      simp
    rw [this]
  · rw [decide_eq_false h, putIf, if_neg (by simpa using h)]
    refine pops_go ?_ ?_ (pops_end ?_)
    (repeat refine ka ?_); refine kct ?_
    (repeat refine ka ?_); refine kr ?_ ?_ (pops_end ?_)
    (repeat refine ka ?_); refine kret ?_; repeat (first | with_reducible refine beh_r ?_ | with_reducible refine blk_r ?_)
    refine ends_ret ?_ retPV_one
    exact ⟨rfl, rfl⟩
def downW (w : Int) : Nat → Int
  | 0 => w
  | 1 => w / 256
  | 2 => w / 65536
  | 3 => w / 16777216
  | _ => 0
theorem putAt_step (l b : List Int) (a i : Nat) (h : a + b.length ≤ l.length) (hi : i < b.length) : (putAt l a (b.take i)).set (a + i) (b.getD i 0) = putAt l a (b.take (i + 1)) := by
  apply List.ext_getElem?
  intro j
  have k1 := putAt_length l a (b.take i) (by rw [List.length_take]; omega)
  have k2 := putAt_length l a (b.take (i + 1)) (by rw [List.length_take]; omega)
  rcases Nat.lt_or_ge j l.length with hj | hj
  · have e1 : ((putAt l a (b.take i)).set (a + i) (b.getD i 0))[j]? = some (if a + i = j then b.getD i 0 else (putAt l a (b.take i)).getD j 0) := by
      rw [List.getElem?_set]
      by_cases h : a + i = j
      · rw [if_pos h, if_pos h, if_pos (by omega)]
      · rw [if_neg h, if_neg h]
        simp [List.getD, List.getElem?_eq_getElem (show j < (putAt l a (b.take i)).length by omega)]
    have e2 : (putAt l a (b.take (i + 1)))[j]? = some ((putAt l a (b.take (i + 1))).getD j 0) := by
      simp [List.getD, List.getElem?_eq_getElem (show j < (putAt l a (b.take (i + 1))).length by omega)]
    rw [e1, e2, putAt_getD _ _ _ _ (by rw [List.length_take]; omega), putAt_getD _ _ _ _ (by rw [List.length_take]; omega)]
    simp only [List.length_take, List.getD, List.getElem?_take]
    by_cases h1 : a + i = j
    · rw [if_pos h1, if_pos (by omega), if_pos (by omega), show j - a = i by omega]
    · rw [if_neg h1]
      by_cases h2 : a ≤ j ∧ j < a + min i b.length
      · rw [if_pos h2, if_pos (by omega), if_pos (by omega), if_pos (by omega)]
      · rw [if_neg h2, if_neg (by omega)]
  · rw [List.getElem?_eq_none (by rw [List.length_set]; omega), List.getElem?_eq_none (by omega)]
theorem ref_put (l : List Int) (g0 g1 : Nat) (a : Int) (ha : 0 ≤ a ∧ a < 4294967296) (b : List Int) (hb : b.length ≤ 1000000000) (hl : l.length ≤ 1048576) : GCall Try.prog 31 [.ptr 0 g0 0 0, .v (.int .u32 a), .ro 1 false (ints .u8 b)]
    [⟨g0, true, 1, [[.vw 1 g1 0 l.length]]⟩, ⟨g1, true, 1, ints .u8 l⟩] (fun x S' => x = .v (.bool (decide (a + b.length ≤ l.length))) ∧ S' = [⟨g0, true, 1, [[.vw 1 g1 0 (putIf l a b).length]]⟩, ⟨g1, true, 1, ints .u8 (putIf l a b)⟩]) := by
  refine gcall_of_tr Try.func31 rfl [.tmp 6] Try.results31 33 rfl (tk_start ?_)
  (repeat refine ka ?_); refine kr ?_ ?_ (pops_end ?_)
  (repeat refine ka ?_); refine kr ?_ ?_ ?_
  have hbl : (ints .u8 b).length = b.length := ints_length _ _
  refine ps_gcall (ref_is l g0 g1 a ha b.length ⟨by omega, by omega⟩ hl) ?_
  rintro x S' ⟨rfl, rfl⟩
  rw [putIf_length _ _ _ ha.1]
  by_cases h : a + b.length ≤ l.length
  · rw [decide_eq_true h, putIf, if_pos h]
    refine pops_go ?_ ?_ (pops_end ?_)
    (repeat refine ka ?_); refine kcf ?_
    (repeat refine ka ?_); refine ksk ?_
    (repeat refine ka ?_); refine kr ?_ ?_ (pops_end ?_)
    (repeat refine ka ?_); refine kb ?_
    refine kw (fun i : Nat => [(0, .ptr 0 g0 0 0), (1, .v (.int .u32 a)), (2, .ro 1 false (ints .u8 b)), (7, .v (.int .i64 i))]) (fun i => [⟨g0, true, 1, [[.vw 1 g1 0 l.length]]⟩, ⟨g1, true, 1, ints .u8 (putAt l a.toNat (b.take i))⟩]) (fun i => i ≤ b.length) (fun i => b.length - i) 0 (by omega) ?_ ?_
    · have : putAt l a.toNat (b.take 0) = l := by simp [putAt]
      rw [this]
      exact (holds 2 (by repeat (first | exact .nil | refine has1 ?_)))
    intro i hi
    have k1 := putAt_length l a.toNat (b.take i) (by rw [List.length_take]; omega)
    by_cases hlt : i < b.length
    · (repeat refine ka ?_); refine kr ?_ ?_ (pops_end ?_)
      (repeat refine ka ?_); refine kct ?_
      (repeat refine ka ?_); refine ksk ?_
      (repeat refine ka ?_); refine kb ?_
      (repeat refine ka ?_); refine kdw ?_ ?_
      · refine ps_seti (k0 := .u8) (l := putAt l a.toNat (b.take i)) (hi := by rw [k1]; omega) ?_
        refine pops_nil ?_
        refine kn ?_; repeat (first | with_reducible refine blk_n ?_ | with_reducible refine beh_n ?_)
        (repeat refine ka ?_); refine kr ?_ ?_ (pops_end ?_)
        refine kn ?_; repeat (first | with_reducible refine blk_n ?_ | with_reducible refine beh_n ?_)
        refine ⟨i + 1, by omega, by omega, ?_⟩
        rw [Int.toNat_natCast, show 0 + (a + (i : Int)).toNat = a.toNat + i by omega, putAt_step l b a.toNat i (by omega) hlt]
        exact (holds 2 (by repeat (first | exact .nil | refine has1 ?_)))
    · obtain rfl : i = b.length := by omega
      (repeat refine ka ?_); refine kr ?_ ?_ (pops_end ?_)
      (repeat refine ka ?_); refine kcf ?_
      (repeat refine ka ?_); refine kx ?_; (repeat (first | with_reducible refine beh_x ?_ | with_reducible refine blk_up rfl ?_)); refine blk_here ?_; refine beh_n ?_
      (repeat refine ka ?_); refine kr ?_ ?_ (pops_end ?_)
      (repeat refine ka ?_); refine kret ?_; repeat (first | with_reducible refine beh_r ?_ | with_reducible refine blk_r ?_)
      refine ends_ret ?_ retPV_one
      refine ⟨rfl, ?_⟩
      rw [List.take_length]
  · rw [decide_eq_false h, putIf, if_neg h]
    refine pops_go ?_ ?_ (pops_end ?_)
    (repeat refine ka ?_); refine kct ?_
    (repeat refine ka ?_); refine kr ?_ ?_ (pops_end ?_)
    (repeat refine ka ?_); refine kret ?_; repeat (first | with_reducible refine beh_r ?_ | with_reducible refine blk_r ?_)
    refine ends_ret ?_ retPV_one
    exact ⟨rfl, rfl⟩
theorem ref_putword (l : List Int) (g0 g1 : Nat) (a : Int) (ha : 0 ≤ a ∧ a < 4294967296) (w : Int) (hw : 0 ≤ w ∧ w < 4294967296) (hl : l.length ≤ 1048576) : GCall Try.prog 29 [.ptr 0 g0 0 0, .v (.int .u32 a), .v (.int .u32 w)]
    [⟨g0, true, 1, [[.vw 1 g1 0 l.length]]⟩, ⟨g1, true, 1, ints .u8 l⟩] (fun x S' => x = .v (.bool (decide (a % 4 = 0 ∧ a + 4 ≤ l.length))) ∧ S' = [⟨g0, true, 1, [[.vw 1 g1 0 (putW l a w).length]]⟩, ⟨g1, true, 1, ints .u8 (putW l a w)⟩]) := by
  refine gcall_of_tr Try.func29 rfl [.tmp 6] Try.results29 35 rfl (tk_start ?_)
  by_cases h0 : a % 4 = 0
  · (repeat refine ka ?_); refine kr ?_ ?_ (pops_end ?_)
    (repeat refine ka ?_); refine kr ?_ ?_ ?_
    refine ps_fcall_g [0, 1] (ref_is l g0 g1 a ha 4 (by decide) hl) ?_ (by rintro x S' ⟨rfl, rfl⟩; exact Nat.le_refl _)
    rintro x S' ⟨rfl, rfl⟩
    (intro x1 S1 hx1 hS1; simp only [List.map_cons, List.map_nil, renB, ren_ints, putB, List.set_cons_zero, List.set_cons_succ, List.cons_append, List.nil_append, List.append_nil, renL, ren, sg, List.length_cons, List.length_nil, Nat.reduceAdd, Nat.zero_add, Nat.add_zero] at hx1 hS1; subst hx1 hS1)
    rw [putW_length l a w ha.1]
    by_cases h1 : a + 4 ≤ l.length
    · have h : (a % 4 = 0 ∧ a + 4 ≤ l.length) := ⟨h0, h1⟩
      rw [decide_eq_true h1, decide_eq_true h, putW, if_pos h]
      have s0 : (setW l a.toNat w 0).set (0 + (a + 0).toNat) (w % 256) = setW l a.toNat w 1 := by rw [show 0 + (a + 0).toNat = a.toNat by omega]; rfl
      have s1 : (setW l a.toNat w 1).set (0 + (a + 1).toNat) (w / 256 % 256) = setW l a.toNat w 2 := by rw [show 0 + (a + 1).toNat = a.toNat + 1 by omega]; rfl
      have s2 : (setW l a.toNat w 2).set (0 + (a + 2).toNat) (w / 65536 % 256) = setW l a.toNat w 3 := by rw [show 0 + (a + 2).toNat = a.toNat + 2 by omega]; rfl
      have s3 : (setW l a.toNat w 3).set (0 + (a + 3).toNat) (w / 16777216 % 256) = setW l a.toNat w 4 := by rw [show 0 + (a + 3).toNat = a.toNat + 3 by omega]; rfl
      refine pops_go ?_ ?_ (pops_end ?_)
      (repeat refine ka ?_); refine kcf ?_
      (repeat refine ka ?_); refine ksk ?_
      (repeat refine ka ?_); refine kr ?_ ?_ (pops_end ?_)
      (repeat refine ka ?_); refine kb ?_
      refine kw (fun i : Nat => [(0, .ptr 0 g0 0 0), (1, .v (.int .u32 a)), (2, .v (.int .u32 (downW w i))), (7, .v (.int .i64 i))]) (fun i => [⟨g0, true, 1, [[.vw 1 g1 0 l.length]]⟩, ⟨g1, true, 1, ints .u8 (setW l a.toNat w i)⟩]) (fun i => i ≤ 4) (fun i => 4 - i) 0 (by omega) (holds 2 (by repeat (first | exact .nil | refine has1 ?_))) ?_
      intro i hi
      have v0 : downW w 0 / 256 = downW w 1 := rfl
      have v1 : downW w 1 / 256 = downW w 2 := by simp only [downW]; omega
      have v2 : downW w 2 / 256 = downW w 3 := by simp only [downW]; omega
      have v3 : downW w 3 / 256 = downW w 4 := by simp only [downW]; omega
      have b0 : 0 ≤ downW w 0 ∧ downW w 0 < 4294967296 := by simp only [downW]; omega
      have b1 : 0 ≤ downW w 1 ∧ downW w 1 < 4294967296 := by simp only [downW]; omega
      have b2 : 0 ≤ downW w 2 ∧ downW w 2 < 4294967296 := by simp only [downW]; omega
      have b3 : 0 ≤ downW w 3 ∧ downW w 3 < 4294967296 := by simp only [downW]; omega
      change (setW l a.toNat w 0).set (0 + (a + 0).toNat) (downW w 0 % 256) = _ at s0
      change (setW l a.toNat w 1).set (0 + (a + 1).toNat) (downW w 1 % 256) = _ at s1
      change (setW l a.toNat w 2).set (0 + (a + 2).toNat) (downW w 2 % 256) = _ at s2
      change (setW l a.toNat w 3).set (0 + (a + 3).toNat) (downW w 3 % 256) = _ at s3
      obtain rfl | rfl | rfl | rfl | rfl : i = 0 ∨ i = 1 ∨ i = 2 ∨ i = 3 ∨ i = 4 := by omega
      · simp only [Int.cast_ofNat_Int]
        (repeat refine ka ?_); refine kr ?_ ?_ (pops_end ?_)
        (repeat refine ka ?_); refine kct ?_
        (repeat refine ka ?_); refine ksk ?_
        (repeat refine ka ?_); refine kb ?_
        (repeat refine ka ?_); refine kr ?_ ?_ ?_
        refine ps_seti (k0 := .u8) (l := setW l a.toNat w 0) (hi := by rw [setW_length]; omega) ?_
        refine pops_nil ?_
        (repeat refine ka ?_); refine kr ?_ ?_ (pops_end ?_)
        refine kn ?_; repeat (first | with_reducible refine blk_n ?_ | with_reducible refine beh_n ?_)
        (repeat refine ka ?_); refine kr ?_ ?_ (pops_end ?_)
        refine kn ?_; repeat (first | with_reducible refine blk_n ?_ | with_reducible refine beh_n ?_)
        refine ⟨1, by omega, by omega, ?_⟩
        rw [← s0, ← v0]
        exact (holds 2 (by repeat (first | exact .nil | refine has1 ?_)))
      · simp only [Int.cast_ofNat_Int]
        (repeat refine ka ?_); refine kr ?_ ?_ (pops_end ?_)
        (repeat refine ka ?_); refine kct ?_
        (repeat refine ka ?_); refine ksk ?_
        (repeat refine ka ?_); refine kb ?_
        (repeat refine ka ?_); refine kr ?_ ?_ ?_
        refine ps_seti (k0 := .u8) (l := setW l a.toNat w 1) (hi := by rw [setW_length]; omega) ?_
        refine pops_nil ?_
        (repeat refine ka ?_); refine kr ?_ ?_ (pops_end ?_)
        refine kn ?_; repeat (first | with_reducible refine blk_n ?_ | with_reducible refine beh_n ?_)
        (repeat refine ka ?_); refine kr ?_ ?_ (pops_end ?_)
        refine kn ?_; repeat (first | with_reducible refine blk_n ?_ | with_reducible refine beh_n ?_)
        refine ⟨2, by omega, by omega, ?_⟩
        rw [← s1, ← v1]
        exact (holds 2 (by repeat (first | exact .nil | refine has1 ?_)))
      · simp only [Int.cast_ofNat_Int]
        (repeat refine ka ?_); refine kr ?_ ?_ (pops_end ?_)
        (repeat refine ka ?_); refine kct ?_
        (repeat refine ka ?_); refine ksk ?_
        (repeat refine ka ?_); refine kb ?_
        (repeat refine ka ?_); refine kr ?_ ?_ ?_
        refine ps_seti (k0 := .u8) (l := setW l a.toNat w 2) (hi := by rw [setW_length]; omega) ?_
        refine pops_nil ?_
        (repeat refine ka ?_); refine kr ?_ ?_ (pops_end ?_)
        refine kn ?_; repeat (first | with_reducible refine blk_n ?_ | with_reducible refine beh_n ?_)
        (repeat refine ka ?_); refine kr ?_ ?_ (pops_end ?_)
        refine kn ?_; repeat (first | with_reducible refine blk_n ?_ | with_reducible refine beh_n ?_)
        refine ⟨3, by omega, by omega, ?_⟩
        rw [← s2, ← v2]
        exact (holds 2 (by repeat (first | exact .nil | refine has1 ?_)))
      · simp only [Int.cast_ofNat_Int]
        (repeat refine ka ?_); refine kr ?_ ?_ (pops_end ?_)
        (repeat refine ka ?_); refine kct ?_
        (repeat refine ka ?_); refine ksk ?_
        (repeat refine ka ?_); refine kb ?_
        (repeat refine ka ?_); refine kr ?_ ?_ ?_
        refine ps_seti (k0 := .u8) (l := setW l a.toNat w 3) (hi := by rw [setW_length]; omega) ?_
        refine pops_nil ?_
        (repeat refine ka ?_); refine kr ?_ ?_ (pops_end ?_)
        refine kn ?_; repeat (first | with_reducible refine blk_n ?_ | with_reducible refine beh_n ?_)
        (repeat refine ka ?_); refine kr ?_ ?_ (pops_end ?_)
        refine kn ?_; repeat (first | with_reducible refine blk_n ?_ | with_reducible refine beh_n ?_)
        refine ⟨4, by omega, by omega, ?_⟩
        rw [← s3, ← v3]
        exact (holds 2 (by repeat (first | exact .nil | refine has1 ?_)))
      · simp only [Int.cast_ofNat_Int]
        (repeat refine ka ?_); refine kr ?_ ?_ (pops_end ?_)
        (repeat refine ka ?_); refine kcf ?_
        (repeat refine ka ?_); refine kx ?_; (repeat (first | with_reducible refine beh_x ?_ | with_reducible refine blk_up rfl ?_)); refine blk_here ?_; refine beh_n ?_
        (repeat refine ka ?_); refine kr ?_ ?_ (pops_end ?_)
        (repeat refine ka ?_); refine kret ?_; repeat (first | with_reducible refine beh_r ?_ | with_reducible refine blk_r ?_)
        refine ends_ret ?_ retPV_one
        refine ⟨rfl, ?_⟩
        rw [setW_all l a.toNat w (by omega)]
    · have h : ¬ (a % 4 = 0 ∧ a + 4 ≤ l.length) := fun k => h1 k.2
      rw [decide_eq_false h1, decide_eq_false h, putW, if_neg h]
      refine pops_go ?_ ?_ (pops_end ?_)
      (repeat refine ka ?_); refine kct ?_
      (repeat refine ka ?_); refine kr ?_ ?_ (pops_end ?_)
      (repeat refine ka ?_); refine kret ?_; repeat (first | with_reducible refine beh_r ?_ | with_reducible refine blk_r ?_)
      refine ends_ret ?_ retPV_one
      exact ⟨rfl, rfl⟩
  · have h : ¬ (a % 4 = 0 ∧ a + 4 ≤ l.length) := fun k => h0 k.1
    rw [decide_eq_false h, putW, if_neg h]
    (repeat refine ka ?_); refine kr ?_ ?_ (pops_end ?_)
    (repeat refine ka ?_); refine kr ?_ ?_ (pops_end ?_)
    (repeat refine ka ?_); refine kct ?_
    (repeat refine ka ?_); refine kr ?_ ?_ (pops_end ?_)
    (repeat refine ka ?_); refine kret ?_; repeat (first | with_reducible refine beh_r ?_ | with_reducible refine blk_r ?_)
    refine ends_ret ?_ retPV_one
    exact ⟨rfl, rfl⟩
def accR (l : List Int) (a : Nat) : Nat → Int
  | 0 => 0
  | 1 => l.getD (a + 3) 0
  | 2 => l.getD (a + 2) 0 + l.getD (a + 3) 0 * 256
  | 3 => l.getD (a + 1) 0 + l.getD (a + 2) 0 * 256 + l.getD (a + 3) 0 * 65536
  | _ => word4 l a
theorem ref_word (l : List Int) (hb : Oct l) (g0 g1 : Nat) (a : Int) (ha : 0 ≤ a ∧ a < 4294967296) (hl : l.length ≤ 1048576) : GCall Try.prog 35 [.ptr 0 g0 0 0, .v (.int .u32 a)]
    [⟨g0, true, 1, [[.vw 1 g1 0 l.length]]⟩, ⟨g1, true, 1, ints .u8 l⟩] (fun x S' => x = .tup [.v (.int .u32 (if (a % 4 = 0 ∧ a + 4 ≤ l.length) then word4 l a.toNat else 0)), .v (.bool (decide (a % 4 = 0 ∧ a + 4 ≤ l.length)))] ∧ S' = [⟨g0, true, 1, [[.vw 1 g1 0 l.length]]⟩, ⟨g1, true, 1, ints .u8 l⟩]) := by
  refine gcall_of_tr Try.func35 rfl [.tmp 4, .tmp 5] Try.results35 36 rfl (tk_start ?_)
  by_cases h0 : a % 4 = 0
  · (repeat refine ka ?_); refine kr ?_ ?_ (pops_end ?_)
    (repeat refine ka ?_); refine kr ?_ ?_ ?_
    refine ps_fcall_g [0, 1] (ref_is l g0 g1 a ha 4 (by decide) hl) ?_ (by rintro x S' ⟨rfl, rfl⟩; exact Nat.le_refl _)
    rintro x S' ⟨rfl, rfl⟩
    (intro x1 S1 hx1 hS1; simp only [List.map_cons, List.map_nil, renB, ren_ints, putB, List.set_cons_zero, List.set_cons_succ, List.cons_append, List.nil_append, List.append_nil, renL, ren, sg, List.length_cons, List.length_nil, Nat.reduceAdd, Nat.zero_add, Nat.add_zero] at hx1 hS1; subst hx1 hS1)
    by_cases h1 : a + 4 ≤ l.length
    · have h : (a % 4 = 0 ∧ a + 4 ≤ l.length) := ⟨h0, h1⟩
      rw [decide_eq_true h1, decide_eq_true h, if_pos h]
      have k0 := hb.getD (0 + (a + 3).toNat)
      have k1 := hb.getD (0 + (a + 2).toNat)
      have k2 := hb.getD (0 + (a + 1).toNat)
      have k3 := hb.getD (0 + (a + 0).toNat)
      have q0 : 256 * accR l a.toNat 0 + l.getD (0 + (a + 3).toNat) 0 = accR l a.toNat 1 := by rw [show 0 + (a + 3).toNat = a.toNat + 3 by omega]; simp [accR]
      have q1 : 256 * accR l a.toNat 1 + l.getD (0 + (a + 2).toNat) 0 = accR l a.toNat 2 := by rw [show 0 + (a + 2).toNat = a.toNat + 2 by omega]; simp only [accR]; omega
      have q2 : 256 * accR l a.toNat 2 + l.getD (0 + (a + 1).toNat) 0 = accR l a.toNat 3 := by rw [show 0 + (a + 1).toNat = a.toNat + 1 by omega]; simp only [accR]; omega
      have q3 : 256 * accR l a.toNat 3 + l.getD (0 + (a + 0).toNat) 0 = accR l a.toNat 4 := by rw [show 0 + (a + 0).toNat = a.toNat by omega]; simp only [accR, word4]; omega
      have c0 : accR l a.toNat 0 = 0 := rfl
      have c1 : 0 ≤ accR l a.toNat 1 ∧ accR l a.toNat 1 < 256 := by omega
      have c2 : 0 ≤ accR l a.toNat 2 ∧ accR l a.toNat 2 < 65536 := by omega
      have c3 : 0 ≤ accR l a.toNat 3 ∧ accR l a.toNat 3 < 16777216 := by omega
      refine pops_go ?_ ?_ (pops_end ?_)
      (repeat refine ka ?_); refine kcf ?_
      (repeat refine ka ?_); refine ksk ?_
      (repeat refine ka ?_); refine kr ?_ ?_ (pops_end ?_)
      (repeat refine ka ?_); refine kr ?_ ?_ (pops_end ?_)
      (repeat refine ka ?_); refine kb ?_
      refine kw (fun i : Nat => [(0, .ptr 0 g0 0 0), (1, .v (.int .u32 a)), (6, .v (.int .u32 (accR l a.toNat i))), (7, .v (.int .i64 (3 - (i : Int))))]) (fun i => [⟨g0, true, 1, [[.vw 1 g1 0 l.length]]⟩, ⟨g1, true, 1, ints .u8 l⟩]) (fun i => i ≤ 4) (fun i => 4 - i) 0 (by omega) (holds 2 (by repeat (first | exact .nil | refine has1 ?_))) ?_
      intro i hi
      obtain rfl | rfl | rfl | rfl | rfl : i = 0 ∨ i = 1 ∨ i = 2 ∨ i = 3 ∨ i = 4 := by omega
      · simp only [Int.cast_ofNat_Int, Int.reduceSub]
        (repeat refine ka ?_); refine kr ?_ ?_ (pops_end ?_)
        (repeat refine ka ?_); refine kct ?_
        (repeat refine ka ?_); refine ksk ?_
        (repeat refine ka ?_); refine kb ?_
        (repeat refine ka ?_); refine kr ?_ ?_ (pops_end ?_)
        refine kn ?_; repeat (first | with_reducible refine blk_n ?_ | with_reducible refine beh_n ?_)
        (repeat refine ka ?_); refine kr ?_ ?_ (pops_end ?_)
        refine kn ?_; repeat (first | with_reducible refine blk_n ?_ | with_reducible refine beh_n ?_)
        refine ⟨1, by omega, by omega, ?_⟩
        rw [← q0]
        exact (holds 2 (by repeat (first | exact .nil | refine has1 ?_)))
      · simp only [Int.cast_ofNat_Int, Int.reduceSub]
        (repeat refine ka ?_); refine kr ?_ ?_ (pops_end ?_)
        (repeat refine ka ?_); refine kct ?_
        (repeat refine ka ?_); refine ksk ?_
        (repeat refine ka ?_); refine kb ?_
        (repeat refine ka ?_); refine kr ?_ ?_ (pops_end ?_)
        refine kn ?_; repeat (first | with_reducible refine blk_n ?_ | with_reducible refine beh_n ?_)
        (repeat refine ka ?_); refine kr ?_ ?_ (pops_end ?_)
        refine kn ?_; repeat (first | with_reducible refine blk_n ?_ | with_reducible refine beh_n ?_)
        refine ⟨2, by omega, by omega, ?_⟩
        rw [← q1]
        exact (holds 2 (by repeat (first | exact .nil | refine has1 ?_)))
      · simp only [Int.cast_ofNat_Int, Int.reduceSub]
        (repeat refine ka ?_); refine kr ?_ ?_ (pops_end ?_)
        (repeat refine ka ?_); refine kct ?_
        (repeat refine ka ?_); refine ksk ?_
        (repeat refine ka ?_); refine kb ?_
        (repeat refine ka ?_); refine kr ?_ ?_ (pops_end ?_)
        refine kn ?_; repeat (first | with_reducible refine blk_n ?_ | with_reducible refine beh_n ?_)
        (repeat refine ka ?_); refine kr ?_ ?_ (pops_end ?_)
        refine kn ?_; repeat (first | with_reducible refine blk_n ?_ | with_reducible refine beh_n ?_)
        refine ⟨3, by omega, by omega, ?_⟩
        rw [← q2]
        exact (holds 2 (by repeat (first | exact .nil | refine has1 ?_)))
      · simp only [Int.cast_ofNat_Int, Int.reduceSub]
        (repeat refine ka ?_); refine kr ?_ ?_ (pops_end ?_)
        (repeat refine ka ?_); refine kct ?_
        (repeat refine ka ?_); refine ksk ?_
        (repeat refine ka ?_); refine kb ?_
        (repeat refine ka ?_); refine kr ?_ ?_ (pops_end ?_)
        refine kn ?_; repeat (first | with_reducible refine blk_n ?_ | with_reducible refine beh_n ?_)
        (repeat refine ka ?_); refine kr ?_ ?_ (pops_end ?_)
        refine kn ?_; repeat (first | with_reducible refine blk_n ?_ | with_reducible refine beh_n ?_)
        refine ⟨4, by omega, by omega, ?_⟩
        rw [← q3]
        exact (holds 2 (by repeat (first | exact .nil | refine has1 ?_)))
      · simp only [Int.cast_ofNat_Int, Int.reduceSub]
        (repeat refine ka ?_); refine kr ?_ ?_ (pops_end ?_)
        (repeat refine ka ?_); refine kcf ?_
        (repeat refine ka ?_); refine kx ?_; (repeat (first | with_reducible refine beh_x ?_ | with_reducible refine blk_up rfl ?_)); refine blk_here ?_; refine beh_n ?_
        (repeat refine ka ?_); refine kr ?_ ?_ (pops_end ?_)
        (repeat refine ka ?_); refine kret ?_; repeat (first | with_reducible refine beh_r ?_ | with_reducible refine blk_r ?_)
        refine ends_ret ?_ retPV_two
        exact ⟨rfl, rfl⟩
    · have h : ¬ (a % 4 = 0 ∧ a + 4 ≤ l.length) := fun k => h1 k.2
      rw [decide_eq_false h1, decide_eq_false h, if_neg h]
      refine pops_go ?_ ?_ (pops_end ?_)
      (repeat refine ka ?_); refine kct ?_
      (repeat refine ka ?_); refine kr ?_ ?_ (pops_end ?_)
      (repeat refine ka ?_); refine kret ?_; repeat (first | with_reducible refine beh_r ?_ | with_reducible refine blk_r ?_)
      refine ends_ret ?_ retPV_two
      exact ⟨rfl, rfl⟩
  · have h : ¬ (a % 4 = 0 ∧ a + 4 ≤ l.length) := fun k => h0 k.1
    rw [decide_eq_false h, if_neg h]
    (repeat refine ka ?_); refine kr ?_ ?_ (pops_end ?_)
    (repeat refine ka ?_); refine kr ?_ ?_ (pops_end ?_)
    (repeat refine ka ?_); refine kct ?_
    (repeat refine ka ?_); refine kr ?_ ?_ (pops_end ?_)
    (repeat refine ka ?_); refine kret ?_; repeat (first | with_reducible refine beh_r ?_ | with_reducible refine blk_r ?_)
    refine ends_ret ?_ retPV_two
    exact ⟨rfl, rfl⟩
theorem ref_bytes (l : List Int) (g0 g1 : Nat) (a : Int) (ha : 0 ≤ a ∧ a < 4294967296) (n : Int) (hn : 0 ≤ n ∧ n < 4294967296) (hl : l.length ≤ 1048576) : GCall Try.prog 37 [.ptr 0 g0 0 0, .v (.int .u32 a), .v (.int .u32 n)]
    [⟨g0, true, 1, [[.vw 1 g1 0 l.length]]⟩, ⟨g1, true, 1, ints .u8 l⟩] (fun x S' => (¬ a + n ≤ l.length ∧ S' = [⟨g0, true, 1, [[.vw 1 g1 0 l.length]]⟩, ⟨g1, true, 1, ints .u8 l⟩] ∧ x = .tup [.v (.slice none 0 0), .v (.bool false)]) ∨ (a + n ≤ l.length ∧ ∃ g2, S' = [⟨g0, true, 1, [[.vw 1 g1 0 l.length]]⟩, ⟨g1, true, 1, ints .u8 l⟩] ++ [⟨g2, true, 1, ints .u8 ((l.drop a.toNat).take n.toNat)⟩] ∧ x = .tup [.vw 2 g2 0 n.toNat, .v (.bool true)])) := by
  refine gcall_of_tr Try.func37 rfl [.tmp 6, .tmp 7] Try.results37 28 rfl (tk_start ?_)
  (repeat refine ka ?_); refine kr ?_ ?_ (pops_end ?_)
  (repeat refine ka ?_); refine kr ?_ ?_ ?_
  refine ps_gcall (ref_is l g0 g1 a ha n hn hl) ?_
  rintro x S' ⟨rfl, rfl⟩
  by_cases h : a + n ≤ l.length
  · rw [decide_eq_true h]
    refine pops_go ?_ ?_ (pops_end ?_)
    (repeat refine ka ?_); refine kcf ?_
    (repeat refine ka ?_); refine ksk ?_
    (repeat refine ka ?_); refine kr ?_ ?_ ?_
    refine ps_lit fun g2 => ?_
    refine pops_go ?_ ?_ ?_
    have hln : n.toNat = (a + n).toNat - a.toNat := by omega
    refine ps_app_vw (rows0 := []) (m := n.toNat) (rows := ints .u8 ((l.drop a.toNat).take n.toNat)) (rows' := ints .u8 ((l.drop a.toNat).take n.toNat)) (hsrc := by rw [hln]; exact srcRows_sub rfl rfl) (hm := by rw [ints_length, List.length_take, List.length_drop]; omega) (hrows := by rfl) fun g3 => ?_
    refine pops_go ?_ ?_ (pops_end ?_)
    (repeat refine ka ?_); refine kret ?_; repeat (first | with_reducible refine beh_r ?_ | with_reducible refine blk_r ?_)
    refine ends_ret ?_ retPV_two
    exact .inr ⟨h, g3, rfl, rfl⟩
  · rw [decide_eq_false h]
    refine pops_go ?_ ?_ (pops_end ?_)
    (repeat refine ka ?_); refine kct ?_
    (repeat refine ka ?_); refine kr ?_ ?_ (pops_end ?_)
    (repeat refine ka ?_); refine kret ?_; repeat (first | with_reducible refine beh_r ?_ | with_reducible refine blk_r ?_)
    refine ends_ret ?_ retPV_two
    exact .inl ⟨h, rfl, rfl⟩
end Go.Proofs.Ytaaealngifkaeaa.Pv
