-- inst: kept.
import Derived.Test.YtgbfbcbblndnoaaInB
namespace Go.Proofs.Ytgbfbcbblndnoaa.Pv
set_option linter.all false
open Go.RowKit Go.Proofs
set_option maxRecDepth 100000
set_option maxHeartbeats 4000000
def I64 (x : Int) : PV := .v (.int .i64 x)
def keptA (s : List Int) (l x : Int) : Int := if l ∈ s then x else 0
def kRow (s : List Int) (op a b c imm : Int) : Nat → List PV
  | 0 => [.v (.int .i64 op), .v (.int .i64 a), .v (.int .i64 b), .v (.int .i64 c), .v (.int .i64 imm)]
  | 1 => [.v (.int .i64 op), .v (.int .i64 (if 97 ∈ s then a else 0)), .v (.int .i64 b), .v (.int .i64 c), .v (.int .i64 imm)]
  | 2 => [.v (.int .i64 op), .v (.int .i64 (if 97 ∈ s then a else 0)), .v (.int .i64 (if 98 ∈ s then b else 0)), .v (.int .i64 c), .v (.int .i64 imm)]
  | _ => [.v (.int .i64 op), .v (.int .i64 (if 97 ∈ s then a else 0)), .v (.int .i64 (if 98 ∈ s then b else 0)), .v (.int .i64 (if 99 ∈ s then c else 0)), .v (.int .i64 imm)]
theorem kept_ok (s : List Int) (hs : Oct s) (op a b c imm : Int) : PCall Try.prog 56 [.agg [.v (.int .i64 op), .v (.int .i64 a), .v (.int .i64 b), .v (.int .i64 c), .v (.int .i64 imm)], .v (.string (str s))]
    (.agg [.v (.int .i64 op), .v (.int .i64 (if 97 ∈ s then a else 0)), .v (.int .i64 (if 98 ∈ s then b else 0)), .v (.int .i64 (if 99 ∈ s then c else 0)), .v (.int .i64 imm)]) := by
  obtain ⟨i0, h0, c0⟩ := index_ok s 97 hs (by decide) (by decide)
  obtain ⟨i1, h1, c1⟩ := index_ok s 98 hs (by decide) (by decide)
  obtain ⟨i2, h2, c2⟩ := index_ok s 99 hs (by decide) (by decide)
  refine pcall_mk Try.func56 rfl [.cell 4 71] Try.results56 24 rfl (tk_start ?_)
  (repeat refine ka ?_); refine kr ?_ ?_ ?_
  refine ps_box fun g0 => ?_
  refine ps_alloc fun g1 => ?_
  refine pops_nil ?_
  (repeat refine ka ?_); refine kr ?_ ?_ (pops_end ?_)
  (repeat refine ka ?_); refine kb ?_
  refine kw (fun i : Nat => [(1, .v (.string (str s))), (2, .ptr 0 g0 0 0), (4, .ptr 1 g1 0 0), (10, .agg [.ptr 0 g0 0 1, .ptr 0 g0 0 2, .ptr 0 g0 0 3]), (11, .v (.int .i64 i))]) (fun i => [⟨g0, true, 5, [kRow s op a b c imm i]⟩, ⟨g1, true, 5, [[.v (.int .i64 0), .v (.int .i64 0), .v (.int .i64 0), .v (.int .i64 0), .v (.int .i64 0)]]⟩]) (fun i => i ≤ 3) (fun i => 3 - i) 0 (by omega) (holds 2 (by repeat (first | exact .nil | refine has1 ?_))) ?_
  intro i hi
  obtain rfl | rfl | rfl | rfl : i = 0 ∨ i = 1 ∨ i = 2 ∨ i = 3 := by omega
  all_goals simp only [kRow]
  · (repeat refine ka ?_); refine kr ?_ ?_ (pops_end ?_)
    (repeat refine ka ?_); refine kct ?_
    (repeat refine ka ?_); refine ksk ?_
    (repeat refine ka ?_); refine kb ?_
    (repeat refine ka ?_); refine kr ?_ ?_ (pops_end ?_)
    (repeat refine ka ?_); refine kr ?_ ?_ ?_
    refine ps_pcall c0 ?_
    refine pops_go ?_ ?_ (pops_end ?_)
    by_cases m : 97 ∈ s
    · have : ¬ i0 < 0 := by have := h0; simp only [m, not_true_eq_false, iff_false] at this; exact this
      (repeat refine ka ?_); refine kcf ?_
      (repeat refine ka ?_); refine ksk ?_
      refine kn ?_; repeat (first | with_reducible refine blk_n ?_ | with_reducible refine beh_n ?_)
      (repeat refine ka ?_); refine kr ?_ ?_ (pops_end ?_)
      refine kn ?_; repeat (first | with_reducible refine blk_n ?_ | with_reducible refine beh_n ?_)
      refine ⟨1, by omega, by omega, ?_⟩
      simp only [kRow, if_pos m]
      exact (holds 2 (by repeat (first | exact .nil | refine has1 ?_)))
    · have : i0 < 0 := h0.2 m
      (repeat refine ka ?_); refine kct ?_
      (repeat refine ka ?_); refine kr ?_ ?_ ?_
      refine ps_store ?_
      refine pops_nil ?_
      refine kn ?_; repeat (first | with_reducible refine blk_n ?_ | with_reducible refine beh_n ?_)
      (repeat refine ka ?_); refine kr ?_ ?_ (pops_end ?_)
      refine kn ?_; repeat (first | with_reducible refine blk_n ?_ | with_reducible refine beh_n ?_)
      refine ⟨1, by omega, by omega, ?_⟩
      simp only [kRow, if_neg m]
      exact (holds 2 (by repeat (first | exact .nil | refine has1 ?_)))
  · (repeat refine ka ?_); refine kr ?_ ?_ (pops_end ?_)
    (repeat refine ka ?_); refine kct ?_
    (repeat refine ka ?_); refine ksk ?_
    (repeat refine ka ?_); refine kb ?_
    (repeat refine ka ?_); refine kr ?_ ?_ (pops_end ?_)
    (repeat refine ka ?_); refine kr ?_ ?_ ?_
    refine ps_pcall c1 ?_
    refine pops_go ?_ ?_ (pops_end ?_)
    by_cases m : 98 ∈ s
    · have : ¬ i1 < 0 := by have := h1; simp only [m, not_true_eq_false, iff_false] at this; exact this
      (repeat refine ka ?_); refine kcf ?_
      (repeat refine ka ?_); refine ksk ?_
      refine kn ?_; repeat (first | with_reducible refine blk_n ?_ | with_reducible refine beh_n ?_)
      (repeat refine ka ?_); refine kr ?_ ?_ (pops_end ?_)
      refine kn ?_; repeat (first | with_reducible refine blk_n ?_ | with_reducible refine beh_n ?_)
      refine ⟨2, by omega, by omega, ?_⟩
      simp only [kRow, if_pos m]
      exact (holds 2 (by repeat (first | exact .nil | refine has1 ?_)))
    · have : i1 < 0 := h1.2 m
      (repeat refine ka ?_); refine kct ?_
      (repeat refine ka ?_); refine kr ?_ ?_ ?_
      refine ps_store ?_
      refine pops_nil ?_
      refine kn ?_; repeat (first | with_reducible refine blk_n ?_ | with_reducible refine beh_n ?_)
      (repeat refine ka ?_); refine kr ?_ ?_ (pops_end ?_)
      refine kn ?_; repeat (first | with_reducible refine blk_n ?_ | with_reducible refine beh_n ?_)
      refine ⟨2, by omega, by omega, ?_⟩
      simp only [kRow, if_neg m]
      exact (holds 2 (by repeat (first | exact .nil | refine has1 ?_)))
  · (repeat refine ka ?_); refine kr ?_ ?_ (pops_end ?_)
    (repeat refine ka ?_); refine kct ?_
    (repeat refine ka ?_); refine ksk ?_
    (repeat refine ka ?_); refine kb ?_
    (repeat refine ka ?_); refine kr ?_ ?_ (pops_end ?_)
    (repeat refine ka ?_); refine kr ?_ ?_ ?_
    refine ps_pcall c2 ?_
    refine pops_go ?_ ?_ (pops_end ?_)
    by_cases m : 99 ∈ s
    · have : ¬ i2 < 0 := by have := h2; simp only [m, not_true_eq_false, iff_false] at this; exact this
      (repeat refine ka ?_); refine kcf ?_
      (repeat refine ka ?_); refine ksk ?_
      refine kn ?_; repeat (first | with_reducible refine blk_n ?_ | with_reducible refine beh_n ?_)
      (repeat refine ka ?_); refine kr ?_ ?_ (pops_end ?_)
      refine kn ?_; repeat (first | with_reducible refine blk_n ?_ | with_reducible refine beh_n ?_)
      refine ⟨3, by omega, by omega, ?_⟩
      simp only [kRow, if_pos m]
      exact (holds 2 (by repeat (first | exact .nil | refine has1 ?_)))
    · have : i2 < 0 := h2.2 m
      (repeat refine ka ?_); refine kct ?_
      (repeat refine ka ?_); refine kr ?_ ?_ ?_
      refine ps_store ?_
      refine pops_nil ?_
      refine kn ?_; repeat (first | with_reducible refine blk_n ?_ | with_reducible refine beh_n ?_)
      (repeat refine ka ?_); refine kr ?_ ?_ (pops_end ?_)
      refine kn ?_; repeat (first | with_reducible refine blk_n ?_ | with_reducible refine beh_n ?_)
      refine ⟨3, by omega, by omega, ?_⟩
      simp only [kRow, if_neg m]
      exact (holds 2 (by repeat (first | exact .nil | refine has1 ?_)))
  · (repeat refine ka ?_); refine kr ?_ ?_ (pops_end ?_)
    (repeat refine ka ?_); refine kcf ?_
    (repeat refine ka ?_); refine kx ?_; (repeat (first | with_reducible refine beh_x ?_ | with_reducible refine blk_up rfl ?_)); refine blk_here ?_; refine beh_n ?_
    (repeat refine ka ?_); refine kr ?_ ?_ ?_
    refine ps_store ?_
    refine pops_nil ?_
    (repeat refine ka ?_); refine kret ?_; repeat (first | with_reducible refine beh_r ?_ | with_reducible refine blk_r ?_)
    refine ends_ret ?_ (retPV_1 res_cella)
    rfl
end Go.Proofs.Ytgbfbcbblndnoaa.Pv
