-- What is the same is told the same: lists of words, of relocations, code.
import Derived.Test.YtjbbomchmacdjaaLkB
namespace Go.Proofs.Ytjbbomchmacdjaa.Pv
set_option linter.all false
open Go.RowKit Go.Proofs
set_option maxRecDepth 100000
theorem words12 (l : List Int) (hl : l.length ≤ 1000000000) : PCall Try.prog 42 [.ro 1 false (ints .u32 l), .ro 1 false (ints .u32 l)] (.v (.bool true)) := by
  refine pcall_mk Try.func42 rfl [.tmp 4] Try.results42 26 rfl (tk_start ?_)
  (repeat refine ka ?_); refine kr ?_ ?_ (pops_end ?_)
  (repeat refine ka ?_); refine kr ?_ ?_ (pops_end ?_)
  (repeat refine ka ?_); refine kcf ?_
  (repeat refine ka ?_); refine ksk ?_
  (repeat refine ka ?_); refine kr ?_ ?_ (pops_end ?_)
  (repeat refine ka ?_); refine kb ?_
  refine kw (fun i : Nat => [(0, PV.ro 1 false (ints .u32 l)), (1, .ro 1 false (ints .u32 l)), (5, .v (.int .i64 i))]) (fun _ => []) (fun i => i ≤ l.length) (fun i => l.length - i) 0 (by simp) (holds 0 (by repeat (first | exact .nil | refine has1 ?_))) ?_
  rintro i hi
  by_cases g : (i : Int) < l.length
  · (repeat refine ka ?_); refine kr ?_ ?_ (pops_end ?_)
    (repeat refine ka ?_); refine kct ?_
    (repeat refine ka ?_); refine ksk ?_
    (repeat refine ka ?_); refine kb ?_
    (repeat refine ka ?_); refine kd ?_ ?_ (pstl_end ?_)
    (repeat refine ka ?_); refine kcf ?_
    (repeat refine ka ?_); refine ksk ?_
    refine kn ?_; repeat (first | with_reducible refine blk_n ?_ | with_reducible refine beh_n ?_)
    (repeat refine ka ?_); refine kr ?_ ?_ (pops_end ?_)
    refine kn ?_; repeat (first | with_reducible refine blk_n ?_ | with_reducible refine beh_n ?_)
    exact ⟨i + 1, by omega, by omega, (holds 0 (by repeat (first | exact .nil | refine has1 ?_)))⟩
  · (repeat refine ka ?_); refine kr ?_ ?_ (pops_end ?_)
    (repeat refine ka ?_); refine kcf ?_
    (repeat refine ka ?_); refine kx ?_; (repeat (first | with_reducible refine beh_x ?_ | with_reducible refine blk_up rfl ?_)); refine blk_here ?_; refine beh_n ?_
    (repeat refine ka ?_); refine kr ?_ ?_ (pops_end ?_)
    (repeat refine ka ?_); refine kret ?_; repeat (first | with_reducible refine beh_r ?_ | with_reducible refine blk_r ?_)
    refine ends_ret ?_ retPV_one
    rfl
theorem equal_words (l : List Int) (hl : l.length ≤ 1000000000) : PCall Try.prog 70 [.ro 1 false (ints .u32 l), .ro 1 false (ints .u32 l)] (.v (.bool true)) := by
  refine pcall_mk Try.func70 rfl [.tmp 4] Try.results70 26 rfl (tk_start ?_)
  (repeat refine ka ?_); refine kr ?_ ?_ (pops_end ?_)
  (repeat refine ka ?_); refine kr ?_ ?_ (pops_end ?_)
  (repeat refine ka ?_); refine kcf ?_
  (repeat refine ka ?_); refine ksk ?_
  (repeat refine ka ?_); refine kr ?_ ?_ (pops_end ?_)
  (repeat refine ka ?_); refine kb ?_
  refine kw (fun i : Nat => [(0, PV.ro 1 false (ints .u32 l)), (1, .ro 1 false (ints .u32 l)), (12, .v (.int .i64 l.length)), (13, .v (.int .i64 i))]) (fun _ => []) (fun i => i ≤ l.length) (fun i => l.length - i) 0 (by simp) (holds 0 (by repeat (first | exact .nil | refine has1 ?_))) ?_
  rintro i hi
  by_cases g : (i : Int) < l.length
  · (repeat refine ka ?_); refine kr ?_ ?_ (pops_end ?_)
    (repeat refine ka ?_); refine kct ?_
    (repeat refine ka ?_); refine ksk ?_
    (repeat refine ka ?_); refine kb ?_
    (repeat refine ka ?_); refine kr ?_ ?_ (pops_end ?_)
    (repeat refine ka ?_); refine kd ?_ ?_ (pstl_end ?_)
    (repeat refine ka ?_); refine kcf ?_
    (repeat refine ka ?_); refine ksk ?_
    refine kn ?_; repeat (first | with_reducible refine blk_n ?_ | with_reducible refine beh_n ?_)
    (repeat refine ka ?_); refine kr ?_ ?_ (pops_end ?_)
    refine kn ?_; repeat (first | with_reducible refine blk_n ?_ | with_reducible refine beh_n ?_)
    exact ⟨i + 1, by omega, by omega, (holds 0 (by repeat (first | exact .nil | refine has1 ?_)))⟩
  · (repeat refine ka ?_); refine kr ?_ ?_ (pops_end ?_)
    (repeat refine ka ?_); refine kcf ?_
    (repeat refine ka ?_); refine kx ?_; (repeat (first | with_reducible refine beh_x ?_ | with_reducible refine blk_up rfl ?_)); refine blk_here ?_; refine beh_n ?_
    (repeat refine ka ?_); refine kr ?_ ?_ (pops_end ?_)
    (repeat refine ka ?_); refine kret ?_; repeat (first | with_reducible refine beh_r ?_ | with_reducible refine blk_r ?_)
    refine ends_ret ?_ retPV_one
    rfl
theorem equal_rels (R : List (Int × Bool)) (hl : R.length ≤ 1000000000) : PCall Try.prog 71 [.ro 2 false (relRows R), .ro 2 false (relRows R)] (.v (.bool true)) := by
  have hrl := relRows_length R
  refine pcall_mk Try.func71 rfl [.tmp 4] Try.results71 26 rfl (tk_start ?_)
  (repeat refine ka ?_); refine kr ?_ ?_ (pops_end ?_)
  (repeat refine ka ?_); refine kr ?_ ?_ (pops_end ?_)
  (repeat refine ka ?_); refine kcf ?_
  (repeat refine ka ?_); refine ksk ?_
  (repeat refine ka ?_); refine kr ?_ ?_ (pops_end ?_)
  (repeat refine ka ?_); refine kb ?_
  refine kw (fun i : Nat => [(0, PV.ro 2 false (relRows R)), (1, .ro 2 false (relRows R)), (12, .v (.int .i64 R.length)), (13, .v (.int .i64 i))]) (fun _ => []) (fun i => i ≤ R.length) (fun i => R.length - i) 0 (by simp) (holds 0 (by repeat (first | exact .nil | refine has1 ?_))) ?_
  rintro i hi
  by_cases g : (i : Int) < R.length
  · obtain ⟨r, hr⟩ : ∃ r, R[i]? = some r := ⟨R[i], by simp [show i < R.length by omega]⟩
    have hrow := relRows_get hr
    (repeat refine ka ?_); refine kr ?_ ?_ (pops_end ?_)
    (repeat refine ka ?_); refine kct ?_
    (repeat refine ka ?_); refine ksk ?_
    (repeat refine ka ?_); refine kb ?_
    (repeat refine ka ?_); refine kr ?_ ?_ (pops_end ?_)
    (repeat refine ka ?_); refine kd ?_ ?_ (pstl_end ?_)
    (repeat refine ka ?_); refine kcf ?_
    (repeat refine ka ?_); refine ksk ?_
    refine kn ?_; repeat (first | with_reducible refine blk_n ?_ | with_reducible refine beh_n ?_)
    (repeat refine ka ?_); refine kr ?_ ?_ (pops_end ?_)
    refine kn ?_; repeat (first | with_reducible refine blk_n ?_ | with_reducible refine beh_n ?_)
    exact ⟨i + 1, by omega, by omega, (holds 0 (by repeat (first | exact .nil | refine has1 ?_)))⟩
  · (repeat refine ka ?_); refine kr ?_ ?_ (pops_end ?_)
    (repeat refine ka ?_); refine kcf ?_
    (repeat refine ka ?_); refine kx ?_; (repeat (first | with_reducible refine beh_x ?_ | with_reducible refine blk_up rfl ?_)); refine blk_here ?_; refine beh_n ?_
    (repeat refine ka ?_); refine kr ?_ ?_ (pops_end ?_)
    (repeat refine ka ?_); refine kret ?_; repeat (first | with_reducible refine beh_r ?_ | with_reducible refine blk_r ?_)
    refine ends_ret ?_ retPV_one
    rfl
theorem asm_same (c : Cd) (hw : c.W.length ≤ 1000000000) (hr : c.R.length ≤ 1000000000) : PCall Try.prog 43 [c.pv, c.pv] (.v (.bool true)) := by
  have c1 := equal_words c.W hw
  have c2 := equal_rels c.R hr
  refine pcall_mk Try.func43 rfl [.tmp 4] Try.results43 17 rfl (tk_start ?_)
  unfold Cd.pv Cd.row
  (repeat refine ka ?_); refine kr ?_ ?_ ?_
  refine ps_box fun g0 => ?_
  refine ps_box fun g1 => ?_
  refine pops_go ?_ ?_ (pops_end ?_)
  (repeat refine ka ?_); refine kr ?_ ?_ ?_
  refine ps_pcall c1 ?_
  refine pops_go ?_ ?_ ?_
  refine ps_pcall_g c2 ?_
  refine pops_go ?_ ?_ (pops_end ?_)
  (repeat refine ka ?_); refine kret ?_; repeat (first | with_reducible refine beh_r ?_ | with_reducible refine blk_r ?_)
  refine ends_ret ?_ retPV_one
  rfl
theorem same12 (c : Cd) (hw : c.W.length ≤ 1000000000) (hr : c.R.length ≤ 1000000000) : PCall Try.prog 32 [c.pv, c.pv] (.v (.bool true)) := by
  have c1 := words12 c.W hw
  have hrl := relRows_length c.R
  obtain ⟨W, R⟩ := c
  dsimp only at hw hr hrl c1
  refine pcall_mk Try.func32 rfl [.tmp 4] Try.results32 39 rfl (tk_start ?_)
  unfold Cd.pv Cd.row
  dsimp only
  (repeat refine ka ?_); refine kr ?_ ?_ ?_
  refine ps_box fun g0 => ?_
  refine ps_box fun g1 => ?_
  refine pops_go ?_ ?_ (pops_end ?_)
  (repeat refine ka ?_); refine kr ?_ ?_ ?_
  refine ps_pcall c1 ?_
  refine pops_go ?_ ?_ (pops_end ?_)
  (repeat refine ka ?_); refine kcf ?_
  (repeat refine ka ?_); refine ksk ?_
  (repeat refine ka ?_); refine kr ?_ ?_ (pops_end ?_)
  (repeat refine ka ?_); refine kb ?_
  refine kw (fun i : Nat => [(2, .ptr 0 g0 0 0), (3, .ptr 1 g1 0 0), (5, .v (.int .i64 i))]) (fun _ => [⟨g0, true, 2, [[.ro 1 false (ints .u32 W), .ro 2 false (relRows R)]]⟩, ⟨g1, true, 2, [[.ro 1 false (ints .u32 W), .ro 2 false (relRows R)]]⟩]) (fun i => i ≤ R.length) (fun i => R.length - i) 0 (by simp) (holds 2 (by repeat (first | exact .nil | refine has1 ?_))) ?_
  rintro i hi
  by_cases g : (i : Int) < R.length
  · obtain ⟨r, hrr⟩ : ∃ r, R[i]? = some r := ⟨R[i], by simp [show i < R.length by omega]⟩
    have hrow := relRows_get hrr
    (repeat refine ka ?_); refine kr ?_ ?_ (pops_end ?_)
    (repeat refine ka ?_); refine kct ?_
    (repeat refine ka ?_); refine ksk ?_
    (repeat refine ka ?_); refine kb ?_
    (repeat refine ka ?_); refine kd ?_ ?_ (pstl_end ?_)
    (repeat refine ka ?_); refine kcf ?_
    (repeat refine ka ?_); refine ksk ?_
    refine kn ?_; repeat (first | with_reducible refine blk_n ?_ | with_reducible refine beh_n ?_)
    (repeat refine ka ?_); refine kr ?_ ?_ (pops_end ?_)
    refine kn ?_; repeat (first | with_reducible refine blk_n ?_ | with_reducible refine beh_n ?_)
    exact ⟨i + 1, by omega, by omega, (holds 2 (by repeat (first | exact .nil | refine has1 ?_)))⟩
  · (repeat refine ka ?_); refine kr ?_ ?_ (pops_end ?_)
    (repeat refine ka ?_); refine kcf ?_
    (repeat refine ka ?_); refine kx ?_; (repeat (first | with_reducible refine beh_x ?_ | with_reducible refine blk_up rfl ?_)); refine blk_here ?_; refine beh_n ?_
    (repeat refine ka ?_); refine kr ?_ ?_ (pops_end ?_)
    (repeat refine ka ?_); refine kret ?_; repeat (first | with_reducible refine beh_r ?_ | with_reducible refine blk_r ?_)
    refine ends_ret ?_ retPV_one
    rfl
end Go.Proofs.Ytjbbomchmacdjaa.Pv
