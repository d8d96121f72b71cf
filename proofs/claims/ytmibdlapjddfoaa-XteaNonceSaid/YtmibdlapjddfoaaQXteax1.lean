-- Text written by a program of this session (wip/tools).
import Derived.Test.YtmibdlapjddfoaaQXteax0
namespace Go.Proofs.Ytmibdlapjddfoaa.QXtea
open Go.RowKit Go.Proofs.YtmibdlapjddfoaaW.PrintWords Go.Proofs.YtmibdlapjddfoaaW.PrintLast Go.Proofs.YtmibdlapjddfoaaW.PrintMore
attribute [local go_sem] max2_int min2_int max_two min_two max_three min_three max_four min_four   -- for this text's walks alone
set_option linter.unusedVariables false
set_option linter.unusedSimpArgs false

theorem eqA46 (d : Nat) (w : World) (x0 y0 : Int) (x1 y1 : Int) :
    (Op.equalIn (d + 2) 46 (.agg #[.int .u32 x0, .int .u32 x1]) (.agg #[.int .u32 y0, .int .u32 y1])).run Try.prog w = .ok (x0 == y0 && (x1 == y1)) w := by
  refine Base.eqArr_of Try.underlying46 (by kernel_rfl) ?_
  simp only [List.range_succ, List.range_zero, List.nil_append, List.cons_append]
  refine Base.eqi_cons (by go_simp; rfl) (by go_simp; rfl) (by go_simp) ?_
  exact Base.eqi_last (by go_simp; rfl) (by go_simp; rfl) (by go_simp)
end Go.Proofs.Ytmibdlapjddfoaa.QXtea
