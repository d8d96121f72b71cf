-- carapacelaw12.code.
import Derived.Test.YtjbbomchmacdjaaLkA
namespace Go.Proofs.Ytjbbomchmacdjaa.Pv
set_option linter.all false
open Go.RowKit Go.Proofs
set_option maxRecDepth 100000
theorem code12 (c : Cd) (hl : c.R.length ≤ 1000000) : PCall Try.prog 40 [c.pv] c.pv := by
  have hrl := relRows_length c.R
  obtain ⟨W, R⟩ := c
  dsimp only at hl hrl
  refine pcall_mkg Try.func40 rfl [.cell 2 44] Try.results40 26 rfl (tk_start ?_)
  unfold Cd.pv Cd.row
  dsimp only
  (repeat refine ka ?_); refine kr ?_ ?_ ?_
  refine ps_box fun g0 => ?_
  refine ps_alloc fun g1 => ?_
  refine pops_nil ?_
  (repeat refine ka ?_); refine kr ?_ ?_ ?_
  refine ps_alloc fun g2 => ?_
  refine ps_store ?_
  refine pops_nil ?_
  (repeat refine ka ?_)
  refine kvoidc 2 1 2 (i := 0) (fun g3 => ?_)
  (repeat refine ka ?_); refine kr ?_ ?_ (pops_end ?_)
  (repeat refine ka ?_); refine kb ?_
  refine kw (fun s : Nat × Nat => [(1, .ptr 0 g0 0 0), (2, .ptr 1 g1 0 0), (3, .ptr 2 g2 0 0), (4, .v (.int .i64 s.1))]) (fun s => [⟨g0, true, 2, [[.ro 1 false (ints .u32 W), .ro 2 false (relRows R)]]⟩, ⟨g1, true, 2, [[.v (.slice none 0 0), .v (.slice none 0 0)]]⟩, ⟨g2, true, 2, [[.ro 1 false (ints .u32 W), .vw 3 s.2 0 s.1]]⟩, ⟨s.2, true, 2, relRows (R.take s.1)⟩])
    (fun s => s.1 ≤ R.length) (fun s => R.length - s.1) (0, g3) (by simp) (holds 4 (by repeat (first | exact .nil | refine has1 ?_))) ?_
  rintro ⟨i, g3⟩ hi
  simp only at hi ⊢
  have htl : (relRows (R.take i)).length = i := by rw [relRows_length, List.length_take]; omega
  by_cases h : i < R.length
  · obtain ⟨r, hr⟩ : ∃ r, R[i]? = some r := ⟨R[i], by simp [h]⟩
    have hrow := relRows_get hr
    have hts : relRows (R.take (i + 1)) = relRows (R.take i) ++ [[.v (.int .i64 r.1), .v (.bool r.2)]] := by
      rw [relRows_snoc, List.take_succ_eq_append_getElem h]
      congr 3
      rw [List.getElem?_eq_getElem h] at hr
      exact Option.some.inj hr
    (repeat refine ka ?_); refine kr ?_ ?_ (pops_end ?_)
    (repeat refine ka ?_); refine kct ?_
    (repeat refine ka ?_); refine ksk ?_
    (repeat refine ka ?_); refine kb ?_
    (repeat refine ka ?_); refine kds [0, 1, 2, 3, 4, 5, 6, 9] [7, 8, 10] ?_
    refine pstl_go ?_ ?_ (pstl_end ?_)
    refine hs_w [2, 3, 4, 5, 6] [0, 1, 9] ?_ (by refine pstl_go ?_ ?_ (pstl_end ?_); exact rfl); refine pstl_go ?_ ?_ (pstl_end ?_); refine ⟨rfl, ?_⟩
    refine ps_lit (fun g4 => ?_)
    refine pops_nil ?_
    refine hs_w [0, 1] [9] ?_ (by refine pstl_go ?_ ?_ (pstl_end ?_); exact rfl); refine pstl_go ?_ ?_ (pstl_end ?_); refine ⟨rfl, ?_⟩
    refine ps_app_vw (rows' := relRows (R.take (i + 1))) (fun g5 => ?_) (hrows := hts.symm) (hlen := htl.symm) (hsrc := by simp [srcRows, PS.get, look])
    refine pops_nil ?_
    refine hs_w [9] [] ?_ (by refine pstl_go ?_ ?_ (pstl_end ?_); exact rfl); refine pstl_go ?_ ?_ (pstl_end ?_); refine ⟨rfl, ?_⟩
    refine ps_store ?_
    refine pops_nil ?_
    refine hs_end ?_; refine pstl_go ?_ ?_ (pstl_end ?_); refine ⟨rfl, ?_⟩
    refine kn ?_; repeat (first | with_reducible refine blk_n ?_ | with_reducible refine beh_n ?_)
    (repeat refine ka ?_); refine kr ?_ ?_ (pops_end ?_)
    refine kn ?_; repeat (first | with_reducible refine blk_n ?_ | with_reducible refine beh_n ?_)
    exact ⟨(i + 1, g5), by simp only; omega, by simp only; omega, (holds 4 (by repeat (first | exact .nil | refine has1 ?_)))⟩
  · obtain rfl : i = R.length := by omega
    rw [List.take_length] at htl ⊢
    have htl' := htl
    (repeat refine ka ?_); refine kr ?_ ?_ (pops_end ?_)
    (repeat refine ka ?_); refine kcf ?_
    (repeat refine ka ?_); refine kx ?_; (repeat (first | with_reducible refine beh_x ?_ | with_reducible refine blk_up rfl ?_)); refine blk_here ?_; refine beh_n ?_
    (repeat refine ka ?_); refine kr ?_ ?_ ?_
    refine ps_store ?_
    refine pops_nil ?_
    (repeat refine ka ?_); refine kret ?_; repeat (first | with_reducible refine beh_r ?_ | with_reducible refine blk_r ?_)
    refine ends_ret ?_ (retPV_1 res_cella)
    exact gives_agg2 (.same (ints_pure _ _ _ _)) (gives_rows rfl rfl htl' (relRows_pure _))
end Go.Proofs.Ytjbbomchmacdjaa.Pv
