-- image.Read.
import Derived.Test.YtfjodfeoncoaoaaImQ
namespace Go.Proofs.Ytfjodfeoncoaoaa.Pv
set_option linter.all false
open Go.RowKit Go.Proofs
set_option maxRecDepth 100000
set_option maxHeartbeats 4000000
theorem findF_cases {b : List Int} (hb : Oct b) : (∃ a e, findF b = ((0, 0), (a, e)) ∧ (e = 4 ∨ e = 5 ∨ e = 6)) ∨ ∃ f t, findF b = ((f, t), (0, 0)) ∧ 0 ≤ f ∧ f + 44 ≤ t ∧ t + 12 ≤ b.length ∧ (b.length : Int) ≤ 1048576 := by
  have hla := lastAt_range b
  unfold findF
  split
  · exact .inl ⟨_, _, rfl, .inl rfl⟩
  split
  · exact .inl ⟨_, _, rfl, .inr (.inl rfl)⟩
  split
  · exact .inl ⟨_, _, rfl, .inr (.inl rfl)⟩
  have hr := num4_range hb (lastAt b - 8).toNat
  split
  · exact .inr ⟨_, _, rfl, by omega, by omega, by omega, by omega⟩
  · exact .inl ⟨_, _, rfl, .inr (.inr rfl)⟩
def readP (b : List Int) : PV := .tup [.agg (readF b).1.cells, .agg (readF b).2.1.cells, .v (.int .i64 (readF b).2.2)]
instance (b : List Int) : PureC (readP b) := ⟨by unfold readP; exact PureC.h⟩
theorem gives_zerof (S : List Blk) (e : Int) : Gives S (.tup [.agg zrow, .agg zwh, .v (.int .i64 e)]) (.tup [.agg Img.zero.cells, .agg Wh.zero.cells, .v (.int .i64 e)]) :=
  gives_three (gives_zimg S) (.same zwh_pure) (.same (.v _))
theorem read_ok (b : List Int) (hb : Oct b) (hl : b.length ≤ 1000000000000000) : PCall Try.prog 11 [.ro 1 false (ints .u8 b)] (readP b) := by
  have hfd := find_ok b hb hl
  rcases findF_cases hb with ⟨a, e, hf, he⟩ | ⟨f, t, hf, h0, h1, h2, h3⟩
  · rw [findP_err hf (by omega)] at hfd
    have htd := toldtr_ok a e (by omega)
    have hp : readP b = .tup [.agg Img.zero.cells, .agg Wh.zero.cells, .v (.int .i64 e)] := by
      unfold readP readF
      rw [hf, if_pos (by simp only; omega)]
    rw [hp]
    refine pcall_mkg Try.func11 rfl [.cell 2 29, .cell 3 39, .tmp 4] Try.results11 34 rfl (tk_start ?_)
    (repeat refine ka ?_); refine kr ?_ ?_ ?_
    refine ps_alloc fun g2 => ?_
    refine pops_go ?_ ?_ ?_
    refine ps_alloc fun g3 => ?_
    refine pops_go ?_ ?_ (pops_end ?_)
    (repeat refine ka ?_); refine kr ?_ ?_ ?_
    refine ps_pcall hfd ?_
    refine pops_go ?_ ?_ (pops_end ?_)
    (repeat refine ka ?_); refine kr ?_ ?_ ?_
    refine ps_ifn (v := .bool true) ?_
    refine pops_go ?_ ?_ (pops_end ?_)
    (repeat refine ka ?_); refine kct ?_
    (repeat refine ka ?_); refine kr ?_ ?_ ?_
    refine ps_pcall htd ?_
    refine ps_st_row ?_
    refine ps_st_row ?_
    refine pops_go ?_ ?_ (pops_end ?_)
    (repeat refine ka ?_); refine kret ?_; repeat (first | with_reducible refine beh_r ?_ | with_reducible refine blk_r ?_)
    refine ends_ret ?_ (retPV_3 res_row res_row res_tmp)
    exact gives_zerof _ _
  · rw [findP_ok hf] at hfd
    have hpa := parse_ok b hb (by omega) f t h0 h1 (by omega)
    have hp : readP b = .tup [.agg (parseF b f t).1.cells, .agg (parseF b f t).2.1.cells, .v (.int .i64 (parseF b f t).2.2)] := by
      unfold readP readF
      rw [hf]
      simp only [ne_eq, not_true_eq_false, if_false]
    rw [hp]
    clear hp
    by_cases hc : formed b f t = true ∧ (imgAt b f t).right = true
    · have hq : parseF b f t = (imgAt b f t, whAt b f t, 0) := by unfold parseF; rw [if_pos (by simp [hc])]
      rw [parseP_ok hc.1 hc.2] at hpa
      rw [hq]
      clear hq hc
      simp only
      generalize imgAt b f t = x at *
      generalize whAt b f t = w at *
      obtain ⟨⟨bcj, del, lz, rng, cry⟩, count, mid, raw, sum, n0, n1, stub, pay, dir⟩ := x
      obtain ⟨w0, w1, w2, w3, w4⟩ := w
      unfold Img.cells Wh.cells at *
      simp only at hpa ⊢
      refine pcall_mkg Try.func11 rfl [.cell 2 29, .cell 3 39, .tmp 4] Try.results11 34 rfl (tk_start ?_)
      (repeat refine ka ?_); refine kr ?_ ?_ ?_
      refine ps_alloc fun g2 => ?_
      refine pops_go ?_ ?_ ?_
      refine ps_alloc fun g3 => ?_
      refine pops_go ?_ ?_ (pops_end ?_)
      (repeat refine ka ?_); refine kr ?_ ?_ ?_
      refine ps_pcall hfd ?_
      refine pops_go ?_ ?_ (pops_end ?_)
      (repeat refine ka ?_); refine kr ?_ ?_ ?_
      refine ps_ifn (v := .bool false) ?_
      refine pops_go ?_ ?_ (pops_end ?_)
      (repeat refine ka ?_); refine kcf ?_
      (repeat refine ka ?_); refine ksk ?_
      (repeat refine ka ?_); refine kr ?_ ?_ ?_
      refine ps_pcall hpa ?_
      refine pops_go ?_ ?_ ?_
      refine ps_alloc fun g8 => ?_
      refine pops_go ?_ ?_ ?_
      refine ps_alloc fun g9 => ?_
      refine pops_go ?_ ?_ ?_
      refine ps_st_row ?_
      refine ps_st_row ?_
      refine pops_go ?_ ?_ (pops_end ?_)
      (repeat refine ka ?_); refine kds [0, 1, 2] [3, 4, 5, 6] ?_
      refine pstl_go ?_ ?_ (pstl_end ?_)
      refine hs_w [2] [0, 1] ?_ (by refine pstl_go ?_ ?_ (pstl_end ?_); exact rfl); refine pstl_go ?_ ?_ (pstl_end ?_); refine ⟨rfl, ?_⟩
      refine ps_pcall toldnil_ok ?_
      refine pops_nil ?_
      refine hs_w [0] [1] ?_ (by refine pstl_go ?_ ?_ (pstl_end ?_); exact rfl); refine pstl_go ?_ ?_ (pstl_end ?_); refine ⟨rfl, ?_⟩
      refine ps_st_row ?_
      refine pops_nil ?_
      refine hs_w [1] [] ?_ (by refine pstl_go ?_ ?_ (pstl_end ?_); exact rfl); refine pstl_go ?_ ?_ (pstl_end ?_); refine ⟨rfl, ?_⟩
      refine ps_st_row ?_
      refine pops_nil ?_
      refine hs_w [] [] ?_ (by refine pstl_go ?_ ?_ (pstl_end ?_); exact rfl); refine pstl_go ?_ ?_ (pstl_end ?_); refine ⟨rfl, ?_⟩
      refine ps_ev (p := .v (.int .i64 0)) ?_ rfl
      refine pops_nil ?_
      refine hs_end ?_; refine pstl_go ?_ ?_ (pstl_end ?_); refine ⟨rfl, ?_⟩
      (repeat refine ka ?_); refine kret ?_; repeat (first | with_reducible refine beh_r ?_ | with_reducible refine blk_r ?_)
      refine ends_ret ?_ (retPV_3 res_row res_row res_tmp)
      exact .same PureC.h
    · have hq : parseF b f t = (Img.zero, Wh.zero, 2) := by unfold parseF; rw [if_neg (by simpa using hc)]
      rw [parseP_err hc] at hpa
      rw [hq]
      clear hq hc
      have htd := toldtr_ok f 2 (by omega)
      simp only
      unfold Img.cells Img.zero Wh.cells Wh.zero at *
      simp only at hpa ⊢
      refine pcall_mkg Try.func11 rfl [.cell 2 29, .cell 3 39, .tmp 4] Try.results11 34 rfl (tk_start ?_)
      (repeat refine ka ?_); refine kr ?_ ?_ ?_
      refine ps_alloc fun g2 => ?_
      refine pops_go ?_ ?_ ?_
      refine ps_alloc fun g3 => ?_
      refine pops_go ?_ ?_ (pops_end ?_)
      (repeat refine ka ?_); refine kr ?_ ?_ ?_
      refine ps_pcall hfd ?_
      refine pops_go ?_ ?_ (pops_end ?_)
      (repeat refine ka ?_); refine kr ?_ ?_ ?_
      refine ps_ifn (v := .bool false) ?_
      refine pops_go ?_ ?_ (pops_end ?_)
      (repeat refine ka ?_); refine kcf ?_
      (repeat refine ka ?_); refine ksk ?_
      (repeat refine ka ?_); refine kr ?_ ?_ ?_
      refine ps_pcall hpa ?_
      refine pops_go ?_ ?_ ?_
      refine ps_alloc fun g8 => ?_
      refine pops_go ?_ ?_ ?_
      refine ps_alloc fun g9 => ?_
      refine pops_go ?_ ?_ ?_
      refine ps_st_row ?_
      refine ps_st_row ?_
      refine pops_go ?_ ?_ (pops_end ?_)
      (repeat refine ka ?_); refine kds [0, 1, 2] [3, 4, 5, 6] ?_
      refine pstl_go ?_ ?_ (pstl_end ?_)
      refine hs_w [2] [0, 1] ?_ (by refine pstl_go ?_ ?_ (pstl_end ?_); exact rfl); refine pstl_go ?_ ?_ (pstl_end ?_); refine ⟨rfl, ?_⟩
      refine ps_pcall htd ?_
      refine pops_nil ?_
      refine hs_w [0] [1] ?_ (by refine pstl_go ?_ ?_ (pstl_end ?_); exact rfl); refine pstl_go ?_ ?_ (pstl_end ?_); refine ⟨rfl, ?_⟩
      refine ps_st_row ?_
      refine pops_nil ?_
      refine hs_w [1] [] ?_ (by refine pstl_go ?_ ?_ (pstl_end ?_); exact rfl); refine pstl_go ?_ ?_ (pstl_end ?_); refine ⟨rfl, ?_⟩
      refine ps_st_row ?_
      refine pops_nil ?_
      refine hs_w [] [] ?_ (by refine pstl_go ?_ ?_ (pstl_end ?_); exact rfl); refine pstl_go ?_ ?_ (pstl_end ?_); refine ⟨rfl, ?_⟩
      refine ps_ev (p := .v (.int .i64 2)) ?_ rfl
      refine pops_nil ?_
      refine hs_end ?_; refine pstl_go ?_ ?_ (pstl_end ?_); refine ⟨rfl, ?_⟩
      (repeat refine ka ?_); refine kret ?_; repeat (first | with_reducible refine beh_r ?_ | with_reducible refine blk_r ?_)
      refine ends_ret ?_ (retPV_3 res_row res_row res_tmp)
      exact .same PureC.h
end Go.Proofs.Ytfjodfeoncoaoaa.Pv
