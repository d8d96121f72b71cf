-- carapacelaw05.RcTells.
import Derived.Test.YtjbbomchmacdjaaRcM
namespace Go.Proofs.Ytjbbomchmacdjaa.Pv
set_option linter.all false
open Go.RowKit Go.Proofs
set_option maxRecDepth 100000
set_option maxHeartbeats 4000000
theorem rctells_walk {x0 x1 x2 : PV} (h0 : SSl 1 1 (SInt .u8) [x0]) (h1 : SSl 1 1 (SInt .u8) [x1]) (h2 : ∃ xs, x2 = .agg xs ∧ SArr 3 (SInt .i64) xs) : PCall Try.prog 3 [x0, x1, x2] (.v (.bool true)) := by
  obtain ⟨a, rfl, hla, ha⟩ := sl_ints h0
  obtain ⟨b, rfl, hlb, hb⟩ := sl_ints h1
  obtain ⟨xs, rfl, hx⟩ := h2
  obtain ⟨l, rfl, hll, -⟩ := arr_ints hx
  obtain ⟨n0, n1, n2, rfl⟩ : ∃ n0 n1 n2, l = [n0, n1, n2] := by
    match l, hll with
    | [n0, n1, n2], _ => exact ⟨n0, n1, n2, rfl⟩
  clear h0 h1 hx hll
  have ha := rc_oct ha
  have hb := rc_oct hb
  simp only [List.map_cons, List.map_nil]
  refine pcall_mk Try.func3 rfl [.tmp 6] Try.results3 71 rfl (tk_start ?_)
  (repeat refine ka ?_); refine kr ?_ ?_ ?_
  refine ps_box fun g => ?_
  refine pops_go ?_ ?_ (pops_end ?_)
  (repeat refine ka ?_); refine kr ?_ ?_ ?_
  refine ps_pcall rc_awake ?_
  refine pops_go ?_ ?_ (pops_end ?_)
  by_cases k1 : (400 : Int) < a.length
  · (repeat refine ka ?_); refine kr ?_ ?_ (pops_end ?_)
    (repeat refine ka ?_); refine kct ?_
    (repeat refine ka ?_); refine kr ?_ ?_ (pops_end ?_)
    (repeat refine ka ?_); refine kret ?_; repeat (first | with_reducible refine beh_r ?_ | with_reducible refine blk_r ?_)
    exact ends_ret rfl retPV_one
  by_cases k2 : (400 : Int) < b.length
  · (repeat refine ka ?_); refine kr ?_ ?_ (pops_end ?_)
    (repeat refine ka ?_); refine kct ?_
    (repeat refine ka ?_); refine kr ?_ ?_ (pops_end ?_)
    (repeat refine ka ?_); refine kret ?_; repeat (first | with_reducible refine beh_r ?_ | with_reducible refine blk_r ?_)
    exact ends_ret rfl retPV_one
  have p1 := rc_put a ha (by omega)
  have p2 := ref_put a ha (by omega)
  have hpl := rput_len a
  have p3 := sameb_ok (rput a) (rput a) (by omega) (by omega)
  rw [decide_eq_true rfl] at p3
  have p4 := rc_back b n0 hb (by omega)
  have p5 := ref_back b n0 hb (by omega)
  have hbl : (rback b n0).1.length ≤ 65536 := by
    have := decN_length (R0 b) n0.toNat
    unfold rback
    (repeat' split) <;> first | exact Nat.zero_le _ | (dsimp only; omega)
  have p6 := sameb_ok (rback b n0).1 (rback b n0).1 (by omega) (by omega)
  rw [decide_eq_true rfl] at p6
  have p7 := rc_learn n1 n2
  have p8 := ref_learn n1 n2
  generalize rput a = P at *
  generalize rback b n0 = R at *
  generalize learn n1 n2 = L at *
  (repeat refine ka ?_); refine kr ?_ ?_ (pops_end ?_)
  (repeat refine ka ?_); refine kcf ?_
  (repeat refine ka ?_); refine ksk ?_
  (repeat refine ka ?_); refine kr ?_ ?_ ?_
  refine ps_pcall p1 ?_
  refine pops_go ?_ ?_ ?_
  refine ps_pcall p2 ?_
  refine ps_pcall p3 ?_
  refine pops_go ?_ ?_ (pops_end ?_)
  (repeat refine ka ?_); refine kr ?_ ?_ ?_
  refine ps_pcall p4 ?_
  refine pops_go ?_ ?_ (pops_end ?_)
  (repeat refine ka ?_); refine kr ?_ ?_ ?_
  refine ps_pcall p5 ?_
  refine pops_go ?_ ?_ (pops_end ?_)
  (repeat refine ka ?_); refine kr ?_ ?_ ?_
  refine ps_pcall p6 ?_
  refine pops_go ?_ ?_ (pops_end ?_)
  (repeat refine ka ?_); refine kd ?_ ?_ ?_
  refine pd_pcall_g p7 ?_
  refine pstl_go ?_ ?_ ?_
  refine pd_pcall_g p8 ?_
  refine pstl_go ?_ ?_ (pstl_end ?_)
  (repeat refine ka ?_); refine kret ?_; repeat (first | with_reducible refine beh_r ?_ | with_reducible refine blk_r ?_)
  refine ends_ret ?_ retPV_one
  rfl
end Go.Proofs.Ytjbbomchmacdjaa.Pv
