-- carapacelaw05.RcLearns, RcBack.
import Derived.Test.YtjbbomchmacdjaaRcJ
namespace Go.Proofs.Ytjbbomchmacdjaa.Pv
set_option linter.all false
open Go.RowKit Go.Proofs
set_option maxRecDepth 100000
set_option maxHeartbeats 4000000
theorem rc_oct {l : List Int} (h : ∀ n ∈ l, (Lit.int .u8 n).wf = true) : Oct l := fun x hx => by
  have := h x hx
  simp [Lit.wf, IntKind.min, IntKind.max, IntKind.bits, IntKind.signed] at this
  omega
theorem learns_walk {x0 x1 : PV} (h0 : SInt .i64 [x0]) (h1 : SInt .i64 [x1]) : PCall Try.prog 5 [x0, x1] (.v (.bool true)) := by
  obtain ⟨p, rfl, hp⟩ := one_int h0
  obtain ⟨b, rfl, hb⟩ := one_int h1
  have hp := wf_rc hp
  clear h0 h1 hb
  have c1 := rc_learn p b
  refine pcall_mk Try.func5 rfl [.tmp 4] Try.results5 61 rfl (tk_start ?_)
  (repeat refine ka ?_); refine kr ?_ ?_ (pops_end ?_)
  (repeat refine ka ?_); refine kr ?_ ?_ ?_
  refine ps_pcall rc_awake ?_
  refine pops_go ?_ ?_ (pops_end ?_)
  (repeat refine ka ?_); refine kr ?_ ?_ ?_
  refine ps_pcall c1 ?_
  refine pops_go ?_ ?_ (pops_end ?_)
  by_cases k1 : p < 1
  · have hl : learn p b = 0 := by unfold learn; rw [if_pos (.inl k1)]
    rw [hl]
    (repeat refine ka ?_); refine kr ?_ ?_ (pops_end ?_)
    (repeat refine ka ?_); refine kct ?_
    (repeat refine ka ?_); refine kr ?_ ?_ (pops_end ?_)
    (repeat refine ka ?_); refine kret ?_; repeat (first | with_reducible refine beh_r ?_ | with_reducible refine blk_r ?_)
    refine ends_ret ?_ retPV_one
    rfl
  by_cases k2 : p > 2047
  · have hl : learn p b = 0 := by unfold learn; rw [if_pos (.inr (by omega))]
    rw [hl]
    (repeat refine ka ?_); refine kr ?_ ?_ (pops_end ?_)
    (repeat refine ka ?_); refine kct ?_
    (repeat refine ka ?_); refine kr ?_ ?_ (pops_end ?_)
    (repeat refine ka ?_); refine kret ?_; repeat (first | with_reducible refine beh_r ?_ | with_reducible refine blk_r ?_)
    refine ends_ret ?_ retPV_one
    rfl
  by_cases k3 : b = 0
  · have hl : learn p b = p + (2048 - p) / 32 := by unfold learn; rw [if_neg (by omega), if_pos k3]
    rw [hl]
    (repeat refine ka ?_); refine kr ?_ ?_ (pops_end ?_)
    (repeat refine ka ?_); refine kcf ?_
    (repeat refine ka ?_); refine ksk ?_
    (repeat refine ka ?_); refine kr ?_ ?_ (pops_end ?_)
    (repeat refine ka ?_); refine kct ?_
    (repeat refine ka ?_); refine kr ?_ ?_ (pops_end ?_)
    (repeat refine ka ?_); refine kret ?_; repeat (first | with_reducible refine beh_r ?_ | with_reducible refine blk_r ?_)
    refine ends_ret ?_ retPV_one
    rfl
  · have hl : learn p b = p - p / 32 := by unfold learn; rw [if_neg (by omega), if_neg k3]
    rw [hl]
    (repeat refine ka ?_); refine kr ?_ ?_ (pops_end ?_)
    (repeat refine ka ?_); refine kcf ?_
    (repeat refine ka ?_); refine ksk ?_
    (repeat refine ka ?_); refine kr ?_ ?_ (pops_end ?_)
    (repeat refine ka ?_); refine kcf ?_
    (repeat refine ka ?_); refine ksk ?_
    (repeat refine ka ?_); refine kr ?_ ?_ (pops_end ?_)
    (repeat refine ka ?_); refine kret ?_; repeat (first | with_reducible refine beh_r ?_ | with_reducible refine blk_r ?_)
    refine ends_ret ?_ retPV_one
    rfl
theorem rcback_walk {x0 x1 x2 : PV} (h0 : SSl 1 1 (SInt .u8) [x0]) (h1 : SInt .i64 [x1]) (h2 : SInt .u8 [x2]) : PCall Try.prog 4 [x0, x1, x2] (.v (.bool true)) := by
  obtain ⟨l, rfl, hl, hb⟩ := sl_ints h0
  obtain ⟨cut, rfl, ha⟩ := one_int h1
  obtain ⟨c, rfl, hc⟩ := one_int h2
  clear h0 h1 h2
  have hb := rc_oct hb
  have hcb : 0 ≤ c ∧ c < 256 := rc_oct (l := [c]) (by intro n hn; simp only [List.mem_singleton] at hn; rw [hn]; exact hc) c (by simp)
  refine pcall_mk Try.func4 rfl [.tmp 6] Try.results4 87 rfl (tk_start ?_)
  (repeat refine ka ?_); refine kr ?_ ?_ (pops_end ?_)
  (repeat refine ka ?_); refine kr ?_ ?_ ?_
  refine ps_pcall rc_awake ?_
  refine pops_go ?_ ?_ (pops_end ?_)
  by_cases h1 : (600 : Int) < l.length
  · (repeat refine ka ?_); refine kr ?_ ?_ (pops_end ?_)
    (repeat refine ka ?_); refine kct ?_
    (repeat refine ka ?_); refine kr ?_ ?_ (pops_end ?_)
    (repeat refine ka ?_); refine kret ?_; repeat (first | with_reducible refine beh_r ?_ | with_reducible refine blk_r ?_)
    exact ends_ret rfl retPV_one
  have hp := rc_put l hb (by omega)
  have hpb := rput_bytes l
  have hpl := rput_len l
  have hp5 := rput_len5 l
  have hp0 := rput_first l
  have hback := rback_put l (rput l) hb (by omega) hpb (fun k _ _ => rfl)
  rw [if_neg (Nat.lt_irrefl _), if_pos rfl] at hback
  have hoc : Oct (rput l ++ [c]) := oct_append hpb (by intro x hx; simp only [List.mem_singleton] at hx; rw [hx]; exact hcb)
  have hmore := rback_put l (rput l ++ [c]) hb (by omega) hoc (agree_self _ _)
  have hpc : (rput l ++ [c]).length = (rput l).length + 1 := by simp
  rw [if_neg (by omega), if_neg (by omega)] at hmore
  have hcut : ∀ k, k < (rput l).length → rback ((rput l).take k) l.length = ([], 3) := fun k hk => by
    rw [rback_put l _ hb (by omega) (oct_take hpb k) (agree_cut _ k), if_pos (by rw [List.length_take]; omega)]
  generalize rput l = p at *
  have hp0' : p.getD (Int.toNat 0) 0 = 0 := hp0
  (repeat refine ka ?_); refine kr ?_ ?_ (pops_end ?_)
  (repeat refine ka ?_); refine kcf ?_
  (repeat refine ka ?_); refine ksk ?_
  (repeat refine ka ?_); refine kr ?_ ?_ ?_
  refine ps_pcall hp ?_
  refine pops_go ?_ ?_ (pops_end ?_)
  have c1 := rc_back p l.length hpb (by omega)
  rw [hback] at c1
  (repeat refine ka ?_); refine kr ?_ ?_ ?_
  refine ps_pcall c1 ?_
  refine pops_go ?_ ?_ (pops_end ?_)
  have c2 := sameb_ok l l (by omega) (by omega)
  rw [decide_eq_true (rfl : l = l)] at c2
  (repeat refine ka ?_); refine kr ?_ ?_ ?_
  refine ps_pcall c2 ?_
  refine pops_go ?_ ?_ (pops_end ?_)
  (repeat refine ka ?_); refine kr ?_ ?_ (pops_end ?_)
  (repeat refine ka ?_); refine kcf ?_
  (repeat refine ka ?_); refine ksk ?_
  have c3 := rc_back (p ++ [c]) l.length hoc (by omega)
  rw [hmore] at c3
  (repeat refine ka ?_); refine kr ?_ ?_ ?_
  refine ps_lit fun w1 => ?_
  refine pops_go ?_ ?_ ?_
  refine ps_app_vw (hsrc := rfl) fun w2 => ?_
  refine pops_go ?_ ?_ ?_
  refine ps_lit fun w3 => ?_
  refine ps_app_vw fun w4 => ?_
  refine pops_go ?_ ?_ ?_
  refine ps_freeze 0 ?_
  refine ps_rcall [0] c3 (.cons (lend_ints (.head _) rfl rfl hpc) (.cons (.same (.v _)) .nil)) ?_ (.inr (frozen_one rfl rfl))
  refine pops_go ?_ ?_ (pops_end ?_)
  (repeat refine ka ?_); refine kr ?_ ?_ (pops_end ?_)
  (repeat refine ka ?_); refine kcf ?_
  (repeat refine ka ?_); refine ksk ?_
  by_cases k1 : cut < 0
  · (repeat refine ka ?_); refine kr ?_ ?_ (pops_end ?_)
    (repeat refine ka ?_); refine kct ?_
    (repeat refine ka ?_); refine kr ?_ ?_ (pops_end ?_)
    (repeat refine ka ?_); refine kret ?_; repeat (first | with_reducible refine beh_r ?_ | with_reducible refine blk_r ?_)
    exact ends_ret rfl retPV_one
  by_cases k2 : (p.length : Int) ≤ cut
  · (repeat refine ka ?_); refine kr ?_ ?_ (pops_end ?_)
    (repeat refine ka ?_); refine kct ?_
    (repeat refine ka ?_); refine kr ?_ ?_ (pops_end ?_)
    (repeat refine ka ?_); refine kret ?_; repeat (first | with_reducible refine beh_r ?_ | with_reducible refine blk_r ?_)
    exact ends_ret rfl retPV_one
  have c4 := rc_back (p.take cut.toNat) l.length (oct_take hpb _) (by rw [List.length_take]; omega)
  rw [hcut cut.toNat (by omega)] at c4
  (repeat refine ka ?_); refine kr ?_ ?_ (pops_end ?_)
  (repeat refine ka ?_); refine kcf ?_
  (repeat refine ka ?_); refine ksk ?_
  (repeat refine ka ?_); refine kr ?_ ?_ ?_
  refine ps_pcall c4 ?_
  refine pops_go ?_ ?_ (pops_end ?_)
  (repeat refine ka ?_); refine kr ?_ ?_ (pops_end ?_)
  (repeat refine ka ?_); refine kret ?_; repeat (first | with_reducible refine beh_r ?_ | with_reducible refine blk_r ?_)
  exact ends_ret rfl retPV_one
end Go.Proofs.Ytjbbomchmacdjaa.Pv
