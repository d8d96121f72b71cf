-- carapacelaw04.LzBack.
import Derived.Test.YtaaealngifkaeaaLzG
import Derived.Test.YtaaealngifkaeaaLzJ
import Derived.Test.YtaaealngifkaeaaSameB
namespace Go.Proofs.Ytaaealngifkaeaa.Pv
set_option linter.all false
open Go.RowKit Go.Proofs
set_option maxRecDepth 100000
set_option maxHeartbeats 4000000
theorem bytes_wf {l : List Int} (h : ∀ n ∈ l, (Lit.int .u8 n).wf = true) : Bytes l := fun x hx => by
  have := h x hx
  simp [Lit.wf, IntKind.min, IntKind.max, IntKind.bits, IntKind.signed] at this
  omega
theorem back_walk {x0 x1 x2 : PV} (h0 : SSl 1 1 (SInt .u8) [x0]) (h1 : SInt .i64 [x1]) (h2 : SInt .u8 [x2]) : PCall Try.prog 13 [x0, x1, x2] (.v (.bool true)) := by
  obtain ⟨l, rfl, hl, hb⟩ := sl_ints h0
  obtain ⟨cut, rfl, ha⟩ := one_int h1
  obtain ⟨c, rfl, hc⟩ := one_int h2
  clear h0 h1 h2
  have hb := bytes_wf hb
  have hcb : 0 ≤ c ∧ c < 256 := bytes_wf (l := [c]) (by intro n hn; simp only [List.mem_singleton] at hn; rw [hn]; exact hc) c (by simp)
  refine pcall_mk Try.func13 rfl [.tmp 6] Try.results13 88 rfl (tk_start ?_)
  (repeat refine ka ?_); refine kr ?_ ?_ (pops_end ?_)
  (repeat refine ka ?_); refine kr ?_ ?_ ?_
  refine ps_pcall awake_ok ?_
  refine pops_go ?_ ?_ (pops_end ?_)
  by_cases h1 : (600 : Int) < l.length
  · (repeat refine ka ?_); refine kr ?_ ?_ (pops_end ?_)
    (repeat refine ka ?_); refine kct ?_
    (repeat refine ka ?_); refine kr ?_ ?_ (pops_end ?_)
    (repeat refine ka ?_); refine kret ?_; repeat (first | with_reducible refine beh_r ?_ | with_reducible refine blk_r ?_)
    exact ends_ret rfl retPV_one
  have hp := put_ok l hb (by omega)
  have hpb := put_bytes l hb
  have hpl := put_len l
  have hback := back_put l [] (by omega)
  have hmore := back_put l [c] (by omega)
  have hcut := fun k => back_cut l k (by omega)
  simp only [List.append_nil, fin, List.length_nil, Nat.lt_irrefl, if_false, List.length_singleton, Nat.zero_lt_one, if_true] at hback hmore
  generalize put l = p at *
  (repeat refine ka ?_); refine kr ?_ ?_ (pops_end ?_)
  (repeat refine ka ?_); refine kcf ?_
  (repeat refine ka ?_); refine ksk ?_
  (repeat refine ka ?_); refine kr ?_ ?_ ?_
  refine ps_pcall hp ?_
  refine pops_go ?_ ?_ (pops_end ?_)
  have c1 := back_ok p l.length hpb (by omega)
  rw [hback] at c1
  (repeat refine ka ?_); refine kr ?_ ?_ ?_
  refine ps_pcall c1 ?_
  refine pops_go ?_ ?_ (pops_end ?_)
  have c2 := sameb_ok l l (by omega) (by omega)
  rw [decide_eq_true (rfl : l = l)] at c2
  (repeat refine ka ?_); refine kr ?_ ?_ ?_
  refine ps_pcall c2 ?_
  refine pops_go ?_ ?_ (pops_end ?_)
  (repeat refine ka ?_); refine kr ?_ ?_ (pops_end ?_)
  (repeat refine ka ?_); refine kcf ?_
  (repeat refine ka ?_); refine ksk ?_
  have c3 := back_ok (p ++ [c]) l.length (by intro x hx; rcases List.mem_append.mp hx with hx | hx; exact hpb x hx; simp only [List.mem_singleton] at hx; rw [hx]; exact hcb) (by simp only [List.length_append, List.length_singleton]; omega)
  rw [hmore] at c3
  (repeat refine ka ?_); refine kr ?_ ?_ ?_
  refine ps_lit fun w1 => ?_
  refine pops_go ?_ ?_ ?_
  refine ps_app_vw (hsrc := rfl) fun w2 => ?_
  refine pops_go ?_ ?_ ?_
  refine ps_lit fun w3 => ?_
  refine ps_app_vw fun w4 => ?_
  refine pops_go ?_ ?_ ?_
  refine ps_freeze 0 ?_
  have hpc : (p ++ [c]).length = p.length + 1 := by simp
  refine ps_rcall [0] c3 (.cons (lend_ints (.head _) rfl rfl hpc) (.cons (.same (.v _)) .nil)) ?_ (.inr (frozen_one rfl rfl))
  refine pops_go ?_ ?_ (pops_end ?_)
  (repeat refine ka ?_); refine kr ?_ ?_ (pops_end ?_)
  (repeat refine ka ?_); refine kcf ?_
  (repeat refine ka ?_); refine ksk ?_
  by_cases k1 : cut < 0
  · (repeat refine ka ?_); refine kr ?_ ?_ (pops_end ?_)
    (repeat refine ka ?_); refine kct ?_
    (repeat refine ka ?_); refine kr ?_ ?_ (pops_end ?_)
    (repeat refine ka ?_); refine kret ?_; repeat (first | with_reducible refine beh_r ?_ | with_reducible refine blk_r ?_)
    exact ends_ret rfl retPV_one
  by_cases k2 : (p.length : Int) ≤ cut
  · (repeat refine ka ?_); refine kr ?_ ?_ (pops_end ?_)
    (repeat refine ka ?_); refine kct ?_
    (repeat refine ka ?_); refine kr ?_ ?_ (pops_end ?_)
    (repeat refine ka ?_); refine kret ?_; repeat (first | with_reducible refine beh_r ?_ | with_reducible refine blk_r ?_)
    exact ends_ret rfl retPV_one
  have c4 := back_ok (p.take cut.toNat) l.length (hpb.take _) (by rw [List.length_take]; omega)
  rw [hcut cut.toNat (by omega)] at c4
  (repeat refine ka ?_); refine kr ?_ ?_ (pops_end ?_)
  (repeat refine ka ?_); refine kcf ?_
  (repeat refine ka ?_); refine ksk ?_
  (repeat refine ka ?_); refine kr ?_ ?_ ?_
  refine ps_pcall c4 ?_
  refine pops_go ?_ ?_ (pops_end ?_)
  (repeat refine ka ?_); refine kr ?_ ?_ (pops_end ?_)
  (repeat refine ka ?_); refine kret ?_; repeat (first | with_reducible refine beh_r ?_ | with_reducible refine blk_r ?_)
  exact ends_ret rfl retPV_one
end Go.Proofs.Ytaaealngifkaeaa.Pv
