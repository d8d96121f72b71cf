-- The law's own sample: a place, loaded and linked.
import Derived.Test.YtjbbomchmacdjaaLkG
import Derived.Test.YtjbbomchmacdjaaFz
namespace Go.Proofs.Ytjbbomchmacdjaa.Pv
set_option linter.all false
set_option maxRecDepth 100000
open Go.RowKit Go.Proofs
theorem awake14 : PCall Try.prog 21 [] (.v (.bool true)) := by
  have ok0 : Cd.ok ⟨[8], [(0, false)]⟩ := ⟨by intro x hx; simp at hx; subst hx; decide, by decide, by decide, by intro r hr; simp at hr; subst hr; decide⟩
  have ok1 : Cd.ok ⟨[1], []⟩ := ⟨by intro x hx; simp at hx; subst hx; decide, by decide, by decide, by intro r hr; simp at hr⟩
  have ok2 : Cd.ok ⟨[1, 12], [(4, false)]⟩ := ⟨by intro x hx; simp at hx; rcases hx with rfl | rfl <;> decide, by decide, by decide, by intro r hr; simp at hr; subst hr; decide⟩
  have ok3 : Cd.ok ⟨[], [(0, false)]⟩ := ⟨by intro x hx; simp at hx, by decide, by decide, by intro r hr; simp at hr; subst hr; decide⟩
  have c1 := lk_load ⟨[8], [(0, false)]⟩ ok0 100 (by decide) (by decide)
  rw [show loadF ⟨[8], [(0, false)]⟩ 100 = ([108, 0, 0, 0], 0) by decide] at c1
  have c2 := lk_link [⟨[1], []⟩, ⟨[8], [(0, false)]⟩] (by intro c hc; simp at hc; rcases hc with rfl | rfl; exact ok1; exact ok0) (by intro c hc; simp at hc; rcases hc with rfl | rfl <;> decide) (by decide)
  rw [show linkF [⟨[1], []⟩, ⟨[8], [(0, false)]⟩] = (⟨[1, 12], [(4, false)]⟩, 0) by rfl] at c2
  have c3 := lk_value ⟨[1, 12], [(4, false)]⟩ ok2 0 (by decide) (by decide)
  rw [show valueF ⟨[1, 12], [(4, false)]⟩ 0 = (12, 0) by decide] at c3
  have c4 := lk_load ⟨[8], [(0, false)]⟩ ok0 2 (by decide) (by decide)
  rw [show loadF ⟨[8], [(0, false)]⟩ 2 = ([], 1) by decide] at c4
  have c5 := lk_right ⟨[8], [(0, false)]⟩ ok0
  rw [show Cd.right ⟨[8], [(0, false)]⟩ = true by decide] at c5
  have c6 := lk_right ⟨[], [(0, false)]⟩ ok3
  rw [show Cd.right ⟨[], [(0, false)]⟩ = false by decide] at c6
  simp only [codeRows, Cd.pv, Cd.row, relRows, ints, List.map_cons, List.map_nil] at c1 c2 c3 c4 c5 c6
  refine pcall_mk Try.func21 rfl [.tmp 0] Try.results21 104 rfl (tk_start ?_)
  (repeat refine ka ?_); refine kr ?_ ?_ (pops_end ?_)
  (repeat refine ka ?_); refine kr ?_ ?_ ?_
  refine ps_litf (rows := [[.v (.int .u32 8)]]) (fun g0 => ?_) (by simp; exact .v _)
  refine pops_go ?_ ?_ ?_
  refine ps_litf (rows := [[.v (.int .i64 0), .v (.bool false)]]) (fun g1 => ?_) (by simp; exact ⟨.v _, .v _⟩)
  refine pops_go ?_ ?_ ?_
  refine ps_alloc fun g2 => ?_
  refine ps_store ?_
  refine pops_nil ?_
  (repeat refine ka ?_); refine kr ?_ ?_ ?_
  refine ps_pcall c1 ?_
  refine pops_go ?_ ?_ (pops_end ?_)
  (repeat refine ka ?_); refine kr ?_ ?_ ?_
  refine ps_litf (rows := [[.v (.int .u32 1)]]) (fun g3 => ?_) (by simp; exact .v _)
  refine ps_bldf (cs := [.ro 1 false [[.v (.int .u32 1)]], .v (.slice none 0 0)]) (ds := [.ro 1 false [[.v (.int .u32 1)]], .ro 2 false []]) [] ?_ (.cons (.same (.ro (by simp; exact .v _))) (.cons .nil .nil))
  refine pops_go ?_ ?_ ?_
  refine ps_litf (rows := [[.ro 1 false [[.v (.int .u32 1)]], .ro 2 false []], [.ro 1 false [[.v (.int .u32 8)]], .ro 2 false [[.v (.int .i64 0), .v (.bool false)]]]]) (fun g4 => ?_) (by simp; exact ⟨⟨.ro (by simp; exact .v _), .ro (by simp)⟩, .ro (by simp; exact .v _), .ro (by simp; exact ⟨.v _, .v _⟩)⟩)
  refine ps_pcall c2 ?_
  refine pops_go ?_ ?_ ?_
  refine ps_alloc fun g5 => ?_
  refine ps_store ?_
  refine pops_go ?_ ?_ (pops_end ?_)
  (repeat refine ka ?_); refine kr ?_ ?_ ?_
  refine ps_pcall c3 ?_
  refine pops_go ?_ ?_ (pops_end ?_)
  (repeat refine ka ?_); refine kr ?_ ?_ ?_
  refine ps_pcall c4 ?_
  refine pops_go ?_ ?_ (pops_end ?_)
  (repeat refine ka ?_); refine kr ?_ ?_ ?_
  refine ps_pcall_g c5 ?_
  refine pops_go ?_ ?_ ?_
  refine ps_ug ?_
  refine ps_litf (rows := [[.v (.int .i64 0), .v (.bool false)]]) (fun g6 => ?_) (by simp; exact ⟨.v _, .v _⟩)
  refine ps_ug ?_
  refine ps_bldf (cs := [.v (.slice none 0 0), .ro 2 false [[.v (.int .i64 0), .v (.bool false)]]]) (ds := [.ro 1 false [], .ro 2 false [[.v (.int .i64 0), .v (.bool false)]]]) [] ?_ (.cons .nil (.cons (.same (.ro (by simp; exact ⟨.v _, .v _⟩))) .nil))
  refine ps_pcall_g c6 ?_
  refine pops_go ?_ ?_ (pops_end ?_)
  (repeat refine ka ?_); refine kret ?_; repeat (first | with_reducible refine beh_r ?_ | with_reducible refine blk_r ?_)
  refine ends_ret ?_ retPV_one
  rfl
end Go.Proofs.Ytjbbomchmacdjaa.Pv
