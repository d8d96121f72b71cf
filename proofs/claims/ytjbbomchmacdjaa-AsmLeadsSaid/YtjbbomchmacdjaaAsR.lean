-- The law's own sample: a loop.
import Derived.Test.YtjbbomchmacdjaaAsP
import Derived.Test.YtjbbomchmacdjaaAsC
import Derived.Test.YtjbbomchmacdjaaFz
namespace Go.Proofs.Ytjbbomchmacdjaa.Pv
set_option linter.all false
set_option maxRecDepth 100000
open Go.RowKit Go.Proofs
def it0 : It := ⟨0, [97], 0, 0, 0, 0, 0, 0⟩
def it1 : It := ⟨2, [97], 20, 0, 0, 0, 0, 0⟩
def it2 : It := ⟨5, [97], 0, 0, 0, 0, 0, 0⟩
theorem oct97 : Oct [97] := by intro x hx; simp at hx; subst hx; decide
theorem awake12 : PCall Try.prog 33 [] (.v (.bool true)) := by
  have hall : ∀ x ∈ [it0, it1, it2, it0], Oct x.n := by
    intro x hx
    simp only [List.mem_cons, List.not_mem_nil, or_false] at hx
    rcases hx with rfl | rfl | rfl | rfl <;> exact oct97
  have c1 := build_ok true [it0, it1, it2] (by decide) (fun x hx => hall x (by simp only [List.mem_cons, List.not_mem_nil, or_false] at hx ⊢; rcases hx with h | h | h <;> simp [h]))
  rw [show buildF [it0, it1, it2] = (([335609855, 0], [(4, false)]), 0) by decide +kernel] at c1
  have c2 := places_ok true [it0, it1, it2] (by decide) (fun x hx => hall x (by simp only [List.mem_cons, List.not_mem_nil, or_false] at hx ⊢; rcases hx with h | h | h <;> simp [h]))
  rw [show labelsF [it0, it1, it2] = ([([97], 0)], 0) by decide +kernel] at c2
  have c3 := build_ok true [it1, it2] (by decide) (fun x hx => hall x (by simp only [List.mem_cons, List.not_mem_nil, or_false] at hx ⊢; rcases hx with h | h <;> simp [h]))
  rw [show buildF [it1, it2] = (([], []), 5) by decide +kernel] at c3
  have c4 := places_ok false [it0, it1, it2, it0] (by decide) hall
  rw [show labelsF [it0, it1, it2, it0] = ([], 7) by decide +kernel] at c4
  have c5 := asm_same_d ⟨[335609855, 0], [(4, false)]⟩ ⟨[335609855, 0], [(4, false)]⟩ (by decide) (by decide)
  rw [decide_eq_true (by exact ⟨rfl, rfl⟩)] at c5
  simp only [itRows, It.row, it0, it1, it2, Cd.pv, Cd.row, relRows, ints, List.map_cons, List.map_nil, mapOf] at c1 c2 c3 c4 c5
  have hlm : ([(str [97], (0 : Int))] : List (ByteArray × Int)).length = 1 := rfl
  refine pcall_mk Try.func33 rfl [.tmp 0] Try.results33 92 rfl (tk_start ?_)
  (repeat refine ka ?_); refine kr ?_ ?_ (pops_end ?_)
  (repeat refine ka ?_); refine kr ?_ ?_ ?_
  refine ps_litff (rows := [[.v (.int .i64 0), .v (.string (str [97])), .v (.int .i64 0), .v (.int .i64 0), .v (.int .i64 0), .v (.int .i64 0), .v (.int .i64 0), .v (.int .u32 0)], [.v (.int .i64 2), .v (.string (str [97])), .v (.int .i64 20), .v (.int .i64 0), .v (.int .i64 0), .v (.int .i64 0), .v (.int .i64 0), .v (.int .u32 0)], [.v (.int .i64 5), .v (.string (str [97])), .v (.int .i64 0), .v (.int .i64 0), .v (.int .i64 0), .v (.int .i64 0), .v (.int .i64 0), .v (.int .u32 0)]]) (fun g0 => ?_) (by
    intro row hr x hx
    simp only [List.mem_cons, List.not_mem_nil, or_false] at hr
    rcases hr with rfl | rfl | rfl <;> (simp only [List.mem_cons, List.not_mem_nil, or_false] at hx; rcases hx with rfl | rfl | rfl | rfl | rfl | rfl | rfl | rfl <;> exact .v _))
  refine pops_go ?_ ?_ (pops_end ?_)
  (repeat refine ka ?_); refine kr ?_ ?_ ?_
  refine ps_pcall c1 ?_
  refine pops_go ?_ ?_ ?_
  refine ps_alloc fun g1 => ?_
  refine ps_store ?_
  refine pops_go ?_ ?_ (pops_end ?_)
  (repeat refine ka ?_); refine kr ?_ ?_ ?_
  refine ps_pcall c2 ?_
  refine pops_go ?_ ?_ (pops_end ?_)
  (repeat refine ka ?_); refine kr ?_ ?_ ?_
  refine ps_pcall c3 ?_
  refine pops_go ?_ ?_ ?_
  refine ps_alloc fun g2 => ?_
  refine ps_store ?_
  refine pops_go ?_ ?_ (pops_end ?_)
  (repeat refine ka ?_); refine kr ?_ ?_ ?_
  refine ps_lit fun g3 => ?_
  refine ps_app_ro (rows := [[.v (.int .i64 0), .v (.string (str [97])), .v (.int .i64 0), .v (.int .i64 0), .v (.int .i64 0), .v (.int .i64 0), .v (.int .i64 0), .v (.int .u32 0)]]) (rows' := [[.v (.int .i64 0), .v (.string (str [97])), .v (.int .i64 0), .v (.int .i64 0), .v (.int .i64 0), .v (.int .i64 0), .v (.int .i64 0), .v (.int .u32 0)], [.v (.int .i64 2), .v (.string (str [97])), .v (.int .i64 20), .v (.int .i64 0), .v (.int .i64 0), .v (.int .i64 0), .v (.int .i64 0), .v (.int .u32 0)], [.v (.int .i64 5), .v (.string (str [97])), .v (.int .i64 0), .v (.int .i64 0), .v (.int .i64 0), .v (.int .i64 0), .v (.int .i64 0), .v (.int .u32 0)], [.v (.int .i64 0), .v (.string (str [97])), .v (.int .i64 0), .v (.int .i64 0), .v (.int .i64 0), .v (.int .i64 0), .v (.int .i64 0), .v (.int .u32 0)]]) (m := 4) (fun g4 => ?_) (hor := .inr (by decide)) (hm := rfl) (hrows := rfl)
  refine ps_freeze 4 ?_
  refine ps_rcall [4] c4 (.cons (lend_rows' (List.mem_singleton.2 rfl) rfl rfl rfl (by
    intro row hr x hx
    simp only [List.mem_cons, List.not_mem_nil, or_false] at hr
    rcases hr with rfl | rfl | rfl | rfl <;> (simp only [List.mem_cons, List.not_mem_nil, or_false] at hx; rcases hx with rfl | rfl | rfl | rfl | rfl | rfl | rfl | rfl <;> exact .v _))) .nil) ?_ (.inr (by intro τ hτ blk hb; simp only [List.mem_singleton] at hτ; subst hτ; cases hb; rfl))
  refine pops_go ?_ ?_ (pops_end ?_)
  (repeat refine ka ?_); refine kr ?_ ?_ ?_
  refine ps_pcall_g c5 ?_
  refine pops_go ?_ ?_ (pops_end ?_)
  (repeat refine ka ?_); refine kret ?_; repeat (first | with_reducible refine beh_r ?_ | with_reducible refine blk_r ?_)
  refine ends_ret ?_ retPV_one
  rfl
end Go.Proofs.Ytjbbomchmacdjaa.Pv
