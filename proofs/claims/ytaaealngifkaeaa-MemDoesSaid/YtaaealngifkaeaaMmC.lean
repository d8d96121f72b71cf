-- carapacelaw09.awake.
import Derived.Test.YtaaealngifkaeaaMmB
namespace Go.Proofs.Ytaaealngifkaeaa.Pv
set_option linter.all false
open Go.RowKit Go.Proofs
set_option maxRecDepth 100000
set_option maxHeartbeats 4000000
theorem le_len2 {R : PV → List Blk → Prop} {n : Nat} (h : ∀ x S', R x S' → n ≤ S'.length) : ∀ x S', R x S' → n ≤ S'.length := h
theorem mem_awake : PCall Try.prog 22 [] (.v (.bool true)) := by
  have p1 := fun g0 g1 => mem_putword [0, 0, 0, 0, 0, 0, 0, 0] g0 g1 4 67305985 (by decide) (by decide) (by decide)
  rw [show putW [0, 0, 0, 0, 0, 0, 0, 0] 4 67305985 = [0, 0, 0, 0, 1, 2, 3, 4] by decide +kernel] at p1
  have p2 := fun g0 g1 => mem_byte [0, 0, 0, 0, 1, 2, 3, 4] g0 g1 5 (by decide) (by decide)
  have p3 := fun g0 g1 => mem_putbyte [0, 0, 0, 0, 1, 2, 3, 4] g0 g1 7 9 (by decide) (by decide)
  rw [show putIf [0, 0, 0, 0, 1, 2, 3, 4] 7 [9] = [0, 0, 0, 0, 1, 2, 3, 9] by decide +kernel] at p3
  have p4 := fun g0 g1 => mem_word [0, 0, 0, 0, 1, 2, 3, 9] (by decide) g0 g1 4 (by decide) (by decide)
  have p5 := fun g0 g1 => mem_bytes [0, 0, 0, 0, 1, 2, 3, 9] g0 g1 6 2 (by decide) (by decide) (by decide)
  have p6 := fun g0 g1 g2 => mem_put2 [0, 0, 0, 0, 1, 2, 3, 9] [7] g0 g1 g2 true 0 (by decide) (by decide) (by decide)
  rw [show putIf [0, 0, 0, 0, 1, 2, 3, 9] 0 [7] = [7, 0, 0, 0, 1, 2, 3, 9] by decide +kernel] at p6
  have p7 := fun g0 g1 => mem_word [7, 0, 0, 0, 1, 2, 3, 9] (by decide) g0 g1 5 (by decide) (by decide)
  have p8 := fun g0 g1 => mem_bytes [7, 0, 0, 0, 1, 2, 3, 9] g0 g1 4294967295 2 (by decide) (by decide) (by decide)
  have p9 := fun g0 g1 => mem_len [7, 0, 0, 0, 1, 2, 3, 9] g0 g1
  rw [show decide ((4 : Int) % 4 = 0 ∧ (4 : Int) + 4 ≤ (([0, 0, 0, 0, 0, 0, 0, 0] : List Int).length : Int)) = true by decide] at p1
  rw [show (if (5 : Int) + 1 ≤ (([0, 0, 0, 0, 1, 2, 3, 4] : List Int).length : Int) then ([0, 0, 0, 0, 1, 2, 3, 4] : List Int).getD (5 : Int).toNat 0 else 0) = 2 by decide, show decide ((5 : Int) + 1 ≤ (([0, 0, 0, 0, 1, 2, 3, 4] : List Int).length : Int)) = true by decide] at p2
  rw [show decide ((7 : Int) + 1 ≤ (([0, 0, 0, 0, 1, 2, 3, 4] : List Int).length : Int)) = true by decide] at p3
  rw [show (if (4 : Int) % 4 = 0 ∧ (4 : Int) + 4 ≤ (([0, 0, 0, 0, 1, 2, 3, 9] : List Int).length : Int) then word4 ([0, 0, 0, 0, 1, 2, 3, 9] : List Int) (4 : Int).toNat else 0) = 151192065 by decide, show decide ((4 : Int) % 4 = 0 ∧ (4 : Int) + 4 ≤ (([0, 0, 0, 0, 1, 2, 3, 9] : List Int).length : Int)) = true by decide] at p4
  rw [show decide ((0 : Int) + ((([7] : List Int).length : Nat) : Int) ≤ (([0, 0, 0, 0, 1, 2, 3, 9] : List Int).length : Int)) = true by decide] at p6
  rw [show (if (5 : Int) % 4 = 0 ∧ (5 : Int) + 4 ≤ (([7, 0, 0, 0, 1, 2, 3, 9] : List Int).length : Int) then word4 ([7, 0, 0, 0, 1, 2, 3, 9] : List Int) (5 : Int).toNat else 0) = 0 by decide, show decide ((5 : Int) % 4 = 0 ∧ (5 : Int) + 4 ≤ (([7, 0, 0, 0, 1, 2, 3, 9] : List Int).length : Int)) = false by decide] at p7
  have e5 : (([0, 0, 0, 0, 1, 2, 3, 9] : List Int).drop (6 : Int).toNat).take (2 : Int).toNat = [3, 9] := by decide
  rw [e5] at p5
  refine pcall_mk Try.func22 rfl [.tmp 0] Try.results22 106 rfl (tk_start ?_)
  (repeat refine ka ?_); refine kr ?_ ?_ (pops_end ?_)
  (repeat refine ka ?_); refine kr ?_ ?_ ?_
  refine ps_gcall (mem_new 8) ?_
  rintro x S' (⟨h, _⟩ | ⟨_, g0, g1, rfl, rfl⟩)
  · omega
  refine pops_go ?_ ?_ (pops_end ?_)
  (repeat refine ka ?_); refine kr ?_ ?_ (pops_end ?_)
  (repeat refine ka ?_); refine kcf ?_
  (repeat refine ka ?_); refine ksk ?_
  (repeat refine ka ?_); refine kr ?_ ?_ ?_
  refine ps_fcall [1, 0] (p1 g0 g1) ?_ (by rintro x S' ⟨rfl, rfl⟩; exact Nat.le_of_ble_eq_true rfl)
  rintro x S' ⟨rfl, rfl⟩
  (intro x1 S1 hx1 hS1; simp only [List.map_cons, List.map_nil, renB, ren_ints, putB, List.set_cons_zero, List.set_cons_succ, List.cons_append, List.nil_append, List.append_nil, renL, ren, sg, List.length_cons, List.length_nil, Nat.reduceAdd, Nat.zero_add, Nat.add_zero] at hx1 hS1; subst hx1 hS1)
  refine pops_go ?_ ?_ (pops_end ?_)
  (repeat refine ka ?_); refine kr ?_ ?_ ?_
  refine ps_fcall [1, 0] (p2 g0 g1) ?_ (by rintro x S' ⟨rfl, rfl⟩; exact Nat.le_of_ble_eq_true rfl)
  rintro x S' ⟨rfl, rfl⟩
  (intro x1 S1 hx1 hS1; simp only [List.map_cons, List.map_nil, renB, ren_ints, putB, List.set_cons_zero, List.set_cons_succ, List.cons_append, List.nil_append, List.append_nil, renL, ren, sg, List.length_cons, List.length_nil, Nat.reduceAdd, Nat.zero_add, Nat.add_zero] at hx1 hS1; subst hx1 hS1)
  refine pops_go ?_ ?_ (pops_end ?_)
  (repeat refine ka ?_); refine kr ?_ ?_ ?_
  refine ps_fcall [1, 0] (p3 g0 g1) ?_ (by rintro x S' ⟨rfl, rfl⟩; exact Nat.le_of_ble_eq_true rfl)
  rintro x S' ⟨rfl, rfl⟩
  (intro x1 S1 hx1 hS1; simp only [List.map_cons, List.map_nil, renB, ren_ints, putB, List.set_cons_zero, List.set_cons_succ, List.cons_append, List.nil_append, List.append_nil, renL, ren, sg, List.length_cons, List.length_nil, Nat.reduceAdd, Nat.zero_add, Nat.add_zero] at hx1 hS1; subst hx1 hS1)
  refine pops_go ?_ ?_ (pops_end ?_)
  (repeat refine ka ?_); refine kr ?_ ?_ ?_
  refine ps_fcall [1, 0] (p4 g0 g1) ?_ (by rintro x S' ⟨rfl, rfl⟩; exact Nat.le_of_ble_eq_true rfl)
  rintro x S' ⟨rfl, rfl⟩
  (intro x1 S1 hx1 hS1; simp only [List.map_cons, List.map_nil, renB, ren_ints, putB, List.set_cons_zero, List.set_cons_succ, List.cons_append, List.nil_append, List.append_nil, renL, ren, sg, List.length_cons, List.length_nil, Nat.reduceAdd, Nat.zero_add, Nat.add_zero] at hx1 hS1; subst hx1 hS1)
  refine pops_go ?_ ?_ (pops_end ?_)
  (repeat refine ka ?_); refine kr ?_ ?_ ?_
  refine ps_fcall [1, 0] (p5 g0 g1) ?_ (by rintro x S' (⟨h, rfl, rfl⟩ | ⟨h, g2, rfl, rfl⟩) <;> exact Nat.le_of_ble_eq_true rfl)
  rintro x S' (⟨h, rfl, rfl⟩ | ⟨h, g2, rfl, rfl⟩)
  · exact absurd (by decide) h
  (intro x1 S1 hx1 hS1; simp only [List.map_cons, List.map_nil, renB, ren_ints, putB, List.set_cons_zero, List.set_cons_succ, List.cons_append, List.nil_append, List.append_nil, renL, ren, sg, List.length_cons, List.length_nil, Nat.reduceAdd, Nat.zero_add, Nat.add_zero] at hx1 hS1; subst hx1 hS1)
  refine pops_go ?_ ?_ (pops_end ?_)
  (repeat refine ka ?_); refine kr ?_ ?_ ?_
  refine ps_lit fun g3 => ?_
  refine ps_fcall [1, 0, 3] (p6 g0 g1 g3) ?_ (by rintro x S' ⟨rfl, rfl⟩; exact Nat.le_of_ble_eq_true rfl)
  rintro x S' ⟨rfl, rfl⟩
  (intro x1 S1 hx1 hS1; simp only [List.map_cons, List.map_nil, renB, ren_ints, putB, List.set_cons_zero, List.set_cons_succ, List.cons_append, List.nil_append, List.append_nil, renL, ren, sg, List.length_cons, List.length_nil, Nat.reduceAdd, Nat.zero_add, Nat.add_zero] at hx1 hS1; subst hx1 hS1)
  refine pops_go ?_ ?_ (pops_end ?_)
  (repeat refine ka ?_); refine kr ?_ ?_ ?_
  refine ps_fcall [1, 0] (p7 g0 g1) ?_ (by rintro x S' ⟨rfl, rfl⟩; exact Nat.le_of_ble_eq_true rfl)
  rintro x S' ⟨rfl, rfl⟩
  (intro x1 S1 hx1 hS1; simp only [List.map_cons, List.map_nil, renB, ren_ints, putB, List.set_cons_zero, List.set_cons_succ, List.cons_append, List.nil_append, List.append_nil, renL, ren, sg, List.length_cons, List.length_nil, Nat.reduceAdd, Nat.zero_add, Nat.add_zero] at hx1 hS1; subst hx1 hS1)
  refine pops_go ?_ ?_ (pops_end ?_)
  (repeat refine ka ?_); refine kr ?_ ?_ ?_
  refine ps_fcall [1, 0] (p8 g0 g1) ?_ (by rintro x S' (⟨h, rfl, rfl⟩ | ⟨h, g2, rfl, rfl⟩) <;> exact Nat.le_of_ble_eq_true rfl)
  rintro x S' (⟨h', rfl, rfl⟩ | ⟨h', g2, rfl, rfl⟩)
  rotate_left
  · exact absurd h' (by decide)
  (intro x1 S1 hx1 hS1; simp only [List.map_cons, List.map_nil, renB, ren_ints, putB, List.set_cons_zero, List.set_cons_succ, List.cons_append, List.nil_append, List.append_nil, renL, ren, sg, List.length_cons, List.length_nil, Nat.reduceAdd, Nat.zero_add, Nat.add_zero] at hx1 hS1; subst hx1 hS1)
  refine pops_go ?_ ?_ (pops_end ?_)
  (repeat refine ka ?_); refine kr ?_ ?_ ?_
  refine ps_fcall_g [1, 0] (p9 g0 g1) ?_ (by rintro x S' ⟨rfl, rfl⟩; exact Nat.le_of_ble_eq_true rfl)
  rintro x S' ⟨rfl, rfl⟩
  (intro x1 S1 hx1 hS1; simp only [List.map_cons, List.map_nil, renB, ren_ints, putB, List.set_cons_zero, List.set_cons_succ, List.cons_append, List.nil_append, List.append_nil, renL, ren, sg, List.length_cons, List.length_nil, Nat.reduceAdd, Nat.zero_add, Nat.add_zero] at hx1 hS1; subst hx1 hS1)
  refine pops_go ?_ ?_ (pops_end ?_)
  (repeat refine ka ?_); refine kret ?_; repeat (first | with_reducible refine beh_r ?_ | with_reducible refine blk_r ?_)
  refine ends_ret ?_ retPV_one
  rfl
end Go.Proofs.Ytaaealngifkaeaa.Pv
