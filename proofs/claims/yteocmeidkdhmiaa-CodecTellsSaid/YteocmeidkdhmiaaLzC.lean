-- lz.Back's inner function.
import Derived.Test.YteocmeidkdhmiaaPvT
namespace Go.Proofs.Yteocmeidkdhmiaa.Pv
set_option linter.all false
open Go.RowKit Go.Proofs
set_option maxRecDepth 100000
def roU (l : List Int) : PV := .ro 1 false (ints .u8 l)
theorem take_ok (k : Int) (b : List Int) (hk : 0 ≤ k) (gb : Nat) (X : List Blk) : GCall Try.prog 57 [.v (.int .i64 k), .ptr 0 gb 0 0] (⟨gb, true, 1, [[.ro 1 false (ints .u8 b)]]⟩ :: X)
    (fun x S' => ((b.length : Int) < k ∧ x = .v (.slice none 0 0) ∧ S' = ⟨gb, true, 1, [[.ro 1 false (ints .u8 b)]]⟩ :: X) ∨ (k ≤ b.length ∧ x = .ro 1 false (ints .u8 (b.take k.toNat)) ∧ S' = ⟨gb, true, 1, [[.ro 1 false (ints .u8 (b.drop k.toNat))]]⟩ :: X)) := by
  refine gcall_of_tr Try.func57 rfl [.tmp 3] Try.results57 16 rfl (tk_start ?_)
  (repeat refine ka ?_); refine kr ?_ ?_ (pops_end ?_)
  by_cases h : (b.length : Int) < k
  · (repeat refine ka ?_); refine kr ?_ ?_ (pops_end ?_)
    (repeat refine ka ?_); refine kct ?_
    (repeat refine ka ?_); refine kr ?_ ?_ (pops_end ?_)
    (repeat refine ka ?_); refine kret ?_; repeat (first | with_reducible refine beh_r ?_ | with_reducible refine blk_r ?_)
    refine ends_ret ?_ retPV_one
    exact .inl ⟨h, rfl, rfl⟩
  · (repeat refine ka ?_); refine kr ?_ ?_ (pops_end ?_)
    (repeat refine ka ?_); refine kcf ?_
    (repeat refine ka ?_); refine ksk ?_
    (repeat refine ka ?_); refine kr ?_ ?_ (pops_end ?_)
    (repeat refine ka ?_); refine kr ?_ ?_ ?_
    refine ps_store ?_
    refine pops_nil ?_
    (repeat refine ka ?_); refine kr ?_ ?_ (pops_end ?_)
    (repeat refine ka ?_); refine kret ?_; repeat (first | with_reducible refine beh_r ?_ | with_reducible refine blk_r ?_)
    refine ends_ret ?_ retPV_one
    exact .inr ⟨by omega, rfl, rfl⟩
end Go.Proofs.Yteocmeidkdhmiaa.Pv
