-- lz.same, lz.Find.
import Derived.Test.YteocmeidkdhmiaaPvT
namespace Go.Proofs.Yteocmeidkdhmiaa.Pv
set_option linter.all false
open Go.RowKit Go.Proofs
set_option maxRecDepth 100000
/-- How long what stands at two places is the same, from k on. -/
def sameN (l : List Int) (f a : Nat) : Nat → Nat → Nat
  | 0, k => k
  | n + 1, k => if a + k < l.length ∧ l.getD (f + k) 0 = l.getD (a + k) 0 then sameN l f a n (k + 1) else k
def same (l : List Int) (f a : Nat) : Nat := sameN l f a 18 0
theorem sameN_stop {l : List Int} {f a n k : Nat} (h : ¬ (0 < n ∧ a + k < l.length ∧ l.getD (f + k) 0 = l.getD (a + k) 0)) : sameN l f a n k = k := by
  cases n with
  | zero => rfl
  | succ n => rw [sameN, if_neg (fun h' => h ⟨by omega, h'⟩)]
theorem sameN_go {l : List Int} {f a n k : Nat} (h : a + k < l.length) (h2 : l.getD (f + k) 0 = l.getD (a + k) 0) : sameN l f a (n + 1) k = sameN l f a n (k + 1) := by rw [sameN, if_pos ⟨h, h2⟩]

theorem same_ok (l : List Int) (f a : Nat) (h1 : f < a) (h2 : a < l.length) (hl : l.length ≤ 1000000) : PCall Try.prog 65 [.ro 1 false (ints .u8 l), .v (.int .i64 f), .v (.int .i64 a)] (.v (.int .i64 (same l f a))) := by
  refine pcall_mk Try.func65 rfl [.tmp 6] Try.results65 36 rfl (tk_start ?_)
  (repeat refine ka ?_); refine kr ?_ ?_ (pops_end ?_)
  (repeat refine ka ?_); refine kr ?_ ?_ (pops_end ?_)
  (repeat refine ka ?_); refine kb ?_
  refine kw (fun k : Nat => [(0, PV.ro 1 false (ints .u8 l)), (1, .v (.int .i64 f)), (2, .v (.int .i64 a)), (7, .v (.int .i64 k))]) (fun _ => []) (fun k => k ≤ 18 ∧ sameN l f a (18 - k) k = same l f a) (fun k => 18 - k) 0 ⟨by omega, rfl⟩ (holds 0 (by repeat (first | exact .nil | refine has1 ?_))) ?_
  rintro k ⟨hk, he⟩
  by_cases g1 : (k : Int) < 18
  · by_cases g2 : (a : Int) + k < l.length
    · have e1 : ((f : Int) + k).toNat = f + k := by omega
      have e2 : ((a : Int) + k).toNat = a + k := by omega
      by_cases g3 : l.getD ((f : Int) + k).toNat 0 = l.getD ((a : Int) + k).toNat 0
      · (repeat refine ka ?_); refine kd ?_ ?_ (pstl_end ?_)
        (repeat refine ka ?_); refine kct ?_
        (repeat refine ka ?_); refine ksk ?_
        (repeat refine ka ?_); refine kb ?_
        (repeat refine ka ?_); refine kr ?_ ?_ (pops_end ?_)
        refine kn ?_; repeat (first | with_reducible refine blk_n ?_ | with_reducible refine beh_n ?_)
        refine ⟨k + 1, ⟨by omega, ?_⟩, by omega, (holds 0 (by repeat (first | exact .nil | refine has1 ?_)))⟩
        rw [← he, show 18 - k = (18 - (k + 1)) + 1 by omega, sameN_go (by omega) (by rw [e1, e2] at g3; exact g3)]
      · (repeat refine ka ?_); refine kd ?_ ?_ (pstl_end ?_)
        (repeat refine ka ?_); refine kcf ?_
        (repeat refine ka ?_); refine kx ?_; (repeat (first | with_reducible refine beh_x ?_ | with_reducible refine blk_up rfl ?_)); refine blk_here ?_; refine beh_n ?_
        (repeat refine ka ?_); refine kr ?_ ?_ (pops_end ?_)
        (repeat refine ka ?_); refine kret ?_; repeat (first | with_reducible refine beh_r ?_ | with_reducible refine blk_r ?_)
        refine ends_ret ?_ retPV_one
        rw [← he, sameN_stop (by rw [e1, e2] at g3; intro h; exact g3 h.2.2)]
    · (repeat refine ka ?_); refine kd ?_ ?_ (pstl_end ?_)
      (repeat refine ka ?_); refine kcf ?_
      (repeat refine ka ?_); refine kx ?_; (repeat (first | with_reducible refine beh_x ?_ | with_reducible refine blk_up rfl ?_)); refine blk_here ?_; refine beh_n ?_
      (repeat refine ka ?_); refine kr ?_ ?_ (pops_end ?_)
      (repeat refine ka ?_); refine kret ?_; repeat (first | with_reducible refine beh_r ?_ | with_reducible refine blk_r ?_)
      refine ends_ret ?_ retPV_one
      rw [← he, sameN_stop (by omega)]
  · (repeat refine ka ?_); refine kd ?_ ?_ (pstl_end ?_)
    (repeat refine ka ?_); refine kcf ?_
    (repeat refine ka ?_); refine kx ?_; (repeat (first | with_reducible refine beh_x ?_ | with_reducible refine blk_up rfl ?_)); refine blk_here ?_; refine beh_n ?_
    (repeat refine ka ?_); refine kr ?_ ?_ (pops_end ?_)
    (repeat refine ka ?_); refine kret ?_; repeat (first | with_reducible refine beh_r ?_ | with_reducible refine blk_r ?_)
    refine ends_ret ?_ retPV_one
    rw [← he, sameN_stop (by omega)]
end Go.Proofs.Yteocmeidkdhmiaa.Pv
