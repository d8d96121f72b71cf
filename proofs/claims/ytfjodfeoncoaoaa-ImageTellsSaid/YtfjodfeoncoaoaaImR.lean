-- carapaceref17.trailer.
import Derived.Test.YtfjodfeoncoaoaaImO
namespace Go.Proofs.Ytfjodfeoncoaoaa.Pv
set_option linter.all false
open Go.RowKit Go.Proofs
set_option maxRecDepth 100000
set_option maxHeartbeats 4000000
/-- What the document's search tells: where a trailer begins, or -1. -/
def trailF (b : List Int) : Int := if lastAt b - 8 < 0 ∨ 65536 < (b.length : Int) - (lastAt b - 8) - 12 then -1 else lastAt b - 8
theorem trailer_ok (b : List Int) (hb : Oct b) (hl : b.length ≤ 1000000000000000) : PCall Try.prog 37 [.ro 1 false (ints .u8 b)] (.v (.int .i64 (trailF b))) := by
  have hla := lastAt_range b
  refine pcall_mk Try.func37 rfl [.tmp 2] Try.results37 50 rfl (tk_start ?_)
  (repeat refine ka ?_); refine kr ?_ ?_ (pops_end ?_)
  (repeat refine ka ?_); refine kr ?_ ?_ (pops_end ?_)
  (repeat refine ka ?_); refine kb ?_
  refine kw (fun i : Int => [(0, PV.ro 1 false (ints .u8 b)), (3, .v (.int .i64 i))]) (fun _ => []) (fun i => i ≤ (b.length : Int) - 12 ∧ -13 ≤ i ∧ lastAt b = lastUpto b (i + 9).toNat) (fun i => (i + 1).toNat) ((b.length : Int) - 12) ⟨Int.le_refl _, by omega, by unfold lastAt; rw [show ((b.length : Int) - 12 + 9).toNat = b.length - 3 by omega]⟩ (holds 0 (by repeat (first | exact .nil | refine has1 ?_))) ?_
  rintro i ⟨h1, h2, h3⟩
  have hr := lastUpto_range b (i + 9).toNat
  by_cases g : i < 0
  · have ht : trailF b = -1 := by unfold trailF; rw [if_pos (.inl (by omega))]
    rw [ht]
    (repeat refine ka ?_); refine kr ?_ ?_ (pops_end ?_)
    (repeat refine ka ?_); refine kcf ?_
    (repeat refine ka ?_); refine kx ?_; (repeat (first | with_reducible refine beh_x ?_ | with_reducible refine blk_up rfl ?_)); refine blk_here ?_; refine beh_n ?_
    (repeat refine ka ?_); refine kr ?_ ?_ (pops_end ?_)
    (repeat refine ka ?_); refine kret ?_; repeat (first | with_reducible refine beh_r ?_ | with_reducible refine blk_r ?_)
    refine ends_ret ?_ retPV_one
    rfl
  by_cases g2 : i + 12 < (b.length : Int) - 65536
  · have ht : trailF b = -1 := by unfold trailF; rw [if_pos (.inr (by omega))]
    rw [ht]
    (repeat refine ka ?_); refine kr ?_ ?_ (pops_end ?_)
    (repeat refine ka ?_); refine kcf ?_
    (repeat refine ka ?_); refine kx ?_; (repeat (first | with_reducible refine beh_x ?_ | with_reducible refine blk_up rfl ?_)); refine blk_here ?_; refine beh_n ?_
    (repeat refine ka ?_); refine kr ?_ ?_ (pops_end ?_)
    (repeat refine ka ?_); refine kret ?_; repeat (first | with_reducible refine beh_r ?_ | with_reducible refine blk_r ?_)
    refine ends_ret ?_ retPV_one
    rfl
  have hn9 : (i + 9).toNat = (i + 8).toNat + 1 := by omega
  have hn10 : (i + 10).toNat = (i + 8).toNat + 2 := by omega
  have hn11 : (i + 11).toNat = (i + 8).toNat + 3 := by omega
  have hup : lastAt b = if at4 b (i + 8).toNat then ((i + 8).toNat : Int) else lastUpto b (i + 8).toNat := by rw [h3, hn9]; rfl
  have nx : at4 b (i + 8).toNat = false → (i - 1 ≤ (b.length : Int) - 12 ∧ -13 ≤ i - 1 ∧ lastAt b = lastUpto b (i - 1 + 9).toNat) := fun h => ⟨by omega, by omega, by rw [hup, h, show (i - 1 + 9).toNat = (i + 8).toNat by omega]; rfl⟩
  have hat : at4 b (i + 8).toNat = decide (b.getD (i + 8).toNat 0 = 49 ∧ b.getD (i + 9).toNat 0 = 88 ∧ b.getD (i + 10).toNat 0 = 70 ∧ b.getD (i + 11).toNat 0 = 83) := by rw [hn9, hn10, hn11]; rfl
  by_cases c0 : b.getD (i + 8).toNat 0 = 49
  rotate_left
  · have nx := nx (by rw [hat]; exact decide_eq_false (fun h => c0 h.1))
    (repeat refine ka ?_); refine kr ?_ ?_ (pops_end ?_)
    (repeat refine ka ?_); refine kct ?_
    (repeat refine ka ?_); refine ksk ?_
    (repeat refine ka ?_); refine kb ?_
    (repeat refine ka ?_); refine kr ?_ ?_ (pops_end ?_)
    (repeat refine ka ?_); refine kcf ?_
    (repeat refine ka ?_); refine ksk ?_
    refine kn ?_; repeat (first | with_reducible refine blk_n ?_ | with_reducible refine beh_n ?_)
    (repeat refine ka ?_); refine kr ?_ ?_ (pops_end ?_)
    refine kn ?_; repeat (first | with_reducible refine blk_n ?_ | with_reducible refine beh_n ?_)
    exact ⟨i - 1, nx, by omega, (holds 0 (by repeat (first | exact .nil | refine has1 ?_)))⟩
  by_cases c1 : b.getD (i + 9).toNat 0 = 88
  rotate_left
  · have nx := nx (by rw [hat]; exact decide_eq_false (fun h => c1 h.2.1))
    (repeat refine ka ?_); refine kr ?_ ?_ (pops_end ?_)
    (repeat refine ka ?_); refine kct ?_
    (repeat refine ka ?_); refine ksk ?_
    (repeat refine ka ?_); refine kb ?_
    (repeat refine ka ?_); refine kr ?_ ?_ (pops_end ?_)
    (repeat refine ka ?_); refine kcf ?_
    (repeat refine ka ?_); refine ksk ?_
    refine kn ?_; repeat (first | with_reducible refine blk_n ?_ | with_reducible refine beh_n ?_)
    (repeat refine ka ?_); refine kr ?_ ?_ (pops_end ?_)
    refine kn ?_; repeat (first | with_reducible refine blk_n ?_ | with_reducible refine beh_n ?_)
    exact ⟨i - 1, nx, by omega, (holds 0 (by repeat (first | exact .nil | refine has1 ?_)))⟩
  by_cases c2 : b.getD (i + 10).toNat 0 = 70
  rotate_left
  · have nx := nx (by rw [hat]; exact decide_eq_false (fun h => c2 h.2.2.1))
    (repeat refine ka ?_); refine kr ?_ ?_ (pops_end ?_)
    (repeat refine ka ?_); refine kct ?_
    (repeat refine ka ?_); refine ksk ?_
    (repeat refine ka ?_); refine kb ?_
    (repeat refine ka ?_); refine kr ?_ ?_ (pops_end ?_)
    (repeat refine ka ?_); refine kcf ?_
    (repeat refine ka ?_); refine ksk ?_
    refine kn ?_; repeat (first | with_reducible refine blk_n ?_ | with_reducible refine beh_n ?_)
    (repeat refine ka ?_); refine kr ?_ ?_ (pops_end ?_)
    refine kn ?_; repeat (first | with_reducible refine blk_n ?_ | with_reducible refine beh_n ?_)
    exact ⟨i - 1, nx, by omega, (holds 0 (by repeat (first | exact .nil | refine has1 ?_)))⟩
  by_cases c3 : b.getD (i + 11).toNat 0 = 83
  rotate_left
  · have nx := nx (by rw [hat]; exact decide_eq_false (fun h => c3 h.2.2.2))
    (repeat refine ka ?_); refine kr ?_ ?_ (pops_end ?_)
    (repeat refine ka ?_); refine kct ?_
    (repeat refine ka ?_); refine ksk ?_
    (repeat refine ka ?_); refine kb ?_
    (repeat refine ka ?_); refine kr ?_ ?_ (pops_end ?_)
    (repeat refine ka ?_); refine kcf ?_
    (repeat refine ka ?_); refine ksk ?_
    refine kn ?_; repeat (first | with_reducible refine blk_n ?_ | with_reducible refine beh_n ?_)
    (repeat refine ka ?_); refine kr ?_ ?_ (pops_end ?_)
    refine kn ?_; repeat (first | with_reducible refine blk_n ?_ | with_reducible refine beh_n ?_)
    exact ⟨i - 1, nx, by omega, (holds 0 (by repeat (first | exact .nil | refine has1 ?_)))⟩
  have ht : trailF b = i := by
    rw [hat, decide_eq_true ⟨c0, c1, c2, c3⟩, if_pos rfl] at hup
    unfold trailF
    rw [if_neg (by omega), hup]
    omega
  rw [ht]
  (repeat refine ka ?_); refine kr ?_ ?_ (pops_end ?_)
  (repeat refine ka ?_); refine kct ?_
  (repeat refine ka ?_); refine ksk ?_
  (repeat refine ka ?_); refine kb ?_
  (repeat refine ka ?_); refine kr ?_ ?_ (pops_end ?_)
  (repeat refine ka ?_); refine kct ?_
  (repeat refine ka ?_); refine kr ?_ ?_ (pops_end ?_)
  (repeat refine ka ?_); refine kret ?_; repeat (first | with_reducible refine beh_r ?_ | with_reducible refine blk_r ?_)
  refine ends_ret ?_ retPV_one
  rfl
end Go.Proofs.Ytfjodfeoncoaoaa.Pv
