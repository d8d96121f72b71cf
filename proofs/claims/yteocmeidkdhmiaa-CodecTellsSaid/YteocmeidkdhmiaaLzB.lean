-- lz.Find.
import Derived.Test.YteocmeidkdhmiaaLzA
namespace Go.Proofs.Yteocmeidkdhmiaa.Pv
set_option linter.all false
open Go.RowKit Go.Proofs
set_option maxRecDepth 100000
theorem same_at (l : List Int) (m n : Nat) {f a : Int} (hf : f = m) (ha : a = n) (h1 : m < n) (h2 : n < l.length) (hl : l.length ≤ 1000000) : PCall Try.prog 65 [.ro 1 false (ints .u8 l), .v (.int .i64 f), .v (.int .i64 a)] (.v (.int .i64 (same l m n))) := by
  subst hf ha
  exact same_ok l m n h1 h2 hl
/-- The longest so far, and where. -/
def findTo (l : List Int) (a : Nat) : Nat → Nat × Nat
  | 0 => (0, 2)
  | f + 1 => if (findTo l a f).2 < same l (a - (f + 1)) a then (f + 1, same l (a - (f + 1)) a) else findTo l a f
def find (l : List Int) (a : Int) : Nat × Nat :=
  if a < 0 ∨ (l.length : Int) ≤ a then (0, 0) else if (findTo l a.toNat (min a.toNat 4096)).1 = 0 then (0, 0) else findTo l a.toNat (min a.toNat 4096)

theorem same_le (l : List Int) (f a : Nat) : same l f a ≤ 18 := by
  have : ∀ n k, sameN l f a n k ≤ n + k := by
    intro n
    induction n with
    | zero => intro k; simp [sameN]
    | succ n ih =>
      intro k
      unfold sameN
      split
      · have := ih (k + 1); omega
      · omega
  exact this 18 0
theorem findTo_le (l : List Int) (a n : Nat) : (findTo l a n).1 ≤ n ∧ (findTo l a n).2 ≤ 18 := by
  induction n with
  | zero => simp [findTo]
  | succ n ih =>
    unfold findTo
    split
    · exact ⟨Nat.le_refl _, same_le _ _ _⟩
    · exact ⟨by omega, ih.2⟩

theorem find_ok (l : List Int) (a : Int) (hl : l.length ≤ 1000000) : PCall Try.prog 56 [.ro 1 false (ints .u8 l), .v (.int .i64 a)] (.tup [.v (.int .i64 (find l a).1), .v (.int .i64 (find l a).2)]) := by
  refine pcall_mk Try.func56 rfl [.tmp 4, .tmp 5] Try.results56 39 rfl (tk_start ?_)
  (repeat refine ka ?_); refine kr ?_ ?_ (pops_end ?_)
  by_cases h1 : a < 0
  · (repeat refine ka ?_); refine kr ?_ ?_ (pops_end ?_)
    (repeat refine ka ?_); refine kct ?_
    (repeat refine ka ?_); refine kr ?_ ?_ (pops_end ?_)
    (repeat refine ka ?_); refine kret ?_; repeat (first | with_reducible refine beh_r ?_ | with_reducible refine blk_r ?_)
    refine ends_ret ?_ retPV_two
    rw [find, if_pos (.inl h1)]; rfl
  by_cases h2 : (l.length : Int) ≤ a
  · (repeat refine ka ?_); refine kr ?_ ?_ (pops_end ?_)
    (repeat refine ka ?_); refine kct ?_
    (repeat refine ka ?_); refine kr ?_ ?_ (pops_end ?_)
    (repeat refine ka ?_); refine kret ?_; repeat (first | with_reducible refine beh_r ?_ | with_reducible refine blk_r ?_)
    refine ends_ret ?_ retPV_two
    rw [find, if_pos (.inr h2)]; rfl
  obtain ⟨a, rfl⟩ := Int.eq_ofNat_of_zero_le (show 0 ≤ a by omega)
  have hfind : find l (a : Int) = if (findTo l a (min a 4096)).1 = 0 then (0, 0) else findTo l a (min a 4096) := by
    rw [find, if_neg (by omega), Int.toNat_natCast]
  (repeat refine ka ?_); refine kr ?_ ?_ (pops_end ?_)
  (repeat refine ka ?_); refine kcf ?_
  (repeat refine ka ?_); refine ksk ?_
  (repeat refine ka ?_); refine kr ?_ ?_ (pops_end ?_)
  (repeat refine ka ?_); refine kr ?_ ?_ (pops_end ?_)
  (repeat refine ka ?_); refine kb ?_
  refine kw (fun k : Nat => [(0, PV.ro 1 false (ints .u8 l)), (1, .v (.int .i64 a)), (6, .v (.int .i64 (findTo l a k).1)), (7, .v (.int .i64 (findTo l a k).2)), (8, .v (.int .i64 (k + 1 : Int)))]) (fun _ => []) (fun k => k ≤ min a 4096) (fun k => min a 4096 - k) 0 (by omega) (holds 0 (by repeat (first | exact .nil | refine has1 ?_))) ?_
  intro k hk
  have hb := findTo_le l a k
  by_cases g1 : (k + 1 : Int) ≤ min (a : Int) 4096
  · by_cases g2 : ((findTo l a k).2 : Int) < same l (a - (k + 1)) a
    · (repeat refine ka ?_); refine kr ?_ ?_ (pops_end ?_)
      (repeat refine ka ?_); refine kct ?_
      (repeat refine ka ?_); refine ksk ?_
      (repeat refine ka ?_); refine kb ?_
      (repeat refine ka ?_); refine kr ?_ ?_ ?_
      refine ps_pcall (same_at l (a - (k + 1)) a ?_ ?_ ?_ ?_ hl) ?_
      iterate 4 omega
      refine pops_go ?_ ?_ (pops_end ?_)
      (repeat refine ka ?_); refine kr ?_ ?_ (pops_end ?_)
      (repeat refine ka ?_); refine kct ?_
      (repeat refine ka ?_); refine kr ?_ ?_ (pops_end ?_)
      refine kn ?_; repeat (first | with_reducible refine blk_n ?_ | with_reducible refine beh_n ?_)
      (repeat refine ka ?_); refine kr ?_ ?_ (pops_end ?_)
      refine kn ?_; repeat (first | with_reducible refine blk_n ?_ | with_reducible refine beh_n ?_)
      have e2 : findTo l a (k + 1) = (k + 1, same l (a - (k + 1)) a) := by rw [findTo, if_pos (by omega)]
      refine ⟨k + 1, by omega, by omega, ?_⟩
      rw [e2]
      exact (holds 0 (by repeat (first | exact .nil | refine has1 ?_)))
    · (repeat refine ka ?_); refine kr ?_ ?_ (pops_end ?_)
      (repeat refine ka ?_); refine kct ?_
      (repeat refine ka ?_); refine ksk ?_
      (repeat refine ka ?_); refine kb ?_
      (repeat refine ka ?_); refine kr ?_ ?_ ?_
      refine ps_pcall (same_at l (a - (k + 1)) a ?_ ?_ ?_ ?_ hl) ?_
      iterate 4 omega
      refine pops_go ?_ ?_ (pops_end ?_)
      (repeat refine ka ?_); refine kr ?_ ?_ (pops_end ?_)
      (repeat refine ka ?_); refine kcf ?_
      (repeat refine ka ?_); refine ksk ?_
      refine kn ?_; repeat (first | with_reducible refine blk_n ?_ | with_reducible refine beh_n ?_)
      (repeat refine ka ?_); refine kr ?_ ?_ (pops_end ?_)
      refine kn ?_; repeat (first | with_reducible refine blk_n ?_ | with_reducible refine beh_n ?_)
      have e2 : findTo l a (k + 1) = findTo l a k := by rw [findTo, if_neg (by omega)]
      refine ⟨k + 1, by omega, by omega, ?_⟩
      rw [e2]
      exact (holds 0 (by repeat (first | exact .nil | refine has1 ?_)))
  · (repeat refine ka ?_); refine kr ?_ ?_ (pops_end ?_)
    (repeat refine ka ?_); refine kcf ?_
    (repeat refine ka ?_); refine kx ?_; (repeat (first | with_reducible refine beh_x ?_ | with_reducible refine blk_up rfl ?_)); refine blk_here ?_; refine beh_n ?_
    have e : k = min a 4096 := by omega
    rw [← e] at hfind
    by_cases g3 : ((findTo l a k).1 : Int) = 0
    · (repeat refine ka ?_); refine kr ?_ ?_ (pops_end ?_)
      (repeat refine ka ?_); refine kct ?_
      (repeat refine ka ?_); refine kr ?_ ?_ (pops_end ?_)
      (repeat refine ka ?_); refine kret ?_; repeat (first | with_reducible refine beh_r ?_ | with_reducible refine blk_r ?_)
      refine ends_ret ?_ retPV_two
      rw [hfind, if_pos (by omega)]; rfl
    · (repeat refine ka ?_); refine kr ?_ ?_ (pops_end ?_)
      (repeat refine ka ?_); refine kcf ?_
      (repeat refine ka ?_); refine ksk ?_
      (repeat refine ka ?_); refine kr ?_ ?_ (pops_end ?_)
      (repeat refine ka ?_); refine kret ?_; repeat (first | with_reducible refine beh_r ?_ | with_reducible refine blk_r ?_)
      refine ends_ret ?_ retPV_two
      rw [hfind, if_neg (by omega)]
end Go.Proofs.Yteocmeidkdhmiaa.Pv
