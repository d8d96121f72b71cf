-- carapacelaw04.LzFinds.
import Derived.Test.YtaaealngifkaeaaLzG
namespace Go.Proofs.Ytaaealngifkaeaa.Pv
set_option linter.all false
open Go.RowKit Go.Proofs
set_option maxRecDepth 100000
set_option maxHeartbeats 4000000
theorem findTo_max (l : List Int) (a k : Nat) : ∀ f, 1 ≤ f → f ≤ k → same l (a - f) a ≤ (findTo l a k).2 ∧ (f < (findTo l a k).1 → same l (a - f) a < (findTo l a k).2) := by
  induction k with
  | zero => intro f h1 h2; omega
  | succ k ih =>
    intro f h1 h2
    have hk := (findTo_le l a k).1
    unfold findTo
    split
    · rename_i h
      simp only
      rcases Nat.lt_or_ge k f with h3 | h3
      · obtain rfl : f = k + 1 := by omega
        exact ⟨Nat.le_refl _, fun h => by omega⟩
      · have := (ih f h1 h3).1
        exact ⟨by omega, fun _ => by omega⟩
    · rename_i h
      rcases Nat.lt_or_ge k f with h3 | h3
      · obtain rfl : f = k + 1 := by omega
        exact ⟨by omega, fun h => by omega⟩
      · exact ih f h1 h3
theorem same_eq (l : List Int) (f a i : Nat) (h : i < same l f a) : l.getD (f + i) 0 = l.getD (a + i) 0 := by
  have : ∀ n k, ∀ i, k ≤ i → i < sameN l f a n k → l.getD (f + i) 0 = l.getD (a + i) 0 := by
    intro n
    induction n with
    | zero => intro k i h1 h2; simp only [sameN] at h2; omega
    | succ n ih =>
      intro k i h1 h2
      unfold sameN at h2
      split at h2
      · rename_i h3
        rcases Nat.lt_or_ge k i with h4 | h4
        · exact ih (k + 1) i h4 h2
        · obtain rfl : i = k := by omega
          exact h3.2
      · omega
  exact this 18 0 i (Nat.zero_le _) h

theorem finds_walk {x0 x1 : PV} (h0 : SSl 1 1 (SInt .u8) [x0]) (h1 : SInt .i64 [x1]) : PCall Try.prog 14 [x0, x1] (.v (.bool true)) := by
  obtain ⟨l, rfl, hl, hb⟩ := sl_ints h0
  obtain ⟨a, rfl, ha⟩ := one_int h1
  clear h0 h1
  refine pcall_mk Try.func14 rfl [.tmp 4] Try.results14 138 rfl (tk_start ?_)
  (repeat refine ka ?_); refine kr ?_ ?_ (pops_end ?_)
  (repeat refine ka ?_); refine kr ?_ ?_ ?_
  refine ps_pcall awake_ok ?_
  refine pops_go ?_ ?_ (pops_end ?_)
  by_cases h1 : (300 : Int) < l.length
  · (repeat refine ka ?_); refine kr ?_ ?_ (pops_end ?_)
    (repeat refine ka ?_); refine kct ?_
    (repeat refine ka ?_); refine kr ?_ ?_ (pops_end ?_)
    (repeat refine ka ?_); refine kret ?_; repeat (first | with_reducible refine beh_r ?_ | with_reducible refine blk_r ?_)
    exact ends_ret rfl retPV_one
  (repeat refine ka ?_); refine kr ?_ ?_ (pops_end ?_)
  (repeat refine ka ?_); refine kcf ?_
  (repeat refine ka ?_); refine ksk ?_
  (repeat refine ka ?_); refine kr ?_ ?_ ?_
  refine ps_pcall (find_ok l a (by omega)) ?_
  refine pops_go ?_ ?_ (pops_end ?_)
  by_cases h2 : a < 0 ∨ (l.length : Int) ≤ a
  · have hf : find l a = (0, 0) := by rw [find, if_pos h2]
    rw [hf]
    have hz : ((0 : Nat) : Int) = 0 := rfl
    simp only [hz]
    rcases h2 with h2 | h2
    · (repeat refine ka ?_); refine kr ?_ ?_ (pops_end ?_)
      (repeat refine ka ?_); refine kct ?_
      (repeat refine ka ?_); refine kr ?_ ?_ (pops_end ?_)
      (repeat refine ka ?_); refine kret ?_; repeat (first | with_reducible refine beh_r ?_ | with_reducible refine blk_r ?_)
      exact ends_ret rfl retPV_one
    · by_cases h3 : a < 0
      · omega
      (repeat refine ka ?_); refine kr ?_ ?_ (pops_end ?_)
      (repeat refine ka ?_); refine kct ?_
      (repeat refine ka ?_); refine kr ?_ ?_ (pops_end ?_)
      (repeat refine ka ?_); refine kret ?_; repeat (first | with_reducible refine beh_r ?_ | with_reducible refine blk_r ?_)
      exact ends_ret rfl retPV_one
  obtain ⟨a, rfl⟩ := Int.eq_ofNat_of_zero_le (show 0 ≤ a by omega)
  have hfe : find l (a : Int) = if (findTo l a a).1 = 0 then (0, 0) else findTo l a a := by
    rw [find, if_neg h2, Int.toNat_natCast, show min a 4096 = a by omega]
  have hfn := find_nat l a (by omega)
  have hmax := findTo_max l a a
  have hok := findTo_ok l a a
  (repeat refine ka ?_); refine kr ?_ ?_ (pops_end ?_)
  (repeat refine ka ?_); refine kcf ?_
  (repeat refine ka ?_); refine ksk ?_
  (repeat refine ka ?_); refine kr ?_ ?_ (pops_end ?_)
  (repeat refine ka ?_)
  refine kcut (fun p : Nat × Nat => [(0, .ro 1 false (ints .u8 l)), (1, .v (.int .i64 a)), (5, .v (.bool true)), (6, .v (.int .i64 p.1)), (7, .v (.int .i64 p.2))]) (fun _ => [])
    (fun p => ∀ f, 1 ≤ f → f ≤ a → same l (a - f) a ≤ p.2 ∧ (same l (a - f) a = p.2 → 3 ≤ same l (a - f) a → p.1 ≤ f)) ?_ ?_ (by simp)
  · by_cases z : (find l (a : Int)).1 = 0
    · have h5 : (findTo l a a).2 = 2 := by
        rcases hok with h | h
        · exact h.2
        · rw [hfe, if_neg (by omega)] at z; omega
      (repeat refine ka ?_); refine kct ?_
      (repeat refine ka ?_); refine kr ?_ ?_ (pops_end ?_)
      (repeat refine ka ?_); refine kr ?_ ?_ (pops_end ?_)
      refine kn ?_; repeat (first | with_reducible refine blk_n ?_ | with_reducible refine beh_n ?_)
      refine ⟨(a + 1, 2), fun f h6 h7 => ?_, (holds 0 (by repeat (first | exact .nil | refine has1 ?_)))⟩
      have := (hmax f h6 h7).1
      exact ⟨by simp only; omega, fun h8 h9 => by simp only at h8; omega⟩
    · rcases hfn with hfn | hfn
      · rw [hfn] at z; exact absurd rfl z
      have e : find l (a : Int) = findTo l a a := by
        rw [hfe]
        split
        · rename_i h; rw [hfe, if_pos h] at z; exact absurd rfl z
        · rfl
      rw [← e] at hmax
      generalize find l (a : Int) = F at *
      obtain ⟨far, n⟩ := F
      simp only at hfn z hmax ⊢
      (repeat refine ka ?_); refine kcf ?_
      (repeat refine ka ?_); refine kr ?_ ?_ (pops_end ?_)
      (repeat refine ka ?_); refine kcf ?_
      (repeat refine ka ?_); refine ksk ?_
      (repeat refine ka ?_); refine kr ?_ ?_ (pops_end ?_)
      (repeat refine ka ?_); refine kb ?_
      refine kw (fun i : Nat => [(0, .ro 1 false (ints .u8 l)), (1, .v (.int .i64 a)), (5, .v (.bool true)), (6, .v (.int .i64 far)), (7, .v (.int .i64 n)), (8, .v (.int .i64 i))]) (fun _ => []) (fun i => i ≤ n) (fun i => n - i) 0 (by omega) (holds 0 (by repeat (first | exact .nil | refine has1 ?_))) ?_
      intro i hi
      by_cases g : (i : Int) < n
      · have hs := same_eq l (a - far) a i (by omega)
        have g2 : l.getD ((a : Int) + i).toNat 0 = l.getD ((a : Int) + i - far).toNat 0 := by
          rw [show ((a : Int) + i).toNat = a + i by omega, show ((a : Int) + i - far).toNat = a - far + i by omega]
          exact hs.symm
        (repeat refine ka ?_); refine kr ?_ ?_ (pops_end ?_)
        (repeat refine ka ?_); refine kct ?_
        (repeat refine ka ?_); refine ksk ?_
        (repeat refine ka ?_); refine kb ?_
        (repeat refine ka ?_); refine kd ?_ ?_ (pstl_end ?_)
        (repeat refine ka ?_); refine kcf ?_
        (repeat refine ka ?_); refine ksk ?_
        refine kn ?_; repeat (first | with_reducible refine blk_n ?_ | with_reducible refine beh_n ?_)
        (repeat refine ka ?_); refine kr ?_ ?_ (pops_end ?_)
        refine kn ?_; repeat (first | with_reducible refine blk_n ?_ | with_reducible refine beh_n ?_)
        exact ⟨i + 1, by omega, by omega, (holds 0 (by repeat (first | exact .nil | refine has1 ?_)))⟩
      · (repeat refine ka ?_); refine kr ?_ ?_ (pops_end ?_)
        (repeat refine ka ?_); refine kcf ?_
        (repeat refine ka ?_); refine kx ?_; (repeat (first | with_reducible refine beh_x ?_ | with_reducible refine blk_up rfl ?_)); refine blk_here ?_; refine beh_n ?_
        refine kn ?_; repeat (first | with_reducible refine blk_n ?_ | with_reducible refine beh_n ?_)
        refine ⟨(far, n), fun f h6 h7 => ?_, (holds 0 (by repeat (first | exact .nil | refine has1 ?_)))⟩
        have := hmax f h6 h7
        exact ⟨by simp only; omega, fun h8 h9 => by simp only at h8 ⊢; omega⟩
  rintro ⟨far, n⟩ hV
  simp only at hV ⊢
  clear hmax hok hfn hfe
  (repeat refine ka ?_); refine kr ?_ ?_ (pops_end ?_)
  (repeat refine ka ?_); refine kb ?_
  refine kw (fun f : Nat => [(0, .ro 1 false (ints .u8 l)), (1, .v (.int .i64 a)), (5, .v (.bool true)), (6, .v (.int .i64 far)), (7, .v (.int .i64 n)), (9, .v (.int .i64 f))]) (fun _ => []) (fun f => 1 ≤ f ∧ f ≤ a + 1) (fun f => a + 1 - f) 1 ⟨by omega, by omega⟩ (holds 0 (by repeat (first | exact .nil | refine has1 ?_))) ?_
  rintro f ⟨hf1, hf2⟩
  by_cases g : (f : Int) ≤ a
  rotate_left
  · (repeat refine ka ?_); refine kr ?_ ?_ (pops_end ?_)
    (repeat refine ka ?_); refine kcf ?_
    (repeat refine ka ?_); refine kx ?_; (repeat (first | with_reducible refine beh_x ?_ | with_reducible refine blk_up rfl ?_)); refine blk_here ?_; refine beh_n ?_
    (repeat refine ka ?_); refine kr ?_ ?_ (pops_end ?_)
    (repeat refine ka ?_); refine kret ?_; repeat (first | with_reducible refine beh_r ?_ | with_reducible refine blk_r ?_)
    exact ends_ret rfl retPV_one
  (repeat refine ka ?_); refine kr ?_ ?_ (pops_end ?_)
  (repeat refine ka ?_); refine kct ?_
  (repeat refine ka ?_); refine ksk ?_
  (repeat refine ka ?_); refine kb ?_
  (repeat refine ka ?_); refine kr ?_ ?_ (pops_end ?_)
  (repeat refine ka ?_)
  refine kcut (fun _ : Unit => [(0, .ro 1 false (ints .u8 l)), (1, .v (.int .i64 a)), (5, .v (.bool true)), (6, .v (.int .i64 far)), (7, .v (.int .i64 n)), (9, .v (.int .i64 f)), (10, .v (.int .i64 (same l (a - f) a)))]) (fun _ => []) (fun _ => True) ?_ ?_ (by simp)
  · (repeat refine ka ?_); refine kb ?_
    refine kw (fun m : Nat => [(0, .ro 1 false (ints .u8 l)), (1, .v (.int .i64 a)), (5, .v (.bool true)), (6, .v (.int .i64 far)), (7, .v (.int .i64 n)), (9, .v (.int .i64 f)), (10, .v (.int .i64 m))]) (fun _ => []) (fun m => m ≤ 18 ∧ sameN l (a - f) a (18 - m) m = same l (a - f) a) (fun m => 18 - m) 0 ⟨by omega, rfl⟩ (holds 0 (by repeat (first | exact .nil | refine has1 ?_))) ?_
    rintro m ⟨hm, he⟩
    have e1 : ((a : Int) + m).toNat = a + m := by omega
    have e2 : ((a : Int) + m - f).toNat = a - f + m := by omega
    by_cases g1 : (m : Int) < 18
    · by_cases g2 : (a : Int) + m < l.length
      · by_cases g3 : l.getD ((a : Int) + m).toNat 0 = l.getD ((a : Int) + m - f).toNat 0
        · (repeat refine ka ?_); refine kd ?_ ?_ (pstl_end ?_)
          (repeat refine ka ?_); refine kct ?_
          (repeat refine ka ?_); refine ksk ?_
          (repeat refine ka ?_); refine kb ?_
          (repeat refine ka ?_); refine kr ?_ ?_ (pops_end ?_)
          refine kn ?_; repeat (first | with_reducible refine blk_n ?_ | with_reducible refine beh_n ?_)
          refine ⟨m + 1, ⟨by omega, ?_⟩, by omega, (holds 0 (by repeat (first | exact .nil | refine has1 ?_)))⟩
          rw [← he, show 18 - m = (18 - (m + 1)) + 1 by omega, sameN_go (by omega) (by rw [e1, e2] at g3; exact g3.symm)]
        · (repeat refine ka ?_); refine kd ?_ ?_ (pstl_end ?_)
          (repeat refine ka ?_); refine kcf ?_
          (repeat refine ka ?_); refine kx ?_; (repeat (first | with_reducible refine beh_x ?_ | with_reducible refine blk_up rfl ?_)); refine blk_here ?_; refine beh_n ?_
          refine kn ?_; repeat (first | with_reducible refine blk_n ?_ | with_reducible refine beh_n ?_)
          rw [sameN_stop (by rw [e1, e2] at g3; intro h; exact g3 h.2.2.symm)] at he
          rw [← he]
          exact ⟨(), trivial, (holds 0 (by repeat (first | exact .nil | refine has1 ?_)))⟩
      · (repeat refine ka ?_); refine kd ?_ ?_ (pstl_end ?_)
        (repeat refine ka ?_); refine kcf ?_
        (repeat refine ka ?_); refine kx ?_; (repeat (first | with_reducible refine beh_x ?_ | with_reducible refine blk_up rfl ?_)); refine blk_here ?_; refine beh_n ?_
        refine kn ?_; repeat (first | with_reducible refine blk_n ?_ | with_reducible refine beh_n ?_)
        rw [sameN_stop (by omega)] at he
        rw [← he]
        exact ⟨(), trivial, (holds 0 (by repeat (first | exact .nil | refine has1 ?_)))⟩
    · (repeat refine ka ?_); refine kd ?_ ?_ (pstl_end ?_)
      (repeat refine ka ?_); refine kcf ?_
      (repeat refine ka ?_); refine kx ?_; (repeat (first | with_reducible refine beh_x ?_ | with_reducible refine blk_up rfl ?_)); refine blk_here ?_; refine beh_n ?_
      refine kn ?_; repeat (first | with_reducible refine blk_n ?_ | with_reducible refine beh_n ?_)
      rw [sameN_stop (by omega)] at he
      rw [← he]
      exact ⟨(), trivial, (holds 0 (by repeat (first | exact .nil | refine has1 ?_)))⟩
  rintro - -
  have hv := hV f hf1 (by omega)
  generalize same l (a - f) a = M at *
  by_cases c1 : (M : Int) = n
  · by_cases c2 : (3 : Int) ≤ M
    · have c3 : ¬ ((f : Int) < far) := by have := hv.2 (by omega) (by omega); omega
      (repeat refine ka ?_); refine kr ?_ ?_ (pops_end ?_)
      (repeat refine ka ?_); refine kcf ?_
      (repeat refine ka ?_); refine ksk ?_
      refine kn ?_; repeat (first | with_reducible refine blk_n ?_ | with_reducible refine beh_n ?_)
      (repeat refine ka ?_); refine kr ?_ ?_ (pops_end ?_)
      refine kn ?_; repeat (first | with_reducible refine blk_n ?_ | with_reducible refine beh_n ?_)
      exact ⟨f + 1, by omega, by omega, (holds 0 (by repeat (first | exact .nil | refine has1 ?_)))⟩
    · (repeat refine ka ?_); refine kr ?_ ?_ (pops_end ?_)
      (repeat refine ka ?_); refine kcf ?_
      (repeat refine ka ?_); refine ksk ?_
      refine kn ?_; repeat (first | with_reducible refine blk_n ?_ | with_reducible refine beh_n ?_)
      (repeat refine ka ?_); refine kr ?_ ?_ (pops_end ?_)
      refine kn ?_; repeat (first | with_reducible refine blk_n ?_ | with_reducible refine beh_n ?_)
      exact ⟨f + 1, by omega, by omega, (holds 0 (by repeat (first | exact .nil | refine has1 ?_)))⟩
  · (repeat refine ka ?_); refine kr ?_ ?_ (pops_end ?_)
    (repeat refine ka ?_); refine kcf ?_
    (repeat refine ka ?_); refine ksk ?_
    refine kn ?_; repeat (first | with_reducible refine blk_n ?_ | with_reducible refine beh_n ?_)
    (repeat refine ka ?_); refine kr ?_ ?_ (pops_end ?_)
    refine kn ?_; repeat (first | with_reducible refine blk_n ?_ | with_reducible refine beh_n ?_)
    exact ⟨f + 1, by omega, by omega, (holds 0 (by repeat (first | exact .nil | refine has1 ?_)))⟩
end Go.Proofs.Ytaaealngifkaeaa.Pv
