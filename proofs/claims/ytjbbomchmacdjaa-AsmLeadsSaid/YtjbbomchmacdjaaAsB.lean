-- The same of relocations.
import Derived.Test.YtjbbomchmacdjaaAsA
namespace Go.Proofs.Ytjbbomchmacdjaa.Pv
set_option linter.all false
open Go.RowKit Go.Proofs
set_option maxRecDepth 100000
theorem rel_eq_of_upto {a b : List (Int × Bool)} (hl : a.length = b.length) (h : ∀ i, i < a.length → a[i]? = b[i]?) : a = b := by
  apply List.ext_getElem? 
  intro i
  rcases Nat.lt_or_ge i a.length with h1 | h1
  · exact h i h1
  · rw [List.getElem?_eq_none h1, List.getElem?_eq_none (by omega)]
theorem equal_rels_d (a b : List (Int × Bool)) (ha : a.length ≤ 1000000000) (hb : b.length ≤ 1000000000) : PCall Try.prog 71 [.ro 2 false (relRows a), .ro 2 false (relRows b)] (.v (.bool (decide (a = b)))) := by
  have hra := relRows_length a
  have hrb := relRows_length b
  refine pcall_mk Try.func71 rfl [.tmp 4] Try.results71 26 rfl (tk_start ?_)
  (repeat refine ka ?_); refine kr ?_ ?_ (pops_end ?_)
  by_cases h : (a.length : Int) = b.length
  rotate_left
  · (repeat refine ka ?_); refine kr ?_ ?_ (pops_end ?_)
    (repeat refine ka ?_); refine kct ?_
    (repeat refine ka ?_); refine kr ?_ ?_ (pops_end ?_)
    (repeat refine ka ?_); refine kret ?_; repeat (first | with_reducible refine beh_r ?_ | with_reducible refine blk_r ?_)
    refine ends_ret ?_ retPV_one
    rw [decide_eq_false]
    intro e; rw [e] at h; exact h rfl
  (repeat refine ka ?_); refine kr ?_ ?_ (pops_end ?_)
  (repeat refine ka ?_); refine kcf ?_
  (repeat refine ka ?_); refine ksk ?_
  (repeat refine ka ?_); refine kr ?_ ?_ (pops_end ?_)
  (repeat refine ka ?_); refine kb ?_
  refine kw (fun i : Nat => [(0, PV.ro 2 false (relRows a)), (1, .ro 2 false (relRows b)), (12, .v (.int .i64 a.length)), (13, .v (.int .i64 i))]) (fun _ => []) (fun i => i ≤ a.length ∧ ∀ j, j < i → a[j]? = b[j]?) (fun i => a.length - i) 0 (by simp) (holds 0 (by repeat (first | exact .nil | refine has1 ?_))) ?_
  rintro i ⟨hi, he⟩
  by_cases g : (i : Int) < a.length
  · obtain ⟨⟨r1, r2⟩, hr⟩ : ∃ r, a[i]? = some r := ⟨a[i]'(by omega), by simp [show i < a.length by omega]⟩
    obtain ⟨⟨s1, s2⟩, hs⟩ : ∃ r, b[i]? = some r := ⟨b[i]'(by omega), by simp [show i < b.length by omega]⟩
    have hrow1 := relRows_get hr
    have hrow2 := relRows_get hs
    dsimp only at hrow1 hrow2
    by_cases g1 : r1 = s1 ∧ r2 = s2
    · obtain ⟨rfl, rfl⟩ := g1
      (repeat refine ka ?_); refine kr ?_ ?_ (pops_end ?_)
      (repeat refine ka ?_); refine kct ?_
      (repeat refine ka ?_); refine ksk ?_
      (repeat refine ka ?_); refine kb ?_
      (repeat refine ka ?_); refine kr ?_ ?_ (pops_end ?_)
      (repeat refine ka ?_); refine kd ?_ ?_ (pstl_end ?_)
      (repeat refine ka ?_); refine kcf ?_
      (repeat refine ka ?_); refine ksk ?_
      refine kn ?_; repeat (first | with_reducible refine blk_n ?_ | with_reducible refine beh_n ?_)
      (repeat refine ka ?_); refine kr ?_ ?_ (pops_end ?_)
      refine kn ?_; repeat (first | with_reducible refine blk_n ?_ | with_reducible refine beh_n ?_)
      refine ⟨i + 1, ⟨by omega, fun j hj => ?_⟩, by omega, (holds 0 (by repeat (first | exact .nil | refine has1 ?_)))⟩
      rcases Nat.lt_or_ge j i with h1 | h1
      · exact he j h1
      · obtain rfl : j = i := by omega
        rw [hr, hs]
    · (repeat refine ka ?_); refine kr ?_ ?_ (pops_end ?_)
      (repeat refine ka ?_); refine kct ?_
      (repeat refine ka ?_); refine ksk ?_
      (repeat refine ka ?_); refine kb ?_
      (repeat refine ka ?_); refine kr ?_ ?_ (pops_end ?_)
      (repeat refine ka ?_); refine kd ?_ ?_ (pstl_end ?_)
      (repeat refine ka ?_)
      refine kcs (fun hb => ?_) (fun hb => ?_)
      · (repeat refine ka ?_); refine kr ?_ ?_ (pops_end ?_)
        (repeat refine ka ?_); refine kret ?_; repeat (first | with_reducible refine beh_r ?_ | with_reducible refine blk_r ?_)
        refine ends_ret ?_ retPV_one
        rw [decide_eq_false]
        intro e
        rw [e, hs] at hr
        cases hr
        exact g1 ⟨rfl, rfl⟩
      · exfalso
        simp at hb
        exact g1 (by cases r2 <;> cases s2 <;> simp_all)
  · (repeat refine ka ?_); refine kr ?_ ?_ (pops_end ?_)
    (repeat refine ka ?_); refine kcf ?_
    (repeat refine ka ?_); refine kx ?_; (repeat (first | with_reducible refine beh_x ?_ | with_reducible refine blk_up rfl ?_)); refine blk_here ?_; refine beh_n ?_
    (repeat refine ka ?_); refine kr ?_ ?_ (pops_end ?_)
    (repeat refine ka ?_); refine kret ?_; repeat (first | with_reducible refine beh_r ?_ | with_reducible refine blk_r ?_)
    refine ends_ret ?_ retPV_one
    rw [decide_eq_true]
    exact rel_eq_of_upto (by omega) fun j hj => he j (by omega)
end Go.Proofs.Ytjbbomchmacdjaa.Pv
