-- Are two codes the same: told either way.
import Derived.Test.YtjbbomchmacdjaaAsB
namespace Go.Proofs.Ytjbbomchmacdjaa.Pv
set_option linter.all false
open Go.RowKit Go.Proofs
set_option maxRecDepth 100000
theorem asm_same_d (c d : Cd) (hc : c.W.length ≤ 1000000000 ∧ c.R.length ≤ 1000000000) (hd : d.W.length ≤ 1000000000 ∧ d.R.length ≤ 1000000000) : PCall Try.prog 43 [c.pv, d.pv] (.v (.bool (decide (c.W = d.W ∧ c.R = d.R)))) := by
  have c1 := equal_words_d c.W d.W hc.1 hd.1
  have c2 := equal_rels_d c.R d.R hc.2 hd.2
  refine pcall_mk Try.func43 rfl [.tmp 4] Try.results43 17 rfl (tk_start ?_)
  unfold Cd.pv Cd.row
  by_cases h1 : c.W = d.W
  · rw [decide_eq_true h1] at c1
    (repeat refine ka ?_); refine kr ?_ ?_ ?_
    refine ps_box fun g0 => ?_
    refine ps_box fun g1 => ?_
    refine pops_go ?_ ?_ (pops_end ?_)
    (repeat refine ka ?_); refine kr ?_ ?_ ?_
    refine ps_pcall c1 ?_
    refine pops_go ?_ ?_ ?_
    refine ps_pcall_g c2 ?_
    refine pops_go ?_ ?_ (pops_end ?_)
    (repeat refine ka ?_); refine kret ?_; repeat (first | with_reducible refine beh_r ?_ | with_reducible refine blk_r ?_)
    refine ends_ret ?_ retPV_one
    by_cases h2 : c.R = d.R <;> simp [h1, h2]
  · rw [decide_eq_false h1] at c1
    (repeat refine ka ?_); refine kr ?_ ?_ ?_
    refine ps_box fun g0 => ?_
    refine ps_box fun g1 => ?_
    refine pops_go ?_ ?_ (pops_end ?_)
    (repeat refine ka ?_); refine kr ?_ ?_ ?_
    refine ps_pcall c1 ?_
    refine pops_go ?_ ?_ (pops_end ?_)
    (repeat refine ka ?_); refine kret ?_; repeat (first | with_reducible refine beh_r ?_ | with_reducible refine blk_r ?_)
    refine ends_ret ?_ retPV_one
    simp [h1]
theorem same12_d (c d : Cd) (hc : c.W.length ≤ 1000000000 ∧ c.R.length ≤ 1000000000) (hd : d.W.length ≤ 1000000000 ∧ d.R.length ≤ 1000000000) : PCall Try.prog 32 [c.pv, d.pv] (.v (.bool (decide (c.W = d.W ∧ c.R = d.R)))) := by
  have c1 := words12_d c.W d.W hc.1 hd.1
  have hra := relRows_length c.R
  have hrb := relRows_length d.R
  obtain ⟨W, a⟩ := c
  obtain ⟨V, b⟩ := d
  dsimp only at hc hd hra hrb c1 ⊢
  refine pcall_mk Try.func32 rfl [.tmp 4] Try.results32 39 rfl (tk_start ?_)
  unfold Cd.pv Cd.row
  dsimp only
  (repeat refine ka ?_); refine kr ?_ ?_ ?_
  refine ps_box fun g0 => ?_
  refine ps_box fun g1 => ?_
  refine pops_go ?_ ?_ (pops_end ?_)
  by_cases h1 : W = V
  rotate_left
  · rw [decide_eq_false h1] at c1
    (repeat refine ka ?_); refine kr ?_ ?_ ?_
    refine ps_pcall c1 ?_
    refine pops_go ?_ ?_ (pops_end ?_)
    (repeat refine ka ?_); refine kct ?_
    (repeat refine ka ?_); refine kr ?_ ?_ (pops_end ?_)
    (repeat refine ka ?_); refine kret ?_; repeat (first | with_reducible refine beh_r ?_ | with_reducible refine blk_r ?_)
    refine ends_ret ?_ retPV_one
    simp [h1]
  rw [decide_eq_true h1] at c1
  by_cases h : (a.length : Int) = b.length
  rotate_left
  · have h' : ¬ ((relRows a).length : Int) = (relRows b).length := by rw [hra, hrb]; exact h
    (repeat refine ka ?_); refine kr ?_ ?_ ?_
    refine ps_pcall c1 ?_
    refine pops_go ?_ ?_ (pops_end ?_)
    (repeat refine ka ?_); refine kct ?_
    (repeat refine ka ?_); refine kr ?_ ?_ (pops_end ?_)
    (repeat refine ka ?_); refine kret ?_; repeat (first | with_reducible refine beh_r ?_ | with_reducible refine blk_r ?_)
    refine ends_ret ?_ retPV_one
    rw [decide_eq_false]
    intro e
    rw [e.2] at h
    exact h rfl
  (repeat refine ka ?_); refine kr ?_ ?_ ?_
  refine ps_pcall c1 ?_
  refine pops_go ?_ ?_ (pops_end ?_)
  (repeat refine ka ?_); refine kcf ?_
  (repeat refine ka ?_); refine ksk ?_
  (repeat refine ka ?_); refine kr ?_ ?_ (pops_end ?_)
  (repeat refine ka ?_); refine kb ?_
  refine kw (fun i : Nat => [(2, .ptr 0 g0 0 0), (3, .ptr 1 g1 0 0), (5, .v (.int .i64 i))]) (fun _ => [⟨g0, true, 2, [[.ro 1 false (ints .u32 W), .ro 2 false (relRows a)]]⟩, ⟨g1, true, 2, [[.ro 1 false (ints .u32 V), .ro 2 false (relRows b)]]⟩]) (fun i => i ≤ a.length ∧ ∀ j, j < i → a[j]? = b[j]?) (fun i => a.length - i) 0 (by simp) (holds 2 (by repeat (first | exact .nil | refine has1 ?_))) ?_
  rintro i ⟨hi, he⟩
  by_cases g : (i : Int) < a.length
  · obtain ⟨⟨r1, r2⟩, hr⟩ : ∃ r, a[i]? = some r := ⟨a[i]'(by omega), by simp [show i < a.length by omega]⟩
    obtain ⟨⟨s1, s2⟩, hs⟩ : ∃ r, b[i]? = some r := ⟨b[i]'(by omega), by simp [show i < b.length by omega]⟩
    have hrow1 := relRows_get hr
    have hrow2 := relRows_get hs
    dsimp only at hrow1 hrow2
    by_cases g1 : r1 = s1 ∧ r2 = s2
    · obtain ⟨rfl, rfl⟩ := g1
      (repeat refine ka ?_); refine kr ?_ ?_ (pops_end ?_)
      (repeat refine ka ?_); refine kct ?_
      (repeat refine ka ?_); refine ksk ?_
      (repeat refine ka ?_); refine kb ?_
      (repeat refine ka ?_); refine kd ?_ ?_ (pstl_end ?_)
      (repeat refine ka ?_); refine kcf ?_
      (repeat refine ka ?_); refine ksk ?_
      refine kn ?_; repeat (first | with_reducible refine blk_n ?_ | with_reducible refine beh_n ?_)
      (repeat refine ka ?_); refine kr ?_ ?_ (pops_end ?_)
      refine kn ?_; repeat (first | with_reducible refine blk_n ?_ | with_reducible refine beh_n ?_)
      refine ⟨i + 1, ⟨by omega, fun j hj => ?_⟩, by omega, (holds 2 (by repeat (first | exact .nil | refine has1 ?_)))⟩
      rcases Nat.lt_or_ge j i with h1 | h1
      · exact he j h1
      · obtain rfl : j = i := by omega
        rw [hr, hs]
    · (repeat refine ka ?_); refine kr ?_ ?_ (pops_end ?_)
      (repeat refine ka ?_); refine kct ?_
      (repeat refine ka ?_); refine ksk ?_
      (repeat refine ka ?_); refine kb ?_
      (repeat refine ka ?_); refine kd ?_ ?_ (pstl_end ?_)
      (repeat refine ka ?_)
      refine kcs (fun hb => ?_) (fun hb => ?_)
      · (repeat refine ka ?_); refine kr ?_ ?_ (pops_end ?_)
        (repeat refine ka ?_); refine kret ?_; repeat (first | with_reducible refine beh_r ?_ | with_reducible refine blk_r ?_)
        refine ends_ret ?_ retPV_one
        rw [decide_eq_false]
        intro e
        rw [e.2, hs] at hr
        cases hr
        exact g1 ⟨rfl, rfl⟩
      · exfalso
        simp at hb
        exact g1 (by cases r2 <;> cases s2 <;> simp_all)
  · (repeat refine ka ?_); refine kr ?_ ?_ (pops_end ?_)
    (repeat refine ka ?_); refine kcf ?_
    (repeat refine ka ?_); refine kx ?_; (repeat (first | with_reducible refine beh_x ?_ | with_reducible refine blk_up rfl ?_)); refine blk_here ?_; refine beh_n ?_
    (repeat refine ka ?_); refine kr ?_ ?_ (pops_end ?_)
    (repeat refine ka ?_); refine kret ?_; repeat (first | with_reducible refine beh_r ?_ | with_reducible refine blk_r ?_)
    refine ends_ret ?_ retPV_one
    rw [decide_eq_true]
    exact ⟨h1, rel_eq_of_upto (by omega) fun j hj => he j (by omega)⟩
end Go.Proofs.Ytjbbomchmacdjaa.Pv
