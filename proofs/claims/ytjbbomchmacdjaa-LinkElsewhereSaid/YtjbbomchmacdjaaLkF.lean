-- link: Link.
import Derived.Test.YtjbbomchmacdjaaLkE
namespace Go.Proofs.Ytjbbomchmacdjaa.Pv
set_option linter.all false
open Go.RowKit Go.Proofs
set_option maxRecDepth 100000
set_option maxHeartbeats 4000000
def codeRows (L : List Cd) : List (List PV) := L.map Cd.row
theorem codeRows_length (L : List Cd) : (codeRows L).length = L.length := by simp [codeRows]
theorem codeRows_get {L : List Cd} {i : Nat} {c : Cd} (h : L[i]? = some c) : (codeRows L)[((i : Nat) : Int).toNat]? = some [.ro 1 false (ints .u32 c.W), .ro 2 false (relRows c.R)] := by
  rw [Int.toNat_natCast, codeRows, List.getElem?_map, h]; rfl
theorem codeRows_pure (L : List Cd) : ∀ row ∈ codeRows L, ∀ x ∈ row, PV.Pure x := by
  intro row hr x hx
  obtain ⟨c, _, rfl⟩ := List.mem_map.1 hr
  exact PureL.h (xs := c.row) x hx
instance (sz : Nat) (f : Bool) (L : List Cd) : PureC (.ro sz f (codeRows L)) := ⟨.ro (codeRows_pure L)⟩
instance (f : Fn) : PureC (.fn f [] []) := ⟨.fn (fun x h => by cases h) (fun x h => by cases h)⟩
theorem link1 (c : Cd) (hc : c.ok) : PCall Try.prog 59 [c.pv] (.v (.bool (!c.right))) := by
  have c1 := lk_right c hc
  generalize c.right = r at *
  unfold Cd.pv Cd.row at *
  refine pcall_mk Try.func59 rfl [.tmp 2] Try.results59 6 rfl (tk_start ?_)
  (repeat' (first | refine ka ?_ | refine ksk ?_ | (refine kr ?_ ?_ ?_; first | refine pops_end ?_ | (refine ps_split (fun hb => ?_) (fun hb => ?_); (fail_if_success (guard_hyp hb : true = true)); (fail_if_success (guard_hyp hb : false = true)); all_goals (have hp := hb; (try simp only [decide_eq_true_eq, Bool.eq_false_iff, ne_eq, Bool.not_eq_true', Bool.not_eq_false', Bool.and_eq_true, Bool.or_eq_true, decide_true, decide_false, Bool.and_true, Bool.true_and, Bool.false_eq_true, not_false_eq_true, true_and, and_true] at hp); (try rw [hb]); (try clear hb))) | refine ps_pcall (c1) ?_ | refine ps_pcall_g (c1) ?_ | refine ps_alloc fun g => ?_ | refine ps_box fun g => ?_ | refine ps_store ?_ | refine ps_lit fun g => ?_ | refine pops_nil ?_ | skip) | (refine kd ?_ ?_ ?_; first | refine pstl_end ?_ | (refine pd_split (fun hb => ?_) (fun hb => ?_); (fail_if_success (guard_hyp hb : true = true)); (fail_if_success (guard_hyp hb : false = true)); all_goals (have hp := hb; (try simp only [decide_eq_true_eq, Bool.eq_false_iff, ne_eq, Bool.not_eq_true', Bool.not_eq_false', Bool.and_eq_true, Bool.or_eq_true, decide_true, decide_false, Bool.and_true, Bool.true_and, Bool.false_eq_true, not_false_eq_true, true_and, and_true] at hp); (try rw [hb]); (try clear hb))) | refine pd_pcall (c1) ?_ | refine pd_pcall_g (c1) ?_ | skip) | refine kct ?_ | refine kcf ?_ | (refine kcs (fun hb => ?_) (fun hb => ?_) <;> (have hp := hb; (try simp only [decide_eq_true_eq, Bool.eq_false_iff, ne_eq, Bool.not_eq_true', Bool.not_eq_false', Bool.and_eq_true, Bool.or_eq_true, decide_true, decide_false, Bool.and_true, Bool.true_and, Bool.false_eq_true, not_false_eq_true, true_and, and_true] at hp); (try rw [hb]); (try clear hb))) | (refine kret ?_; repeat (first | with_reducible refine beh_r ?_ | with_reducible refine blk_r ?_)) | refine kb ?_ | (refine ps_split (fun hb => ?_) (fun hb => ?_); (fail_if_success (guard_hyp hb : true = true)); (fail_if_success (guard_hyp hb : false = true)); all_goals (have hp := hb; (try simp only [decide_eq_true_eq, Bool.eq_false_iff, ne_eq, Bool.not_eq_true', Bool.not_eq_false', Bool.and_eq_true, Bool.or_eq_true, decide_true, decide_false, Bool.and_true, Bool.true_and, Bool.false_eq_true, not_false_eq_true, true_and, and_true] at hp); (try rw [hb]); (try clear hb))) | refine ps_pcall (c1) ?_ | refine ps_pcall_g (c1) ?_ | refine ps_alloc fun g => ?_ | refine ps_box fun g => ?_ | refine ps_store ?_ | refine ps_lit fun g => ?_ | refine pops_nil ?_ | (refine pd_split (fun hb => ?_) (fun hb => ?_); (fail_if_success (guard_hyp hb : true = true)); (fail_if_success (guard_hyp hb : false = true)); all_goals (have hp := hb; (try simp only [decide_eq_true_eq, Bool.eq_false_iff, ne_eq, Bool.not_eq_true', Bool.not_eq_false', Bool.and_eq_true, Bool.or_eq_true, decide_true, decide_false, Bool.and_true, Bool.true_and, Bool.false_eq_true, not_false_eq_true, true_and, and_true] at hp); (try rw [hb]); (try clear hb))) | refine pd_pcall (c1) ?_ | refine pd_pcall_g (c1) ?_ | (refine pops_go ?_ ?_ ?_; first | refine pops_end ?_ | (refine ps_split (fun hb => ?_) (fun hb => ?_); (fail_if_success (guard_hyp hb : true = true)); (fail_if_success (guard_hyp hb : false = true)); all_goals (have hp := hb; (try simp only [decide_eq_true_eq, Bool.eq_false_iff, ne_eq, Bool.not_eq_true', Bool.not_eq_false', Bool.and_eq_true, Bool.or_eq_true, decide_true, decide_false, Bool.and_true, Bool.true_and, Bool.false_eq_true, not_false_eq_true, true_and, and_true] at hp); (try rw [hb]); (try clear hb))) | refine ps_pcall (c1) ?_ | refine ps_pcall_g (c1) ?_ | refine ps_alloc fun g => ?_ | refine ps_box fun g => ?_ | refine ps_store ?_ | refine ps_lit fun g => ?_ | refine pops_nil ?_) | (refine pstl_go ?_ ?_ ?_; first | refine pstl_end ?_ | (refine pd_split (fun hb => ?_) (fun hb => ?_); (fail_if_success (guard_hyp hb : true = true)); (fail_if_success (guard_hyp hb : false = true)); all_goals (have hp := hb; (try simp only [decide_eq_true_eq, Bool.eq_false_iff, ne_eq, Bool.not_eq_true', Bool.not_eq_false', Bool.and_eq_true, Bool.or_eq_true, decide_true, decide_false, Bool.and_true, Bool.true_and, Bool.false_eq_true, not_false_eq_true, true_and, and_true] at hp); (try rw [hb]); (try clear hb))) | refine pd_pcall (c1) ?_ | refine pd_pcall_g (c1) ?_) | (refine kn ?_; repeat (first | with_reducible refine blk_n ?_ | with_reducible refine beh_n ?_)) | (refine kx ?_; (repeat (first | with_reducible refine beh_x ?_ | with_reducible refine blk_up rfl ?_)); refine blk_here ?_; refine beh_n ?_)))
  refine ends_ret ?_ retPV_one
  rfl
def badF (L : List Cd) : Bool := L.any fun c => !c.right
theorem lk_index (L : List Cd) (hL : ∀ c ∈ L, c.ok) (hn : L.length ≤ 1000000) : ∃ r : Int, (decide (r ≥ 0) = badF L) ∧ -1 ≤ r ∧ r ≤ 1000000 ∧ PCall Try.prog 78 [.ro 2 false (codeRows L), .fn (.func 59) [] []] (.v (.int .i64 r)) := by
  have key : ∀ k, k ≤ L.length → (∀ j c, j < k → L[j]? = some c → c.right = true) → (k = L.length ∨ ∃ c, L[k]? = some c ∧ c.right = false) → PCall Try.prog 78 [.ro 2 false (codeRows L), .fn (.func 59) [] []] (.v (.int .i64 (if k = L.length then -1 else k))) := by
    intro k hk hall hstop
    have hcl := codeRows_length L
    refine pcall_mk Try.func78 rfl [.tmp 4] Try.results78 19 rfl (tk_start ?_)
    (repeat refine ka ?_); refine kr ?_ ?_ (pops_end ?_)
    (repeat refine ka ?_); refine kr ?_ ?_ (pops_end ?_)
    (repeat refine ka ?_); refine kb ?_
    refine kw (fun i : Nat => [(0, .ro 2 false (codeRows L)), (1, .fn (.func 59) [] []), (7, .v (.int .i64 L.length)), (8, .v (.int .i64 i))]) (fun _ => []) (fun i => i ≤ k) (fun i => k - i) 0 (by omega) (holds 0 (by repeat (first | exact .nil | refine has1 ?_))) ?_
    intro i hi
    by_cases h : i < L.length
    · obtain ⟨c, hc⟩ : ∃ c, L[i]? = some c := ⟨L[i], by simp [h]⟩
      have hrow := codeRows_get hc
      have c1 := link1 c (hL c (List.mem_of_getElem? hc))
      unfold Cd.pv Cd.row at c1
      by_cases hik : i < k
      · rw [hall i c hik hc, Bool.not_true] at c1
        (repeat refine ka ?_); refine kr ?_ ?_ (pops_end ?_)
        (repeat refine ka ?_); refine kct ?_
        (repeat refine ka ?_); refine ksk ?_
        (repeat refine ka ?_); refine kb ?_
        (repeat refine ka ?_); refine kr ?_ ?_ (pops_end ?_)
        (repeat refine ka ?_); refine kr ?_ ?_ ?_
        refine ps_vcall (us := [.agg [.ro 1 false (ints .u32 c.W), .ro 2 false (relRows c.R)]]) (c1.any _) ?_
        rintro x S' ⟨rfl, rfl⟩
        refine pops_go ?_ ?_ (pops_end ?_)
        (repeat refine ka ?_); refine kcf ?_
        (repeat refine ka ?_); refine ksk ?_
        refine kn ?_; repeat (first | with_reducible refine blk_n ?_ | with_reducible refine beh_n ?_)
        (repeat refine ka ?_); refine kr ?_ ?_ (pops_end ?_)
        refine kn ?_; repeat (first | with_reducible refine blk_n ?_ | with_reducible refine beh_n ?_)
        exact ⟨i + 1, by omega, by omega, (holds 0 (by repeat (first | exact .nil | refine has1 ?_)))⟩
      · obtain rfl : i = k := by omega
        rcases hstop with rfl | ⟨c', hc', hcr⟩
        · omega
        · rw [hc] at hc'
          cases hc'
          rw [hcr, Bool.not_false] at c1
          rw [if_neg (by omega)]
          (repeat refine ka ?_); refine kr ?_ ?_ (pops_end ?_)
          (repeat refine ka ?_); refine kct ?_
          (repeat refine ka ?_); refine ksk ?_
          (repeat refine ka ?_); refine kb ?_
          (repeat refine ka ?_); refine kr ?_ ?_ (pops_end ?_)
          (repeat refine ka ?_); refine kr ?_ ?_ ?_
          refine ps_vcall (us := [.agg [.ro 1 false (ints .u32 c.W), .ro 2 false (relRows c.R)]]) (c1.any _) ?_
          rintro x S' ⟨rfl, rfl⟩
          refine pops_go ?_ ?_ (pops_end ?_)
          (repeat refine ka ?_); refine kct ?_
          (repeat refine ka ?_); refine kr ?_ ?_ (pops_end ?_)
          (repeat refine ka ?_); refine kret ?_; repeat (first | with_reducible refine beh_r ?_ | with_reducible refine blk_r ?_)
          refine ends_ret ?_ retPV_one
          rfl
    · obtain rfl : i = L.length := by omega
      rw [if_pos (by omega)]
      (repeat refine ka ?_); refine kr ?_ ?_ (pops_end ?_)
      (repeat refine ka ?_); refine kcf ?_
      (repeat refine ka ?_); refine kx ?_; (repeat (first | with_reducible refine beh_x ?_ | with_reducible refine blk_up rfl ?_)); refine blk_here ?_; refine beh_n ?_
      (repeat refine ka ?_); refine kr ?_ ?_ (pops_end ?_)
      (repeat refine ka ?_); refine kret ?_; repeat (first | with_reducible refine beh_r ?_ | with_reducible refine blk_r ?_)
      refine ends_ret ?_ retPV_one
      rfl
  have hex : ∀ n, n ≤ L.length → (∀ j c, j < n → L[j]? = some c → c.right = true) ∨ ∃ k, k < L.length ∧ (∀ j c, j < k → L[j]? = some c → c.right = true) ∧ ∃ c, L[k]? = some c ∧ c.right = false := by
    intro n
    induction n with
    | zero => intro _; left; intro j c hj; omega
    | succ n ih =>
      intro hn
      rcases ih (by omega) with h | h
      · obtain ⟨c, hc⟩ : ∃ c, L[n]? = some c := ⟨L[n]'(by omega), by simp⟩
        cases hr : c.right with
        | true =>
          left
          intro j c' hj hc'
          rcases Nat.lt_or_ge j n with h1 | h1
          · exact h j c' h1 hc'
          · obtain rfl : j = n := by omega
            rw [hc] at hc'; cases hc'; exact hr
        | false => exact .inr ⟨n, by omega, h, c, hc, hr⟩
      · exact .inr h
  rcases hex L.length (Nat.le_refl _) with h | ⟨k, hk, h1, c, hc, hr⟩
  · refine ⟨-1, ?_, by omega, by omega, ?_⟩
    · rw [decide_eq_false (by omega)]
      symm
      unfold badF
      rw [List.any_eq_false]
      intro c hc
      obtain ⟨j, hj⟩ := List.mem_iff_getElem?.1 hc
      rw [h j c (List.getElem?_eq_some_iff.1 hj).1 hj]
      decide
    · have := key L.length (Nat.le_refl _) h (.inl rfl)
      rwa [if_pos rfl] at this
  · refine ⟨k, ?_, by omega, by omega, ?_⟩
    · rw [decide_eq_true (by omega)]
      symm
      unfold badF
      rw [List.any_eq_true]
      exact ⟨c, List.mem_of_getElem? hc, by rw [hr]; rfl⟩
    · have := key k (by omega) h1 (.inr ⟨c, hc, hr⟩)
      rwa [if_neg (by omega)] at this
theorem lk_contains (L : List Cd) (hL : ∀ c ∈ L, c.ok) (hn : L.length ≤ 1000000) : PCall Try.prog 58 [.ro 2 false (codeRows L), .fn (.func 59) [] []] (.v (.bool (badF L))) := by
  obtain ⟨r, h1, h2, h3, c1⟩ := lk_index L hL hn
  rw [← h1]
  refine pcall_mk Try.func58 rfl [.tmp 4] Try.results58 9 rfl (tk_start ?_)
  (repeat' (first | refine ka ?_ | refine ksk ?_ | (refine kr ?_ ?_ ?_; first | refine pops_end ?_ | (refine ps_split (fun hb => ?_) (fun hb => ?_); (fail_if_success (guard_hyp hb : true = true)); (fail_if_success (guard_hyp hb : false = true)); all_goals (have hp := hb; (try simp only [decide_eq_true_eq, Bool.eq_false_iff, ne_eq, Bool.not_eq_true', Bool.not_eq_false', Bool.and_eq_true, Bool.or_eq_true, decide_true, decide_false, Bool.and_true, Bool.true_and, Bool.false_eq_true, not_false_eq_true, true_and, and_true] at hp); (try rw [hb]); (try clear hb))) | refine ps_pcall (c1) ?_ | refine ps_pcall_g (c1) ?_ | refine ps_alloc fun g => ?_ | refine ps_box fun g => ?_ | refine ps_store ?_ | refine ps_lit fun g => ?_ | refine pops_nil ?_ | skip) | (refine kd ?_ ?_ ?_; first | refine pstl_end ?_ | (refine pd_split (fun hb => ?_) (fun hb => ?_); (fail_if_success (guard_hyp hb : true = true)); (fail_if_success (guard_hyp hb : false = true)); all_goals (have hp := hb; (try simp only [decide_eq_true_eq, Bool.eq_false_iff, ne_eq, Bool.not_eq_true', Bool.not_eq_false', Bool.and_eq_true, Bool.or_eq_true, decide_true, decide_false, Bool.and_true, Bool.true_and, Bool.false_eq_true, not_false_eq_true, true_and, and_true] at hp); (try rw [hb]); (try clear hb))) | refine pd_pcall (c1) ?_ | refine pd_pcall_g (c1) ?_ | skip) | refine kct ?_ | refine kcf ?_ | (refine kcs (fun hb => ?_) (fun hb => ?_) <;> (have hp := hb; (try simp only [decide_eq_true_eq, Bool.eq_false_iff, ne_eq, Bool.not_eq_true', Bool.not_eq_false', Bool.and_eq_true, Bool.or_eq_true, decide_true, decide_false, Bool.and_true, Bool.true_and, Bool.false_eq_true, not_false_eq_true, true_and, and_true] at hp); (try rw [hb]); (try clear hb))) | (refine kret ?_; repeat (first | with_reducible refine beh_r ?_ | with_reducible refine blk_r ?_)) | refine kb ?_ | (refine ps_split (fun hb => ?_) (fun hb => ?_); (fail_if_success (guard_hyp hb : true = true)); (fail_if_success (guard_hyp hb : false = true)); all_goals (have hp := hb; (try simp only [decide_eq_true_eq, Bool.eq_false_iff, ne_eq, Bool.not_eq_true', Bool.not_eq_false', Bool.and_eq_true, Bool.or_eq_true, decide_true, decide_false, Bool.and_true, Bool.true_and, Bool.false_eq_true, not_false_eq_true, true_and, and_true] at hp); (try rw [hb]); (try clear hb))) | refine ps_pcall (c1) ?_ | refine ps_pcall_g (c1) ?_ | refine ps_alloc fun g => ?_ | refine ps_box fun g => ?_ | refine ps_store ?_ | refine ps_lit fun g => ?_ | refine pops_nil ?_ | (refine pd_split (fun hb => ?_) (fun hb => ?_); (fail_if_success (guard_hyp hb : true = true)); (fail_if_success (guard_hyp hb : false = true)); all_goals (have hp := hb; (try simp only [decide_eq_true_eq, Bool.eq_false_iff, ne_eq, Bool.not_eq_true', Bool.not_eq_false', Bool.and_eq_true, Bool.or_eq_true, decide_true, decide_false, Bool.and_true, Bool.true_and, Bool.false_eq_true, not_false_eq_true, true_and, and_true] at hp); (try rw [hb]); (try clear hb))) | refine pd_pcall (c1) ?_ | refine pd_pcall_g (c1) ?_ | (refine pops_go ?_ ?_ ?_; first | refine pops_end ?_ | (refine ps_split (fun hb => ?_) (fun hb => ?_); (fail_if_success (guard_hyp hb : true = true)); (fail_if_success (guard_hyp hb : false = true)); all_goals (have hp := hb; (try simp only [decide_eq_true_eq, Bool.eq_false_iff, ne_eq, Bool.not_eq_true', Bool.not_eq_false', Bool.and_eq_true, Bool.or_eq_true, decide_true, decide_false, Bool.and_true, Bool.true_and, Bool.false_eq_true, not_false_eq_true, true_and, and_true] at hp); (try rw [hb]); (try clear hb))) | refine ps_pcall (c1) ?_ | refine ps_pcall_g (c1) ?_ | refine ps_alloc fun g => ?_ | refine ps_box fun g => ?_ | refine ps_store ?_ | refine ps_lit fun g => ?_ | refine pops_nil ?_) | (refine pstl_go ?_ ?_ ?_; first | refine pstl_end ?_ | (refine pd_split (fun hb => ?_) (fun hb => ?_); (fail_if_success (guard_hyp hb : true = true)); (fail_if_success (guard_hyp hb : false = true)); all_goals (have hp := hb; (try simp only [decide_eq_true_eq, Bool.eq_false_iff, ne_eq, Bool.not_eq_true', Bool.not_eq_false', Bool.and_eq_true, Bool.or_eq_true, decide_true, decide_false, Bool.and_true, Bool.true_and, Bool.false_eq_true, not_false_eq_true, true_and, and_true] at hp); (try rw [hb]); (try clear hb))) | refine pd_pcall (c1) ?_ | refine pd_pcall_g (c1) ?_) | (refine kn ?_; repeat (first | with_reducible refine blk_n ?_ | with_reducible refine beh_n ?_)) | (refine kx ?_; (repeat (first | with_reducible refine beh_x ?_ | with_reducible refine blk_up rfl ?_)); refine blk_here ?_; refine beh_n ?_)))
  refine ends_ret ?_ retPV_one
  rfl
/-- Parts, one behind the other. -/
def shR (a : Int) (R : List (Int × Bool)) : List (Int × Bool) := R.map fun r => (r.1 + a, r.2)
def allTo (L : List Cd) : Nat → Cd
  | 0 => ⟨[], []⟩
  | i + 1 => ⟨(allTo L i).W ++ turnGo (4 * ((allTo L i).W.length : Nat)) (L.getD i ⟨[], []⟩).W (L.getD i ⟨[], []⟩).R, (allTo L i).R ++ shR (4 * ((allTo L i).W.length : Nat)) (L.getD i ⟨[], []⟩).R⟩
def linkF (L : List Cd) : Cd × Int := if badF L = true then (⟨[], []⟩, 1) else if 16384 < (allTo L L.length).W.length then (⟨[], []⟩, 4) else (allTo L L.length, 0)
theorem allTo_len (L : List Cd) (B : Nat) (h : ∀ c ∈ L, c.W.length ≤ B ∧ c.R.length ≤ B) : ∀ i, i ≤ L.length → (allTo L i).W.length ≤ i * B ∧ (allTo L i).R.length ≤ i * B
  | 0, _ => ⟨Nat.zero_le _, Nat.zero_le _⟩
  | i + 1, hi => by
    have ih := allTo_len L B h i (by omega)
    have hc := h (L.getD i ⟨[], []⟩) (by rw [List.getD_eq_getElem?_getD, List.getElem?_eq_getElem (by omega)]; exact List.getElem_mem _)
    rw [allTo]
    dsimp only
    rw [List.length_append, List.length_append, turnGo_length, Nat.succ_mul]
    unfold shR
    rw [List.length_map]
    omega
theorem srcRows_at {S : List Blk} {kk : IntKind} {l : List Int} {τ g gg len : Nat} {o : Bool} (hb : S[τ]? = some ⟨gg, o, 1, ints kk l⟩) (hg : gg = g) (hl : l.length = len) : srcRows S 1 (.vw τ g 0 len) = some (ints kk l) := by
  subst hl
  exact srcRows_ints hb hg
theorem lk_link (L : List Cd) (hL : ∀ c ∈ L, c.ok) (hL2 : ∀ c ∈ L, c.W.length ≤ 100000 ∧ c.R.length ≤ 100000) (hn : L.length ≤ 100) : PCall Try.prog 30 [.ro 2 false (codeRows L)] (.tup [(linkF L).1.pv, .v (.int .i64 (linkF L).2)]) := by
  have c1 := lk_contains L hL (by omega)
  have hall := allTo_len L 100000 hL2
  have hcl := codeRows_length L
  unfold linkF Cd.pv Cd.row
  refine pcall_mkg Try.func30 rfl [.cell 2 41, .tmp 3] Try.results30 57 rfl (tk_start ?_)
  cases hbad : badF L with
  | true =>
    rw [hbad] at c1
    simp only [if_true]
    (repeat refine ka ?_); refine kr ?_ ?_ ?_
    refine ps_alloc fun g0 => ?_
    refine pops_go ?_ ?_ (pops_end ?_)
    (repeat refine ka ?_); refine kr ?_ ?_ ?_
    refine ps_pcall c1 ?_
    refine pops_go ?_ ?_ (pops_end ?_)
    (repeat refine ka ?_); refine kct ?_
    (repeat refine ka ?_); refine kr ?_ ?_ ?_
    refine ps_store ?_
    refine pops_go ?_ ?_ (pops_end ?_)
    (repeat refine ka ?_); refine kret ?_; repeat (first | with_reducible refine beh_r ?_ | with_reducible refine blk_r ?_)
    refine ends_ret ?_ (retPV_2 res_cella res_tmp)
    exact gives_two (gives_agg2 .nil .nil) (.same (.v _))
  | false =>
  rw [hbad] at c1
  simp only [Bool.false_eq_true, if_false]
  have hright : ∀ c ∈ L, c.right = true := fun c hc => by
    unfold badF at hbad
    rw [List.any_eq_false] at hbad
    have := hbad c hc
    simpa using this
  (repeat refine ka ?_); refine kr ?_ ?_ ?_
  refine ps_alloc fun g0 => ?_
  refine pops_go ?_ ?_ (pops_end ?_)
  (repeat refine ka ?_); refine kr ?_ ?_ ?_
  refine ps_pcall c1 ?_
  refine pops_go ?_ ?_ (pops_end ?_)
  (repeat refine ka ?_); refine kcf ?_
  (repeat refine ka ?_); refine ksk ?_
  (repeat refine ka ?_); refine kr ?_ ?_ ?_
  refine ps_alloc fun g1 => ?_
  refine pops_nil ?_
  (repeat refine ka ?_)
  refine kvoidc 1 0 1 (i := 0) (fun gw => ?_)
  refine kvoidc 1 1 2 (i := 0) (fun gr => ?_)
  (repeat refine ka ?_); refine kr ?_ ?_ (pops_end ?_)
  (repeat refine ka ?_); refine kb ?_
  refine kw (fun s : Nat × Nat × Nat => [(2, .ptr 0 g0 0 0), (3, .v (.int .i64 0)), (4, .ptr 1 g1 0 0), (13, .ro 2 false (codeRows L)), (14, .v (.int .i64 L.length)), (15, .v (.int .i64 s.1))])
    (fun s => [⟨g0, true, 2, [[.v (.slice none 0 0), .v (.slice none 0 0)]]⟩, ⟨g1, true, 2, [[.vw 2 s.2.1 0 (allTo L s.1).W.length, .vw 3 s.2.2 0 (allTo L s.1).R.length]]⟩, ⟨s.2.1, true, 1, ints .u32 (allTo L s.1).W⟩, ⟨s.2.2, true, 2, relRows (allTo L s.1).R⟩])
    (fun s => s.1 ≤ L.length) (fun s => L.length - s.1) (0, gw, gr) (by simp) (holds 4 (by repeat (first | exact .nil | refine has1 ?_))) ?_
  rintro ⟨i, gw, gr⟩ hi
  simp only at hi ⊢
  have hal := hall i hi
  by_cases h : i < L.length
  · obtain ⟨c, hc⟩ : ∃ c, L[i]? = some c := ⟨L[i], by simp [h]⟩
    have hcm := List.mem_of_getElem? hc
    have hrow := codeRows_get hc
    have hgc : L.getD i ⟨[], []⟩ = c := by rw [List.getD_eq_getElem?_getD, hc]; rfl
    have e1 : allTo L (i + 1) = ⟨(allTo L i).W ++ turnGo (4 * ((allTo L i).W.length : Nat)) c.W c.R, (allTo L i).R ++ shR (4 * ((allTo L i).W.length : Nat)) c.R⟩ := by rw [allTo, hgc]
    have hrc := hright c hcm
    have hin := right_in c.W c.R 0 (by decide) hrc
    have c2 := fun g at_ => lk_turned c (hL c hcm) (fun r h => (hin r h).1) 60 ⟨g, true, 1, [[.v (.int .i64 at_)]]⟩ g rfl at_ (fun e => rfl) (link2 g at_)
    have hc2 := hL2 c hcm
    have hib : i * 100000 ≤ 10000000 := by omega
    generalize hq : allTo L i = A at *
    obtain ⟨AW, AR⟩ := A
    dsimp only at *
    have htl := turnGo_length (4 * (AW.length : Int)) c.R c.W
    replace c2 := fun g => c2 g (4 * (AW.length : Int))
    generalize turnGo (4 * (AW.length : Int)) c.W c.R = V at *
    obtain ⟨W, R⟩ := c
    have hrl := relRows_length R
    unfold Cd.pv Cd.row at c2
    dsimp only at *
    (repeat refine ka ?_); refine kr ?_ ?_ (pops_end ?_)
    (repeat refine ka ?_); refine kct ?_
    (repeat refine ka ?_); refine ksk ?_
    (repeat refine ka ?_); refine kb ?_
    (repeat refine ka ?_); refine kr ?_ ?_ ?_
    refine ps_alloc fun g2 => ?_
    refine ps_store ?_
    refine pops_nil ?_
    (repeat refine ka ?_); refine kr ?_ ?_ ?_
    refine ps_alloc fun g3 => ?_
    refine ps_store ?_
    refine pops_nil ?_
    (repeat refine ka ?_); refine kds [0, 1, 2, 3, 6] [4, 5, 7] ?_
    refine pstl_go ?_ ?_ (pstl_end ?_)
    refine hs_w [2, 3] [0, 1, 6] ?_ (by refine pstl_go ?_ ?_ (pstl_end ?_); exact rfl); refine pstl_go ?_ ?_ (pstl_end ?_); refine ⟨rfl, ?_⟩
    refine ps_fcall [5] (c2 g3) ?_ (by rintro x S' ⟨B1, g, rfl, rfl⟩; exact Nat.le_of_ble_eq_true rfl)
    rintro x S' ⟨B1, g4, rfl, rfl⟩
    (intro x1 S1 hx1 hS1; simp only [List.map_cons, List.map_nil, renB, ren_ints, putB, List.set_cons_zero, List.set_cons_succ, List.cons_append, List.nil_append, List.append_nil, renL, ren, sg, List.length_cons, List.length_nil, Nat.reduceAdd, Nat.zero_add, Nat.add_zero] at hx1 hS1; subst hx1 hS1)
    refine pops_nil ?_
    refine hs_w [0, 1] [6] ?_ (by refine pstl_go ?_ ?_ (pstl_end ?_); exact rfl); refine pstl_go ?_ ?_ (pstl_end ?_); refine ⟨rfl, ?_⟩
    refine ps_app_vw (rows' := ints .u32 (AW ++ V)) (m := (AW ++ V).length) (fun g5 => ?_) (hsrc := srcRows_at rfl rfl htl) (hrows := ints_append _ _ _) (hm := by rw [ints_length, List.length_append]) (h63 := by simp only [maxLen, List.length_append]; omega) (hbt := by rw [List.length_append]; omega)
    refine pops_nil ?_
    refine hs_w [6] [] ?_ (by refine pstl_go ?_ ?_ (pstl_end ?_); exact rfl); refine pstl_go ?_ ?_ (pstl_end ?_); refine ⟨rfl, ?_⟩
    refine ps_store ?_
    refine pops_nil ?_
    refine hs_end ?_; refine pstl_go ?_ ?_ (pstl_end ?_); refine ⟨rfl, ?_⟩
    (repeat refine ka ?_); refine kr ?_ ?_ (pops_end ?_)
    (repeat refine ka ?_); refine kb ?_
    refine kw (fun s : Nat × Nat => [(2, .ptr 0 g0 0 0), (3, .v (.int .i64 0)), (4, .ptr 1 g1 0 0), (7, .ptr 5 g3 0 0), (13, .ro 2 false (codeRows L)), (14, .v (.int .i64 L.length)), (15, .v (.int .i64 i)), (31, .ro 2 false (relRows R)), (32, .v (.int .i64 R.length)), (33, .v (.int .i64 s.1))])
      (fun s => [⟨g0, true, 2, [[.v (.slice none 0 0), .v (.slice none 0 0)]]⟩, ⟨g1, true, 2, [[.vw 2 g5 0 (AW ++ V).length, .vw 3 s.2 0 (AR.length + s.1)]]⟩, ⟨g5, true, 1, ints .u32 (AW ++ V)⟩, ⟨s.2, true, 2, relRows (AR ++ shR (4 * (AW.length : Int)) (R.take s.1))⟩, ⟨g2, true, 2, [[.ro 1 false (ints .u32 W), .ro 2 false (relRows R)]]⟩, ⟨g3, true, 1, [[.v (.int .i64 (4 * (AW.length : Int)))]]⟩])
      (fun s => s.1 ≤ R.length) (fun s => R.length - s.1) (0, gr) (by simp) (by simp only [List.take_zero, shR, List.map_nil, List.append_nil, Nat.add_zero]; exact (holds 6 (by repeat (first | exact .nil | refine has1 ?_)))) ?_
    rintro ⟨k, gr⟩ hk
    simp only at hk ⊢
    have hsl : (AR ++ shR (4 * (AW.length : Int)) (R.take k)).length = AR.length + k := by rw [List.length_append, shR, List.length_map, List.length_take]; omega
    by_cases hkr : k < R.length
    · obtain ⟨r, hr⟩ : ∃ r, R[k]? = some r := ⟨R[k], by simp [hkr]⟩
      have hrr := relRows_get hr
      have hri := (hin r (List.mem_of_getElem? hr)).1
      have hr0 : 0 ≤ r.1 ∧ r.1 / 4 < W.length := ⟨hri.1, by have := hri.2; split at this <;> omega⟩
      have hst : AR ++ shR (4 * (AW.length : Int)) (R.take (k + 1)) = AR ++ shR (4 * (AW.length : Int)) (R.take k) ++ [(r.1 + 4 * (AW.length : Int), r.2)] := by
        have h2 := List.getElem?_eq_some_iff.1 hr
        rw [List.take_succ_eq_append_getElem hkr, h2.2]
        simp [shR]
      have hst2 := congrArg relRows hst
      rw [← relRows_snoc] at hst2
      generalize AR ++ shR (4 * (AW.length : Int)) (R.take k) = X at *
      have hXl := relRows_length X
      (repeat refine ka ?_); refine kr ?_ ?_ (pops_end ?_)
      (repeat refine ka ?_); refine kct ?_
      (repeat refine ka ?_); refine ksk ?_
      (repeat refine ka ?_); refine kb ?_
      (repeat refine ka ?_); refine kr ?_ ?_ ?_
      refine ps_alloc fun g6 => ?_
      refine ps_store ?_
      refine pops_nil ?_
      (repeat refine ka ?_); refine kr ?_ ?_ ?_
      refine ps_lit fun g7 => ?_
      refine ps_app_vw (rows' := relRows (AR ++ shR (4 * (AW.length : Int)) (R.take (k + 1)))) (m := AR.length + (k + 1)) (fun g8 => ?_) (hrows := hst2.symm) (hlen := by rw [hXl, hsl]) (hm := by simp; omega)
      refine pops_go ?_ ?_ ?_
      refine ps_store ?_
      refine pops_nil ?_
      refine kn ?_; repeat (first | with_reducible refine blk_n ?_ | with_reducible refine beh_n ?_)
      (repeat refine ka ?_); refine kr ?_ ?_ (pops_end ?_)
      refine kn ?_; repeat (first | with_reducible refine blk_n ?_ | with_reducible refine beh_n ?_)
      exact ⟨(k + 1, g8), by simp only; omega, by simp only; omega, (holds 6 (by repeat (first | exact .nil | refine has1 ?_)))⟩
    · obtain rfl : k = R.length := by omega
      rw [List.take_length] at hsl ⊢
      (repeat refine ka ?_); refine kr ?_ ?_ (pops_end ?_)
      (repeat refine ka ?_); refine kcf ?_
      (repeat refine ka ?_); refine kx ?_; (repeat (first | with_reducible refine beh_x ?_ | with_reducible refine blk_up rfl ?_)); refine blk_here ?_; refine beh_n ?_
      (repeat refine ka ?_); refine kr ?_ ?_ (pops_end ?_)
      refine kn ?_; repeat (first | with_reducible refine blk_n ?_ | with_reducible refine beh_n ?_)
      refine ⟨(i + 1, g5, gr), by simp only; omega, by simp only; omega, ?_⟩
      simp only [e1, hsl]
      exact (holds 4 (by repeat (first | exact .nil | refine has1 ?_)))
  · obtain rfl : i = L.length := by omega
    generalize allTo L L.length = A at *
    obtain ⟨AW, AR⟩ := A
    dsimp only at *
    have hrl := relRows_length AR
    by_cases hm : 16384 < AW.length
    · rw [if_pos hm]
      (repeat refine ka ?_); refine kr ?_ ?_ (pops_end ?_)
      (repeat refine ka ?_); refine kcf ?_
      (repeat refine ka ?_); refine kx ?_; (repeat (first | with_reducible refine beh_x ?_ | with_reducible refine blk_up rfl ?_)); refine blk_here ?_; refine beh_n ?_
      (repeat refine ka ?_); refine kr ?_ ?_ (pops_end ?_)
      (repeat refine ka ?_); refine kct ?_
      (repeat refine ka ?_); refine kr ?_ ?_ ?_
      refine ps_store ?_
      refine pops_go ?_ ?_ (pops_end ?_)
      (repeat refine ka ?_); refine kret ?_; repeat (first | with_reducible refine beh_r ?_ | with_reducible refine blk_r ?_)
      refine ends_ret ?_ (retPV_2 res_cella res_tmp)
      exact gives_two (gives_agg2 .nil .nil) (.same (.v _))
    · rw [if_neg hm]
      (repeat refine ka ?_); refine kr ?_ ?_ (pops_end ?_)
      (repeat refine ka ?_); refine kcf ?_
      (repeat refine ka ?_); refine kx ?_; (repeat (first | with_reducible refine beh_x ?_ | with_reducible refine blk_up rfl ?_)); refine blk_here ?_; refine beh_n ?_
      (repeat refine ka ?_); refine kr ?_ ?_ (pops_end ?_)
      (repeat refine ka ?_); refine kcf ?_
      (repeat refine ka ?_); refine ksk ?_
      (repeat refine ka ?_); refine kr ?_ ?_ ?_
      refine ps_store ?_
      refine pops_go ?_ ?_ (pops_end ?_)
      (repeat refine ka ?_); refine kret ?_; repeat (first | with_reducible refine beh_r ?_ | with_reducible refine blk_r ?_)
      refine ends_ret ?_ (retPV_2 res_cella res_tmp)
      exact gives_two (gives_agg2 (gives_ints rfl rfl rfl) (gives_rows rfl rfl hrl (relRows_pure _))) (.same (.v _))
end Go.Proofs.Ytjbbomchmacdjaa.Pv
