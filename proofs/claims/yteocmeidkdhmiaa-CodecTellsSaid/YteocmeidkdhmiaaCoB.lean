-- codec: a pointer to what is written no more; plain, the functions of coders, coders.
import Derived.Test.YteocmeidkdhmiaaCoA
import Derived.Test.YteocmeidkdhmiaaFz
namespace Go.Proofs.Yteocmeidkdhmiaa.Pv
set_option linter.all false
open Go.RowKit Go.Proofs
set_option maxRecDepth 100000
set_option maxHeartbeats 4000000
theorem ptr_frel {c : Cx} (hi : Inv c) {τ g i off : Nat} {blk : Blk} {row : List PV} {v : Value} (hr : RelV c (.ptr τ g i off) v) (hb : c.S[τ]? = some blk) (hg : blk.gen = g) (ho : blk.own = false) (hrow : blk.rows[i]? = some row) (hp : ∀ x ∈ row, PV.Pure x) : RelV c (.rp row off) v := by
  cases hr with
  | ptr _ _ _ _ y hy hN h =>
    obtain ⟨h1, p, hβ, rfl, hcel⟩ := h _ hb hg
    obtain ⟨hl, cs, et, fz, k1, k2, k3, k4⟩ := ((hi.blk τ _ hb).heap p hβ).cells hcel
    have hX : ¬ c.X p.1 := by
      rintro (h | ⟨τ', blk', p', g1, g2, g3, g4⟩)
      · exact hi.notG τ _ p hb hβ h
      · have e := hi.inj τ' τ blk' _ p' p g1 hb g2 g3 hβ g4
        subst e
        rw [hb] at g1
        cases g1
        rw [ho] at g2
        cases g2
    rw [show p.2 + (i * blk.sz + off) = (p.2 + i * blk.sz) + off by omega]
    refine RelV.rp row off p.1 (p.2 + i * blk.sz) (fun j => (cs[p.2 + (i * blk.sz + j)]?).getD default) (fun j x hx => ?_) (fun j x hx => hp x (List.mem_of_getElem? hx)) (fun j x hx => ?_)
    · obtain ⟨v, v1, v2, v3⟩ := k3 i row j x hrow hx
      refine ⟨hX, ?_, by simp only [v1]; exact v2⟩
      rw [cell_of k1, show p.2 + i * blk.sz + j = p.2 + (i * blk.sz + j) by omega, v1]
      rfl
    · obtain ⟨v, v1, v2, v3⟩ := k3 i row j x hrow hx
      simp only [v1]
      exact v3
theorem Rel.fzP {c : Cx} {n : Nat} {tm : List (Nat × PV)} {S : List Blk} {a : Act} (r : Rel c ⟨n, tm, S⟩ a) (t : Nat) {τ g i off : Nat} {blk : Blk} {row : List PV} (ht : look t tm = .ptr τ g i off) (hb : S[τ]? = some blk) (hg : blk.gen = g) (ho : blk.own = false) (hrow : blk.rows[i]? = some row) (hp : ∀ x ∈ row, PV.Pure x) : Rel c ⟨n, (t, .rp row off) :: tm, S⟩ a := by
  have hS : c.S = S := r.S
  refine ⟨r.S, r.inv, r.n, r.defers, fun s => ?_⟩
  simp only [look]
  split
  · rename_i e
    subst e
    have := r.tm s
    simp only [ht] at this
    exact ptr_frel r.inv this (by rw [hS]; exact hb) hg ho hrow hp
  · exact r.tm s
section
variable {P : Program} {n : Nat} {tm : List (Nat × PV)} {S S' : List Blk}
/-- A pointer to a block that is written no more is one that is only read through. -/
theorem kfzP {c : Code} {l : List Code} {Q : Exit → PS → Prop} (t : Nat) {τ g i off : Nat} {blk : Blk} {row : List PV} (k : Tk P (c :: l) ⟨n, (t, .rp row off) :: tm, S⟩ Q) (hp : ∀ x ∈ row, PV.Pure x) (ht : look t tm = .ptr τ g i off := by ((conv => lhs; whnf) <;> exact rfl)) (hb : S[τ]? = some blk := by ((conv => lhs; whnf) <;> fail "no")) (hg : blk.gen = g := by rfl) (ho : blk.own = false := by rfl) (hrow : blk.rows[i]? = some row := by exact rfl) : Tk P (c :: l) ⟨n, tm, S⟩ Q :=
  tr_rel (T := fun g => ⟨n, (t, .rp row off) :: tm, S⟩) (fun c a r => ⟨c, Step.refl c, rfl, r.fzP t ht hb hg ho hrow hp⟩) (fun g => k)
variable {ops : List Oper} {Q : PS → Prop} {rest : List Oper} {d : Tmp} {ty : TypeId} {pos : String} {af : Array Edge}
theorem ps_vpcall {f : FuncId} [hf : FnOk P f] {fo : Operand} {first captured : List PV} {args : Array Operand} {ats : Array TypeId} {us : List PV} {r : PV} (h : PCall P f (first ++ us ++ captured) r) (k : Pops P ops Q rest ⟨n, (d, r) :: tm, S⟩) (hv : PS.get ⟨n, tm, S⟩ fo = .fn (.func f) first captured := by ((conv => lhs; whnf) <;> fail "no")) (ha : args.toList.map (PS.get ⟨n, tm, S⟩) = us := by first | rfl | (simp only [List.map_cons, List.map_nil, PS.get, look, ↓reduceIte, Nat.reduceEqDiff, reduceCtorEq]; exact rfl)) :
    Pops P ops Q (⟨some d, .call ⟨.value fo, args, ats⟩, ty, pos, af, none⟩ :: rest) ⟨n, tm, S⟩ :=
  ps_vcall (R := fun x S' => x = r ∧ S' = S) (h.any S) (fun x S' ⟨e1, e2⟩ => by subst e1 e2; exact k) hv ha
end
instance rpPure (row : List PV) (off : Nat) [h : PureL row] : PureC (.rp row off) := ⟨.rp h.h⟩
instance op5Pure (o : Op5) : PureL o.cells := ⟨fun x hx => by
  simp only [Op5.cells, List.mem_cons, List.not_mem_nil, or_false] at hx
  rcases hx with rfl | rfl | rfl | rfl | rfl <;> exact .v _⟩
theorem plain_ok (f : Nat) (cap : List PV) (hc : PureL cap) : PCall Try.prog 31 [.fn (.func f) [] cap] (.fn (.func 50) [] [.rp [.fn (.func f) [] cap] 0]) := by
  refine pcall_mk Try.func31 rfl [.tmp 2] Try.results31 4 rfl (tk_start ?_)
  (repeat refine ka ?_); refine kr ?_ ?_ ?_
  refine ps_box (fun g0 => ?_)
  refine pops_go ?_ ?_ (pops_end ?_)
  refine kfreeze 0 ?_
  refine kfzP (row := [.fn (.func f) [] cap]) 1 ?_ (by intro x hx; simp only [List.mem_singleton] at hx; subst hx; exact (fnPureG (.func f) [] cap).h)
  (repeat refine ka ?_); refine kr ?_ ?_ (pops_end ?_)
  (repeat refine ka ?_); refine kret ?_; repeat (first | with_reducible refine beh_r ?_ | with_reducible refine blk_r ?_)
  refine ends_ret ?_ retPV_one
  rfl
theorem plain1_ok (f : Nat) [hf : FnOk Try.prog f] (cap : List PV) (hc : PureL cap) (x r : PV) (n : Int) [hx : PureC x] [hr : PureC r] (h : PCall Try.prog f ([x] ++ cap) r) : PCall Try.prog 50 [x, .v (.int .i64 n), .rp [.fn (.func f) [] cap] 0] (.tup [r, .v (.int .i64 0)]) := by
  refine pcall_mk Try.func50 rfl [.tmp 5, .tmp 6] Try.results50 10 rfl (tk_start ?_)
  (repeat refine ka ?_); refine kr ?_ ?_ (pops_end ?_)
  (repeat refine ka ?_); refine kr ?_ ?_ ?_
  refine ps_vpcall (first := []) (captured := cap) (us := [x]) h ?_
  refine pops_go ?_ ?_ (pops_end ?_)
  (repeat refine ka ?_); refine kret ?_; repeat (first | with_reducible refine beh_r ?_ | with_reducible refine blk_r ?_)
  refine ends_ret ?_ retPV_two
  rfl
theorem crypt_ok (K N : List PV) (hK : PureL K) (hN : PureL N) (x r : PV) [hx : PureC x] [hr : PureC r] (h : PCall Try.prog 29 [.agg K, .agg N, x] r) (hk : K.length = 16) (hn : N.length = 2) : PCall Try.prog 28 [x, .rp K 0, .rp N 0] r := by
  have ek : K.take 16 = K := by rw [← hk, List.take_length]
  have en : N.take 2 = N := by rw [← hn, List.take_length]
  refine pcall_mk Try.func28 rfl [.tmp 4] Try.results28 9 rfl (tk_start ?_)
  (repeat refine ka ?_); refine kr ?_ ?_ (pops_end ?_)
  (repeat refine ka ?_); refine kr ?_ ?_ ?_
  rw [ek, en]
  refine ps_pcall h ?_
  refine pops_go ?_ ?_ (pops_end ?_)
  (repeat refine ka ?_); refine kret ?_; repeat (first | with_reducible refine beh_r ?_ | with_reducible refine blk_r ?_)
  refine ends_ret ?_ retPV_one
  rfl
theorem dput_ok (o : Op5) (b : List Int) (hl : b.length ≤ 1000000) : PCall Try.prog 33 [.ro 1 false (ints .u8 b), .rp o.cells 0] (.ro 1 false (ints .u8 (deltaP b o.del))) := by
  have c1 := ldelta_put b o.del hl
  refine pcall_mk Try.func33 rfl [.tmp 3] Try.results33 8 rfl (tk_start ?_)
  (repeat' (first | refine ka ?_ | refine ksk ?_ | (refine kr ?_ ?_ ?_; first | refine pops_end ?_ | (refine ps_split (fun hb => ?_) (fun hb => ?_); (fail_if_success (guard_hyp hb : true = true)); (fail_if_success (guard_hyp hb : false = true)); all_goals (have hp := hb; (try simp only [decide_eq_true_eq, Bool.eq_false_iff, ne_eq, Bool.not_eq_true', Bool.not_eq_false', Bool.and_eq_true, Bool.or_eq_true, decide_true, decide_false, Bool.and_true, Bool.true_and, Bool.false_eq_true, not_false_eq_true, true_and, and_true] at hp); (try rw [hb]); (try clear hb))) | refine ps_pcall (c1) ?_ | refine ps_pcall_g (c1) ?_ | refine ps_alloc fun g => ?_ | refine ps_box fun g => ?_ | refine ps_store ?_ | refine ps_lit fun g => ?_ | refine pops_nil ?_ | skip) | (refine kd ?_ ?_ ?_; first | refine pstl_end ?_ | (refine pd_split (fun hb => ?_) (fun hb => ?_); (fail_if_success (guard_hyp hb : true = true)); (fail_if_success (guard_hyp hb : false = true)); all_goals (have hp := hb; (try simp only [decide_eq_true_eq, Bool.eq_false_iff, ne_eq, Bool.not_eq_true', Bool.not_eq_false', Bool.and_eq_true, Bool.or_eq_true, decide_true, decide_false, Bool.and_true, Bool.true_and, Bool.false_eq_true, not_false_eq_true, true_and, and_true] at hp); (try rw [hb]); (try clear hb))) | refine pd_pcall (c1) ?_ | refine pd_pcall_g (c1) ?_ | skip) | refine kct ?_ | refine kcf ?_ | (refine kcs (fun hb => ?_) (fun hb => ?_) <;> (have hp := hb; (try simp only [decide_eq_true_eq, Bool.eq_false_iff, ne_eq, Bool.not_eq_true', Bool.not_eq_false', Bool.and_eq_true, Bool.or_eq_true, decide_true, decide_false, Bool.and_true, Bool.true_and, Bool.false_eq_true, not_false_eq_true, true_and, and_true] at hp); (try rw [hb]); (try clear hb))) | (refine kret ?_; repeat (first | with_reducible refine beh_r ?_ | with_reducible refine blk_r ?_)) | refine kb ?_ | (refine ps_split (fun hb => ?_) (fun hb => ?_); (fail_if_success (guard_hyp hb : true = true)); (fail_if_success (guard_hyp hb : false = true)); all_goals (have hp := hb; (try simp only [decide_eq_true_eq, Bool.eq_false_iff, ne_eq, Bool.not_eq_true', Bool.not_eq_false', Bool.and_eq_true, Bool.or_eq_true, decide_true, decide_false, Bool.and_true, Bool.true_and, Bool.false_eq_true, not_false_eq_true, true_and, and_true] at hp); (try rw [hb]); (try clear hb))) | refine ps_pcall (c1) ?_ | refine ps_pcall_g (c1) ?_ | refine ps_alloc fun g => ?_ | refine ps_box fun g => ?_ | refine ps_store ?_ | refine ps_lit fun g => ?_ | refine pops_nil ?_ | (refine pd_split (fun hb => ?_) (fun hb => ?_); (fail_if_success (guard_hyp hb : true = true)); (fail_if_success (guard_hyp hb : false = true)); all_goals (have hp := hb; (try simp only [decide_eq_true_eq, Bool.eq_false_iff, ne_eq, Bool.not_eq_true', Bool.not_eq_false', Bool.and_eq_true, Bool.or_eq_true, decide_true, decide_false, Bool.and_true, Bool.true_and, Bool.false_eq_true, not_false_eq_true, true_and, and_true] at hp); (try rw [hb]); (try clear hb))) | refine pd_pcall (c1) ?_ | refine pd_pcall_g (c1) ?_ | (refine pops_go ?_ ?_ ?_; first | refine pops_end ?_ | (refine ps_split (fun hb => ?_) (fun hb => ?_); (fail_if_success (guard_hyp hb : true = true)); (fail_if_success (guard_hyp hb : false = true)); all_goals (have hp := hb; (try simp only [decide_eq_true_eq, Bool.eq_false_iff, ne_eq, Bool.not_eq_true', Bool.not_eq_false', Bool.and_eq_true, Bool.or_eq_true, decide_true, decide_false, Bool.and_true, Bool.true_and, Bool.false_eq_true, not_false_eq_true, true_and, and_true] at hp); (try rw [hb]); (try clear hb))) | refine ps_pcall (c1) ?_ | refine ps_pcall_g (c1) ?_ | refine ps_alloc fun g => ?_ | refine ps_box fun g => ?_ | refine ps_store ?_ | refine ps_lit fun g => ?_ | refine pops_nil ?_) | (refine pstl_go ?_ ?_ ?_; first | refine pstl_end ?_ | (refine pd_split (fun hb => ?_) (fun hb => ?_); (fail_if_success (guard_hyp hb : true = true)); (fail_if_success (guard_hyp hb : false = true)); all_goals (have hp := hb; (try simp only [decide_eq_true_eq, Bool.eq_false_iff, ne_eq, Bool.not_eq_true', Bool.not_eq_false', Bool.and_eq_true, Bool.or_eq_true, decide_true, decide_false, Bool.and_true, Bool.true_and, Bool.false_eq_true, not_false_eq_true, true_and, and_true] at hp); (try rw [hb]); (try clear hb))) | refine pd_pcall (c1) ?_ | refine pd_pcall_g (c1) ?_) | (refine kn ?_; repeat (first | with_reducible refine blk_n ?_ | with_reducible refine beh_n ?_)) | (refine kx ?_; (repeat (first | with_reducible refine beh_x ?_ | with_reducible refine blk_up rfl ?_)); refine blk_here ?_; refine beh_n ?_)))
  refine ends_ret ?_ retPV_one
  rfl
theorem dback_ok (o : Op5) (b : List Int) (hl : b.length ≤ 1000000) : PCall Try.prog 35 [.ro 1 false (ints .u8 b), .rp o.cells 0] (.ro 1 false (ints .u8 (deltaB b o.del))) := by
  have c1 := ldelta_back b o.del hl
  refine pcall_mk Try.func35 rfl [.tmp 3] Try.results35 8 rfl (tk_start ?_)
  (repeat' (first | refine ka ?_ | refine ksk ?_ | (refine kr ?_ ?_ ?_; first | refine pops_end ?_ | (refine ps_split (fun hb => ?_) (fun hb => ?_); (fail_if_success (guard_hyp hb : true = true)); (fail_if_success (guard_hyp hb : false = true)); all_goals (have hp := hb; (try simp only [decide_eq_true_eq, Bool.eq_false_iff, ne_eq, Bool.not_eq_true', Bool.not_eq_false', Bool.and_eq_true, Bool.or_eq_true, decide_true, decide_false, Bool.and_true, Bool.true_and, Bool.false_eq_true, not_false_eq_true, true_and, and_true] at hp); (try rw [hb]); (try clear hb))) | refine ps_pcall (c1) ?_ | refine ps_pcall_g (c1) ?_ | refine ps_alloc fun g => ?_ | refine ps_box fun g => ?_ | refine ps_store ?_ | refine ps_lit fun g => ?_ | refine pops_nil ?_ | skip) | (refine kd ?_ ?_ ?_; first | refine pstl_end ?_ | (refine pd_split (fun hb => ?_) (fun hb => ?_); (fail_if_success (guard_hyp hb : true = true)); (fail_if_success (guard_hyp hb : false = true)); all_goals (have hp := hb; (try simp only [decide_eq_true_eq, Bool.eq_false_iff, ne_eq, Bool.not_eq_true', Bool.not_eq_false', Bool.and_eq_true, Bool.or_eq_true, decide_true, decide_false, Bool.and_true, Bool.true_and, Bool.false_eq_true, not_false_eq_true, true_and, and_true] at hp); (try rw [hb]); (try clear hb))) | refine pd_pcall (c1) ?_ | refine pd_pcall_g (c1) ?_ | skip) | refine kct ?_ | refine kcf ?_ | (refine kcs (fun hb => ?_) (fun hb => ?_) <;> (have hp := hb; (try simp only [decide_eq_true_eq, Bool.eq_false_iff, ne_eq, Bool.not_eq_true', Bool.not_eq_false', Bool.and_eq_true, Bool.or_eq_true, decide_true, decide_false, Bool.and_true, Bool.true_and, Bool.false_eq_true, not_false_eq_true, true_and, and_true] at hp); (try rw [hb]); (try clear hb))) | (refine kret ?_; repeat (first | with_reducible refine beh_r ?_ | with_reducible refine blk_r ?_)) | refine kb ?_ | (refine ps_split (fun hb => ?_) (fun hb => ?_); (fail_if_success (guard_hyp hb : true = true)); (fail_if_success (guard_hyp hb : false = true)); all_goals (have hp := hb; (try simp only [decide_eq_true_eq, Bool.eq_false_iff, ne_eq, Bool.not_eq_true', Bool.not_eq_false', Bool.and_eq_true, Bool.or_eq_true, decide_true, decide_false, Bool.and_true, Bool.true_and, Bool.false_eq_true, not_false_eq_true, true_and, and_true] at hp); (try rw [hb]); (try clear hb))) | refine ps_pcall (c1) ?_ | refine ps_pcall_g (c1) ?_ | refine ps_alloc fun g => ?_ | refine ps_box fun g => ?_ | refine ps_store ?_ | refine ps_lit fun g => ?_ | refine pops_nil ?_ | (refine pd_split (fun hb => ?_) (fun hb => ?_); (fail_if_success (guard_hyp hb : true = true)); (fail_if_success (guard_hyp hb : false = true)); all_goals (have hp := hb; (try simp only [decide_eq_true_eq, Bool.eq_false_iff, ne_eq, Bool.not_eq_true', Bool.not_eq_false', Bool.and_eq_true, Bool.or_eq_true, decide_true, decide_false, Bool.and_true, Bool.true_and, Bool.false_eq_true, not_false_eq_true, true_and, and_true] at hp); (try rw [hb]); (try clear hb))) | refine pd_pcall (c1) ?_ | refine pd_pcall_g (c1) ?_ | (refine pops_go ?_ ?_ ?_; first | refine pops_end ?_ | (refine ps_split (fun hb => ?_) (fun hb => ?_); (fail_if_success (guard_hyp hb : true = true)); (fail_if_success (guard_hyp hb : false = true)); all_goals (have hp := hb; (try simp only [decide_eq_true_eq, Bool.eq_false_iff, ne_eq, Bool.not_eq_true', Bool.not_eq_false', Bool.and_eq_true, Bool.or_eq_true, decide_true, decide_false, Bool.and_true, Bool.true_and, Bool.false_eq_true, not_false_eq_true, true_and, and_true] at hp); (try rw [hb]); (try clear hb))) | refine ps_pcall (c1) ?_ | refine ps_pcall_g (c1) ?_ | refine ps_alloc fun g => ?_ | refine ps_box fun g => ?_ | refine ps_store ?_ | refine ps_lit fun g => ?_ | refine pops_nil ?_) | (refine pstl_go ?_ ?_ ?_; first | refine pstl_end ?_ | (refine pd_split (fun hb => ?_) (fun hb => ?_); (fail_if_success (guard_hyp hb : true = true)); (fail_if_success (guard_hyp hb : false = true)); all_goals (have hp := hb; (try simp only [decide_eq_true_eq, Bool.eq_false_iff, ne_eq, Bool.not_eq_true', Bool.not_eq_false', Bool.and_eq_true, Bool.or_eq_true, decide_true, decide_false, Bool.and_true, Bool.true_and, Bool.false_eq_true, not_false_eq_true, true_and, and_true] at hp); (try rw [hb]); (try clear hb))) | refine pd_pcall (c1) ?_ | refine pd_pcall_g (c1) ?_) | (refine kn ?_; repeat (first | with_reducible refine blk_n ?_ | with_reducible refine beh_n ?_)) | (refine kx ?_; (repeat (first | with_reducible refine beh_x ?_ | with_reducible refine blk_up rfl ?_)); refine blk_here ?_; refine beh_n ?_)))
  refine ends_ret ?_ retPV_one
  rfl
def key16 (K : List PV) : PV := .fn (.func 28) [] K
/-- The coders of options, a key and a nonce. -/
def coderRows (o : Op5) (K N : List PV) : List (List PV) :=
  [[.v (.bool o.bcj), .fn (.func 30) [] [], .fn (.func 50) [] [.rp [.fn (.func 32) [] []] 0], .v (.bool false)],
   [.v (.bool true), .fn (.func 33) [] [.rp o.cells 0], .fn (.func 50) [] [.rp [.fn (.func 35) [] [.rp o.cells 0]] 0], .v (.bool false)],
   [.v (.bool o.lz), .fn (.func 37) [] [], .fn (.func 38) [] [], .v (.bool false)],
   [.v (.bool o.rng), .fn (.func 39) [] [], .fn (.func 40) [] [], .v (.bool true)],
   [.v (.bool o.cry), .fn (.func 28) [] [.rp K 0, .rp N 0], .fn (.func 50) [] [.rp [.fn (.func 28) [] [.rp K 0, .rp N 0]] 0], .v (.bool false)]]
theorem coders_pure (o : Op5) (K N : List PV) [hK : PureL K] [hN : PureL N] : ∀ row ∈ coderRows o K N, ∀ x ∈ row, PV.Pure x := by
  intro row hr x hx
  have one : PureL row → PV.Pure x := fun h => h.h x hx
  simp only [coderRows, List.mem_cons, List.not_mem_nil, or_false] at hr
  rcases hr with rfl | rfl | rfl | rfl | rfl <;> exact one inferInstance
theorem coders_ok (o : Op5) (K N : List PV) [hK : PureL K] [hN : PureL N] (hk : K.length = 16) (hn : N.length = 2) : PCall Try.prog 17 [.agg o.cells, .agg K, .agg N] (.ro 4 false (coderRows o K N)) := by
  have p1 := plain_ok 32 [] inferInstance
  have p2 := plain_ok 35 [.rp o.cells 0] inferInstance
  have p3 := plain_ok 28 [.rp K 0, .rp N 0] inferInstance
  have hpu := coders_pure o K N
  haveI hro : PureC (.ro 4 false (coderRows o K N)) := ⟨.ro hpu⟩
  refine pcall_mk Try.func17 rfl [.tmp 6] Try.results17 30 rfl (tk_start ?_)
  (repeat refine ka ?_); refine kr ?_ ?_ ?_
  refine ps_box (c := o.cells) (sz := 5) (fun g0 => ?_)
  refine ps_box (c := K) (sz := 16) (fun g1 => ?_) (hs := hk)
  refine ps_box (c := N) (sz := 2) (fun g2 => ?_) (hs := hn)
  refine pops_go ?_ ?_ (pops_end ?_)
  refine kfreeze 0 ?_
  refine kfreeze 1 ?_
  refine kfreeze 2 ?_
  refine kfzP (row := o.cells) 3 ?_ (op5Pure o).h
  refine kfzP (row := K) 4 ?_ hK.h
  refine kfzP (row := N) 5 ?_ hN.h
  (repeat refine ka ?_); refine kr ?_ ?_ (pops_end ?_)
  unfold Op5.cells
  (repeat refine ka ?_); refine kdt 20 ?_
  refine pstl_go ?_ ?_ ?_
  refine pd_pcall p1 ?_
  refine pstl_go ?_ ?_ ?_
  refine pd_pcall p2 ?_
  refine pstl_go ?_ ?_ ?_
  refine pd_pcall p3 ?_
  refine pstl_go ?_ ?_ (pstl_end ?_)
  refine ps_litf (rows := coderRows o K N) (fun g => ?_) hpu
  refine pops_go ?_ ?_ (pops_end ?_)
  (repeat refine ka ?_); refine kret ?_; repeat (first | with_reducible refine beh_r ?_ | with_reducible refine blk_r ?_)
  refine ends_ret ?_ retPV_one
  rfl
end Go.Proofs.Yteocmeidkdhmiaa.Pv
