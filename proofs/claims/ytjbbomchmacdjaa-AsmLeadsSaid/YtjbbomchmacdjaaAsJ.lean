-- carapaceref12.Labels.
import Derived.Test.YtjbbomchmacdjaaAsH
namespace Go.Proofs.Ytjbbomchmacdjaa.Pv
set_option linter.all false
open Go.RowKit Go.Proofs
set_option maxRecDepth 100000
theorem lend_rows' {S : List Blk} {T : List Nat} {τ g gg len sz : Nat} {o : Bool} {rows : List (List PV)} (hT : τ ∈ T) (hb : S[τ]? = some ⟨gg, o, sz, rows⟩) (hg : gg = g) (hl : rows.length = len) (hp : ∀ row ∈ rows, ∀ x ∈ row, PV.Pure x) : Lend S T (.vw τ g 0 len) (.ro sz false rows) :=
  .vw hT hb hg (by rw [List.drop_zero, ← hl, List.take_length]) hp
theorem labRows_pure (L : List (List Int × Int)) : ∀ row ∈ labRows L, ∀ x ∈ row, PV.Pure x := fun row hr x hx => by
  obtain ⟨r, _, rfl⟩ := List.mem_map.1 hr
  simp only [List.mem_cons, List.not_mem_nil, or_false] at hx
  rcases hx with rfl | rfl <;> exact .v _
theorem labGo_length : ∀ (L : List It) (out : List (List Int × Int)) (a : Int), (labGo L out a).1.length ≤ out.length + L.length
  | [], out, _ => by simp [labGo]
  | x :: L, out, a => by
    rw [labGo]
    split
    · split
      · simp
      · have := labGo_length L (out ++ [(x.n, a)]) (a + 4 * manyF x.k)
        simp only [List.length_append, List.length_cons, List.length_nil] at this ⊢
        omega
    · have := labGo_length L out (a + 4 * manyF x.k)
      simp only [List.length_cons]
      omega
theorem manyF_in (k : Int) : 0 ≤ manyF k ∧ manyF k ≤ 2 := by unfold manyF; split; decide; split <;> decide
theorem labels12 (L : List It) (hl : L.length ≤ 1000000) (ho : ∀ x ∈ L, Oct x.n) : PCall Try.prog 39 [.ro 8 false (itRows L)] (.tup [.ro 2 false (labRows (labelsF L).1), .v (.int .i64 (labelsF L).2)]) := by
  have hcl := itRows_length L
  refine pcall_mkg Try.func39 rfl [.tmp 2, .tmp 3] Try.results39 92 rfl (tk_start ?_)
  unfold labelsF
  by_cases hk : 4096 < (L.length : Int)
  · rw [if_pos (by omega)]
    (repeat refine ka ?_); refine kr ?_ ?_ (pops_end ?_)
    (repeat refine ka ?_); refine kr ?_ ?_ (pops_end ?_)
    (repeat refine ka ?_); refine kct ?_
    (repeat refine ka ?_); refine kr ?_ ?_ (pops_end ?_)
    (repeat refine ka ?_); refine kret ?_; repeat (first | with_reducible refine beh_r ?_ | with_reducible refine blk_r ?_)
    refine ends_ret ?_ (retPV_2 res_tmp res_tmp)
    exact gives_two .nil (.same (.v _))
  rw [if_neg (by omega)]
  (repeat refine ka ?_); refine kr ?_ ?_ (pops_end ?_)
  (repeat refine ka ?_); refine kr ?_ ?_ (pops_end ?_)
  (repeat refine ka ?_); refine kcf ?_
  (repeat refine ka ?_); refine ksk ?_
  (repeat refine ka ?_); refine kr ?_ ?_ (pops_end ?_)
  (repeat refine ka ?_); refine kb ?_
  refine kw (fun i : Nat => [(0, PV.ro 8 false (itRows L)), (4, .v (.int .i64 i))]) (fun _ => []) (fun i => i ≤ L.length ∧ ∀ x ∈ L.take i, badIt x = false) (fun i => L.length - i) 0 (by simp) (holds 0 (by repeat (first | exact .nil | refine has1 ?_))) ?_
  rintro i ⟨hi, hs⟩
  by_cases g : (i : Int) < L.length
  · obtain ⟨x, hx⟩ : ∃ x, L[i]? = some x := ⟨L[i]'(by omega), by simp [show i < L.length by omega]⟩
    have hrow := itRows_get hx
    have hxo := ho x (List.mem_of_getElem? hx)
    have hany : badIt x = true → L.any badIt = true := fun h => List.any_eq_true.2 ⟨x, List.mem_of_getElem? hx, h⟩
    have fin : badIt x = false → ∀ y ∈ L.take (i + 1), badIt y = false := fun hb y hy => by
      obtain ⟨h1, h2⟩ := List.getElem?_eq_some_iff.1 hx
      rw [List.take_succ_eq_append_getElem h1, h2] at hy
      rcases List.mem_append.1 hy with hy | hy
      · exact hs y hy
      · simp only [List.mem_singleton] at hy
        subst hy
        exact hb
    by_cases k1 : x.k < 0
    · rw [if_pos (hany (by unfold badIt; exact decide_eq_true (.inl k1)))]
      (repeat refine ka ?_); refine kr ?_ ?_ (pops_end ?_)
      (repeat refine ka ?_); refine kct ?_
      (repeat refine ka ?_); refine ksk ?_
      (repeat refine ka ?_); refine kb ?_
      (repeat refine ka ?_); refine kr ?_ ?_ (pops_end ?_)
      (repeat refine ka ?_); refine kct ?_
      (repeat refine ka ?_); refine kr ?_ ?_ (pops_end ?_)
      (repeat refine ka ?_); refine kret ?_; repeat (first | with_reducible refine beh_r ?_ | with_reducible refine blk_r ?_)
      refine ends_ret ?_ (retPV_2 res_tmp res_tmp)
      exact gives_two .nil (.same (.v _))
    by_cases k2 : 5 < x.k
    · rw [if_pos (hany (by unfold badIt; exact decide_eq_true (.inr (.inl k2))))]
      (repeat refine ka ?_); refine kr ?_ ?_ (pops_end ?_)
      (repeat refine ka ?_); refine kct ?_
      (repeat refine ka ?_); refine ksk ?_
      (repeat refine ka ?_); refine kb ?_
      (repeat refine ka ?_); refine kr ?_ ?_ (pops_end ?_)
      (repeat refine ka ?_); refine kct ?_
      (repeat refine ka ?_); refine kr ?_ ?_ (pops_end ?_)
      (repeat refine ka ?_); refine kret ?_; repeat (first | with_reducible refine beh_r ?_ | with_reducible refine blk_r ?_)
      refine ends_ret ?_ (retPV_2 res_tmp res_tmp)
      exact gives_two .nil (.same (.v _))
    by_cases k3 : x.k = 0
    · by_cases k4 : x.n = []
      · rw [if_pos (hany (by unfold badIt; exact decide_eq_true (.inr (.inr ⟨k3, k4⟩))))]
        (repeat refine ka ?_); refine kr ?_ ?_ (pops_end ?_)
        (repeat refine ka ?_); refine kct ?_
        (repeat refine ka ?_); refine ksk ?_
        (repeat refine ka ?_); refine kb ?_
        (repeat refine ka ?_); refine kr ?_ ?_ (pops_end ?_)
        (repeat refine ka ?_); refine kct ?_
        (repeat refine ka ?_); refine kr ?_ ?_ (pops_end ?_)
        (repeat refine ka ?_); refine kret ?_; repeat (first | with_reducible refine beh_r ?_ | with_reducible refine blk_r ?_)
        refine ends_ret ?_ (retPV_2 res_tmp res_tmp)
        exact gives_two .nil (.same (.v _))
      · have hb := fin (by unfold badIt; exact decide_eq_false (by simp [k1, k2, k4]))
        (repeat refine ka ?_); refine kr ?_ ?_ (pops_end ?_)
        (repeat refine ka ?_); refine kct ?_
        (repeat refine ka ?_); refine ksk ?_
        (repeat refine ka ?_); refine kb ?_
        (repeat refine ka ?_); refine kr ?_ ?_ (pops_end ?_)
        (repeat refine ka ?_); refine kcf ?_
        (repeat refine ka ?_); refine ksk ?_
        refine kn ?_; repeat (first | with_reducible refine blk_n ?_ | with_reducible refine beh_n ?_)
        (repeat refine ka ?_); refine kr ?_ ?_ (pops_end ?_)
        refine kn ?_; repeat (first | with_reducible refine blk_n ?_ | with_reducible refine beh_n ?_)
        exact ⟨i + 1, ⟨by omega, hb⟩, by omega, (holds 0 (by repeat (first | exact .nil | refine has1 ?_)))⟩
    · have hb := fin (by unfold badIt; exact decide_eq_false (by simp [k1, k2, k3]))
      (repeat refine ka ?_); refine kr ?_ ?_ (pops_end ?_)
      (repeat refine ka ?_); refine kct ?_
      (repeat refine ka ?_); refine ksk ?_
      (repeat refine ka ?_); refine kb ?_
      (repeat refine ka ?_); refine kr ?_ ?_ (pops_end ?_)
      (repeat refine ka ?_); refine kcf ?_
      (repeat refine ka ?_); refine ksk ?_
      refine kn ?_; repeat (first | with_reducible refine blk_n ?_ | with_reducible refine beh_n ?_)
      (repeat refine ka ?_); refine kr ?_ ?_ (pops_end ?_)
      refine kn ?_; repeat (first | with_reducible refine blk_n ?_ | with_reducible refine beh_n ?_)
      exact ⟨i + 1, ⟨by omega, hb⟩, by omega, (holds 0 (by repeat (first | exact .nil | refine has1 ?_)))⟩
  have hi' : i = L.length := by omega
  subst hi'
  rw [List.take_length] at hs
  rw [if_neg (by rw [List.any_eq_true]; rintro ⟨x, hx, hb⟩; rw [hs x hx] at hb; cases hb)]
  (repeat refine ka ?_); refine kr ?_ ?_ (pops_end ?_)
  (repeat refine ka ?_); refine kcf ?_
  (repeat refine ka ?_); refine kx ?_; (repeat (first | with_reducible refine beh_x ?_ | with_reducible refine blk_up rfl ?_)); refine blk_here ?_; refine beh_n ?_
  (repeat refine ka ?_); refine kr ?_ ?_ (pops_end ?_)
  (repeat refine ka ?_); refine kr ?_ ?_ (pops_end ?_)
  refine kvoid 5 2 (fun g0 => ?_)
  (repeat refine ka ?_); refine kr ?_ ?_ (pops_end ?_)
  (repeat refine ka ?_); refine kb ?_
  refine kw (fun s : Nat × Nat × List (List Int × Int) × Int => [(0, PV.ro 8 false (itRows L)), (5, .vw 0 s.2.1 0 s.2.2.1.length), (6, .v (.int .i64 s.2.2.2)), (7, .v (.int .i64 s.1))]) (fun s => [⟨s.2.1, true, 2, labRows s.2.2.1⟩]) (fun s => s.1 ≤ L.length ∧ labGo L [] 0 = labGo (L.drop s.1) s.2.2.1 s.2.2.2 ∧ s.2.2.1.length ≤ s.1 ∧ (∀ p ∈ s.2.2.1, Oct p.1) ∧ 0 ≤ s.2.2.2 ∧ s.2.2.2 ≤ 8 * s.1) (fun s => L.length - s.1) (0, g0, [], 0) (by simp) (holds 1 (by repeat (first | exact .nil | refine has1 ?_))) ?_
  rintro ⟨i, g0, out, a⟩ ⟨hi, hf, hol, hoo, ha0, ha1⟩
  simp only at hi hf hol hoo ha0 ha1 ⊢
  have hll := labRows_length out
  by_cases g : (i : Int) < L.length
  · obtain ⟨x, hx⟩ : ∃ x, L[i]? = some x := ⟨L[i]'(by omega), by simp [show i < L.length by omega]⟩
    have hrow := itRows_get hx
    have hxo := ho x (List.mem_of_getElem? hx)
    have hd : L.drop i = x :: L.drop (i + 1) := drop_cons hx
    rw [hd, labGo] at hf
    have hm := manyF_in x.k
    have c2 := many12 x.k
    by_cases k3 : x.k = 0
    · rw [if_pos k3] at hf
      have c1 := find12 out (by omega) hoo x.n hxo
      cases hfd : (findF out x.n).2 with
      | true =>
        rw [hfd] at c1
        rw [if_pos hfd] at hf
        rw [hf]
        (repeat refine ka ?_); refine kr ?_ ?_ (pops_end ?_)
        (repeat refine ka ?_); refine kct ?_
        (repeat refine ka ?_); refine ksk ?_
        (repeat refine ka ?_); refine kb ?_
        (repeat refine ka ?_); refine kr ?_ ?_ (pops_end ?_)
        (repeat refine ka ?_); refine kct ?_
        (repeat refine ka ?_); refine kr ?_ ?_ ?_
        refine ps_rcall [0] c1 (.cons (lend_rows' (List.mem_singleton.2 rfl) rfl rfl hll (labRows_pure out)) (.cons (.same (.v _)) .nil)) ?_ (.inl (.tup fun x hx => by simp only [List.mem_cons, List.not_mem_nil, or_false] at hx; rcases hx with rfl | rfl <;> exact .v _))
        refine pops_go ?_ ?_ (pops_end ?_)
        (repeat refine ka ?_); refine kr ?_ ?_ (pops_end ?_)
        (repeat refine ka ?_); refine kct ?_
        (repeat refine ka ?_); refine kr ?_ ?_ (pops_end ?_)
        (repeat refine ka ?_); refine kret ?_; repeat (first | with_reducible refine beh_r ?_ | with_reducible refine blk_r ?_)
        refine ends_ret ?_ (retPV_2 res_tmp res_tmp)
        exact gives_two .nil (.same (.v _))
      | false =>
        rw [hfd] at c1
        rw [if_neg (by rw [hfd]; decide)] at hf
        have hsn : labRows (out ++ [(x.n, a)]) = labRows out ++ [[.v (.string (str x.n)), .v (.int .i64 a)]] := by simp [labRows]
        have hln : (out ++ [(x.n, a)]).length = out.length + 1 := by simp
        (repeat refine ka ?_); refine kr ?_ ?_ (pops_end ?_)
        (repeat refine ka ?_); refine kct ?_
        (repeat refine ka ?_); refine ksk ?_
        (repeat refine ka ?_); refine kb ?_
        (repeat refine ka ?_); refine kr ?_ ?_ (pops_end ?_)
        (repeat refine ka ?_); refine kct ?_
        (repeat refine ka ?_); refine kr ?_ ?_ ?_
        refine ps_rcall [0] c1 (.cons (lend_rows' (List.mem_singleton.2 rfl) rfl rfl hll (labRows_pure out)) (.cons (.same (.v _)) .nil)) ?_ (.inl (.tup fun x hx => by simp only [List.mem_cons, List.not_mem_nil, or_false] at hx; rcases hx with rfl | rfl <;> exact .v _))
        refine pops_go ?_ ?_ (pops_end ?_)
        (repeat refine ka ?_); refine kr ?_ ?_ (pops_end ?_)
        (repeat refine ka ?_); refine kcf ?_
        (repeat refine ka ?_); refine ksk ?_
        (repeat refine ka ?_); refine kr ?_ ?_ ?_
        refine ps_lit fun g2 => ?_
        refine ps_app_vw (rows' := labRows (out ++ [(x.n, a)])) (m := out.length + 1) (fun g3 => ?_) (hrows := hsn.symm)
        refine pops_go ?_ ?_ (pops_end ?_)
        (repeat refine ka ?_); refine kr ?_ ?_ ?_
        refine ps_pcall c2 ?_
        refine pops_go ?_ ?_ (pops_end ?_)
        refine kn ?_; repeat (first | with_reducible refine blk_n ?_ | with_reducible refine beh_n ?_)
        (repeat refine ka ?_); refine kr ?_ ?_ (pops_end ?_)
        refine kn ?_; repeat (first | with_reducible refine blk_n ?_ | with_reducible refine beh_n ?_)
        refine ⟨(i + 1, g3, out ++ [(x.n, a)], a + 4 * manyF x.k), ⟨by simp only; omega, hf, by simp only [hln]; omega, fun p hp => ?_, by simp only; omega, by simp only; omega⟩, by simp only; omega, ?_⟩
        · rcases List.mem_append.1 hp with hp | hp
          · exact hoo p hp
          · simp only [List.mem_singleton] at hp
            subst hp
            exact hxo
        · simp only [hln]
          exact (holds 1 (by repeat (first | exact .nil | refine has1 ?_)))
    · rw [if_neg k3] at hf
      (repeat refine ka ?_); refine kr ?_ ?_ (pops_end ?_)
      (repeat refine ka ?_); refine kct ?_
      (repeat refine ka ?_); refine ksk ?_
      (repeat refine ka ?_); refine kb ?_
      (repeat refine ka ?_); refine kr ?_ ?_ (pops_end ?_)
      (repeat refine ka ?_); refine kcf ?_
      (repeat refine ka ?_); refine ksk ?_
      (repeat refine ka ?_); refine kr ?_ ?_ ?_
      refine ps_pcall c2 ?_
      refine pops_go ?_ ?_ (pops_end ?_)
      refine kn ?_; repeat (first | with_reducible refine blk_n ?_ | with_reducible refine beh_n ?_)
      (repeat refine ka ?_); refine kr ?_ ?_ (pops_end ?_)
      refine kn ?_; repeat (first | with_reducible refine blk_n ?_ | with_reducible refine beh_n ?_)
      exact ⟨(i + 1, g0, out, a + 4 * manyF x.k), ⟨by simp only; omega, hf, by simp only; omega, hoo, by simp only; omega, by simp only; omega⟩, by simp only; omega, (holds 1 (by repeat (first | exact .nil | refine has1 ?_)))⟩
  · have hz : L.drop i = [] := List.drop_eq_nil_of_le (by omega)
    rw [hz, labGo] at hf
    rw [hf]
    (repeat refine ka ?_); refine kr ?_ ?_ (pops_end ?_)
    (repeat refine ka ?_); refine kcf ?_
    (repeat refine ka ?_); refine kx ?_; (repeat (first | with_reducible refine beh_x ?_ | with_reducible refine blk_up rfl ?_)); refine blk_here ?_; refine beh_n ?_
    (repeat refine ka ?_); refine kr ?_ ?_ (pops_end ?_)
    (repeat refine ka ?_); refine kret ?_; repeat (first | with_reducible refine beh_r ?_ | with_reducible refine blk_r ?_)
    refine ends_ret ?_ (retPV_2 res_tmp res_tmp)
    exact gives_two (gives_rows rfl rfl hll (labRows_pure _)) (.same (.v _))
end Go.Proofs.Ytjbbomchmacdjaa.Pv
