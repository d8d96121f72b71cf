-- link: the document's Link.
import Derived.Test.YtjbbomchmacdjaaLkF
namespace Go.Proofs.Ytjbbomchmacdjaa.Pv
set_option linter.all false
open Go.RowKit Go.Proofs
set_option maxRecDepth 100000
set_option maxHeartbeats 4000000
theorem ref_link (L : List Cd) (hL : ∀ c ∈ L, c.ok) (hL2 : ∀ c ∈ L, c.W.length ≤ 100000 ∧ c.R.length ≤ 100000) (hn : L.length ≤ 100) : PCall Try.prog 31 [.ro 2 false (codeRows L)] (.tup [(linkF L).1.pv, .v (.int .i64 (linkF L).2)]) := by
  have hall := allTo_len L 100000 hL2
  have hcl := codeRows_length L
  refine pcall_mkg Try.func31 rfl [.cell 2 44, .tmp 3] Try.results31 93 rfl (tk_start ?_)
  (repeat refine ka ?_); refine kr ?_ ?_ ?_
  refine ps_alloc fun g0 => ?_
  refine pops_go ?_ ?_ (pops_end ?_)
  (repeat refine ka ?_); refine kr ?_ ?_ (pops_end ?_)
  (repeat refine ka ?_); refine kr ?_ ?_ (pops_end ?_)
  (repeat refine ka ?_); refine kb ?_
  refine kw (fun i : Nat => [(0, .ro 2 false (codeRows L)), (2, .ptr 0 g0 0 0), (3, .v (.int .i64 0)), (4, .v (.int .i64 ((allTo L i).W.length : Nat))), (5, .v (.int .i64 i))]) (fun _ => [⟨g0, true, 2, [[.v (.slice none 0 0), .v (.slice none 0 0)]]⟩])
    (fun i => i ≤ L.length ∧ ∀ c ∈ L.take i, c.right = true) (fun i => L.length - i) 0 (by simp) (holds 1 (by repeat (first | exact .nil | refine has1 ?_))) ?_
  rintro i ⟨hi, hrt⟩
  have hal := hall i hi
  by_cases h : i < L.length
  · obtain ⟨c, hc⟩ : ∃ c, L[i]? = some c := ⟨L[i], by simp [h]⟩
    have hcm := List.mem_of_getElem? hc
    have hrow := codeRows_get hc
    have hgc : L.getD i ⟨[], []⟩ = c := by rw [List.getD_eq_getElem?_getD, hc]; rfl
    have c1 := ref_right c (hL c hcm)
    have hc2 := hL2 c hcm
    have e1 : (allTo L (i + 1)).W.length = (allTo L i).W.length + c.W.length := by rw [allTo, hgc]; dsimp only; rw [List.length_append, turnGo_length]
    unfold Cd.pv Cd.row at c1
    cases hcr : c.right with
    | false =>
      rw [hcr] at c1
      have hb : badF L = true := by
        unfold badF
        rw [List.any_eq_true]
        exact ⟨c, hcm, by rw [hcr]; rfl⟩
      rw [linkF, if_pos hb]
      unfold Cd.pv Cd.row
      (repeat refine ka ?_); refine kr ?_ ?_ (pops_end ?_)
      (repeat refine ka ?_); refine kct ?_
      (repeat refine ka ?_); refine ksk ?_
      (repeat refine ka ?_); refine kb ?_
      (repeat refine ka ?_); refine kr ?_ ?_ ?_
      refine ps_pcall c1 ?_
      refine pops_go ?_ ?_ (pops_end ?_)
      (repeat refine ka ?_); refine kct ?_
      (repeat refine ka ?_); refine kr ?_ ?_ ?_
      refine ps_store ?_
      refine pops_go ?_ ?_ (pops_end ?_)
      (repeat refine ka ?_); refine kret ?_; repeat (first | with_reducible refine beh_r ?_ | with_reducible refine blk_r ?_)
      refine ends_ret ?_ (retPV_2 res_cella res_tmp)
      exact gives_two (gives_agg2 .nil .nil) (.same (.v _))
    | true =>
      rw [hcr] at c1
      generalize (allTo L i).W.length = m at *
      (repeat refine ka ?_); refine kr ?_ ?_ (pops_end ?_)
      (repeat refine ka ?_); refine kct ?_
      (repeat refine ka ?_); refine ksk ?_
      (repeat refine ka ?_); refine kb ?_
      (repeat refine ka ?_); refine kr ?_ ?_ ?_
      refine ps_pcall c1 ?_
      refine pops_go ?_ ?_ (pops_end ?_)
      (repeat refine ka ?_); refine kcf ?_
      (repeat refine ka ?_); refine ksk ?_
      (repeat refine ka ?_); refine kr ?_ ?_ (pops_end ?_)
      refine kn ?_; repeat (first | with_reducible refine blk_n ?_ | with_reducible refine beh_n ?_)
      (repeat refine ka ?_); refine kr ?_ ?_ (pops_end ?_)
      refine kn ?_; repeat (first | with_reducible refine blk_n ?_ | with_reducible refine beh_n ?_)
      refine ⟨i + 1, ⟨by omega, fun c' hc' => ?_⟩, by omega, ?_⟩
      · rw [List.take_succ_eq_append_getElem h] at hc'
        rcases List.mem_append.1 hc' with hc' | hc'
        · exact hrt c' hc'
        · simp only [List.mem_singleton] at hc'
          rw [List.getElem?_eq_getElem h] at hc
          rw [hc', Option.some.inj hc]
          exact hcr
      · rw [e1, Int.natCast_add]
        exact (holds 1 (by repeat (first | exact .nil | refine has1 ?_)))
  obtain rfl : i = L.length := by omega
  rw [List.take_length] at hrt
  have hb : ¬ badF L = true := by
    intro hb
    unfold badF at hb
    rw [List.any_eq_true] at hb
    obtain ⟨c, hc, h2⟩ := hb
    rw [hrt c hc] at h2
    cases h2
  rw [linkF, if_neg hb]
  by_cases hm : 16384 < (allTo L L.length).W.length
  · rw [if_pos hm]
    unfold Cd.pv Cd.row
    (repeat refine ka ?_); refine kr ?_ ?_ (pops_end ?_)
    (repeat refine ka ?_); refine kcf ?_
    (repeat refine ka ?_); refine kx ?_; (repeat (first | with_reducible refine beh_x ?_ | with_reducible refine blk_up rfl ?_)); refine blk_here ?_; refine beh_n ?_
    (repeat refine ka ?_); refine kr ?_ ?_ (pops_end ?_)
    (repeat refine ka ?_); refine kct ?_
    (repeat refine ka ?_); refine kr ?_ ?_ ?_
    refine ps_store ?_
    refine pops_go ?_ ?_ (pops_end ?_)
    (repeat refine ka ?_); refine kret ?_; repeat (first | with_reducible refine beh_r ?_ | with_reducible refine blk_r ?_)
    refine ends_ret ?_ (retPV_2 res_cella res_tmp)
    exact gives_two (gives_agg2 .nil .nil) (.same (.v _))
  rw [if_neg hm]
  unfold Cd.pv Cd.row
  (repeat refine ka ?_); refine kr ?_ ?_ (pops_end ?_)
  (repeat refine ka ?_); refine kcf ?_
  (repeat refine ka ?_); refine kx ?_; (repeat (first | with_reducible refine beh_x ?_ | with_reducible refine blk_up rfl ?_)); refine blk_here ?_; refine beh_n ?_
  (repeat refine ka ?_); refine kr ?_ ?_ (pops_end ?_)
  (repeat refine ka ?_); refine kcf ?_
  (repeat refine ka ?_); refine ksk ?_
  (repeat refine ka ?_); refine kr ?_ ?_ ?_
  refine ps_alloc fun g1 => ?_
  refine ps_store ?_
  refine pops_nil ?_
  (repeat refine ka ?_)
  refine kvoidc 1 0 1 (i := 0) (fun gw => ?_)
  refine kvoidc 1 1 2 (i := 0) (fun gr => ?_)
  (repeat refine ka ?_); refine kr ?_ ?_ (pops_end ?_)
  (repeat refine ka ?_); refine kb ?_
  refine kw (fun s : Nat × Nat × Nat => [(0, .ro 2 false (codeRows L)), (2, .ptr 0 g0 0 0), (3, .v (.int .i64 0)), (6, .ptr 1 g1 0 0), (7, .v (.int .i64 s.1))])
    (fun s => [⟨g0, true, 2, [[.v (.slice none 0 0), .v (.slice none 0 0)]]⟩, ⟨g1, true, 2, [[.vw 2 s.2.1 0 (allTo L s.1).W.length, .vw 3 s.2.2 0 (allTo L s.1).R.length]]⟩, ⟨s.2.1, true, 1, ints .u32 (allTo L s.1).W⟩, ⟨s.2.2, true, 2, relRows (allTo L s.1).R⟩])
    (fun s => s.1 ≤ L.length) (fun s => L.length - s.1) (0, gw, gr) (by simp) (holds 4 (by repeat (first | exact .nil | refine has1 ?_))) ?_
  clear hm hal
  rintro ⟨i, gw, gr⟩ hi
  simp only at hi ⊢
  have hal := hall i hi
  by_cases h : i < L.length
  · obtain ⟨c, hc⟩ : ∃ c, L[i]? = some c := ⟨L[i], by simp [h]⟩
    have hcm := List.mem_of_getElem? hc
    have hrow := codeRows_get hc
    have hgc : L.getD i ⟨[], []⟩ = c := by rw [List.getD_eq_getElem?_getD, hc]; rfl
    have e1 : allTo L (i + 1) = ⟨(allTo L i).W ++ turnGo (4 * ((allTo L i).W.length : Nat)) c.W c.R, (allTo L i).R ++ shR (4 * ((allTo L i).W.length : Nat)) c.R⟩ := by rw [allTo, hgc]
    have hrc := hrt c hcm
    have hin := right_in c.W c.R 0 (by decide) hrc
    have hc2 := hL2 c hcm
    have hib : i * 100000 ≤ 10000000 := by omega
    have c2 := ref_more c (hL c hcm) hrc (4 * ((allTo L i).W.length : Nat)) (by omega) (by omega)
    generalize hq : allTo L i = A at *
    obtain ⟨AW, AR⟩ := A
    dsimp only at *
    have htl := turnGo_length (4 * (AW.length : Int)) c.R c.W
    generalize turnGo (4 * (AW.length : Int)) c.W c.R = V at *
    obtain ⟨W, R⟩ := c
    have hrl := relRows_length R
    unfold Cd.pv Cd.row at c2
    dsimp only at *
    have hxv : (ints .u32 V).length = W.length := by rw [ints_length, htl]
    (repeat refine ka ?_); refine kr ?_ ?_ (pops_end ?_)
    (repeat refine ka ?_); refine kct ?_
    (repeat refine ka ?_); refine ksk ?_
    (repeat refine ka ?_); refine kb ?_
    (repeat refine ka ?_); refine kr ?_ ?_ (pops_end ?_)
    (repeat refine ka ?_); refine kds [0, 1, 2, 3, 4, 5, 6, 7, 10] [8, 9, 11] ?_
    refine pstl_go ?_ ?_ (pstl_end ?_)
    refine hs_w [2, 3, 4, 5, 6, 7] [0, 1, 10] ?_ (by refine pstl_go ?_ ?_ (pstl_end ?_); exact rfl); refine pstl_go ?_ ?_ (pstl_end ?_); refine ⟨rfl, ?_⟩
    refine ps_pcall c2 ?_
    refine pops_nil ?_
    refine hs_w [0, 1] [10] ?_ (by refine pstl_go ?_ ?_ (pstl_end ?_); exact rfl); refine pstl_go ?_ ?_ (pstl_end ?_); refine ⟨rfl, ?_⟩
    refine ps_app_vw (rows' := ints .u32 (AW ++ V)) (m := (AW ++ V).length) (fun g5 => ?_) (hsrc := rfl) (hrows := ints_append _ _ _) (hm := by rw [ints_length, List.length_append]) (h63 := by simp only [maxLen, List.length_append]; omega) (hbt := by rw [List.length_append]; omega)
    refine pops_nil ?_
    refine hs_w [10] [] ?_ (by refine pstl_go ?_ ?_ (pstl_end ?_); exact rfl); refine pstl_go ?_ ?_ (pstl_end ?_); refine ⟨rfl, ?_⟩
    refine ps_store ?_
    refine pops_nil ?_
    refine hs_end ?_; refine pstl_go ?_ ?_ (pstl_end ?_); refine ⟨rfl, ?_⟩
    (repeat refine ka ?_); refine kr ?_ ?_ (pops_end ?_)
    (repeat refine ka ?_); refine kb ?_
    refine kw (fun s : Nat × Nat => [(0, .ro 2 false (codeRows L)), (2, .ptr 0 g0 0 0), (3, .v (.int .i64 0)), (6, .ptr 1 g1 0 0), (7, .v (.int .i64 i)), (8, .v (.int .i64 (4 * (AW.length : Int)))), (9, .v (.int .i64 s.1))])
      (fun s => [⟨g0, true, 2, [[.v (.slice none 0 0), .v (.slice none 0 0)]]⟩, ⟨g1, true, 2, [[.vw 2 g5 0 (AW ++ V).length, .vw 3 s.2 0 (AR.length + s.1)]]⟩, ⟨g5, true, 1, ints .u32 (AW ++ V)⟩, ⟨s.2, true, 2, relRows (AR ++ shR (4 * (AW.length : Int)) (R.take s.1))⟩])
      (fun s => s.1 ≤ R.length) (fun s => R.length - s.1) (0, gr) (by simp) (by simp only [List.take_zero, shR, List.map_nil, List.append_nil, Nat.add_zero]; exact (holds 4 (by repeat (first | exact .nil | refine has1 ?_)))) ?_
    rintro ⟨k, gr⟩ hk
    simp only at hk ⊢
    have hsl : (AR ++ shR (4 * (AW.length : Int)) (R.take k)).length = AR.length + k := by rw [List.length_append, shR, List.length_map, List.length_take]; omega
    by_cases hkr : k < R.length
    · obtain ⟨r, hr⟩ : ∃ r, R[k]? = some r := ⟨R[k], by simp [hkr]⟩
      have hrr := relRows_get hr
      have hri := (hin r (List.mem_of_getElem? hr)).1
      have hr0 : 0 ≤ r.1 ∧ r.1 / 4 < W.length := ⟨hri.1, by have := hri.2; split at this <;> omega⟩
      have hst : AR ++ shR (4 * (AW.length : Int)) (R.take (k + 1)) = AR ++ shR (4 * (AW.length : Int)) (R.take k) ++ [(r.1 + 4 * (AW.length : Int), r.2)] := by
        have h2 := List.getElem?_eq_some_iff.1 hr
        rw [List.take_succ_eq_append_getElem hkr, h2.2]
        simp [shR]
      have hst2 := congrArg relRows hst
      rw [← relRows_snoc] at hst2
      generalize AR ++ shR (4 * (AW.length : Int)) (R.take k) = X at *
      have hXl := relRows_length X
      (repeat refine ka ?_); refine kr ?_ ?_ (pops_end ?_)
      (repeat refine ka ?_); refine kct ?_
      (repeat refine ka ?_); refine ksk ?_
      (repeat refine ka ?_); refine kb ?_
      (repeat refine ka ?_); refine kds [0, 1, 2, 3, 4, 5, 6, 7, 8, 9, 10, 11, 12, 13, 14, 15, 16, 17, 18, 19, 20, 21, 22, 25] [23, 24, 26] ?_
      refine pstl_go ?_ ?_ (pstl_end ?_)
      refine hs_w [2, 3, 4, 5, 6, 7, 8, 9, 10, 11, 12, 13, 14, 15, 16, 17, 18, 19, 20, 21, 22] [0, 1, 25] ?_ (by refine pstl_go ?_ ?_ (pstl_end ?_); exact rfl); refine pstl_go ?_ ?_ (pstl_end ?_); refine ⟨rfl, ?_⟩
      refine ps_lit fun g7 => ?_
      refine pops_nil ?_
      refine hs_w [0, 1] [25] ?_ (by refine pstl_go ?_ ?_ (pstl_end ?_); exact rfl); refine pstl_go ?_ ?_ (pstl_end ?_); refine ⟨rfl, ?_⟩
      refine ps_app_vw (rows' := relRows (AR ++ shR (4 * (AW.length : Int)) (R.take (k + 1)))) (m := AR.length + (k + 1)) (fun g8 => ?_) (hrows := hst2.symm) (hlen := by rw [hXl, hsl]) (hm := by simp; omega)
      refine pops_nil ?_
      refine hs_w [25] [] ?_ (by refine pstl_go ?_ ?_ (pstl_end ?_); exact rfl); refine pstl_go ?_ ?_ (pstl_end ?_); refine ⟨rfl, ?_⟩
      refine ps_store ?_
      refine pops_nil ?_
      refine hs_end ?_; refine pstl_go ?_ ?_ (pstl_end ?_); refine ⟨rfl, ?_⟩
      refine kn ?_; repeat (first | with_reducible refine blk_n ?_ | with_reducible refine beh_n ?_)
      (repeat refine ka ?_); refine kr ?_ ?_ (pops_end ?_)
      refine kn ?_; repeat (first | with_reducible refine blk_n ?_ | with_reducible refine beh_n ?_)
      exact ⟨(k + 1, g8), by simp only; omega, by simp only; omega, (holds 4 (by repeat (first | exact .nil | refine has1 ?_)))⟩
    · obtain rfl : k = R.length := by omega
      rw [List.take_length] at hsl ⊢
      (repeat refine ka ?_); refine kr ?_ ?_ (pops_end ?_)
      (repeat refine ka ?_); refine kcf ?_
      (repeat refine ka ?_); refine kx ?_; (repeat (first | with_reducible refine beh_x ?_ | with_reducible refine blk_up rfl ?_)); refine blk_here ?_; refine beh_n ?_
      (repeat refine ka ?_); refine kr ?_ ?_ (pops_end ?_)
      refine kn ?_; repeat (first | with_reducible refine blk_n ?_ | with_reducible refine beh_n ?_)
      refine ⟨(i + 1, g5, gr), by simp only; omega, by simp only; omega, ?_⟩
      simp only [e1, hsl]
      exact (holds 4 (by repeat (first | exact .nil | refine has1 ?_)))
  · obtain rfl : i = L.length := by omega
    generalize allTo L L.length = A at *
    obtain ⟨AW, AR⟩ := A
    dsimp only at *
    have hrl := relRows_length AR
    (repeat refine ka ?_); refine kr ?_ ?_ (pops_end ?_)
    (repeat refine ka ?_); refine kcf ?_
    (repeat refine ka ?_); refine kx ?_; (repeat (first | with_reducible refine beh_x ?_ | with_reducible refine blk_up rfl ?_)); refine blk_here ?_; refine beh_n ?_
    (repeat refine ka ?_); refine kr ?_ ?_ ?_
    refine ps_store ?_
    refine pops_go ?_ ?_ (pops_end ?_)
    (repeat refine ka ?_); refine kret ?_; repeat (first | with_reducible refine beh_r ?_ | with_reducible refine blk_r ?_)
    refine ends_ret ?_ (retPV_2 res_cella res_tmp)
    exact gives_two (gives_agg2 (gives_ints rfl rfl rfl) (gives_rows rfl rfl hrl (relRows_pure _))) (.same (.v _))
end Go.Proofs.Ytjbbomchmacdjaa.Pv
