-- carapaceref17.Bytes.
import Derived.Test.YtfjodfeoncoaoaaImH
namespace Go.Proofs.Ytfjodfeoncoaoaa.Pv
set_option linter.all false
open Go.RowKit Go.Proofs
set_option maxRecDepth 100000
set_option maxHeartbeats 4000000
theorem rbytes_ok (p : List Int) (x : Img) (hx : x.Ok) (hpl : p.length ≤ 1000000000000000) (hs : x.stub.length ≤ 1000000000) (hp : x.pay.length ≤ 1000000000) (hd : x.dir.length ≤ 1000000000) : PCall Try.prog 10 [.ro 1 false (ints .u8 p), .agg x.cells] (.tup [.ro 1 false (ints .u8 (bytesF p x).1), .v (.int .i64 (bytesF p x).2)]) := by
  have hrt := iright17_ok x hs hp
  have hhd := rhead_ok x hx hs hp hd
  have hoc := x.all_oct hx
  have hal := x.all_length
  have hhl := x.hdr_length
  have hall : x.all = ((x.hdr ++ x.stub) ++ x.pay) ++ x.dir := by simp [Img.all]
  have hbb : x.bytes p = (((p ++ x.all) ++ le4 (x.all.length : Int)) ++ le4 (crc x.all)) ++ [49, 88, 70, 83] := by simp [Img.bytes]
  have hcr := crc_range x.all
  unfold bytesF
  rw [hbb]
  clear hbb
  generalize x.right = R at *
  generalize x.hdr = H at *
  obtain ⟨⟨bcj, del, lz, rng, cry⟩, count, mid, raw, sum, n0, n1, stub, pay, dir⟩ := x
  unfold Img.cells at *
  simp only at hrt hhd hs hp hd hall hal ⊢
  generalize Img.all ⟨⟨bcj, del, lz, rng, cry⟩, count, mid, raw, sum, n0, n1, stub, pay, dir⟩ = A at *
  cases R with
  | false =>
    refine pcall_mkg Try.func10 rfl [.tmp 4, .tmp 5] Try.results10 56 rfl (tk_start ?_)
    (repeat' (first | refine ka ?_ | refine ksk ?_ | (refine kr ?_ ?_ ?_; first | refine pops_end ?_ | (refine ps_split (fun hb => ?_) (fun hb => ?_); (fail_if_success (guard_hyp hb : true = true)); (fail_if_success (guard_hyp hb : false = true)); all_goals (have hp := hb; (try simp only [decide_eq_true_eq, Bool.eq_false_iff, ne_eq, Bool.not_eq_true', Bool.not_eq_false', Bool.and_eq_true, Bool.or_eq_true, decide_true, decide_false, Bool.and_true, Bool.true_and, Bool.false_eq_true, not_false_eq_true, true_and, and_true] at hp); (try rw [hb]); (try clear hb))) | refine ps_pcall (hrt) ?_ | refine ps_pcall_g (hrt) ?_ | refine ps_alloc fun g => ?_ | refine ps_box fun g => ?_ | refine ps_store ?_ | refine ps_lit fun g => ?_ | refine pops_nil ?_ | skip) | (refine kd ?_ ?_ ?_; first | refine pstl_end ?_ | (refine pd_split (fun hb => ?_) (fun hb => ?_); (fail_if_success (guard_hyp hb : true = true)); (fail_if_success (guard_hyp hb : false = true)); all_goals (have hp := hb; (try simp only [decide_eq_true_eq, Bool.eq_false_iff, ne_eq, Bool.not_eq_true', Bool.not_eq_false', Bool.and_eq_true, Bool.or_eq_true, decide_true, decide_false, Bool.and_true, Bool.true_and, Bool.false_eq_true, not_false_eq_true, true_and, and_true] at hp); (try rw [hb]); (try clear hb))) | refine pd_pcall (hrt) ?_ | refine pd_pcall_g (hrt) ?_ | skip) | refine kct ?_ | refine kcf ?_ | (refine kcs (fun hb => ?_) (fun hb => ?_) <;> (have hp := hb; (try simp only [decide_eq_true_eq, Bool.eq_false_iff, ne_eq, Bool.not_eq_true', Bool.not_eq_false', Bool.and_eq_true, Bool.or_eq_true, decide_true, decide_false, Bool.and_true, Bool.true_and, Bool.false_eq_true, not_false_eq_true, true_and, and_true] at hp); (try rw [hb]); (try clear hb))) | (refine kret ?_; repeat (first | with_reducible refine beh_r ?_ | with_reducible refine blk_r ?_)) | refine kb ?_ | (refine ps_split (fun hb => ?_) (fun hb => ?_); (fail_if_success (guard_hyp hb : true = true)); (fail_if_success (guard_hyp hb : false = true)); all_goals (have hp := hb; (try simp only [decide_eq_true_eq, Bool.eq_false_iff, ne_eq, Bool.not_eq_true', Bool.not_eq_false', Bool.and_eq_true, Bool.or_eq_true, decide_true, decide_false, Bool.and_true, Bool.true_and, Bool.false_eq_true, not_false_eq_true, true_and, and_true] at hp); (try rw [hb]); (try clear hb))) | refine ps_pcall (hrt) ?_ | refine ps_pcall_g (hrt) ?_ | refine ps_alloc fun g => ?_ | refine ps_box fun g => ?_ | refine ps_store ?_ | refine ps_lit fun g => ?_ | refine pops_nil ?_ | (refine pd_split (fun hb => ?_) (fun hb => ?_); (fail_if_success (guard_hyp hb : true = true)); (fail_if_success (guard_hyp hb : false = true)); all_goals (have hp := hb; (try simp only [decide_eq_true_eq, Bool.eq_false_iff, ne_eq, Bool.not_eq_true', Bool.not_eq_false', Bool.and_eq_true, Bool.or_eq_true, decide_true, decide_false, Bool.and_true, Bool.true_and, Bool.false_eq_true, not_false_eq_true, true_and, and_true] at hp); (try rw [hb]); (try clear hb))) | refine pd_pcall (hrt) ?_ | refine pd_pcall_g (hrt) ?_ | (refine pops_go ?_ ?_ ?_; first | refine pops_end ?_ | (refine ps_split (fun hb => ?_) (fun hb => ?_); (fail_if_success (guard_hyp hb : true = true)); (fail_if_success (guard_hyp hb : false = true)); all_goals (have hp := hb; (try simp only [decide_eq_true_eq, Bool.eq_false_iff, ne_eq, Bool.not_eq_true', Bool.not_eq_false', Bool.and_eq_true, Bool.or_eq_true, decide_true, decide_false, Bool.and_true, Bool.true_and, Bool.false_eq_true, not_false_eq_true, true_and, and_true] at hp); (try rw [hb]); (try clear hb))) | refine ps_pcall (hrt) ?_ | refine ps_pcall_g (hrt) ?_ | refine ps_alloc fun g => ?_ | refine ps_box fun g => ?_ | refine ps_store ?_ | refine ps_lit fun g => ?_ | refine pops_nil ?_) | (refine pstl_go ?_ ?_ ?_; first | refine pstl_end ?_ | (refine pd_split (fun hb => ?_) (fun hb => ?_); (fail_if_success (guard_hyp hb : true = true)); (fail_if_success (guard_hyp hb : false = true)); all_goals (have hp := hb; (try simp only [decide_eq_true_eq, Bool.eq_false_iff, ne_eq, Bool.not_eq_true', Bool.not_eq_false', Bool.and_eq_true, Bool.or_eq_true, decide_true, decide_false, Bool.and_true, Bool.true_and, Bool.false_eq_true, not_false_eq_true, true_and, and_true] at hp); (try rw [hb]); (try clear hb))) | refine pd_pcall (hrt) ?_ | refine pd_pcall_g (hrt) ?_) | (refine kn ?_; repeat (first | with_reducible refine blk_n ?_ | with_reducible refine beh_n ?_)) | (refine kx ?_; (repeat (first | with_reducible refine beh_x ?_ | with_reducible refine blk_up rfl ?_)); refine blk_here ?_; refine beh_n ?_)))
    refine ends_ret ?_ retPV_two
    exact gives_two .nil (.same (.v _))
  | true =>
    by_cases g : 1048576 < (p.length : Int) + stub.length + pay.length + dir.length + 56
    · simp only [if_true, if_pos g]
      refine pcall_mkg Try.func10 rfl [.tmp 4, .tmp 5] Try.results10 56 rfl (tk_start ?_)
      (repeat' (first | refine ka ?_ | refine ksk ?_ | (refine kr ?_ ?_ ?_; first | refine pops_end ?_ | (refine ps_split (fun hb => ?_) (fun hb => ?_); (fail_if_success (guard_hyp hb : true = true)); (fail_if_success (guard_hyp hb : false = true)); all_goals (have hp := hb; (try simp only [decide_eq_true_eq, Bool.eq_false_iff, ne_eq, Bool.not_eq_true', Bool.not_eq_false', Bool.and_eq_true, Bool.or_eq_true, decide_true, decide_false, Bool.and_true, Bool.true_and, Bool.false_eq_true, not_false_eq_true, true_and, and_true] at hp); (try rw [hb]); (try clear hb))) | refine ps_pcall (hrt) ?_ | refine ps_pcall_g (hrt) ?_ | refine ps_alloc fun g => ?_ | refine ps_box fun g => ?_ | refine ps_store ?_ | refine ps_lit fun g => ?_ | refine pops_nil ?_ | skip) | (refine kd ?_ ?_ ?_; first | refine pstl_end ?_ | (refine pd_split (fun hb => ?_) (fun hb => ?_); (fail_if_success (guard_hyp hb : true = true)); (fail_if_success (guard_hyp hb : false = true)); all_goals (have hp := hb; (try simp only [decide_eq_true_eq, Bool.eq_false_iff, ne_eq, Bool.not_eq_true', Bool.not_eq_false', Bool.and_eq_true, Bool.or_eq_true, decide_true, decide_false, Bool.and_true, Bool.true_and, Bool.false_eq_true, not_false_eq_true, true_and, and_true] at hp); (try rw [hb]); (try clear hb))) | refine pd_pcall (hrt) ?_ | refine pd_pcall_g (hrt) ?_ | skip) | refine kct ?_ | refine kcf ?_ | (refine kcs (fun hb => ?_) (fun hb => ?_) <;> (have hp := hb; (try simp only [decide_eq_true_eq, Bool.eq_false_iff, ne_eq, Bool.not_eq_true', Bool.not_eq_false', Bool.and_eq_true, Bool.or_eq_true, decide_true, decide_false, Bool.and_true, Bool.true_and, Bool.false_eq_true, not_false_eq_true, true_and, and_true] at hp); (try rw [hb]); (try clear hb))) | (refine kret ?_; repeat (first | with_reducible refine beh_r ?_ | with_reducible refine blk_r ?_)) | refine kb ?_ | (refine ps_split (fun hb => ?_) (fun hb => ?_); (fail_if_success (guard_hyp hb : true = true)); (fail_if_success (guard_hyp hb : false = true)); all_goals (have hp := hb; (try simp only [decide_eq_true_eq, Bool.eq_false_iff, ne_eq, Bool.not_eq_true', Bool.not_eq_false', Bool.and_eq_true, Bool.or_eq_true, decide_true, decide_false, Bool.and_true, Bool.true_and, Bool.false_eq_true, not_false_eq_true, true_and, and_true] at hp); (try rw [hb]); (try clear hb))) | refine ps_pcall (hrt) ?_ | refine ps_pcall_g (hrt) ?_ | refine ps_alloc fun g => ?_ | refine ps_box fun g => ?_ | refine ps_store ?_ | refine ps_lit fun g => ?_ | refine pops_nil ?_ | (refine pd_split (fun hb => ?_) (fun hb => ?_); (fail_if_success (guard_hyp hb : true = true)); (fail_if_success (guard_hyp hb : false = true)); all_goals (have hp := hb; (try simp only [decide_eq_true_eq, Bool.eq_false_iff, ne_eq, Bool.not_eq_true', Bool.not_eq_false', Bool.and_eq_true, Bool.or_eq_true, decide_true, decide_false, Bool.and_true, Bool.true_and, Bool.false_eq_true, not_false_eq_true, true_and, and_true] at hp); (try rw [hb]); (try clear hb))) | refine pd_pcall (hrt) ?_ | refine pd_pcall_g (hrt) ?_ | (refine pops_go ?_ ?_ ?_; first | refine pops_end ?_ | (refine ps_split (fun hb => ?_) (fun hb => ?_); (fail_if_success (guard_hyp hb : true = true)); (fail_if_success (guard_hyp hb : false = true)); all_goals (have hp := hb; (try simp only [decide_eq_true_eq, Bool.eq_false_iff, ne_eq, Bool.not_eq_true', Bool.not_eq_false', Bool.and_eq_true, Bool.or_eq_true, decide_true, decide_false, Bool.and_true, Bool.true_and, Bool.false_eq_true, not_false_eq_true, true_and, and_true] at hp); (try rw [hb]); (try clear hb))) | refine ps_pcall (hrt) ?_ | refine ps_pcall_g (hrt) ?_ | refine ps_alloc fun g => ?_ | refine ps_box fun g => ?_ | refine ps_store ?_ | refine ps_lit fun g => ?_ | refine pops_nil ?_) | (refine pstl_go ?_ ?_ ?_; first | refine pstl_end ?_ | (refine pd_split (fun hb => ?_) (fun hb => ?_); (fail_if_success (guard_hyp hb : true = true)); (fail_if_success (guard_hyp hb : false = true)); all_goals (have hp := hb; (try simp only [decide_eq_true_eq, Bool.eq_false_iff, ne_eq, Bool.not_eq_true', Bool.not_eq_false', Bool.and_eq_true, Bool.or_eq_true, decide_true, decide_false, Bool.and_true, Bool.true_and, Bool.false_eq_true, not_false_eq_true, true_and, and_true] at hp); (try rw [hb]); (try clear hb))) | refine pd_pcall (hrt) ?_ | refine pd_pcall_g (hrt) ?_) | (refine kn ?_; repeat (first | with_reducible refine blk_n ?_ | with_reducible refine beh_n ?_)) | (refine kx ?_; (repeat (first | with_reducible refine beh_x ?_ | with_reducible refine blk_up rfl ?_)); refine blk_here ?_; refine beh_n ?_)))
      refine ends_ret ?_ retPV_two
      exact gives_two .nil (.same (.v _))
    · simp only [if_true, if_neg g]
      refine pcall_mkg Try.func10 rfl [.tmp 4, .tmp 5] Try.results10 56 rfl (tk_start ?_)
      (repeat refine ka ?_); refine kr ?_ ?_ ?_
      refine ps_box (fun gx => ?_)
      refine pops_go ?_ ?_ (pops_end ?_)
      (repeat refine ka ?_); refine kr ?_ ?_ ?_
      refine ps_pcall hrt ?_
      refine pops_go ?_ ?_ (pops_end ?_)
      (repeat refine ka ?_); refine kcf ?_
      (repeat refine ka ?_); refine ksk ?_
      (repeat refine ka ?_); refine kr ?_ ?_ (pops_end ?_)
      (repeat refine ka ?_); refine kcf ?_
      (repeat refine ka ?_); refine ksk ?_
      (repeat refine ka ?_); refine kds [0, 2, 3, 5, 6, 8, 9] [1, 4, 7, 10, 11] ?_
      refine pstl_go ?_ ?_ (pstl_end ?_)
      refine hs_w [0] [2, 3, 5, 6, 8, 9] ?_ (by refine pstl_go ?_ ?_ (pstl_end ?_); exact rfl); refine pstl_go ?_ ?_ (pstl_end ?_); refine ⟨rfl, ?_⟩
      refine ps_fcall [] hhd ?_ (by rintro x S' ⟨gx', g', rfl, rfl⟩; exact Nat.le_of_ble_eq_true rfl)
      rintro x S' ⟨gx', g1, rfl, rfl⟩
      (intro x1 S1 hx1 hS1; simp only [List.map_cons, List.map_nil, renB, ren_ints, putB, List.set_cons_zero, List.set_cons_succ, List.cons_append, List.nil_append, List.append_nil, renL, ren, sg, List.length_cons, List.length_nil, Nat.reduceAdd, Nat.zero_add, Nat.add_zero] at hx1 hS1; subst hx1 hS1)
      refine pops_nil ?_
      refine hs_w [2, 3] [5, 6, 8, 9] ?_ (by refine pstl_go ?_ ?_ (pstl_end ?_); exact rfl); refine pstl_go ?_ ?_ (pstl_end ?_); refine ⟨rfl, ?_⟩
      refine ps_app_vw (rows' := ints .u8 (H ++ stub)) (m := 44 + stub.length) (fun g2 => ?_) (hsrc := rfl) (hrows := ints_append _ _ _) (hm := by rw [ints_length]) (hlen := by rw [ints_length, hhl])
      refine pops_nil ?_
      refine hs_w [5, 6] [8, 9] ?_ (by refine pstl_go ?_ ?_ (pstl_end ?_); exact rfl); refine pstl_go ?_ ?_ (pstl_end ?_); refine ⟨rfl, ?_⟩
      refine ps_app_vw (rows' := ints .u8 ((H ++ stub) ++ pay)) (m := 44 + stub.length + pay.length) (fun g3 => ?_) (hsrc := rfl) (hrows := ints_append _ _ _) (hm := by rw [ints_length]) (hlen := by rw [ints_length, List.length_append, hhl])
      refine pops_nil ?_
      refine hs_w [8, 9] [] ?_ (by refine pstl_go ?_ ?_ (pstl_end ?_); exact rfl); refine pstl_go ?_ ?_ (pstl_end ?_); refine ⟨rfl, ?_⟩
      refine ps_app_vw (rows' := ints .u8 (((H ++ stub) ++ pay) ++ dir)) (m := 44 + stub.length + pay.length + dir.length) (fun g4 => ?_) (hsrc := rfl) (hrows := ints_append _ _ _) (hm := by rw [ints_length]) (hlen := by rw [ints_length, List.length_append, List.length_append, hhl])
      refine pops_nil ?_
      refine hs_w [] [] ?_ (by refine pstl_go ?_ ?_ (pstl_end ?_); exact rfl); refine pstl_go ?_ ?_ (pstl_end ?_); refine ⟨rfl, ?_⟩
      refine ps_ev (p := .vw 2 g4 0 (44 + stub.length + pay.length + dir.length)) ?_ rfl
      refine pops_nil ?_
      refine hs_end ?_; refine pstl_go ?_ ?_ (pstl_end ?_); refine ⟨rfl, ?_⟩
      rw [← hall, ← hal]
      refine kfreeze 2 ?_
      refine kfzT 6 [2] (y := .ro 1 false (ints .u8 A)) ?_ (lend_ints (List.mem_singleton.2 rfl) rfl rfl rfl) (by simp)
      clear hhd hrt hx
      (repeat refine ka ?_); refine kr ?_ ?_ ?_
      refine ps_lit (fun g5 => ?_)
      refine pops_go ?_ ?_ ?_
      refine ps_app_vw (rows' := ints .u8 p) (m := p.length) (fun g6 => ?_) (hsrc := rfl) (hrows := List.nil_append _)
      refine pops_go ?_ ?_ ?_
      refine ps_app_vw (rows' := ints .u8 (p ++ A)) (m := p.length + A.length) (fun g7 => ?_) (hsrc := rfl) (hrows := ints_append _ _ _)
      refine pops_go ?_ ?_ (pops_end ?_)
      (repeat refine ka ?_); refine kr ?_ ?_ ?_
      refine ps_pcall (rnum_ok (A.length : Int) (by omega) (by omega)) ?_
      refine pops_go ?_ ?_ ?_
      refine ps_app_vw (rows' := ints .u8 ((p ++ A) ++ le4 (A.length : Int))) (m := p.length + A.length + 4) (fun g8 => ?_) (hsrc := rfl) (hrows := ints_append _ _ _) (hlen := by rw [ints_length, List.length_append])
      refine pops_go ?_ ?_ ?_
      refine ps_pcall (rsum_ok A hoc (by omega)) ?_
      refine pops_go ?_ ?_ ?_
      refine ps_pcall (rnum_ok (crc A) hcr.1 hcr.2) ?_
      refine pops_go ?_ ?_ ?_
      refine ps_app_vw (rows' := ints .u8 (((p ++ A) ++ le4 (A.length : Int)) ++ le4 (crc A))) (m := p.length + A.length + 4 + 4) (fun g9 => ?_) (hsrc := rfl) (hrows := ints_append _ _ _) (hlen := by rw [ints_length]; simp [le4_length]; omega)
      refine pops_go ?_ ?_ ?_
      refine ps_lit (fun g10 => ?_)
      refine pops_go ?_ ?_ ?_
      refine ps_cvs ?_
      refine pops_go ?_ ?_ ?_
      refine ps_app_vw (rows' := ints .u8 ((((p ++ A) ++ le4 (A.length : Int)) ++ le4 (crc A)) ++ [49, 88, 70, 83])) (m := p.length + A.length + 4 + 4 + 4) (fun g8 => ?_) (hlen := by rw [ints_length]; simp [le4_length]; omega) (hrows := by simp only [ints, List.map_append]; rfl)
      refine pops_go ?_ ?_ (pops_end ?_)
      (repeat refine ka ?_); refine kret ?_; repeat (first | with_reducible refine beh_r ?_ | with_reducible refine blk_r ?_)
      refine ends_ret ?_ retPV_two
      exact gives_two (gives_ints rfl rfl (by simp [le4_length]; omega)) (.same (.v _))
end Go.Proofs.Ytfjodfeoncoaoaa.Pv
