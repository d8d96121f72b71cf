-- carapacelaw16.awake.
import Derived.Test.YteocmeidkdhmiaaCoG
import Derived.Test.YteocmeidkdhmiaaSameB
namespace Go.Proofs.Yteocmeidkdhmiaa.Pv
set_option linter.all false
open Go.RowKit Go.Proofs
set_option maxRecDepth 100000
set_option maxHeartbeats 4000000
/-- A cipher of a key and a nonce: both functions make the same, and undo it. -/
theorem cipher (kl nl : List Int) (h16 : kl.length = 16) (ho : Oct kl) (h2 : nl.length = 2) (hu : ∀ x ∈ nl, U32 x) : ∃ st : List Int → List Int, (∀ l, Oct l → Oct (st l) ∧ (st l).length = l.length ∧ st (st l) = l) ∧
    (∀ l, l.length ≤ 1000000 → PCall Try.prog 29 [.agg (ci .u8 kl), .agg (ci .u32 nl), .ro 1 false (ints .u8 l)] (.ro 1 false (ints .u8 (st l)))) ∧
    (∀ l, l.length ≤ 1000000 → PCall Try.prog 22 [.agg (ci .u8 kl), .agg (ci .u32 nl), .ro 1 false (ints .u8 l)] (.ro 1 false (ints .u8 (st l)))) := by
  match kl, h16, nl, h2 with
  | [k0, k1, k2, k3, k4, k5, k6, k7, k8, k9, k10, k11, k12, k13, k14, k15], _, [n0, n1], _ =>
    obtain ⟨B, hB, hC⟩ := blocks k0 k1 k2 k3 k4 k5 k6 k7 k8 k9 k10 k11 k12 k13 k14 k15 ho
    have u0 := hu n0 (by simp)
    have u1 := hu n1 (by simp)
    exact ⟨fun l => pre (xb B n0 n1 0 l) l.length, fun l hl => ⟨pre_oct B n0 n1 l hl, pre_length _ _, pre_twice B n0 n1 l hl⟩,
      fun l hl => stream_ok k0 k1 k2 k3 k4 k5 k6 k7 k8 k9 k10 k11 k12 k13 k14 k15 n0 n1 B hB u0 u1 l hl, fun l hl => rstream_ok k0 k1 k2 k3 k4 k5 k6 k7 k8 k9 k10 k11 k12 k13 k14 k15 n0 n1 B hC u0 u1 l hl⟩
theorem lend_agg2 {S : List Blk} {T : List Nat} {a b c d : PV} (h : Lend S T a c) (k : Lend S T b d) : Lend S T (.agg [a, b]) (.agg [c, d]) := .agg rfl fun i x y hx hy => by
  match i, hx, hy with
  | 0, hx, hy => simp at hx hy; subst hx hy; exact h
  | 1, hx, hy => simp at hx hy; subst hx hy; exact k
  | i + 2, hx, hy => simp at hx
theorem co_awake : PCall Try.prog 6 [] (.v (.bool true)) := by
  obtain ⟨st, hst, hs, _⟩ := cipher (List.replicate 16 0) [0, 0] rfl (by decide) rfl (by intro x hx; simp at hx; subst hx; exact ⟨by decide, by decide⟩)
  have hb : Oct [1, 2, 3, 4, 5, 6, 7, 7, 7] := by decide
  obtain ⟨q1, q2⟩ := c4_ok ⟨true, 1, true, true, true⟩ hb
  obtain ⟨p1, p2⟩ := c3_ok ⟨true, 1, true, true, true⟩ hb
  have l9 : ([1, 2, 3, 4, 5, 6, 7, 7, 7] : List Int).length = 9 := rfl
  have cc := cback_cput ⟨true, 1, true, true, true⟩ st hb (by decide) rfl (fun l hl => (hst l hl).2)
  have c1 := cput_ok ⟨true, 1, true, true, true⟩ (ci .u8 (List.replicate 16 0)) (ci .u32 [0, 0]) rfl rfl st _ hb (by decide) rfl (fun l h1 h2 => hs l h2)
  have hL5 : c5 ⟨true, 1, true, true, true⟩ st [1, 2, 3, 4, 5, 6, 7, 7, 7] = st (c4 ⟨true, 1, true, true, true⟩ [1, 2, 3, 4, 5, 6, 7, 7, 7]) := rfl
  have s5 := hst _ q1
  have he1 : e1 ⟨true, 1, true, true, true⟩ st (c5 ⟨true, 1, true, true, true⟩ st [1, 2, 3, 4, 5, 6, 7, 7, 7]) = c4 ⟨true, 1, true, true, true⟩ [1, 2, 3, 4, 5, 6, 7, 7, 7] := by
    show st (c5 _ st _) = _
    rw [hL5, s5.2.2]
  have c2 := cback_ok ⟨true, 1, true, true, true⟩ (ci .u8 (List.replicate 16 0)) (ci .u32 [0, 0]) rfl rfl (c5 ⟨true, 1, true, true, true⟩ st [1, 2, 3, 4, 5, 6, 7, 7, 7]) (c3 ⟨true, 1, true, true, true⟩ [1, 2, 3, 4, 5, 6, 7, 7, 7]).length 9 st (by rw [hL5]; exact s5.1) (by rw [hL5, s5.2.1]; omega) (by rw [he1]; exact ⟨q1, by omega⟩) (hs _ (by rw [hL5, s5.2.1]; omega))
  have cc' : cback ⟨true, 1, true, true, true⟩ st (c3 ⟨true, 1, true, true, true⟩ [1, 2, 3, 4, 5, 6, 7, 7, 7]).length 9 (c5 ⟨true, 1, true, true, true⟩ st [1, 2, 3, 4, 5, 6, 7, 7, 7]) = ([1, 2, 3, 4, 5, 6, 7, 7, 7], 0) := cc
  rw [cc'] at c2
  have c3' := sameb_ok [1, 2, 3, 4, 5, 6, 7, 7, 7] [1, 2, 3, 4, 5, 6, 7, 7, 7] (by decide) (by decide)
  rw [decide_eq_true rfl] at c3'
  have c4' := cput_bad1 ⟨false, 256, false, false, false⟩ (ci .u8 (List.replicate 16 0)) (ci .u32 [0, 0]) rfl rfl [] rfl
  have c5' := cback_ok ⟨false, 0, false, false, false⟩ (ci .u8 (List.replicate 16 0)) (ci .u32 [0, 0]) rfl rfl [] 0 1 st (by decide) (by decide) (by show Oct [] ∧ ([] : List Int).length ≤ 1000000; exact ⟨by decide, by decide⟩) (hs [] (by decide))
  have e5' : cback ⟨false, 0, false, false, false⟩ st 0 1 [] = ([], 2) := rfl
  rw [e5'] at c5'
  have c6 := byte_ok ⟨true, 1, true, true, true⟩
  rw [show byteTo ⟨true, 1, true, true, true⟩ 4 = 15 from rfl] at c6
  have c7 := right_ok ⟨true, 1, true, true, true⟩
  rw [show Op5.right ⟨true, 1, true, true, true⟩ = true from rfl] at c7
  clear hL5 s5 he1 cc cc' q1 q2 p1 p2 hst hs
  generalize c5 ⟨true, 1, true, true, true⟩ st [1, 2, 3, 4, 5, 6, 7, 7, 7] = L5 at *
  generalize (c3 ⟨true, 1, true, true, true⟩ [1, 2, 3, 4, 5, 6, 7, 7, 7]).length = L3 at *
  refine pcall_mk Try.func6 rfl [.tmp 0] Try.results6 74 rfl (tk_start ?_)
  (repeat refine ka ?_); refine kr ?_ ?_ (pops_end ?_)
  (repeat refine ka ?_); refine kr ?_ ?_ ?_
  refine ps_alloc fun g0 => ?_
  refine ps_store ?_
  refine pops_nil ?_
  (repeat refine ka ?_); refine kr ?_ ?_ ?_
  refine ps_litf (rows := ints .u8 [1, 2, 3, 4, 5, 6, 7, 7, 7]) (fun g1 => ?_) (fun row hr x hx => by
    obtain ⟨b, _, rfl⟩ := List.mem_map.1 hr
    simp at hx
    subst hx
    exact .v _)
  refine pops_go ?_ ?_ (pops_end ?_)
  (repeat refine ka ?_); refine kr ?_ ?_ ?_
  refine ps_pcall c1 ?_
  refine pops_go ?_ ?_ ?_
  refine ps_alloc fun g2 => ?_
  refine ps_store ?_
  refine pops_go ?_ ?_ (pops_end ?_)
  (repeat refine ka ?_); refine kr ?_ ?_ ?_
  refine ps_pcall c2 ?_
  refine pops_go ?_ ?_ (pops_end ?_)
  (repeat refine ka ?_); refine kr ?_ ?_ ?_
  refine ps_pcall c3' ?_
  refine pops_go ?_ ?_ (pops_end ?_)
  (repeat refine ka ?_); refine kr ?_ ?_ ?_
  refine ps_rcall [] c4' (.cons (.same (by exact PureC.h (x := .agg _))) (.cons (.same (by exact PureC.h (x := .agg _))) (.cons (.same (by exact PureC.h (x := .agg _))) (.cons .nil .nil)))) ?_ (.inr (by simp))
  refine pops_go ?_ ?_ ?_
  refine ps_alloc fun g3 => ?_
  refine ps_store ?_
  refine pops_go ?_ ?_ (pops_end ?_)
  (repeat refine ka ?_); refine kr ?_ ?_ ?_
  refine ps_rcall [] c5' (.cons (.same (by exact PureC.h (x := .agg _))) (.cons (.same (by exact PureC.h (x := .agg _))) (.cons (.same (by exact PureC.h (x := .agg _))) (.cons (lend_agg2 .nil (.same (.v _))) (.cons (.same (.v _)) .nil))))) ?_ (.inr (by simp))
  refine pops_go ?_ ?_ (pops_end ?_)
  (repeat' (first | refine ka ?_ | refine ksk ?_ | (refine kr ?_ ?_ ?_; first | refine pops_end ?_ | (refine ps_split (fun hb => ?_) (fun hb => ?_); (fail_if_success (guard_hyp hb : true = true)); (fail_if_success (guard_hyp hb : false = true)); all_goals (have hp := hb; (try simp only [decide_eq_true_eq, Bool.eq_false_iff, ne_eq, Bool.not_eq_true', Bool.not_eq_false', Bool.and_eq_true, Bool.or_eq_true, decide_true, decide_false, Bool.and_true, Bool.true_and, Bool.false_eq_true, not_false_eq_true, true_and, and_true] at hp); (try rw [hb]); (try clear hb))) | refine ps_pcall (c6) ?_ | refine ps_pcall_g (c6) ?_ | refine ps_pcall (c7) ?_ | refine ps_pcall_g (c7) ?_ | refine ps_alloc fun g => ?_ | refine ps_box fun g => ?_ | refine ps_store ?_ | refine ps_lit fun g => ?_ | refine pops_nil ?_ | skip) | (refine kd ?_ ?_ ?_; first | refine pstl_end ?_ | (refine pd_split (fun hb => ?_) (fun hb => ?_); (fail_if_success (guard_hyp hb : true = true)); (fail_if_success (guard_hyp hb : false = true)); all_goals (have hp := hb; (try simp only [decide_eq_true_eq, Bool.eq_false_iff, ne_eq, Bool.not_eq_true', Bool.not_eq_false', Bool.and_eq_true, Bool.or_eq_true, decide_true, decide_false, Bool.and_true, Bool.true_and, Bool.false_eq_true, not_false_eq_true, true_and, and_true] at hp); (try rw [hb]); (try clear hb))) | refine pd_pcall (c6) ?_ | refine pd_pcall_g (c6) ?_ | refine pd_pcall (c7) ?_ | refine pd_pcall_g (c7) ?_ | skip) | refine kct ?_ | refine kcf ?_ | (refine kcs (fun hb => ?_) (fun hb => ?_) <;> (have hp := hb; (try simp only [decide_eq_true_eq, Bool.eq_false_iff, ne_eq, Bool.not_eq_true', Bool.not_eq_false', Bool.and_eq_true, Bool.or_eq_true, decide_true, decide_false, Bool.and_true, Bool.true_and, Bool.false_eq_true, not_false_eq_true, true_and, and_true] at hp); (try rw [hb]); (try clear hb))) | (refine kret ?_; repeat (first | with_reducible refine beh_r ?_ | with_reducible refine blk_r ?_)) | refine kb ?_ | (refine ps_split (fun hb => ?_) (fun hb => ?_); (fail_if_success (guard_hyp hb : true = true)); (fail_if_success (guard_hyp hb : false = true)); all_goals (have hp := hb; (try simp only [decide_eq_true_eq, Bool.eq_false_iff, ne_eq, Bool.not_eq_true', Bool.not_eq_false', Bool.and_eq_true, Bool.or_eq_true, decide_true, decide_false, Bool.and_true, Bool.true_and, Bool.false_eq_true, not_false_eq_true, true_and, and_true] at hp); (try rw [hb]); (try clear hb))) | refine ps_pcall (c6) ?_ | refine ps_pcall_g (c6) ?_ | refine ps_pcall (c7) ?_ | refine ps_pcall_g (c7) ?_ | refine ps_alloc fun g => ?_ | refine ps_box fun g => ?_ | refine ps_store ?_ | refine ps_lit fun g => ?_ | refine pops_nil ?_ | (refine pd_split (fun hb => ?_) (fun hb => ?_); (fail_if_success (guard_hyp hb : true = true)); (fail_if_success (guard_hyp hb : false = true)); all_goals (have hp := hb; (try simp only [decide_eq_true_eq, Bool.eq_false_iff, ne_eq, Bool.not_eq_true', Bool.not_eq_false', Bool.and_eq_true, Bool.or_eq_true, decide_true, decide_false, Bool.and_true, Bool.true_and, Bool.false_eq_true, not_false_eq_true, true_and, and_true] at hp); (try rw [hb]); (try clear hb))) | refine pd_pcall (c6) ?_ | refine pd_pcall_g (c6) ?_ | refine pd_pcall (c7) ?_ | refine pd_pcall_g (c7) ?_ | (refine pops_go ?_ ?_ ?_; first | refine pops_end ?_ | (refine ps_split (fun hb => ?_) (fun hb => ?_); (fail_if_success (guard_hyp hb : true = true)); (fail_if_success (guard_hyp hb : false = true)); all_goals (have hp := hb; (try simp only [decide_eq_true_eq, Bool.eq_false_iff, ne_eq, Bool.not_eq_true', Bool.not_eq_false', Bool.and_eq_true, Bool.or_eq_true, decide_true, decide_false, Bool.and_true, Bool.true_and, Bool.false_eq_true, not_false_eq_true, true_and, and_true] at hp); (try rw [hb]); (try clear hb))) | refine ps_pcall (c6) ?_ | refine ps_pcall_g (c6) ?_ | refine ps_pcall (c7) ?_ | refine ps_pcall_g (c7) ?_ | refine ps_alloc fun g => ?_ | refine ps_box fun g => ?_ | refine ps_store ?_ | refine ps_lit fun g => ?_ | refine pops_nil ?_) | (refine pstl_go ?_ ?_ ?_; first | refine pstl_end ?_ | (refine pd_split (fun hb => ?_) (fun hb => ?_); (fail_if_success (guard_hyp hb : true = true)); (fail_if_success (guard_hyp hb : false = true)); all_goals (have hp := hb; (try simp only [decide_eq_true_eq, Bool.eq_false_iff, ne_eq, Bool.not_eq_true', Bool.not_eq_false', Bool.and_eq_true, Bool.or_eq_true, decide_true, decide_false, Bool.and_true, Bool.true_and, Bool.false_eq_true, not_false_eq_true, true_and, and_true] at hp); (try rw [hb]); (try clear hb))) | refine pd_pcall (c6) ?_ | refine pd_pcall_g (c6) ?_ | refine pd_pcall (c7) ?_ | refine pd_pcall_g (c7) ?_) | (refine kn ?_; repeat (first | with_reducible refine blk_n ?_ | with_reducible refine beh_n ?_)) | (refine kx ?_; (repeat (first | with_reducible refine beh_x ?_ | with_reducible refine blk_up rfl ?_)); refine blk_here ?_; refine beh_n ?_)))
  refine ends_ret ?_ retPV_one
  rfl
end Go.Proofs.Yteocmeidkdhmiaa.Pv
