-- image.Same.
import Derived.Test.YtfjodfeoncoaoaaImF
import Derived.Test.YtfjodfeoncoaoaaImJ
import Derived.Test.YtfjodfeoncoaoaaSameB
namespace Go.Proofs.Ytfjodfeoncoaoaa.Pv
set_option linter.all false
open Go.RowKit Go.Proofs
set_option maxRecDepth 100000
set_option maxHeartbeats 4000000
def sameO (x y : Op5) : Prop := x.bcj = y.bcj ∧ x.del = y.del ∧ x.lz = y.lz ∧ x.rng = y.rng ∧ x.cry = y.cry
instance (x y : Op5) : Decidable (sameO x y) := by unfold sameO; infer_instance
def sameF (x y : Img) : Bool := decide (sameO x.o y.o ∧ x.count = y.count ∧ x.mid = y.mid ∧ x.raw = y.raw ∧ x.sum = y.sum ∧ x.n0 = y.n0 ∧ x.n1 = y.n1 ∧ x.stub = y.stub ∧ x.pay = y.pay ∧ x.dir = y.dir)
theorem le4_inj {a b : Int} (ha : 0 ≤ a ∧ a < 4294967296) (hb : 0 ≤ b ∧ b < 4294967296) (h : le4 a = le4 b) : a = b := by
  simp only [le4, List.cons.injEq, and_true] at h
  omega
theorem isame_ok (x y : Img) (hx : x.Ok) (hy : y.Ok) (hs : x.stub.length ≤ 1000000000) (hp : x.pay.length ≤ 1000000000) (hd : x.dir.length ≤ 1000000000) (hs2 : y.stub.length ≤ 1000000000) (hp2 : y.pay.length ≤ 1000000000) (hd2 : y.dir.length ≤ 1000000000) :
    PCall Try.prog 17 [.agg x.cells, .agg y.cells] (.v (.bool (sameF x y))) := by
  have h1 := header_ok x hx hs hp hd
  have h2 := header_ok y hy hs2 hp2 hd2
  have e0 := equal_ok x.hdr y.hdr x.hdr_oct y.hdr_oct
  have e1 := equal_ok x.stub y.stub hx.stub hy.stub
  have e2 := equal_ok x.pay y.pay hx.pay hy.pay
  have e3 := equal_ok x.dir y.dir hx.dir hy.dir
  have hhd : sameO x.o y.o → x.count = y.count → x.mid = y.mid → x.raw = y.raw → x.stub = y.stub → x.pay = y.pay → x.dir = y.dir → (x.hdr = y.hdr ↔ (x.sum = y.sum ∧ x.n0 = y.n0 ∧ x.n1 = y.n1)) := by
    intro a1 a2 a3 a4 a5 a6 a7
    have ho : x.o = y.o := by
      obtain ⟨b1, b2, b3, b4, b5⟩ := a1
      cases hxo : x.o with
      | mk c1 c2 c3 c4 c5 =>
        cases hyo : y.o with
        | mk d1 d2 d3 d4 d5 =>
          rw [hxo, hyo] at b1 b2 b3 b4 b5
          simp only at b1 b2 b3 b4 b5
          rw [b1, b2, b3, b4, b5]
    constructor
    · intro h
      unfold Img.hdr Img.words at h
      rw [ho, a2, a3, a4, a5, a6, a7] at h
      have h' := List.append_cancel_left h
      simp only [List.flatMap_cons, List.flatMap_nil, List.append_nil] at h'
      have c := fun (A B C D : List Int) (hl : A.length = B.length) (h : A ++ C = B ++ D) => List.append_inj h hl
      obtain ⟨_, h'⟩ := c _ _ _ _ rfl h'
      obtain ⟨_, h'⟩ := c _ _ _ _ rfl h'
      obtain ⟨_, h'⟩ := c _ _ _ _ rfl h'
      obtain ⟨_, h'⟩ := c _ _ _ _ rfl h'
      obtain ⟨q1, h'⟩ := c (le4 x.sum) (le4 y.sum) _ _ rfl h'
      obtain ⟨q2, h'⟩ := c (le4 x.n0) (le4 y.n0) _ _ rfl h'
      obtain ⟨q3, h'⟩ := c (le4 x.n1) (le4 y.n1) _ _ rfl h'
      exact ⟨le4_inj hx.sum hy.sum q1, le4_inj hx.n0 hy.n0 q2, le4_inj hx.n1 hy.n1 q3⟩
    · rintro ⟨b1, b2, b3⟩
      unfold Img.hdr Img.words
      rw [ho, a2, a3, a4, a5, a6, a7, b1, b2, b3]
  have hsame : ∀ b : Bool, (b = true ↔ (x.hdr = y.hdr ∧ sameO x.o y.o ∧ x.count = y.count ∧ x.mid = y.mid ∧ x.raw = y.raw ∧ x.stub = y.stub ∧ x.pay = y.pay ∧ x.dir = y.dir)) → b = sameF x y := by
    intro b hb
    have : sameF x y = true ↔ (x.hdr = y.hdr ∧ sameO x.o y.o ∧ x.count = y.count ∧ x.mid = y.mid ∧ x.raw = y.raw ∧ x.stub = y.stub ∧ x.pay = y.pay ∧ x.dir = y.dir) := by
      unfold sameF
      rw [decide_eq_true_eq]
      constructor
      · rintro ⟨a1, a2, a3, a4, s1, s2, s3, a5, a6, a7⟩
        exact ⟨(hhd a1 a2 a3 a4 a5 a6 a7).2 ⟨s1, s2, s3⟩, a1, a2, a3, a4, a5, a6, a7⟩
      · rintro ⟨h, a1, a2, a3, a4, a5, a6, a7⟩
        obtain ⟨s1, s2, s3⟩ := (hhd a1 a2 a3 a4 a5 a6 a7).1 h
        exact ⟨a1, a2, a3, a4, s1, s2, s3, a5, a6, a7⟩
    cases b <;> cases hh : sameF x y <;> simp_all
  clear hhd
  generalize sameF x y = R at *
  generalize x.hdr = HX at *
  generalize y.hdr = HY at *
  obtain ⟨⟨bcj, del, lz, rng, cry⟩, count, mid, raw, sum, n0, n1, stub, pay, dir⟩ := x
  obtain ⟨⟨bcj', del', lz', rng', cry'⟩, count', mid', raw', sum', n0', n1', stub', pay', dir'⟩ := y
  unfold Img.cells at *
  unfold sameO at hsame
  simp only at h1 h2 e0 e1 e2 e3 hsame ⊢
  clear hx hy hs hp hd hs2 hp2 hd2
  refine pcall_mk Try.func17 rfl [.tmp 4] Try.results17 59 rfl (tk_start ?_)
  (repeat' (first | refine ka ?_ | refine ksk ?_ | (refine kr ?_ ?_ ?_; first | refine pops_end ?_ | (refine ps_split (fun hb => ?_) (fun hb => ?_); (fail_if_success (guard_hyp hb : true = true)); (fail_if_success (guard_hyp hb : false = true)); all_goals (have hp := hb; (try simp only [decide_eq_true_eq, Bool.eq_false_iff, ne_eq, Bool.not_eq_true', Bool.not_eq_false', Bool.and_eq_true, Bool.or_eq_true, decide_true, decide_false, Bool.and_true, Bool.true_and, Bool.false_eq_true, not_false_eq_true, true_and, and_true] at hp); (try rw [hb]); (try clear hb))) | refine ps_pcall (h1) ?_ | refine ps_pcall_g (h1) ?_ | refine ps_pcall (h2) ?_ | refine ps_pcall_g (h2) ?_ | refine ps_pcall (e0) ?_ | refine ps_pcall_g (e0) ?_ | refine ps_pcall (e1) ?_ | refine ps_pcall_g (e1) ?_ | refine ps_pcall (e2) ?_ | refine ps_pcall_g (e2) ?_ | refine ps_pcall (e3) ?_ | refine ps_pcall_g (e3) ?_ | refine ps_alloc fun g => ?_ | refine ps_box fun g => ?_ | refine ps_store ?_ | refine ps_lit fun g => ?_ | refine pops_nil ?_ | skip) | (refine kd ?_ ?_ ?_; first | refine pstl_end ?_ | (refine pd_split (fun hb => ?_) (fun hb => ?_); (fail_if_success (guard_hyp hb : true = true)); (fail_if_success (guard_hyp hb : false = true)); all_goals (have hp := hb; (try simp only [decide_eq_true_eq, Bool.eq_false_iff, ne_eq, Bool.not_eq_true', Bool.not_eq_false', Bool.and_eq_true, Bool.or_eq_true, decide_true, decide_false, Bool.and_true, Bool.true_and, Bool.false_eq_true, not_false_eq_true, true_and, and_true] at hp); (try rw [hb]); (try clear hb))) | refine pd_pcall (h1) ?_ | refine pd_pcall_g (h1) ?_ | refine pd_pcall (h2) ?_ | refine pd_pcall_g (h2) ?_ | refine pd_pcall (e0) ?_ | refine pd_pcall_g (e0) ?_ | refine pd_pcall (e1) ?_ | refine pd_pcall_g (e1) ?_ | refine pd_pcall (e2) ?_ | refine pd_pcall_g (e2) ?_ | refine pd_pcall (e3) ?_ | refine pd_pcall_g (e3) ?_ | skip) | refine kct ?_ | refine kcf ?_ | (refine kcs (fun hb => ?_) (fun hb => ?_) <;> (have hp := hb; (try simp only [decide_eq_true_eq, Bool.eq_false_iff, ne_eq, Bool.not_eq_true', Bool.not_eq_false', Bool.and_eq_true, Bool.or_eq_true, decide_true, decide_false, Bool.and_true, Bool.true_and, Bool.false_eq_true, not_false_eq_true, true_and, and_true] at hp); (try rw [hb]); (try clear hb))) | (refine kret ?_; repeat (first | with_reducible refine beh_r ?_ | with_reducible refine blk_r ?_)) | refine kb ?_ | (refine ps_split (fun hb => ?_) (fun hb => ?_); (fail_if_success (guard_hyp hb : true = true)); (fail_if_success (guard_hyp hb : false = true)); all_goals (have hp := hb; (try simp only [decide_eq_true_eq, Bool.eq_false_iff, ne_eq, Bool.not_eq_true', Bool.not_eq_false', Bool.and_eq_true, Bool.or_eq_true, decide_true, decide_false, Bool.and_true, Bool.true_and, Bool.false_eq_true, not_false_eq_true, true_and, and_true] at hp); (try rw [hb]); (try clear hb))) | refine ps_pcall (h1) ?_ | refine ps_pcall_g (h1) ?_ | refine ps_pcall (h2) ?_ | refine ps_pcall_g (h2) ?_ | refine ps_pcall (e0) ?_ | refine ps_pcall_g (e0) ?_ | refine ps_pcall (e1) ?_ | refine ps_pcall_g (e1) ?_ | refine ps_pcall (e2) ?_ | refine ps_pcall_g (e2) ?_ | refine ps_pcall (e3) ?_ | refine ps_pcall_g (e3) ?_ | refine ps_alloc fun g => ?_ | refine ps_box fun g => ?_ | refine ps_store ?_ | refine ps_lit fun g => ?_ | refine pops_nil ?_ | (refine pd_split (fun hb => ?_) (fun hb => ?_); (fail_if_success (guard_hyp hb : true = true)); (fail_if_success (guard_hyp hb : false = true)); all_goals (have hp := hb; (try simp only [decide_eq_true_eq, Bool.eq_false_iff, ne_eq, Bool.not_eq_true', Bool.not_eq_false', Bool.and_eq_true, Bool.or_eq_true, decide_true, decide_false, Bool.and_true, Bool.true_and, Bool.false_eq_true, not_false_eq_true, true_and, and_true] at hp); (try rw [hb]); (try clear hb))) | refine pd_pcall (h1) ?_ | refine pd_pcall_g (h1) ?_ | refine pd_pcall (h2) ?_ | refine pd_pcall_g (h2) ?_ | refine pd_pcall (e0) ?_ | refine pd_pcall_g (e0) ?_ | refine pd_pcall (e1) ?_ | refine pd_pcall_g (e1) ?_ | refine pd_pcall (e2) ?_ | refine pd_pcall_g (e2) ?_ | refine pd_pcall (e3) ?_ | refine pd_pcall_g (e3) ?_ | (refine pops_go ?_ ?_ ?_; first | refine pops_end ?_ | (refine ps_split (fun hb => ?_) (fun hb => ?_); (fail_if_success (guard_hyp hb : true = true)); (fail_if_success (guard_hyp hb : false = true)); all_goals (have hp := hb; (try simp only [decide_eq_true_eq, Bool.eq_false_iff, ne_eq, Bool.not_eq_true', Bool.not_eq_false', Bool.and_eq_true, Bool.or_eq_true, decide_true, decide_false, Bool.and_true, Bool.true_and, Bool.false_eq_true, not_false_eq_true, true_and, and_true] at hp); (try rw [hb]); (try clear hb))) | refine ps_pcall (h1) ?_ | refine ps_pcall_g (h1) ?_ | refine ps_pcall (h2) ?_ | refine ps_pcall_g (h2) ?_ | refine ps_pcall (e0) ?_ | refine ps_pcall_g (e0) ?_ | refine ps_pcall (e1) ?_ | refine ps_pcall_g (e1) ?_ | refine ps_pcall (e2) ?_ | refine ps_pcall_g (e2) ?_ | refine ps_pcall (e3) ?_ | refine ps_pcall_g (e3) ?_ | refine ps_alloc fun g => ?_ | refine ps_box fun g => ?_ | refine ps_store ?_ | refine ps_lit fun g => ?_ | refine pops_nil ?_) | (refine pstl_go ?_ ?_ ?_; first | refine pstl_end ?_ | (refine pd_split (fun hb => ?_) (fun hb => ?_); (fail_if_success (guard_hyp hb : true = true)); (fail_if_success (guard_hyp hb : false = true)); all_goals (have hp := hb; (try simp only [decide_eq_true_eq, Bool.eq_false_iff, ne_eq, Bool.not_eq_true', Bool.not_eq_false', Bool.and_eq_true, Bool.or_eq_true, decide_true, decide_false, Bool.and_true, Bool.true_and, Bool.false_eq_true, not_false_eq_true, true_and, and_true] at hp); (try rw [hb]); (try clear hb))) | refine pd_pcall (h1) ?_ | refine pd_pcall_g (h1) ?_ | refine pd_pcall (h2) ?_ | refine pd_pcall_g (h2) ?_ | refine pd_pcall (e0) ?_ | refine pd_pcall_g (e0) ?_ | refine pd_pcall (e1) ?_ | refine pd_pcall_g (e1) ?_ | refine pd_pcall (e2) ?_ | refine pd_pcall_g (e2) ?_ | refine pd_pcall (e3) ?_ | refine pd_pcall_g (e3) ?_) | (refine kn ?_; repeat (first | with_reducible refine blk_n ?_ | with_reducible refine beh_n ?_)) | (refine kx ?_; (repeat (first | with_reducible refine beh_x ?_ | with_reducible refine blk_up rfl ?_)); refine blk_here ?_; refine beh_n ?_)))
  all_goals (refine ends_ret ?_ retPV_one; refine congrArg (fun b => PV.v (.bool b)) (hsame _ ?_); clear hsame h1 h2 e0 e1 e2 e3; (try clear hb); first | (simp_all; done) | (constructor <;> intro h <;> simp_all; done))
end Go.Proofs.Ytfjodfeoncoaoaa.Pv
