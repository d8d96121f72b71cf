-- image.opened, laid; carapaceref17.at, number.
import Derived.Test.YtfjodfeoncoaoaaImC
import Derived.Test.YtfjodfeoncoaoaaGrw
namespace Go.Proofs.Ytfjodfeoncoaoaa.Pv
set_option linter.all false
open Go.RowKit Go.Proofs
set_option maxRecDepth 100000
set_option maxHeartbeats 4000000
theorem and_bit (a : Int) (h0 : 0 ≤ a) (h1 : a < 256) : Go.bits .and .u8 a 1 = a / 1 % 2 * 1 ∧ Go.bits .and .u8 a 2 = a / 2 % 2 * 2 ∧ Go.bits .and .u8 a 4 = a / 4 % 2 * 4 ∧ Go.bits .and .u8 a 8 = a / 8 % 2 * 8 := by
  have : ∀ n : Fin 256, Go.bits .and .u8 (n.val : Int) 1 = (n.val : Int) / 1 % 2 * 1 ∧ Go.bits .and .u8 (n.val : Int) 2 = (n.val : Int) / 2 % 2 * 2 ∧ Go.bits .and .u8 (n.val : Int) 4 = (n.val : Int) / 4 % 2 * 4 ∧ Go.bits .and .u8 (n.val : Int) 8 = (n.val : Int) / 8 % 2 * 8 := by decide +kernel
  have := this ⟨a.toNat, by omega⟩
  simp only [Int.toNat_of_nonneg h0] at this
  exact this
theorem nz_bit (a k : Int) (hk : 0 < k) : (!decide (a / k % 2 * k = 0)) = bit a k := by
  unfold bit
  have h2 : a / k % 2 = 0 ∨ a / k % 2 = 1 := by omega
  rcases h2 with h | h
  · rw [h]; simp
  · rw [h]
    simp
    omega
theorem opened_ok (a d : Int) (h0 : 0 ≤ a) (h1 : a < 256) (hd : 0 ≤ d ∧ d < 256) : PCall Try.prog 60 [.v (.int .u8 a), .v (.int .u8 d)] (.agg (openF a d).cells) := by
  obtain ⟨k1, k2, k4, k8⟩ := and_bit a h0 h1
  unfold openF Op5.cells
  rw [← nz_bit a 1 (by decide), ← nz_bit a 2 (by decide), ← nz_bit a 4 (by decide), ← nz_bit a 8 (by decide)]
  refine pcall_mk Try.func60 rfl [.cell 4 23] Try.results60 20 rfl (tk_start ?_)
  (repeat' (first | refine ka ?_ | refine ksk ?_ | (refine kr ?_ ?_ ?_; first | refine pops_end ?_ | (refine ps_split (fun hb => ?_) (fun hb => ?_); (fail_if_success (guard_hyp hb : true = true)); (fail_if_success (guard_hyp hb : false = true)); all_goals (have hp := hb; (try simp only [decide_eq_true_eq, Bool.eq_false_iff, ne_eq, Bool.not_eq_true', Bool.not_eq_false', Bool.and_eq_true, Bool.or_eq_true, decide_true, decide_false, Bool.and_true, Bool.true_and, Bool.false_eq_true, not_false_eq_true, true_and, and_true] at hp); (try rw [hb]); (try clear hb))) | refine ps_alloc fun g => ?_ | refine ps_box fun g => ?_ | refine ps_store ?_ | refine ps_lit fun g => ?_ | refine pops_nil ?_ | skip) | (refine kd ?_ ?_ ?_; first | refine pstl_end ?_ | (refine pd_split (fun hb => ?_) (fun hb => ?_); (fail_if_success (guard_hyp hb : true = true)); (fail_if_success (guard_hyp hb : false = true)); all_goals (have hp := hb; (try simp only [decide_eq_true_eq, Bool.eq_false_iff, ne_eq, Bool.not_eq_true', Bool.not_eq_false', Bool.and_eq_true, Bool.or_eq_true, decide_true, decide_false, Bool.and_true, Bool.true_and, Bool.false_eq_true, not_false_eq_true, true_and, and_true] at hp); (try rw [hb]); (try clear hb))) | skip) | refine kct ?_ | refine kcf ?_ | (refine kcs (fun hb => ?_) (fun hb => ?_) <;> (have hp := hb; (try simp only [decide_eq_true_eq, Bool.eq_false_iff, ne_eq, Bool.not_eq_true', Bool.not_eq_false', Bool.and_eq_true, Bool.or_eq_true, decide_true, decide_false, Bool.and_true, Bool.true_and, Bool.false_eq_true, not_false_eq_true, true_and, and_true] at hp); (try rw [hb]); (try clear hb))) | (refine kret ?_; repeat (first | with_reducible refine beh_r ?_ | with_reducible refine blk_r ?_)) | refine kb ?_ | (refine ps_split (fun hb => ?_) (fun hb => ?_); (fail_if_success (guard_hyp hb : true = true)); (fail_if_success (guard_hyp hb : false = true)); all_goals (have hp := hb; (try simp only [decide_eq_true_eq, Bool.eq_false_iff, ne_eq, Bool.not_eq_true', Bool.not_eq_false', Bool.and_eq_true, Bool.or_eq_true, decide_true, decide_false, Bool.and_true, Bool.true_and, Bool.false_eq_true, not_false_eq_true, true_and, and_true] at hp); (try rw [hb]); (try clear hb))) | refine ps_alloc fun g => ?_ | refine ps_box fun g => ?_ | refine ps_store ?_ | refine ps_lit fun g => ?_ | refine pops_nil ?_ | (refine pd_split (fun hb => ?_) (fun hb => ?_); (fail_if_success (guard_hyp hb : true = true)); (fail_if_success (guard_hyp hb : false = true)); all_goals (have hp := hb; (try simp only [decide_eq_true_eq, Bool.eq_false_iff, ne_eq, Bool.not_eq_true', Bool.not_eq_false', Bool.and_eq_true, Bool.or_eq_true, decide_true, decide_false, Bool.and_true, Bool.true_and, Bool.false_eq_true, not_false_eq_true, true_and, and_true] at hp); (try rw [hb]); (try clear hb))) | (refine pops_go ?_ ?_ ?_; first | refine pops_end ?_ | (refine ps_split (fun hb => ?_) (fun hb => ?_); (fail_if_success (guard_hyp hb : true = true)); (fail_if_success (guard_hyp hb : false = true)); all_goals (have hp := hb; (try simp only [decide_eq_true_eq, Bool.eq_false_iff, ne_eq, Bool.not_eq_true', Bool.not_eq_false', Bool.and_eq_true, Bool.or_eq_true, decide_true, decide_false, Bool.and_true, Bool.true_and, Bool.false_eq_true, not_false_eq_true, true_and, and_true] at hp); (try rw [hb]); (try clear hb))) | refine ps_alloc fun g => ?_ | refine ps_box fun g => ?_ | refine ps_store ?_ | refine ps_lit fun g => ?_ | refine pops_nil ?_) | (refine pstl_go ?_ ?_ ?_; first | refine pstl_end ?_ | (refine pd_split (fun hb => ?_) (fun hb => ?_); (fail_if_success (guard_hyp hb : true = true)); (fail_if_success (guard_hyp hb : false = true)); all_goals (have hp := hb; (try simp only [decide_eq_true_eq, Bool.eq_false_iff, ne_eq, Bool.not_eq_true', Bool.not_eq_false', Bool.and_eq_true, Bool.or_eq_true, decide_true, decide_false, Bool.and_true, Bool.true_and, Bool.false_eq_true, not_false_eq_true, true_and, and_true] at hp); (try rw [hb]); (try clear hb)))) | (refine kn ?_; repeat (first | with_reducible refine blk_n ?_ | with_reducible refine beh_n ?_)) | (refine kx ?_; (repeat (first | with_reducible refine beh_x ?_ | with_reducible refine blk_up rfl ?_)); refine blk_here ?_; refine beh_n ?_)))
  all_goals (refine ends_ret ?_ (retPV_1 res_row); rfl)
theorem rat_ok (b : List Int) (hb : Oct b) (hl : b.length ≤ 1000000000) (i : Int) (h0 : 0 ≤ i) (h1 : i + 4 ≤ b.length) : PCall Try.prog 38 [.ro 1 false (ints .u8 b), .v (.int .i64 i)] (.v (.int .u32 (num4 b i.toNat))) := by
  have d0 := getD_oct hb i.toNat
  have d1 := getD_oct hb (i + 1).toNat
  have d2 := getD_oct hb (i + 2).toNat
  have d3 := getD_oct hb (i + 3).toNat
  refine pcall_mk Try.func38 rfl [.tmp 4] Try.results38 34 rfl (tk_start ?_)
  (repeat' (first | refine ka ?_ | refine ksk ?_ | (refine kr ?_ ?_ ?_; first | refine pops_end ?_ | (refine ps_split (fun hb => ?_) (fun hb => ?_); (fail_if_success (guard_hyp hb : true = true)); (fail_if_success (guard_hyp hb : false = true)); all_goals (have hp := hb; (try simp only [decide_eq_true_eq, Bool.eq_false_iff, ne_eq, Bool.not_eq_true', Bool.not_eq_false', Bool.and_eq_true, Bool.or_eq_true, decide_true, decide_false, Bool.and_true, Bool.true_and, Bool.false_eq_true, not_false_eq_true, true_and, and_true] at hp); (try rw [hb]); (try clear hb))) | refine ps_alloc fun g => ?_ | refine ps_box fun g => ?_ | refine ps_store ?_ | refine ps_lit fun g => ?_ | refine pops_nil ?_ | skip) | (refine kd ?_ ?_ ?_; first | refine pstl_end ?_ | (refine pd_split (fun hb => ?_) (fun hb => ?_); (fail_if_success (guard_hyp hb : true = true)); (fail_if_success (guard_hyp hb : false = true)); all_goals (have hp := hb; (try simp only [decide_eq_true_eq, Bool.eq_false_iff, ne_eq, Bool.not_eq_true', Bool.not_eq_false', Bool.and_eq_true, Bool.or_eq_true, decide_true, decide_false, Bool.and_true, Bool.true_and, Bool.false_eq_true, not_false_eq_true, true_and, and_true] at hp); (try rw [hb]); (try clear hb))) | skip) | refine kct ?_ | refine kcf ?_ | (refine kcs (fun hb => ?_) (fun hb => ?_) <;> (have hp := hb; (try simp only [decide_eq_true_eq, Bool.eq_false_iff, ne_eq, Bool.not_eq_true', Bool.not_eq_false', Bool.and_eq_true, Bool.or_eq_true, decide_true, decide_false, Bool.and_true, Bool.true_and, Bool.false_eq_true, not_false_eq_true, true_and, and_true] at hp); (try rw [hb]); (try clear hb))) | (refine kret ?_; repeat (first | with_reducible refine beh_r ?_ | with_reducible refine blk_r ?_)) | refine kb ?_ | (refine ps_split (fun hb => ?_) (fun hb => ?_); (fail_if_success (guard_hyp hb : true = true)); (fail_if_success (guard_hyp hb : false = true)); all_goals (have hp := hb; (try simp only [decide_eq_true_eq, Bool.eq_false_iff, ne_eq, Bool.not_eq_true', Bool.not_eq_false', Bool.and_eq_true, Bool.or_eq_true, decide_true, decide_false, Bool.and_true, Bool.true_and, Bool.false_eq_true, not_false_eq_true, true_and, and_true] at hp); (try rw [hb]); (try clear hb))) | refine ps_alloc fun g => ?_ | refine ps_box fun g => ?_ | refine ps_store ?_ | refine ps_lit fun g => ?_ | refine pops_nil ?_ | (refine pd_split (fun hb => ?_) (fun hb => ?_); (fail_if_success (guard_hyp hb : true = true)); (fail_if_success (guard_hyp hb : false = true)); all_goals (have hp := hb; (try simp only [decide_eq_true_eq, Bool.eq_false_iff, ne_eq, Bool.not_eq_true', Bool.not_eq_false', Bool.and_eq_true, Bool.or_eq_true, decide_true, decide_false, Bool.and_true, Bool.true_and, Bool.false_eq_true, not_false_eq_true, true_and, and_true] at hp); (try rw [hb]); (try clear hb))) | (refine pops_go ?_ ?_ ?_; first | refine pops_end ?_ | (refine ps_split (fun hb => ?_) (fun hb => ?_); (fail_if_success (guard_hyp hb : true = true)); (fail_if_success (guard_hyp hb : false = true)); all_goals (have hp := hb; (try simp only [decide_eq_true_eq, Bool.eq_false_iff, ne_eq, Bool.not_eq_true', Bool.not_eq_false', Bool.and_eq_true, Bool.or_eq_true, decide_true, decide_false, Bool.and_true, Bool.true_and, Bool.false_eq_true, not_false_eq_true, true_and, and_true] at hp); (try rw [hb]); (try clear hb))) | refine ps_alloc fun g => ?_ | refine ps_box fun g => ?_ | refine ps_store ?_ | refine ps_lit fun g => ?_ | refine pops_nil ?_) | (refine pstl_go ?_ ?_ ?_; first | refine pstl_end ?_ | (refine pd_split (fun hb => ?_) (fun hb => ?_); (fail_if_success (guard_hyp hb : true = true)); (fail_if_success (guard_hyp hb : false = true)); all_goals (have hp := hb; (try simp only [decide_eq_true_eq, Bool.eq_false_iff, ne_eq, Bool.not_eq_true', Bool.not_eq_false', Bool.and_eq_true, Bool.or_eq_true, decide_true, decide_false, Bool.and_true, Bool.true_and, Bool.false_eq_true, not_false_eq_true, true_and, and_true] at hp); (try rw [hb]); (try clear hb)))) | (refine kn ?_; repeat (first | with_reducible refine blk_n ?_ | with_reducible refine beh_n ?_)) | (refine kx ?_; (repeat (first | with_reducible refine beh_x ?_ | with_reducible refine blk_up rfl ?_)); refine blk_here ?_; refine beh_n ?_)))
  all_goals (refine ends_ret ?_ retPV_one; rw [num4, show i.toNat + 1 = (i + 1).toNat by omega, show i.toNat + 2 = (i + 2).toNat by omega, show i.toNat + 3 = (i + 3).toNat by omega])
theorem rnum_ok (n : Int) (h0 : 0 ≤ n) (h1 : n < 4294967296) : PCall Try.prog 32 [.v (.int .u32 n)] (.ro 1 false (ints .u8 (le4 n))) := by
  have e : n / 16777216 % 256 = n / 16777216 := by omega
  unfold le4
  rw [e]
  refine pcall_mkg Try.func32 rfl [.tmp 2] Try.results32 18 rfl (tk_start ?_)
  (repeat refine ka ?_); refine kr ?_ ?_ (pops_end ?_)
  (repeat refine ka ?_); refine kr ?_ ?_ ?_
  refine ps_lit (fun g => ?_)
  refine pops_go ?_ ?_ (pops_end ?_)
  (repeat refine ka ?_); refine kret ?_; repeat (first | with_reducible refine beh_r ?_ | with_reducible refine blk_r ?_)
  refine ends_ret ?_ retPV_one
  exact gives_ints rfl rfl rfl
theorem laid_ok (g : Nat) (l : List Int) (n : Int) (h0 : 0 ≤ n) (h1 : n < 4294967296) (hl : l.length ≤ 1000000000) : GCall Try.prog 29 [.vw 0 g 0 l.length, .v (.int .u32 n)] [⟨g, true, 1, ints .u8 l⟩] (fun x S' => ∃ g', x = .vw 0 g' 0 (l.length + 4) ∧ S' = [⟨g', true, 1, ints .u8 (l ++ le4 n)⟩]) := by
  have hp : ∀ i, (l ++ (le4 n).take i).length = l.length + min i 4 := by intro i; simp [le4_length]
  refine gcall_of_tr Try.func29 rfl [.tmp 4] Try.results29 19 rfl (tk_start ?_)
  (repeat refine ka ?_); refine kr ?_ ?_ (pops_end ?_)
  (repeat refine ka ?_); refine kr ?_ ?_ (pops_end ?_)
  (repeat refine ka ?_); refine kb ?_
  refine kw (fun p : Nat × Nat => [(0, PV.vw 0 p.2 0 (l.length + p.1)), (1, .v (.int .u32 n)), (6, .v (.int .i64 p.1))]) (fun p => [⟨p.2, true, 1, ints .u8 (l ++ (le4 n).take p.1)⟩]) (fun p => p.1 ≤ 4) (fun p => 4 - p.1) (0, g) (by simp only; omega) (by simp only [List.take_zero, List.append_nil, Nat.add_zero]; exact (holds 1 (by repeat (first | exact .nil | refine has1 ?_)))) ?_
  rintro ⟨i, g1⟩ hi
  simp only at hi ⊢
  have hc : i = 0 ∨ i = 1 ∨ i = 2 ∨ i = 3 ∨ i = 4 := by omega
  rcases hc with rfl | rfl | rfl | rfl | rfl <;> simp only [Int.cast_ofNat_Int]
  · have hm : (2 : Int) ^ min (Int.toNat (8 * 0)) IntKind.u32.bits = 1 := rfl
    have hw : IntKind.u8.wrap (n / 1) = n / 1 % 256 := by rw [IntKind.wrap_u8]
    (repeat refine ka ?_); refine kr ?_ ?_ (pops_end ?_)
    (repeat refine ka ?_); refine kct ?_
    (repeat refine ka ?_); refine ksk ?_
    (repeat refine ka ?_); refine kb ?_
    (repeat refine ka ?_); refine kr ?_ ?_ (pops_end ?_)
    (repeat refine ka ?_); refine kr ?_ ?_ ?_
    refine ps_lit (fun g2 => ?_)
    refine pops_go ?_ ?_ ?_
    refine ps_app_vw (rows' := ints .u8 (l ++ (le4 n).take 1)) (m := l.length + 1) (fun g3 => ?_) (hrows := by simp [ints, le4])
    refine pops_go ?_ ?_ (pops_end ?_)
    refine kn ?_; repeat (first | with_reducible refine blk_n ?_ | with_reducible refine beh_n ?_)
    (repeat refine ka ?_); refine kr ?_ ?_ (pops_end ?_)
    refine kn ?_; repeat (first | with_reducible refine blk_n ?_ | with_reducible refine beh_n ?_)
    exact ⟨(1, g3), by simp only; omega, by simp only; omega, (holds 1 (by repeat (first | exact .nil | refine has1 ?_)))⟩
  · have hm : (2 : Int) ^ min (Int.toNat (8 * 1)) IntKind.u32.bits = 256 := rfl
    have hw : IntKind.u8.wrap (n / 256) = n / 256 % 256 := by rw [IntKind.wrap_u8]
    (repeat refine ka ?_); refine kr ?_ ?_ (pops_end ?_)
    (repeat refine ka ?_); refine kct ?_
    (repeat refine ka ?_); refine ksk ?_
    (repeat refine ka ?_); refine kb ?_
    (repeat refine ka ?_); refine kr ?_ ?_ (pops_end ?_)
    (repeat refine ka ?_); refine kr ?_ ?_ ?_
    refine ps_lit (fun g2 => ?_)
    refine pops_go ?_ ?_ ?_
    refine ps_app_vw (rows' := ints .u8 (l ++ (le4 n).take 2)) (m := l.length + 2) (fun g3 => ?_) (hrows := by simp [ints, le4])
    refine pops_go ?_ ?_ (pops_end ?_)
    refine kn ?_; repeat (first | with_reducible refine blk_n ?_ | with_reducible refine beh_n ?_)
    (repeat refine ka ?_); refine kr ?_ ?_ (pops_end ?_)
    refine kn ?_; repeat (first | with_reducible refine blk_n ?_ | with_reducible refine beh_n ?_)
    exact ⟨(2, g3), by simp only; omega, by simp only; omega, (holds 1 (by repeat (first | exact .nil | refine has1 ?_)))⟩
  · have hm : (2 : Int) ^ min (Int.toNat (8 * 2)) IntKind.u32.bits = 65536 := rfl
    have hw : IntKind.u8.wrap (n / 65536) = n / 65536 % 256 := by rw [IntKind.wrap_u8]
    (repeat refine ka ?_); refine kr ?_ ?_ (pops_end ?_)
    (repeat refine ka ?_); refine kct ?_
    (repeat refine ka ?_); refine ksk ?_
    (repeat refine ka ?_); refine kb ?_
    (repeat refine ka ?_); refine kr ?_ ?_ (pops_end ?_)
    (repeat refine ka ?_); refine kr ?_ ?_ ?_
    refine ps_lit (fun g2 => ?_)
    refine pops_go ?_ ?_ ?_
    refine ps_app_vw (rows' := ints .u8 (l ++ (le4 n).take 3)) (m := l.length + 3) (fun g3 => ?_) (hrows := by simp [ints, le4])
    refine pops_go ?_ ?_ (pops_end ?_)
    refine kn ?_; repeat (first | with_reducible refine blk_n ?_ | with_reducible refine beh_n ?_)
    (repeat refine ka ?_); refine kr ?_ ?_ (pops_end ?_)
    refine kn ?_; repeat (first | with_reducible refine blk_n ?_ | with_reducible refine beh_n ?_)
    exact ⟨(3, g3), by simp only; omega, by simp only; omega, (holds 1 (by repeat (first | exact .nil | refine has1 ?_)))⟩
  · have hm : (2 : Int) ^ min (Int.toNat (8 * 3)) IntKind.u32.bits = 16777216 := rfl
    have hw : IntKind.u8.wrap (n / 16777216) = n / 16777216 % 256 := by rw [IntKind.wrap_u8]
    (repeat refine ka ?_); refine kr ?_ ?_ (pops_end ?_)
    (repeat refine ka ?_); refine kct ?_
    (repeat refine ka ?_); refine ksk ?_
    (repeat refine ka ?_); refine kb ?_
    (repeat refine ka ?_); refine kr ?_ ?_ (pops_end ?_)
    (repeat refine ka ?_); refine kr ?_ ?_ ?_
    refine ps_lit (fun g2 => ?_)
    refine pops_go ?_ ?_ ?_
    refine ps_app_vw (rows' := ints .u8 (l ++ (le4 n).take 4)) (m := l.length + 4) (fun g3 => ?_) (hrows := by simp [ints, le4])
    refine pops_go ?_ ?_ (pops_end ?_)
    refine kn ?_; repeat (first | with_reducible refine blk_n ?_ | with_reducible refine beh_n ?_)
    (repeat refine ka ?_); refine kr ?_ ?_ (pops_end ?_)
    refine kn ?_; repeat (first | with_reducible refine blk_n ?_ | with_reducible refine beh_n ?_)
    exact ⟨(4, g3), by simp only; omega, by simp only; omega, (holds 1 (by repeat (first | exact .nil | refine has1 ?_)))⟩
  · (repeat refine ka ?_); refine kr ?_ ?_ (pops_end ?_)
    (repeat refine ka ?_); refine kcf ?_
    (repeat refine ka ?_); refine kx ?_; (repeat (first | with_reducible refine beh_x ?_ | with_reducible refine blk_up rfl ?_)); refine blk_here ?_; refine beh_n ?_
    (repeat refine ka ?_); refine kr ?_ ?_ (pops_end ?_)
    (repeat refine ka ?_); refine kret ?_; repeat (first | with_reducible refine beh_r ?_ | with_reducible refine blk_r ?_)
    refine ends_ret ?_ retPV_one
    exact ⟨_, rfl, rfl⟩
end Go.Proofs.Ytfjodfeoncoaoaa.Pv
