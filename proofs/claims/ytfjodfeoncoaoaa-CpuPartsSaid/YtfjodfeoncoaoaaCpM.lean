-- carapacelaw11.CpuParts.
import Derived.Test.YtfjodfeoncoaoaaCpL
import Derived.Test.YtfjodfeoncoaoaaEq2
namespace Go.Proofs.Ytfjodfeoncoaoaa.Pv
set_option linter.all false
open Go.RowKit Go.Proofs
set_option maxRecDepth 100000
set_option maxHeartbeats 4000000
theorem wf8c {l : List Int} (h : ∀ n ∈ l, (Lit.int .u8 n).wf = true) : Oct l := fun x hx => by
  have := h x hx
  simp [Lit.wf, IntKind.min, IntKind.max, IntKind.bits, IntKind.signed] at this
  omega
theorem wf32c {n : Int} (h : (Lit.int .u32 n).wf = true) : 0 ≤ n ∧ n < 4294967296 := by
  simp [Lit.wf, IntKind.min, IntKind.max, IntKind.bits, IntKind.signed] at h
  omega
theorem wf64c {n : Int} (h : (Lit.int .i64 n).wf = true) : -9223372036854775808 ≤ n ∧ n ≤ 9223372036854775807 := by
  simp [Lit.wf, IntKind.min, IntKind.max, IntKind.bits, IntKind.signed] at h
  omega
theorem ssl_onec {xs : List PV} (h : SSl 1 1 (SInt .u8) xs) : ∃ l, xs = [.ro 1 false (ints .u8 l)] ∧ Oct l := by
  obtain ⟨rows, rfl, r1, r2, r3⟩ := h
  obtain ⟨b, e, hb1, hb2⟩ := sl_ints (x := .ro 1 false rows) ⟨rows, rfl, r1, r2, r3⟩
  cases e
  exact ⟨b, rfl, wf8c hb2⟩
theorem start_parts {x : PV} (h : ∃ xs, x = .agg xs ∧ SFs [SInt .i64, SSl 1 1 (SInt .u8), SSl 1 1 (SInt .u8), SArr 16 (SInt .u8), SArr 16 (SInt .u32), SInt .u32] xs) : ∃ (size : Int) (code img : List Int) (k0 k1 k2 k3 k4 k5 k6 k7 k8 k9 k10 k11 k12 k13 k14 k15 r0 r1 r2 r3 r4 r5 r6 r7 r8 r9 r10 r11 r12 r13 r14 r15 pc : Int), x = .agg (startV size code img k0 k1 k2 k3 k4 k5 k6 k7 k8 k9 k10 k11 k12 k13 k14 k15 r0 r1 r2 r3 r4 r5 r6 r7 r8 r9 r10 r11 r12 r13 r14 r15 pc) ∧ Oct code ∧ Oct img ∧ Oct [k0, k1, k2, k3, k4, k5, k6, k7, k8, k9, k10, k11, k12, k13, k14, k15] ∧ (∀ x ∈ [r0, r1, r2, r3, r4, r5, r6, r7, r8, r9, r10, r11, r12, r13, r14, r15], 0 ≤ x ∧ x < 4294967296) ∧ (0 ≤ pc ∧ pc < 4294967296) := by
  obtain ⟨xs, rfl, p1, q1, rfl, ⟨size, rfl, h1⟩, p2, q2, rfl, h2, p3, q3, rfl, h3, p4, q4, rfl, h4, p5, q5, rfl, h5, p6, q6, rfl, ⟨pc, rfl, h6⟩, rfl⟩ := h
  obtain ⟨code, rfl, o1⟩ := ssl_onec h2
  obtain ⟨img, rfl, o2⟩ := ssl_onec h3
  obtain ⟨kl, rfl, n1, n2⟩ := arr_ints h4
  obtain ⟨rl, rfl, n3, n4⟩ := arr_ints h5
  match kl, n1, rl, n3 with
  | [k0, k1, k2, k3, k4, k5, k6, k7, k8, k9, k10, k11, k12, k13, k14, k15], _, [r0, r1, r2, r3, r4, r5, r6, r7, r8, r9, r10, r11, r12, r13, r14, r15], _ =>
    exact ⟨size, code, img, k0, k1, k2, k3, k4, k5, k6, k7, k8, k9, k10, k11, k12, k13, k14, k15, r0, r1, r2, r3, r4, r5, r6, r7, r8, r9, r10, r11, r12, r13, r14, r15, pc, rfl, o1, o2, wf8c n2, fun x hx => wf32c (n4 x hx), wf32c h6⟩
theorem mk_inv (size : Int) (code img : List Int) (k0 k1 k2 k3 k4 k5 k6 k7 k8 k9 k10 k11 k12 k13 k14 k15 r0 r1 r2 r3 r4 r5 r6 r7 r8 r9 r10 r11 r12 r13 r14 r15 pc : Int) (h1 : size ≤ 4096) (h3 : img.length ≤ 1000) (o1 : Oct code) (o2 : Oct img) (o3 : Oct [k0, k1, k2, k3, k4, k5, k6, k7, k8, k9, k10, k11, k12, k13, k14, k15]) (o4 : ∀ x ∈ [r0, r1, r2, r3, r4, r5, r6, r7, r8, r9, r10, r11, r12, r13, r14, r15], 0 ≤ x ∧ x < 4294967296) (o5 : 0 ≤ pc ∧ pc < 4294967296) : CInv (mk size code img k0 k1 k2 k3 k4 k5 k6 k7 k8 k9 k10 k11 k12 k13 k14 k15 r0 r1 r2 r3 r4 r5 r6 r7 r8 r9 r10 r11 r12 r13 r14 r15 pc) := by
  unfold mk
  have hm : Oct (List.replicate size.toNat 0) := by
    intro x hx
    rw [(List.mem_replicate.1 hx).2]
    omega
  have hl : (putIf (List.replicate size.toNat 0) 0 code).length = size.toNat := by rw [putIf_length _ _ _ (Int.le_refl 0), List.length_replicate]
  refine cs_mk rfl ?_ o5 (by omega) (oct_putIf hm o1 _) (by omega) o2 rfl o3 rfl
  intro x hx
  rcases List.mem_cons.1 hx with rfl | hx
  · omega
  · exact o4 x (List.mem_cons_of_mem _ hx)
def CS.stE (s : CS) (b : Bool) : List PV := [.v (.int .u32 (s.regs.getD 0 0)), .v (.int .u32 (s.regs.getD 1 0)), .v (.int .u32 (s.regs.getD 2 0)), .v (.int .u32 (s.regs.getD 3 0)), .v (.int .u32 (s.regs.getD 4 0)), .v (.int .u32 (s.regs.getD 5 0)), .v (.int .u32 (s.regs.getD 6 0)), .v (.int .u32 (s.regs.getD 7 0)), .v (.int .u32 (s.regs.getD 8 0)), .v (.int .u32 (s.regs.getD 9 0)), .v (.int .u32 (s.regs.getD 10 0)), .v (.int .u32 (s.regs.getD 11 0)), .v (.int .u32 (s.regs.getD 12 0)), .v (.int .u32 (s.regs.getD 13 0)), .v (.int .u32 (s.regs.getD 14 0)), .v (.int .u32 (s.regs.getD 15 0)), .v (.int .u32 s.pc), .v (.int .i64 s.steps), .v (.int .i64 s.code), .v (.int .i64 s.trap), .v (.bool b)]
theorem stC_E {s : CS} {b : Bool} (h : s.ended = b) : s.stC = s.stE b := by subst h; rfl
/-- The law, where all that the machines do is given. -/
theorem parts_walk {x0 x1 x2 : PV} (h0 : ∃ xs, x0 = .agg xs ∧ SFs [SInt .i64, SSl 1 1 (SInt .u8), SSl 1 1 (SInt .u8), SArr 16 (SInt .u8), SArr 16 (SInt .u32), SInt .u32] xs) (h1 : SInt .i64 [x1]) (h2 : SInt .i64 [x2]) : PCall Try.prog 6 [x0, x1, x2] (.v (.bool true)) := by
  obtain ⟨size, code, img, k0, k1, k2, k3, k4, k5, k6, k7, k8, k9, k10, k11, k12, k13, k14, k15, r0, r1, r2, r3, r4, r5, r6, r7, r8, r9, r10, r11, r12, r13, r14, r15, pc, rfl, o1, o2, o3, o4, o5⟩ := start_parts h0
  obtain ⟨a, rfl, ha⟩ := one_int h1
  obtain ⟨b, rfl, hb⟩ := one_int h2
  replace ha := wf64c ha
  replace hb := wf64c hb
  clear h0 h1 h2
  have hmay := may11_ok size code img k0 k1 k2 k3 k4 k5 k6 k7 k8 k9 k10 k11 k12 k13 k14 k15 r0 r1 r2 r3 r4 r5 r6 r7 r8 r9 r10 r11 r12 r13 r14 r15 pc
  by_cases hm : 0 ≤ size ∧ size ≤ 4096 ∧ code.length ≤ size ∧ img.length ≤ 1000
  case neg =>
    rw [decide_eq_false hm] at hmay
    unfold startV at hmay ⊢
    refine pcall_mk Try.func6 rfl [.tmp 6] Try.results6 162 rfl (tk_start ?_)
    (repeat' (first | refine ka ?_ | refine ksk ?_ | (refine kr ?_ ?_ ?_; first | refine pops_end ?_ | (refine ps_split (fun hb => ?_) (fun hb => ?_); (fail_if_success (guard_hyp hb : true = true)); (fail_if_success (guard_hyp hb : false = true)); all_goals (have hp := hb; (try simp only [decide_eq_true_eq, Bool.eq_false_iff, ne_eq, Bool.not_eq_true', Bool.not_eq_false', Bool.and_eq_true, Bool.or_eq_true, decide_true, decide_false, Bool.and_true, Bool.true_and, Bool.false_eq_true, not_false_eq_true, true_and, and_true] at hp); (try rw [hb]); (try clear hb))) | refine ps_pcall (cpu_awake) ?_ | refine ps_pcall_g (cpu_awake) ?_ | refine ps_pcall (hmay) ?_ | refine ps_pcall_g (hmay) ?_ | refine ps_alloc fun g => ?_ | refine ps_box fun g => ?_ | refine ps_store ?_ | refine ps_lit fun g => ?_ | refine pops_nil ?_ | skip) | (refine kd ?_ ?_ ?_; first | refine pstl_end ?_ | (refine pd_split (fun hb => ?_) (fun hb => ?_); (fail_if_success (guard_hyp hb : true = true)); (fail_if_success (guard_hyp hb : false = true)); all_goals (have hp := hb; (try simp only [decide_eq_true_eq, Bool.eq_false_iff, ne_eq, Bool.not_eq_true', Bool.not_eq_false', Bool.and_eq_true, Bool.or_eq_true, decide_true, decide_false, Bool.and_true, Bool.true_and, Bool.false_eq_true, not_false_eq_true, true_and, and_true] at hp); (try rw [hb]); (try clear hb))) | refine pd_pcall (cpu_awake) ?_ | refine pd_pcall_g (cpu_awake) ?_ | refine pd_pcall (hmay) ?_ | refine pd_pcall_g (hmay) ?_ | skip) | refine kct ?_ | refine kcf ?_ | (refine kcs (fun hb => ?_) (fun hb => ?_) <;> (have hp := hb; (try simp only [decide_eq_true_eq, Bool.eq_false_iff, ne_eq, Bool.not_eq_true', Bool.not_eq_false', Bool.and_eq_true, Bool.or_eq_true, decide_true, decide_false, Bool.and_true, Bool.true_and, Bool.false_eq_true, not_false_eq_true, true_and, and_true] at hp); (try rw [hb]); (try clear hb))) | (refine kret ?_; repeat (first | with_reducible refine beh_r ?_ | with_reducible refine blk_r ?_)) | refine kb ?_ | (refine ps_split (fun hb => ?_) (fun hb => ?_); (fail_if_success (guard_hyp hb : true = true)); (fail_if_success (guard_hyp hb : false = true)); all_goals (have hp := hb; (try simp only [decide_eq_true_eq, Bool.eq_false_iff, ne_eq, Bool.not_eq_true', Bool.not_eq_false', Bool.and_eq_true, Bool.or_eq_true, decide_true, decide_false, Bool.and_true, Bool.true_and, Bool.false_eq_true, not_false_eq_true, true_and, and_true] at hp); (try rw [hb]); (try clear hb))) | refine ps_pcall (cpu_awake) ?_ | refine ps_pcall_g (cpu_awake) ?_ | refine ps_pcall (hmay) ?_ | refine ps_pcall_g (hmay) ?_ | refine ps_alloc fun g => ?_ | refine ps_box fun g => ?_ | refine ps_store ?_ | refine ps_lit fun g => ?_ | refine pops_nil ?_ | (refine pd_split (fun hb => ?_) (fun hb => ?_); (fail_if_success (guard_hyp hb : true = true)); (fail_if_success (guard_hyp hb : false = true)); all_goals (have hp := hb; (try simp only [decide_eq_true_eq, Bool.eq_false_iff, ne_eq, Bool.not_eq_true', Bool.not_eq_false', Bool.and_eq_true, Bool.or_eq_true, decide_true, decide_false, Bool.and_true, Bool.true_and, Bool.false_eq_true, not_false_eq_true, true_and, and_true] at hp); (try rw [hb]); (try clear hb))) | refine pd_pcall (cpu_awake) ?_ | refine pd_pcall_g (cpu_awake) ?_ | refine pd_pcall (hmay) ?_ | refine pd_pcall_g (hmay) ?_ | (refine pops_go ?_ ?_ ?_; first | refine pops_end ?_ | (refine ps_split (fun hb => ?_) (fun hb => ?_); (fail_if_success (guard_hyp hb : true = true)); (fail_if_success (guard_hyp hb : false = true)); all_goals (have hp := hb; (try simp only [decide_eq_true_eq, Bool.eq_false_iff, ne_eq, Bool.not_eq_true', Bool.not_eq_false', Bool.and_eq_true, Bool.or_eq_true, decide_true, decide_false, Bool.and_true, Bool.true_and, Bool.false_eq_true, not_false_eq_true, true_and, and_true] at hp); (try rw [hb]); (try clear hb))) | refine ps_pcall (cpu_awake) ?_ | refine ps_pcall_g (cpu_awake) ?_ | refine ps_pcall (hmay) ?_ | refine ps_pcall_g (hmay) ?_ | refine ps_alloc fun g => ?_ | refine ps_box fun g => ?_ | refine ps_store ?_ | refine ps_lit fun g => ?_ | refine pops_nil ?_) | (refine pstl_go ?_ ?_ ?_; first | refine pstl_end ?_ | (refine pd_split (fun hb => ?_) (fun hb => ?_); (fail_if_success (guard_hyp hb : true = true)); (fail_if_success (guard_hyp hb : false = true)); all_goals (have hp := hb; (try simp only [decide_eq_true_eq, Bool.eq_false_iff, ne_eq, Bool.not_eq_true', Bool.not_eq_false', Bool.and_eq_true, Bool.or_eq_true, decide_true, decide_false, Bool.and_true, Bool.true_and, Bool.false_eq_true, not_false_eq_true, true_and, and_true] at hp); (try rw [hb]); (try clear hb))) | refine pd_pcall (cpu_awake) ?_ | refine pd_pcall_g (cpu_awake) ?_ | refine pd_pcall (hmay) ?_ | refine pd_pcall_g (hmay) ?_) | (refine kn ?_; repeat (first | with_reducible refine blk_n ?_ | with_reducible refine beh_n ?_)) | (refine kx ?_; (repeat (first | with_reducible refine beh_x ?_ | with_reducible refine blk_up rfl ?_)); refine blk_here ?_; refine beh_n ?_)))
    all_goals (refine ends_ret ?_ retPV_one; rfl)
  rw [decide_eq_true hm] at hmay
  obtain ⟨m1, m2, m3, m4⟩ := hm
  have hmade := made11_ok size code img k0 k1 k2 k3 k4 k5 k6 k7 k8 k9 k10 k11 k12 k13 k14 k15 r0 r1 r2 r3 r4 r5 r6 r7 r8 r9 r10 r11 r12 r13 r14 r15 pc m1 m2 m3 m4
  have hinv := mk_inv size code img k0 k1 k2 k3 k4 k5 k6 k7 k8 k9 k10 k11 k12 k13 k14 k15 r0 r1 r2 r3 r4 r5 r6 r7 r8 r9 r10 r11 r12 r13 r14 r15 pc m2 m4 o1 o2 o3 o4 o5
  have hst : (mk size code img k0 k1 k2 k3 k4 k5 k6 k7 k8 k9 k10 k11 k12 k13 k14 k15 r0 r1 r2 r3 r4 r5 r6 r7 r8 r9 r10 r11 r12 r13 r14 r15 pc).steps = 0 := rfl
  generalize mk size code img k0 k1 k2 k3 k4 k5 k6 k7 k8 k9 k10 k11 k12 k13 k14 k15 r0 r1 r2 r3 r4 r5 r6 r7 r8 r9 r10 r11 r12 r13 r14 r15 pc = s at hmade hinv hst
  clear o1 o2 o3 o4 o5 m1 m2 m3 m4
  unfold startV at hmay hmade ⊢
  by_cases c1 : a < 0
  · refine pcall_mk Try.func6 rfl [.tmp 6] Try.results6 162 rfl (tk_start ?_)
    (repeat' (first | refine ka ?_ | refine ksk ?_ | (refine kr ?_ ?_ ?_; first | refine pops_end ?_ | (refine ps_split (fun hb => ?_) (fun hb => ?_); (fail_if_success (guard_hyp hb : true = true)); (fail_if_success (guard_hyp hb : false = true)); all_goals (have hp := hb; (try simp only [decide_eq_true_eq, Bool.eq_false_iff, ne_eq, Bool.not_eq_true', Bool.not_eq_false', Bool.and_eq_true, Bool.or_eq_true, decide_true, decide_false, Bool.and_true, Bool.true_and, Bool.false_eq_true, not_false_eq_true, true_and, and_true] at hp); (try rw [hb]); (try clear hb))) | refine ps_pcall (cpu_awake) ?_ | refine ps_pcall_g (cpu_awake) ?_ | refine ps_pcall (hmay) ?_ | refine ps_pcall_g (hmay) ?_ | refine ps_alloc fun g => ?_ | refine ps_box fun g => ?_ | refine ps_store ?_ | refine ps_lit fun g => ?_ | refine pops_nil ?_ | skip) | (refine kd ?_ ?_ ?_; first | refine pstl_end ?_ | (refine pd_split (fun hb => ?_) (fun hb => ?_); (fail_if_success (guard_hyp hb : true = true)); (fail_if_success (guard_hyp hb : false = true)); all_goals (have hp := hb; (try simp only [decide_eq_true_eq, Bool.eq_false_iff, ne_eq, Bool.not_eq_true', Bool.not_eq_false', Bool.and_eq_true, Bool.or_eq_true, decide_true, decide_false, Bool.and_true, Bool.true_and, Bool.false_eq_true, not_false_eq_true, true_and, and_true] at hp); (try rw [hb]); (try clear hb))) | refine pd_pcall (cpu_awake) ?_ | refine pd_pcall_g (cpu_awake) ?_ | refine pd_pcall (hmay) ?_ | refine pd_pcall_g (hmay) ?_ | skip) | refine kct ?_ | refine kcf ?_ | (refine kcs (fun hb => ?_) (fun hb => ?_) <;> (have hp := hb; (try simp only [decide_eq_true_eq, Bool.eq_false_iff, ne_eq, Bool.not_eq_true', Bool.not_eq_false', Bool.and_eq_true, Bool.or_eq_true, decide_true, decide_false, Bool.and_true, Bool.true_and, Bool.false_eq_true, not_false_eq_true, true_and, and_true] at hp); (try rw [hb]); (try clear hb))) | (refine kret ?_; repeat (first | with_reducible refine beh_r ?_ | with_reducible refine blk_r ?_)) | refine kb ?_ | (refine ps_split (fun hb => ?_) (fun hb => ?_); (fail_if_success (guard_hyp hb : true = true)); (fail_if_success (guard_hyp hb : false = true)); all_goals (have hp := hb; (try simp only [decide_eq_true_eq, Bool.eq_false_iff, ne_eq, Bool.not_eq_true', Bool.not_eq_false', Bool.and_eq_true, Bool.or_eq_true, decide_true, decide_false, Bool.and_true, Bool.true_and, Bool.false_eq_true, not_false_eq_true, true_and, and_true] at hp); (try rw [hb]); (try clear hb))) | refine ps_pcall (cpu_awake) ?_ | refine ps_pcall_g (cpu_awake) ?_ | refine ps_pcall (hmay) ?_ | refine ps_pcall_g (hmay) ?_ | refine ps_alloc fun g => ?_ | refine ps_box fun g => ?_ | refine ps_store ?_ | refine ps_lit fun g => ?_ | refine pops_nil ?_ | (refine pd_split (fun hb => ?_) (fun hb => ?_); (fail_if_success (guard_hyp hb : true = true)); (fail_if_success (guard_hyp hb : false = true)); all_goals (have hp := hb; (try simp only [decide_eq_true_eq, Bool.eq_false_iff, ne_eq, Bool.not_eq_true', Bool.not_eq_false', Bool.and_eq_true, Bool.or_eq_true, decide_true, decide_false, Bool.and_true, Bool.true_and, Bool.false_eq_true, not_false_eq_true, true_and, and_true] at hp); (try rw [hb]); (try clear hb))) | refine pd_pcall (cpu_awake) ?_ | refine pd_pcall_g (cpu_awake) ?_ | refine pd_pcall (hmay) ?_ | refine pd_pcall_g (hmay) ?_ | (refine pops_go ?_ ?_ ?_; first | refine pops_end ?_ | (refine ps_split (fun hb => ?_) (fun hb => ?_); (fail_if_success (guard_hyp hb : true = true)); (fail_if_success (guard_hyp hb : false = true)); all_goals (have hp := hb; (try simp only [decide_eq_true_eq, Bool.eq_false_iff, ne_eq, Bool.not_eq_true', Bool.not_eq_false', Bool.and_eq_true, Bool.or_eq_true, decide_true, decide_false, Bool.and_true, Bool.true_and, Bool.false_eq_true, not_false_eq_true, true_and, and_true] at hp); (try rw [hb]); (try clear hb))) | refine ps_pcall (cpu_awake) ?_ | refine ps_pcall_g (cpu_awake) ?_ | refine ps_pcall (hmay) ?_ | refine ps_pcall_g (hmay) ?_ | refine ps_alloc fun g => ?_ | refine ps_box fun g => ?_ | refine ps_store ?_ | refine ps_lit fun g => ?_ | refine pops_nil ?_) | (refine pstl_go ?_ ?_ ?_; first | refine pstl_end ?_ | (refine pd_split (fun hb => ?_) (fun hb => ?_); (fail_if_success (guard_hyp hb : true = true)); (fail_if_success (guard_hyp hb : false = true)); all_goals (have hp := hb; (try simp only [decide_eq_true_eq, Bool.eq_false_iff, ne_eq, Bool.not_eq_true', Bool.not_eq_false', Bool.and_eq_true, Bool.or_eq_true, decide_true, decide_false, Bool.and_true, Bool.true_and, Bool.false_eq_true, not_false_eq_true, true_and, and_true] at hp); (try rw [hb]); (try clear hb))) | refine pd_pcall (cpu_awake) ?_ | refine pd_pcall_g (cpu_awake) ?_ | refine pd_pcall (hmay) ?_ | refine pd_pcall_g (hmay) ?_) | (refine kn ?_; repeat (first | with_reducible refine blk_n ?_ | with_reducible refine beh_n ?_)) | (refine kx ?_; (repeat (first | with_reducible refine beh_x ?_ | with_reducible refine blk_up rfl ?_)); refine blk_here ?_; refine beh_n ?_)))
    all_goals (refine ends_ret ?_ retPV_one; rfl)
  by_cases c2 : b < 0
  · refine pcall_mk Try.func6 rfl [.tmp 6] Try.results6 162 rfl (tk_start ?_)
    (repeat' (first | refine ka ?_ | refine ksk ?_ | (refine kr ?_ ?_ ?_; first | refine pops_end ?_ | (refine ps_split (fun hb => ?_) (fun hb => ?_); (fail_if_success (guard_hyp hb : true = true)); (fail_if_success (guard_hyp hb : false = true)); all_goals (have hp := hb; (try simp only [decide_eq_true_eq, Bool.eq_false_iff, ne_eq, Bool.not_eq_true', Bool.not_eq_false', Bool.and_eq_true, Bool.or_eq_true, decide_true, decide_false, Bool.and_true, Bool.true_and, Bool.false_eq_true, not_false_eq_true, true_and, and_true] at hp); (try rw [hb]); (try clear hb))) | refine ps_pcall (cpu_awake) ?_ | refine ps_pcall_g (cpu_awake) ?_ | refine ps_pcall (hmay) ?_ | refine ps_pcall_g (hmay) ?_ | refine ps_alloc fun g => ?_ | refine ps_box fun g => ?_ | refine ps_store ?_ | refine ps_lit fun g => ?_ | refine pops_nil ?_ | skip) | (refine kd ?_ ?_ ?_; first | refine pstl_end ?_ | (refine pd_split (fun hb => ?_) (fun hb => ?_); (fail_if_success (guard_hyp hb : true = true)); (fail_if_success (guard_hyp hb : false = true)); all_goals (have hp := hb; (try simp only [decide_eq_true_eq, Bool.eq_false_iff, ne_eq, Bool.not_eq_true', Bool.not_eq_false', Bool.and_eq_true, Bool.or_eq_true, decide_true, decide_false, Bool.and_true, Bool.true_and, Bool.false_eq_true, not_false_eq_true, true_and, and_true] at hp); (try rw [hb]); (try clear hb))) | refine pd_pcall (cpu_awake) ?_ | refine pd_pcall_g (cpu_awake) ?_ | refine pd_pcall (hmay) ?_ | refine pd_pcall_g (hmay) ?_ | skip) | refine kct ?_ | refine kcf ?_ | (refine kcs (fun hb => ?_) (fun hb => ?_) <;> (have hp := hb; (try simp only [decide_eq_true_eq, Bool.eq_false_iff, ne_eq, Bool.not_eq_true', Bool.not_eq_false', Bool.and_eq_true, Bool.or_eq_true, decide_true, decide_false, Bool.and_true, Bool.true_and, Bool.false_eq_true, not_false_eq_true, true_and, and_true] at hp); (try rw [hb]); (try clear hb))) | (refine kret ?_; repeat (first | with_reducible refine beh_r ?_ | with_reducible refine blk_r ?_)) | refine kb ?_ | (refine ps_split (fun hb => ?_) (fun hb => ?_); (fail_if_success (guard_hyp hb : true = true)); (fail_if_success (guard_hyp hb : false = true)); all_goals (have hp := hb; (try simp only [decide_eq_true_eq, Bool.eq_false_iff, ne_eq, Bool.not_eq_true', Bool.not_eq_false', Bool.and_eq_true, Bool.or_eq_true, decide_true, decide_false, Bool.and_true, Bool.true_and, Bool.false_eq_true, not_false_eq_true, true_and, and_true] at hp); (try rw [hb]); (try clear hb))) | refine ps_pcall (cpu_awake) ?_ | refine ps_pcall_g (cpu_awake) ?_ | refine ps_pcall (hmay) ?_ | refine ps_pcall_g (hmay) ?_ | refine ps_alloc fun g => ?_ | refine ps_box fun g => ?_ | refine ps_store ?_ | refine ps_lit fun g => ?_ | refine pops_nil ?_ | (refine pd_split (fun hb => ?_) (fun hb => ?_); (fail_if_success (guard_hyp hb : true = true)); (fail_if_success (guard_hyp hb : false = true)); all_goals (have hp := hb; (try simp only [decide_eq_true_eq, Bool.eq_false_iff, ne_eq, Bool.not_eq_true', Bool.not_eq_false', Bool.and_eq_true, Bool.or_eq_true, decide_true, decide_false, Bool.and_true, Bool.true_and, Bool.false_eq_true, not_false_eq_true, true_and, and_true] at hp); (try rw [hb]); (try clear hb))) | refine pd_pcall (cpu_awake) ?_ | refine pd_pcall_g (cpu_awake) ?_ | refine pd_pcall (hmay) ?_ | refine pd_pcall_g (hmay) ?_ | (refine pops_go ?_ ?_ ?_; first | refine pops_end ?_ | (refine ps_split (fun hb => ?_) (fun hb => ?_); (fail_if_success (guard_hyp hb : true = true)); (fail_if_success (guard_hyp hb : false = true)); all_goals (have hp := hb; (try simp only [decide_eq_true_eq, Bool.eq_false_iff, ne_eq, Bool.not_eq_true', Bool.not_eq_false', Bool.and_eq_true, Bool.or_eq_true, decide_true, decide_false, Bool.and_true, Bool.true_and, Bool.false_eq_true, not_false_eq_true, true_and, and_true] at hp); (try rw [hb]); (try clear hb))) | refine ps_pcall (cpu_awake) ?_ | refine ps_pcall_g (cpu_awake) ?_ | refine ps_pcall (hmay) ?_ | refine ps_pcall_g (hmay) ?_ | refine ps_alloc fun g => ?_ | refine ps_box fun g => ?_ | refine ps_store ?_ | refine ps_lit fun g => ?_ | refine pops_nil ?_) | (refine pstl_go ?_ ?_ ?_; first | refine pstl_end ?_ | (refine pd_split (fun hb => ?_) (fun hb => ?_); (fail_if_success (guard_hyp hb : true = true)); (fail_if_success (guard_hyp hb : false = true)); all_goals (have hp := hb; (try simp only [decide_eq_true_eq, Bool.eq_false_iff, ne_eq, Bool.not_eq_true', Bool.not_eq_false', Bool.and_eq_true, Bool.or_eq_true, decide_true, decide_false, Bool.and_true, Bool.true_and, Bool.false_eq_true, not_false_eq_true, true_and, and_true] at hp); (try rw [hb]); (try clear hb))) | refine pd_pcall (cpu_awake) ?_ | refine pd_pcall_g (cpu_awake) ?_ | refine pd_pcall (hmay) ?_ | refine pd_pcall_g (hmay) ?_) | (refine kn ?_; repeat (first | with_reducible refine blk_n ?_ | with_reducible refine beh_n ?_)) | (refine kx ?_; (repeat (first | with_reducible refine beh_x ?_ | with_reducible refine blk_up rfl ?_)); refine blk_here ?_; refine beh_n ?_)))
    all_goals (refine ends_ret ?_ retPV_one; rfl)
  by_cases c3 : 2000 < a
  · refine pcall_mk Try.func6 rfl [.tmp 6] Try.results6 162 rfl (tk_start ?_)
    (repeat' (first | refine ka ?_ | refine ksk ?_ | (refine kr ?_ ?_ ?_; first | refine pops_end ?_ | (refine ps_split (fun hb => ?_) (fun hb => ?_); (fail_if_success (guard_hyp hb : true = true)); (fail_if_success (guard_hyp hb : false = true)); all_goals (have hp := hb; (try simp only [decide_eq_true_eq, Bool.eq_false_iff, ne_eq, Bool.not_eq_true', Bool.not_eq_false', Bool.and_eq_true, Bool.or_eq_true, decide_true, decide_false, Bool.and_true, Bool.true_and, Bool.false_eq_true, not_false_eq_true, true_and, and_true] at hp); (try rw [hb]); (try clear hb))) | refine ps_pcall (cpu_awake) ?_ | refine ps_pcall_g (cpu_awake) ?_ | refine ps_pcall (hmay) ?_ | refine ps_pcall_g (hmay) ?_ | refine ps_alloc fun g => ?_ | refine ps_box fun g => ?_ | refine ps_store ?_ | refine ps_lit fun g => ?_ | refine pops_nil ?_ | skip) | (refine kd ?_ ?_ ?_; first | refine pstl_end ?_ | (refine pd_split (fun hb => ?_) (fun hb => ?_); (fail_if_success (guard_hyp hb : true = true)); (fail_if_success (guard_hyp hb : false = true)); all_goals (have hp := hb; (try simp only [decide_eq_true_eq, Bool.eq_false_iff, ne_eq, Bool.not_eq_true', Bool.not_eq_false', Bool.and_eq_true, Bool.or_eq_true, decide_true, decide_false, Bool.and_true, Bool.true_and, Bool.false_eq_true, not_false_eq_true, true_and, and_true] at hp); (try rw [hb]); (try clear hb))) | refine pd_pcall (cpu_awake) ?_ | refine pd_pcall_g (cpu_awake) ?_ | refine pd_pcall (hmay) ?_ | refine pd_pcall_g (hmay) ?_ | skip) | refine kct ?_ | refine kcf ?_ | (refine kcs (fun hb => ?_) (fun hb => ?_) <;> (have hp := hb; (try simp only [decide_eq_true_eq, Bool.eq_false_iff, ne_eq, Bool.not_eq_true', Bool.not_eq_false', Bool.and_eq_true, Bool.or_eq_true, decide_true, decide_false, Bool.and_true, Bool.true_and, Bool.false_eq_true, not_false_eq_true, true_and, and_true] at hp); (try rw [hb]); (try clear hb))) | (refine kret ?_; repeat (first | with_reducible refine beh_r ?_ | with_reducible refine blk_r ?_)) | refine kb ?_ | (refine ps_split (fun hb => ?_) (fun hb => ?_); (fail_if_success (guard_hyp hb : true = true)); (fail_if_success (guard_hyp hb : false = true)); all_goals (have hp := hb; (try simp only [decide_eq_true_eq, Bool.eq_false_iff, ne_eq, Bool.not_eq_true', Bool.not_eq_false', Bool.and_eq_true, Bool.or_eq_true, decide_true, decide_false, Bool.and_true, Bool.true_and, Bool.false_eq_true, not_false_eq_true, true_and, and_true] at hp); (try rw [hb]); (try clear hb))) | refine ps_pcall (cpu_awake) ?_ | refine ps_pcall_g (cpu_awake) ?_ | refine ps_pcall (hmay) ?_ | refine ps_pcall_g (hmay) ?_ | refine ps_alloc fun g => ?_ | refine ps_box fun g => ?_ | refine ps_store ?_ | refine ps_lit fun g => ?_ | refine pops_nil ?_ | (refine pd_split (fun hb => ?_) (fun hb => ?_); (fail_if_success (guard_hyp hb : true = true)); (fail_if_success (guard_hyp hb : false = true)); all_goals (have hp := hb; (try simp only [decide_eq_true_eq, Bool.eq_false_iff, ne_eq, Bool.not_eq_true', Bool.not_eq_false', Bool.and_eq_true, Bool.or_eq_true, decide_true, decide_false, Bool.and_true, Bool.true_and, Bool.false_eq_true, not_false_eq_true, true_and, and_true] at hp); (try rw [hb]); (try clear hb))) | refine pd_pcall (cpu_awake) ?_ | refine pd_pcall_g (cpu_awake) ?_ | refine pd_pcall (hmay) ?_ | refine pd_pcall_g (hmay) ?_ | (refine pops_go ?_ ?_ ?_; first | refine pops_end ?_ | (refine ps_split (fun hb => ?_) (fun hb => ?_); (fail_if_success (guard_hyp hb : true = true)); (fail_if_success (guard_hyp hb : false = true)); all_goals (have hp := hb; (try simp only [decide_eq_true_eq, Bool.eq_false_iff, ne_eq, Bool.not_eq_true', Bool.not_eq_false', Bool.and_eq_true, Bool.or_eq_true, decide_true, decide_false, Bool.and_true, Bool.true_and, Bool.false_eq_true, not_false_eq_true, true_and, and_true] at hp); (try rw [hb]); (try clear hb))) | refine ps_pcall (cpu_awake) ?_ | refine ps_pcall_g (cpu_awake) ?_ | refine ps_pcall (hmay) ?_ | refine ps_pcall_g (hmay) ?_ | refine ps_alloc fun g => ?_ | refine ps_box fun g => ?_ | refine ps_store ?_ | refine ps_lit fun g => ?_ | refine pops_nil ?_) | (refine pstl_go ?_ ?_ ?_; first | refine pstl_end ?_ | (refine pd_split (fun hb => ?_) (fun hb => ?_); (fail_if_success (guard_hyp hb : true = true)); (fail_if_success (guard_hyp hb : false = true)); all_goals (have hp := hb; (try simp only [decide_eq_true_eq, Bool.eq_false_iff, ne_eq, Bool.not_eq_true', Bool.not_eq_false', Bool.and_eq_true, Bool.or_eq_true, decide_true, decide_false, Bool.and_true, Bool.true_and, Bool.false_eq_true, not_false_eq_true, true_and, and_true] at hp); (try rw [hb]); (try clear hb))) | refine pd_pcall (cpu_awake) ?_ | refine pd_pcall_g (cpu_awake) ?_ | refine pd_pcall (hmay) ?_ | refine pd_pcall_g (hmay) ?_) | (refine kn ?_; repeat (first | with_reducible refine blk_n ?_ | with_reducible refine beh_n ?_)) | (refine kx ?_; (repeat (first | with_reducible refine beh_x ?_ | with_reducible refine blk_up rfl ?_)); refine blk_here ?_; refine beh_n ?_)))
    all_goals (refine ends_ret ?_ retPV_one; rfl)
  by_cases c4 : 2000 < b
  · refine pcall_mk Try.func6 rfl [.tmp 6] Try.results6 162 rfl (tk_start ?_)
    (repeat' (first | refine ka ?_ | refine ksk ?_ | (refine kr ?_ ?_ ?_; first | refine pops_end ?_ | (refine ps_split (fun hb => ?_) (fun hb => ?_); (fail_if_success (guard_hyp hb : true = true)); (fail_if_success (guard_hyp hb : false = true)); all_goals (have hp := hb; (try simp only [decide_eq_true_eq, Bool.eq_false_iff, ne_eq, Bool.not_eq_true', Bool.not_eq_false', Bool.and_eq_true, Bool.or_eq_true, decide_true, decide_false, Bool.and_true, Bool.true_and, Bool.false_eq_true, not_false_eq_true, true_and, and_true] at hp); (try rw [hb]); (try clear hb))) | refine ps_pcall (cpu_awake) ?_ | refine ps_pcall_g (cpu_awake) ?_ | refine ps_pcall (hmay) ?_ | refine ps_pcall_g (hmay) ?_ | refine ps_alloc fun g => ?_ | refine ps_box fun g => ?_ | refine ps_store ?_ | refine ps_lit fun g => ?_ | refine pops_nil ?_ | skip) | (refine kd ?_ ?_ ?_; first | refine pstl_end ?_ | (refine pd_split (fun hb => ?_) (fun hb => ?_); (fail_if_success (guard_hyp hb : true = true)); (fail_if_success (guard_hyp hb : false = true)); all_goals (have hp := hb; (try simp only [decide_eq_true_eq, Bool.eq_false_iff, ne_eq, Bool.not_eq_true', Bool.not_eq_false', Bool.and_eq_true, Bool.or_eq_true, decide_true, decide_false, Bool.and_true, Bool.true_and, Bool.false_eq_true, not_false_eq_true, true_and, and_true] at hp); (try rw [hb]); (try clear hb))) | refine pd_pcall (cpu_awake) ?_ | refine pd_pcall_g (cpu_awake) ?_ | refine pd_pcall (hmay) ?_ | refine pd_pcall_g (hmay) ?_ | skip) | refine kct ?_ | refine kcf ?_ | (refine kcs (fun hb => ?_) (fun hb => ?_) <;> (have hp := hb; (try simp only [decide_eq_true_eq, Bool.eq_false_iff, ne_eq, Bool.not_eq_true', Bool.not_eq_false', Bool.and_eq_true, Bool.or_eq_true, decide_true, decide_false, Bool.and_true, Bool.true_and, Bool.false_eq_true, not_false_eq_true, true_and, and_true] at hp); (try rw [hb]); (try clear hb))) | (refine kret ?_; repeat (first | with_reducible refine beh_r ?_ | with_reducible refine blk_r ?_)) | refine kb ?_ | (refine ps_split (fun hb => ?_) (fun hb => ?_); (fail_if_success (guard_hyp hb : true = true)); (fail_if_success (guard_hyp hb : false = true)); all_goals (have hp := hb; (try simp only [decide_eq_true_eq, Bool.eq_false_iff, ne_eq, Bool.not_eq_true', Bool.not_eq_false', Bool.and_eq_true, Bool.or_eq_true, decide_true, decide_false, Bool.and_true, Bool.true_and, Bool.false_eq_true, not_false_eq_true, true_and, and_true] at hp); (try rw [hb]); (try clear hb))) | refine ps_pcall (cpu_awake) ?_ | refine ps_pcall_g (cpu_awake) ?_ | refine ps_pcall (hmay) ?_ | refine ps_pcall_g (hmay) ?_ | refine ps_alloc fun g => ?_ | refine ps_box fun g => ?_ | refine ps_store ?_ | refine ps_lit fun g => ?_ | refine pops_nil ?_ | (refine pd_split (fun hb => ?_) (fun hb => ?_); (fail_if_success (guard_hyp hb : true = true)); (fail_if_success (guard_hyp hb : false = true)); all_goals (have hp := hb; (try simp only [decide_eq_true_eq, Bool.eq_false_iff, ne_eq, Bool.not_eq_true', Bool.not_eq_false', Bool.and_eq_true, Bool.or_eq_true, decide_true, decide_false, Bool.and_true, Bool.true_and, Bool.false_eq_true, not_false_eq_true, true_and, and_true] at hp); (try rw [hb]); (try clear hb))) | refine pd_pcall (cpu_awake) ?_ | refine pd_pcall_g (cpu_awake) ?_ | refine pd_pcall (hmay) ?_ | refine pd_pcall_g (hmay) ?_ | (refine pops_go ?_ ?_ ?_; first | refine pops_end ?_ | (refine ps_split (fun hb => ?_) (fun hb => ?_); (fail_if_success (guard_hyp hb : true = true)); (fail_if_success (guard_hyp hb : false = true)); all_goals (have hp := hb; (try simp only [decide_eq_true_eq, Bool.eq_false_iff, ne_eq, Bool.not_eq_true', Bool.not_eq_false', Bool.and_eq_true, Bool.or_eq_true, decide_true, decide_false, Bool.and_true, Bool.true_and, Bool.false_eq_true, not_false_eq_true, true_and, and_true] at hp); (try rw [hb]); (try clear hb))) | refine ps_pcall (cpu_awake) ?_ | refine ps_pcall_g (cpu_awake) ?_ | refine ps_pcall (hmay) ?_ | refine ps_pcall_g (hmay) ?_ | refine ps_alloc fun g => ?_ | refine ps_box fun g => ?_ | refine ps_store ?_ | refine ps_lit fun g => ?_ | refine pops_nil ?_) | (refine pstl_go ?_ ?_ ?_; first | refine pstl_end ?_ | (refine pd_split (fun hb => ?_) (fun hb => ?_); (fail_if_success (guard_hyp hb : true = true)); (fail_if_success (guard_hyp hb : false = true)); all_goals (have hp := hb; (try simp only [decide_eq_true_eq, Bool.eq_false_iff, ne_eq, Bool.not_eq_true', Bool.not_eq_false', Bool.and_eq_true, Bool.or_eq_true, decide_true, decide_false, Bool.and_true, Bool.true_and, Bool.false_eq_true, not_false_eq_true, true_and, and_true] at hp); (try rw [hb]); (try clear hb))) | refine pd_pcall (cpu_awake) ?_ | refine pd_pcall_g (cpu_awake) ?_ | refine pd_pcall (hmay) ?_ | refine pd_pcall_g (hmay) ?_) | (refine kn ?_; repeat (first | with_reducible refine blk_n ?_ | with_reducible refine beh_n ?_)) | (refine kx ?_; (repeat (first | with_reducible refine beh_x ?_ | with_reducible refine blk_up rfl ?_)); refine blk_here ?_; refine beh_n ?_)))
    all_goals (refine ends_ret ?_ retPV_one; rfl)
  obtain ⟨a, rfl⟩ := Int.eq_ofNat_of_zero_le (show 0 ≤ a by omega)
  obtain ⟨b, rfl⟩ := Int.eq_ofNat_of_zero_le (show 0 ≤ b by omega)
  have hw : IntKind.i64.wrap ((a : Int) + b) = ((a + b : Nat) : Int) := by rw [wrap_i64 _ (by omega) (by omega)]; omega
  obtain ⟨iu, su, eu⟩ := hinv.run a (by omega)
  have q1 := run_ok s hinv a (by omega)
  have q2 := state_ok (s.run a) iu.ok
  have q3 := run_ok (s.run a) iu b (by omega)
  have q4 := run_ok s hinv (a + b) (by omega)
  obtain ⟨it, st, et⟩ := hinv.run (a + b) (by omega)
  rw [run_add] at q4 it st et
  have hend : (s.run a).ended = true → (s.run a).run b = s.run a := fun h => run_end h b
  have q5 := state_ok ((s.run a).run b) it.ok
  have q6 := fun gc gm gb gt => stateX_ok ((s.run a).run b) it.ok gc gm gb gt
  have q7 := records_ok ((s.run a).run b) it.ok
  have hto := it.ok.tl
  have hte := it.ok.te
  have q8 := own11 ((s.run a).run b).told (by omega)
  have q9 := same11 ((s.run a).run b).told (by omega) fun r hr => ⟨(hte r hr).1.1, (hte r hr).2.1⟩
  have q10 := step_ok ((s.run a).run b) it.ok (by omega)
  have t0 := it.r0
  have t1 := it.tr
  clear hte hto iu su eu it
  generalize s.run a = u at *
  generalize u.run b = t at *
  have hcase : ∃ (bu bt : Bool) (e : Int), u.ended = bu ∧ t.ended = bt ∧ t.err = e ∧ ((bu = true ∧ bt = true ∧ t = u ∧ ((e = 0 ∧ t.trap = 0) ∨ (e = 8 ∧ ¬ t.trap = 0))) ∨ (bu = false ∧ bt = true ∧ ((e = 0 ∧ t.trap = 0) ∨ (e = 8 ∧ ¬ t.trap = 0))) ∨ (bu = false ∧ bt = false ∧ e = 9 ∧ t.trap = 0 ∧ t.steps = ((a + b : Nat) : Int))) := by
    refine ⟨u.ended, t.ended, t.err, rfl, rfl, rfl, ?_⟩
    cases hu : u.ended with
    | true =>
      have := hend hu
      refine .inl ⟨rfl, by rw [this, hu], this, ?_⟩
      unfold CS.err
      rw [this, hu, if_pos rfl]
      by_cases h : u.trap = 0
      · exact .inl ⟨if_pos h, h⟩
      · exact .inr ⟨if_neg h, h⟩
    | false =>
      cases ht : t.ended with
      | true =>
        refine .inr (.inl ⟨rfl, rfl, ?_⟩)
        unfold CS.err
        rw [ht, if_pos rfl]
        by_cases h : t.trap = 0
        · exact .inl ⟨if_pos h, h⟩
        · exact .inr ⟨if_neg h, h⟩
      | false =>
        refine .inr (.inr ⟨rfl, rfl, ?_, t1 ht, by rw [et ht, hst]; omega⟩)
        unfold CS.err
        rw [ht]
        rfl
  obtain ⟨bu, bt, e, k1, k2, k3, k4⟩ := hcase
  rw [k3] at q3 q4
  rw [stC_E k1] at q2
  rw [stC_E k2] at q5
  simp only [stC_E k2] at q6
  rw [k2] at q10
  have hsm : t.steps ≤ ((a + b : Nat) : Int) := by omega
  clear k1 k2 k3 et st hend hst t1
  unfold CS.stE at q2 q5 q6
  refine pcall_mk Try.func6 rfl [.tmp 6] Try.results6 162 rfl (tk_start ?_)
  (repeat refine ka ?_); refine kr ?_ ?_ ?_
  refine ps_box fun gx => ?_
  refine pops_go ?_ ?_ (pops_end ?_)
  (repeat refine ka ?_); refine kr ?_ ?_ ?_
  refine ps_pcall cpu_awake ?_
  refine pops_go ?_ ?_ (pops_end ?_)
  (repeat refine ka ?_); refine kr ?_ ?_ ?_
  refine ps_pcall hmay ?_
  refine pops_go ?_ ?_ (pops_end ?_)
  (repeat refine ka ?_); refine kr ?_ ?_ (pops_end ?_)
  (repeat refine ka ?_); refine kcf ?_
  (repeat refine ka ?_); refine ksk ?_
  (repeat refine ka ?_); refine kr ?_ ?_ ?_
  refine ps_fcall [] hmade ?_ (by rintro x S' _; exact Nat.zero_le _)
  rintro x S' ⟨J0, J1, J2, gb, gm, gc, gt, rfl, rfl⟩
  (intro x1 S1 hx1 hS1; simp only [List.map_cons, List.map_nil, renB, ren_ints, ren_ci,ren_cpuTl,ren_recRows, putB, List.set_cons_zero, List.set_cons_succ, List.cons_append, List.nil_append, List.append_nil, renL, ren, sg, List.length_cons, List.length_nil, Nat.reduceAdd, Nat.zero_add, Nat.add_zero] at hx1 hS1; subst hx1 hS1)
  refine pops_go ?_ ?_ (pops_end ?_)
  (repeat refine ka ?_); refine kr ?_ ?_ ?_
  refine ps_fcall [] hmade ?_ (by rintro x S' _; exact Nat.zero_le _)
  rintro x S' ⟨L0, L1, L2, hb_, hm_, hc_, ht_, rfl, rfl⟩
  (intro x1 S1 hx1 hS1; simp only [List.map_cons, List.map_nil, renB, ren_ints, ren_ci,ren_cpuTl,ren_recRows, putB, List.set_cons_zero, List.set_cons_succ, List.cons_append, List.nil_append, List.append_nil, renL, ren, sg, List.length_cons, List.length_nil, Nat.reduceAdd, Nat.zero_add, Nat.add_zero] at hx1 hS1; subst hx1 hS1)
  refine pops_go ?_ ?_ (pops_end ?_)
  (repeat refine ka ?_); refine kr ?_ ?_ (pops_end ?_)
  (repeat refine ka ?_); refine kcf ?_
  (repeat refine ka ?_); refine ksk ?_
  (repeat refine ka ?_); refine kr ?_ ?_ ?_
  refine ps_mcall 6 3 2 7 q1 fun g1 => ?_
  refine pops_go ?_ ?_ (pops_end ?_)
  (repeat refine ka ?_); refine kr ?_ ?_ ?_
  refine ps_mcall 6 3 2 7 q2 fun g2 => ?_
  refine pops_go ?_ ?_ ?_
  refine ps_alloc fun g3 => ?_
  refine pops_go ?_ ?_ ?_
  refine ps_store ?_
  refine pops_go ?_ ?_ (pops_end ?_)
  (repeat refine ka ?_); refine kr ?_ ?_ ?_
  refine ps_mcall 6 3 2 7 q3 fun g4 => ?_
  refine pops_go ?_ ?_ (pops_end ?_)
  (repeat refine ka ?_); refine kr ?_ ?_ ?_
  refine ps_mcall 13 10 9 14 q4 fun g5 => ?_
  refine pops_go ?_ ?_ (pops_end ?_)
  (repeat refine ka ?_); refine kr ?_ ?_ ?_
  refine ps_mcall 6 3 2 7 q5 fun g6 => ?_
  refine pops_go ?_ ?_ ?_
  refine ps_alloc fun g7 => ?_
  refine pops_go ?_ ?_ ?_
  refine ps_store ?_
  refine pops_go ?_ ?_ (pops_end ?_)
  (repeat refine ka ?_); refine kr ?_ ?_ ?_
  refine ps_mcall 6 3 2 7 q7 (fun g8 => ?_) (hy := fun f => by simp only [ren, ren_recRows])
  refine pops_go ?_ ?_ ?_
  refine ps_pcall q8 ?_
  refine pops_go ?_ ?_ ?_
  refine ps_mcall 13 10 9 14 q7 (fun g9 => ?_) (hy := fun f => by simp only [ren, ren_recRows])
  refine pops_go ?_ ?_ ?_
  refine ps_pcall q8 ?_
  refine pops_go ?_ ?_ ?_
  refine ps_pcall q9 ?_
  refine pops_go ?_ ?_ (pops_end ?_)
  (repeat refine ka ?_); refine kd ?_ ?_ ?_
  refine pd_mcall_g 13 10 9 14 (q6 _ _ _ _) ?_
  refine pd_ane_self_g ?_ (by kernel_rfl)
  refine pstl_go ?_ ?_ (pstl_end ?_)
  (repeat refine ka ?_); refine kcf ?_
  (repeat refine ka ?_); refine ksk ?_
  rcases k4 with ⟨rfl, rfl, rfl, ⟨rfl, tt⟩ | ⟨rfl, tt⟩⟩ | ⟨rfl, rfl, ⟨rfl, tt⟩ | ⟨rfl, tt⟩⟩ | ⟨rfl, rfl, rfl, tt, hs⟩
  · (repeat refine ka ?_); refine kr ?_ ?_ ?_
    refine ps_ane_self_g ?_ (by kernel_rfl)
    refine pops_go ?_ ?_ (pops_end ?_)
    (repeat refine ka ?_); refine kcf ?_
    (repeat refine ka ?_); refine ksk ?_
    (repeat refine ka ?_); refine kr ?_ ?_ ?_
    refine ps_mcall 6 3 2 7 q10 fun g10 => ?_
    refine pops_go ?_ ?_ (pops_end ?_)
    (repeat refine ka ?_); refine kr ?_ ?_ (pops_end ?_)
    (repeat refine ka ?_); refine kret ?_; repeat (first | with_reducible refine beh_r ?_ | with_reducible refine blk_r ?_)
    refine ends_ret ?_ retPV_one
    rfl
  · (repeat refine ka ?_); refine kr ?_ ?_ ?_
    refine ps_ane_self_g ?_ (by kernel_rfl)
    refine pops_go ?_ ?_ (pops_end ?_)
    (repeat refine ka ?_); refine kcf ?_
    (repeat refine ka ?_); refine ksk ?_
    (repeat refine ka ?_); refine kr ?_ ?_ ?_
    refine ps_mcall 6 3 2 7 q10 fun g10 => ?_
    refine pops_go ?_ ?_ (pops_end ?_)
    (repeat refine ka ?_); refine kr ?_ ?_ (pops_end ?_)
    (repeat refine ka ?_); refine kret ?_; repeat (first | with_reducible refine beh_r ?_ | with_reducible refine blk_r ?_)
    refine ends_ret ?_ retPV_one
    rfl
  · (repeat refine ka ?_); refine kr ?_ ?_ (pops_end ?_)
    (repeat refine ka ?_); refine kcf ?_
    (repeat refine ka ?_); refine ksk ?_
    (repeat refine ka ?_); refine kr ?_ ?_ ?_
    refine ps_mcall 6 3 2 7 q10 fun g10 => ?_
    refine pops_go ?_ ?_ (pops_end ?_)
    (repeat refine ka ?_); refine kr ?_ ?_ (pops_end ?_)
    (repeat refine ka ?_); refine kret ?_; repeat (first | with_reducible refine beh_r ?_ | with_reducible refine blk_r ?_)
    refine ends_ret ?_ retPV_one
    rfl
  · (repeat refine ka ?_); refine kr ?_ ?_ (pops_end ?_)
    (repeat refine ka ?_); refine kcf ?_
    (repeat refine ka ?_); refine ksk ?_
    (repeat refine ka ?_); refine kr ?_ ?_ ?_
    refine ps_mcall 6 3 2 7 q10 fun g10 => ?_
    refine pops_go ?_ ?_ (pops_end ?_)
    (repeat refine ka ?_); refine kr ?_ ?_ (pops_end ?_)
    (repeat refine ka ?_); refine kret ?_; repeat (first | with_reducible refine beh_r ?_ | with_reducible refine blk_r ?_)
    refine ends_ret ?_ retPV_one
    rfl
  · (repeat refine ka ?_); refine kr ?_ ?_ (pops_end ?_)
    (repeat refine ka ?_); refine kcf ?_
    (repeat refine ka ?_); refine ksk ?_
    (repeat refine ka ?_); refine kr ?_ ?_ ?_
    refine ps_mcall 6 3 2 7 q10 fun g10 => ?_
    refine pops_go ?_ ?_ (pops_end ?_)
    (repeat refine ka ?_); refine kr ?_ ?_ (pops_end ?_)
    (repeat refine ka ?_); refine kret ?_; repeat (first | with_reducible refine beh_r ?_ | with_reducible refine blk_r ?_)
    refine ends_ret ?_ retPV_one
    rfl
end Go.Proofs.Ytfjodfeoncoaoaa.Pv
