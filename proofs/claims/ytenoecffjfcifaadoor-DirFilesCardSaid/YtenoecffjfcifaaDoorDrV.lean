-- DirFiles.
import Derived.Test.YtenoecffjfcifaaDoorDrU
namespace Go.Proofs.YtenoecffjfcifaaDoor.Pv
set_option linter.all false
set_option linter.unusedVariables false
open Go.RowKit Go.Proofs
set_option maxRecDepth 100000
set_option maxHeartbeats 4000000
theorem pick_perm_sub {F : List Fi} {P : List (List Int)} : ∀ f ∈ pickF F P, f ∈ F := fun f hf => pick_mem hf
theorem ofF_ok {F : List Fi} (hF : FisOk F) : EnsOk (ofF F).1 ∧ (ofF F).1.length ≤ 40000 ∧ (ofF F).2.1.length ≤ 2621440000 ∧ Oct (ofF F).2.1 := by
  unfold ofF
  have hnn : ∀ x ∈ F.map fun f => (f.2.length : Int), 0 ≤ x := by intro x hx; obtain ⟨e, he, rfl⟩ := List.mem_map.1 hx; omega
  by_cases q0 : rsetF (F.map (·.1)) = 0
  · rw [if_neg (fun h => h q0)]
    by_cases q1 : 65536 < totF F
    · rw [if_pos q1]
      exact ⟨(fun e he => by cases he), Nat.zero_le _, Nat.zero_le _, (fun x hx => by cases hx)⟩
    · rw [if_neg q1]
      have hFl : F.length ≤ 200 := by have := (rsetF_zero.1 q0).1; rwa [List.length_map] at this
      have hd : ∀ f ∈ F, f.2.length ≤ 65536 := fun f hf => by
        have := mem_le_sum hnn (List.mem_map_of_mem (f := fun f : Fi => (f.2.length : Int)) hf)
        unfold totF at q1
        omega
      have hm : ∀ f ∈ sortFi F, f ∈ F := fun f hf => pick_mem hf
      have hlen : (sortFi F).length ≤ 40000 := by
        have h1 := pick_len F (rsortF (F.map (·.1)))
        rw [rsortF_length, List.length_map] at h1
        have h2 : F.length * F.length ≤ 200 * 200 := Nat.mul_le_mul hFl hFl
        unfold sortFi
        omega
      refine ⟨fun e he => ?_, by simp only [entsOf, List.length_map]; exact hlen, ?_, ?_⟩
      · obtain ⟨f, hf, rfl⟩ := List.mem_map.1 he
        have h1 := hF f (hm f hf)
        have h2 := hd f (hm f hf)
        exact ⟨⟨h1.1.1, by simp only; omega, by simp only; omega⟩, h1.2.1⟩
      · have := data_len fun f hf => hd f (hm f hf)
        simp only
        omega
      · intro x hx
        simp only [dataOf, List.mem_flatten, List.mem_map] at hx
        obtain ⟨l, ⟨f, hf, rfl⟩, hx⟩ := hx
        exact (hF f (hm f hf)).1.2 x hx
  · rw [if_pos q0]
    exact ⟨(fun e he => by cases he), Nat.zero_le _, Nat.zero_le _, (fun x hx => by cases hx)⟩
theorem cutAt_ok : ∀ {E : List En} {b : List Int}, EnsOk E → Oct b → b.length ≤ 1000000000 → FisOk (cutAt E b)
  | [], b, _, _, _ => fun f hf => by cases hf
  | e :: E, b, hE, hb, hl => by
    intro f hf
    rw [cutAt] at hf
    rcases List.mem_cons.1 hf with rfl | hf
    · have := hE e (by simp)
      exact ⟨⟨this.1.1, oct_take hb _⟩, this.2, by simp only [List.length_take]; omega⟩
    · exact cutAt_ok (E := E) (b := b.drop e.2.toNat) (fun x hx => hE x (by simp [hx])) (oct_drop hb _) (by rw [List.length_drop]; omega) f hf
theorem cutF_ok {E : List En} {b : List Int} (hE : EnsOk E) (hb : Oct b) (hl : b.length ≤ 1000000000) : FisOk (cutF E b).1 ∧ (cutF E b).1.length ≤ E.length := by
  unfold cutF
  by_cases q : checkF E = 0
  · rw [if_neg (fun h => h q)]
    by_cases q1 : (E.map (·.2)).sum = b.length
    · rw [if_neg (fun h => h q1)]
      exact ⟨cutAt_ok hE hb hl, by rw [cutAt_length]; exact Nat.le_refl _⟩
    · rw [if_pos q1]
      exact ⟨(fun e he => by cases he), Nat.zero_le _⟩
  · rw [if_pos q]
    exact ⟨(fun e he => by cases he), Nat.zero_le _⟩
theorem sameb_big (a : List Int) (ha : a.length ≤ 2621440000) : PCall Tryd.prog 14 [.ro 1 false (ints .u8 a), .ro 1 false (ints .u8 a)] (.v (.bool true)) := by
  refine pcall_mk Tryd.func14 rfl [.tmp 4] Tryd.results14 26 rfl (tk_start ?_)
  (repeat refine ka ?_); refine kr ?_ ?_ (pops_end ?_)
  (repeat refine ka ?_); refine kr ?_ ?_ (pops_end ?_)
  (repeat refine ka ?_); refine kcf ?_
  (repeat refine ka ?_); refine ksk ?_
  (repeat refine ka ?_); refine kr ?_ ?_ (pops_end ?_)
  (repeat refine ka ?_); refine kb ?_
  refine kw (fun i : Nat => [(0, PV.ro 1 false (ints .u8 a)), (1, .ro 1 false (ints .u8 a)), (5, .v (.int .i64 i))]) (fun _ => []) (fun i => i ≤ a.length) (fun i => a.length - i) 0 (Nat.zero_le _) (holds 0 (by repeat (first | exact .nil | refine has1 ?_))) ?_
  rintro i hi
  by_cases g : (i : Int) < a.length
  · (repeat refine ka ?_); refine kr ?_ ?_ (pops_end ?_)
    (repeat refine ka ?_); refine kct ?_
    (repeat refine ka ?_); refine ksk ?_
    (repeat refine ka ?_); refine kb ?_
    (repeat refine ka ?_); refine kd ?_ ?_ (pstl_end ?_)
    (repeat refine ka ?_); refine kcf ?_
    (repeat refine ka ?_); refine ksk ?_
    refine kn ?_; repeat (first | with_reducible refine blk_n ?_ | with_reducible refine beh_n ?_)
    (repeat refine ka ?_); refine kr ?_ ?_ (pops_end ?_)
    refine kn ?_; repeat (first | with_reducible refine blk_n ?_ | with_reducible refine beh_n ?_)
    exact ⟨i + 1, by omega, by omega, (holds 0 (by repeat (first | exact .nil | refine has1 ?_)))⟩
  · (repeat refine ka ?_); refine kr ?_ ?_ (pops_end ?_)
    (repeat refine ka ?_); refine kcf ?_
    (repeat refine ka ?_); refine kx ?_; (repeat (first | with_reducible refine beh_x ?_ | with_reducible refine blk_up rfl ?_)); refine blk_here ?_; refine beh_n ?_
    (repeat refine ka ?_); refine kr ?_ ?_ (pops_end ?_)
    (repeat refine ka ?_); refine kret ?_; repeat (first | with_reducible refine beh_r ?_ | with_reducible refine blk_r ?_)
    refine ends_ret ?_ retPV_one
    rfl
theorem dfiles15 {x0 x1 x2 : PV} (h0 : SSl 2 40 (SFs [SStr, SSl 1 1 (SInt .u8)]) [x0]) (h1 : SSl 2 24 (SFs [SStr, SInt .i64]) [x1]) (h2 : SSl 1 1 (SInt .u8) [x2]) : PCall Tryd.prog 4 [x0, x1, x2] (.v (.bool true)) := by
  obtain ⟨F, e0, hF, lF⟩ := arg_fils h0
  obtain ⟨E, e1, hE, lE⟩ := arg_ents h1
  obtain ⟨b, e2, ob, lb⟩ := ssl_oneD h2
  cases e0; cases e1; cases e2
  have up := dir_awake
  have la := filRows_length F
  have lm : (E.map (·.1)).length = E.length := List.length_map ..
  have cp := paths_ok E lE
  obtain ⟨big1, hbig1, cl1⟩ := large15 F 70000 (by decide) (by omega) (fun f hf => (hF f hf).2)
  obtain ⟨big, hbig, cl⟩ := large06 (E.map (·.1)) (by omega) (fun x hx => by obtain ⟨e, he, rfl⟩ := List.mem_map.1 hx; exact (hE e he).2)
  cases big1 with
  | true =>
    refine pcall_mk Tryd.func4 rfl [.tmp 6] Tryd.results4 94 rfl (tk_start ?_)
    (repeat' (first | refine ka ?_ | refine ksk ?_ | (refine kr ?_ ?_ ?_; first | refine pops_end ?_ | (refine ps_split (fun hb => ?_) (fun hb => ?_); (fail_if_success (guard_hyp hb : true = true)); (fail_if_success (guard_hyp hb : false = true)); all_goals (have hp := hb; (try simp only [decide_eq_true_eq, Bool.eq_false_iff, ne_eq, Bool.not_eq_true', Bool.not_eq_false', Bool.and_eq_true, Bool.or_eq_true, decide_true, decide_false, Bool.and_true, Bool.true_and, Bool.false_eq_true, not_false_eq_true, true_and, and_true] at hp); (try rw [hb]); (try clear hb))) | refine ps_pcall (up) ?_ | refine ps_pcall_g (up) ?_ | refine ps_pcall (cp) ?_ | refine ps_pcall_g (cp) ?_ | refine ps_pcall (cl) ?_ | refine ps_pcall_g (cl) ?_ | refine ps_pcall (cl1) ?_ | refine ps_pcall_g (cl1) ?_ | refine ps_alloc fun g => ?_ | refine ps_box fun g => ?_ | refine ps_store ?_ | refine ps_lit fun g => ?_ | refine pops_nil ?_ | skip) | (refine kd ?_ ?_ ?_; first | refine pstl_end ?_ | (refine pd_split (fun hb => ?_) (fun hb => ?_); (fail_if_success (guard_hyp hb : true = true)); (fail_if_success (guard_hyp hb : false = true)); all_goals (have hp := hb; (try simp only [decide_eq_true_eq, Bool.eq_false_iff, ne_eq, Bool.not_eq_true', Bool.not_eq_false', Bool.and_eq_true, Bool.or_eq_true, decide_true, decide_false, Bool.and_true, Bool.true_and, Bool.false_eq_true, not_false_eq_true, true_and, and_true] at hp); (try rw [hb]); (try clear hb))) | refine pd_pcall (up) ?_ | refine pd_pcall_g (up) ?_ | refine pd_pcall (cp) ?_ | refine pd_pcall_g (cp) ?_ | refine pd_pcall (cl) ?_ | refine pd_pcall_g (cl) ?_ | refine pd_pcall (cl1) ?_ | refine pd_pcall_g (cl1) ?_ | skip) | refine kct ?_ | refine kcf ?_ | (refine kcs (fun hb => ?_) (fun hb => ?_) <;> (have hp := hb; (try simp only [decide_eq_true_eq, Bool.eq_false_iff, ne_eq, Bool.not_eq_true', Bool.not_eq_false', Bool.and_eq_true, Bool.or_eq_true, decide_true, decide_false, Bool.and_true, Bool.true_and, Bool.false_eq_true, not_false_eq_true, true_and, and_true] at hp); (try rw [hb]); (try clear hb))) | (refine kret ?_; repeat (first | with_reducible refine beh_r ?_ | with_reducible refine blk_r ?_)) | refine kb ?_ | (refine ps_split (fun hb => ?_) (fun hb => ?_); (fail_if_success (guard_hyp hb : true = true)); (fail_if_success (guard_hyp hb : false = true)); all_goals (have hp := hb; (try simp only [decide_eq_true_eq, Bool.eq_false_iff, ne_eq, Bool.not_eq_true', Bool.not_eq_false', Bool.and_eq_true, Bool.or_eq_true, decide_true, decide_false, Bool.and_true, Bool.true_and, Bool.false_eq_true, not_false_eq_true, true_and, and_true] at hp); (try rw [hb]); (try clear hb))) | refine ps_pcall (up) ?_ | refine ps_pcall_g (up) ?_ | refine ps_pcall (cp) ?_ | refine ps_pcall_g (cp) ?_ | refine ps_pcall (cl) ?_ | refine ps_pcall_g (cl) ?_ | refine ps_pcall (cl1) ?_ | refine ps_pcall_g (cl1) ?_ | refine ps_alloc fun g => ?_ | refine ps_box fun g => ?_ | refine ps_store ?_ | refine ps_lit fun g => ?_ | refine pops_nil ?_ | (refine pd_split (fun hb => ?_) (fun hb => ?_); (fail_if_success (guard_hyp hb : true = true)); (fail_if_success (guard_hyp hb : false = true)); all_goals (have hp := hb; (try simp only [decide_eq_true_eq, Bool.eq_false_iff, ne_eq, Bool.not_eq_true', Bool.not_eq_false', Bool.and_eq_true, Bool.or_eq_true, decide_true, decide_false, Bool.and_true, Bool.true_and, Bool.false_eq_true, not_false_eq_true, true_and, and_true] at hp); (try rw [hb]); (try clear hb))) | refine pd_pcall (up) ?_ | refine pd_pcall_g (up) ?_ | refine pd_pcall (cp) ?_ | refine pd_pcall_g (cp) ?_ | refine pd_pcall (cl) ?_ | refine pd_pcall_g (cl) ?_ | refine pd_pcall (cl1) ?_ | refine pd_pcall_g (cl1) ?_ | (refine pops_go ?_ ?_ ?_; first | refine pops_end ?_ | (refine ps_split (fun hb => ?_) (fun hb => ?_); (fail_if_success (guard_hyp hb : true = true)); (fail_if_success (guard_hyp hb : false = true)); all_goals (have hp := hb; (try simp only [decide_eq_true_eq, Bool.eq_false_iff, ne_eq, Bool.not_eq_true', Bool.not_eq_false', Bool.and_eq_true, Bool.or_eq_true, decide_true, decide_false, Bool.and_true, Bool.true_and, Bool.false_eq_true, not_false_eq_true, true_and, and_true] at hp); (try rw [hb]); (try clear hb))) | refine ps_pcall (up) ?_ | refine ps_pcall_g (up) ?_ | refine ps_pcall (cp) ?_ | refine ps_pcall_g (cp) ?_ | refine ps_pcall (cl) ?_ | refine ps_pcall_g (cl) ?_ | refine ps_pcall (cl1) ?_ | refine ps_pcall_g (cl1) ?_ | refine ps_alloc fun g => ?_ | refine ps_box fun g => ?_ | refine ps_store ?_ | refine ps_lit fun g => ?_ | refine pops_nil ?_) | (refine pstl_go ?_ ?_ ?_; first | refine pstl_end ?_ | (refine pd_split (fun hb => ?_) (fun hb => ?_); (fail_if_success (guard_hyp hb : true = true)); (fail_if_success (guard_hyp hb : false = true)); all_goals (have hp := hb; (try simp only [decide_eq_true_eq, Bool.eq_false_iff, ne_eq, Bool.not_eq_true', Bool.not_eq_false', Bool.and_eq_true, Bool.or_eq_true, decide_true, decide_false, Bool.and_true, Bool.true_and, Bool.false_eq_true, not_false_eq_true, true_and, and_true] at hp); (try rw [hb]); (try clear hb))) | refine pd_pcall (up) ?_ | refine pd_pcall_g (up) ?_ | refine pd_pcall (cp) ?_ | refine pd_pcall_g (cp) ?_ | refine pd_pcall (cl) ?_ | refine pd_pcall_g (cl) ?_ | refine pd_pcall (cl1) ?_ | refine pd_pcall_g (cl1) ?_) | (refine kn ?_; repeat (first | with_reducible refine blk_n ?_ | with_reducible refine beh_n ?_)) | (refine kx ?_; (repeat (first | with_reducible refine beh_x ?_ | with_reducible refine blk_up rfl ?_)); refine blk_here ?_; refine beh_n ?_)))
    all_goals (refine ends_ret ?_ retPV_one; rfl)
  | false =>
  cases big with
  | true =>
    refine pcall_mk Tryd.func4 rfl [.tmp 6] Tryd.results4 94 rfl (tk_start ?_)
    (repeat' (first | refine ka ?_ | refine ksk ?_ | (refine kr ?_ ?_ ?_; first | refine pops_end ?_ | (refine ps_split (fun hb => ?_) (fun hb => ?_); (fail_if_success (guard_hyp hb : true = true)); (fail_if_success (guard_hyp hb : false = true)); all_goals (have hp := hb; (try simp only [decide_eq_true_eq, Bool.eq_false_iff, ne_eq, Bool.not_eq_true', Bool.not_eq_false', Bool.and_eq_true, Bool.or_eq_true, decide_true, decide_false, Bool.and_true, Bool.true_and, Bool.false_eq_true, not_false_eq_true, true_and, and_true] at hp); (try rw [hb]); (try clear hb))) | refine ps_pcall (up) ?_ | refine ps_pcall_g (up) ?_ | refine ps_pcall (cp) ?_ | refine ps_pcall_g (cp) ?_ | refine ps_pcall (cl) ?_ | refine ps_pcall_g (cl) ?_ | refine ps_pcall (cl1) ?_ | refine ps_pcall_g (cl1) ?_ | refine ps_alloc fun g => ?_ | refine ps_box fun g => ?_ | refine ps_store ?_ | refine ps_lit fun g => ?_ | refine pops_nil ?_ | skip) | (refine kd ?_ ?_ ?_; first | refine pstl_end ?_ | (refine pd_split (fun hb => ?_) (fun hb => ?_); (fail_if_success (guard_hyp hb : true = true)); (fail_if_success (guard_hyp hb : false = true)); all_goals (have hp := hb; (try simp only [decide_eq_true_eq, Bool.eq_false_iff, ne_eq, Bool.not_eq_true', Bool.not_eq_false', Bool.and_eq_true, Bool.or_eq_true, decide_true, decide_false, Bool.and_true, Bool.true_and, Bool.false_eq_true, not_false_eq_true, true_and, and_true] at hp); (try rw [hb]); (try clear hb))) | refine pd_pcall (up) ?_ | refine pd_pcall_g (up) ?_ | refine pd_pcall (cp) ?_ | refine pd_pcall_g (cp) ?_ | refine pd_pcall (cl) ?_ | refine pd_pcall_g (cl) ?_ | refine pd_pcall (cl1) ?_ | refine pd_pcall_g (cl1) ?_ | skip) | refine kct ?_ | refine kcf ?_ | (refine kcs (fun hb => ?_) (fun hb => ?_) <;> (have hp := hb; (try simp only [decide_eq_true_eq, Bool.eq_false_iff, ne_eq, Bool.not_eq_true', Bool.not_eq_false', Bool.and_eq_true, Bool.or_eq_true, decide_true, decide_false, Bool.and_true, Bool.true_and, Bool.false_eq_true, not_false_eq_true, true_and, and_true] at hp); (try rw [hb]); (try clear hb))) | (refine kret ?_; repeat (first | with_reducible refine beh_r ?_ | with_reducible refine blk_r ?_)) | refine kb ?_ | (refine ps_split (fun hb => ?_) (fun hb => ?_); (fail_if_success (guard_hyp hb : true = true)); (fail_if_success (guard_hyp hb : false = true)); all_goals (have hp := hb; (try simp only [decide_eq_true_eq, Bool.eq_false_iff, ne_eq, Bool.not_eq_true', Bool.not_eq_false', Bool.and_eq_true, Bool.or_eq_true, decide_true, decide_false, Bool.and_true, Bool.true_and, Bool.false_eq_true, not_false_eq_true, true_and, and_true] at hp); (try rw [hb]); (try clear hb))) | refine ps_pcall (up) ?_ | refine ps_pcall_g (up) ?_ | refine ps_pcall (cp) ?_ | refine ps_pcall_g (cp) ?_ | refine ps_pcall (cl) ?_ | refine ps_pcall_g (cl) ?_ | refine ps_pcall (cl1) ?_ | refine ps_pcall_g (cl1) ?_ | refine ps_alloc fun g => ?_ | refine ps_box fun g => ?_ | refine ps_store ?_ | refine ps_lit fun g => ?_ | refine pops_nil ?_ | (refine pd_split (fun hb => ?_) (fun hb => ?_); (fail_if_success (guard_hyp hb : true = true)); (fail_if_success (guard_hyp hb : false = true)); all_goals (have hp := hb; (try simp only [decide_eq_true_eq, Bool.eq_false_iff, ne_eq, Bool.not_eq_true', Bool.not_eq_false', Bool.and_eq_true, Bool.or_eq_true, decide_true, decide_false, Bool.and_true, Bool.true_and, Bool.false_eq_true, not_false_eq_true, true_and, and_true] at hp); (try rw [hb]); (try clear hb))) | refine pd_pcall (up) ?_ | refine pd_pcall_g (up) ?_ | refine pd_pcall (cp) ?_ | refine pd_pcall_g (cp) ?_ | refine pd_pcall (cl) ?_ | refine pd_pcall_g (cl) ?_ | refine pd_pcall (cl1) ?_ | refine pd_pcall_g (cl1) ?_ | (refine pops_go ?_ ?_ ?_; first | refine pops_end ?_ | (refine ps_split (fun hb => ?_) (fun hb => ?_); (fail_if_success (guard_hyp hb : true = true)); (fail_if_success (guard_hyp hb : false = true)); all_goals (have hp := hb; (try simp only [decide_eq_true_eq, Bool.eq_false_iff, ne_eq, Bool.not_eq_true', Bool.not_eq_false', Bool.and_eq_true, Bool.or_eq_true, decide_true, decide_false, Bool.and_true, Bool.true_and, Bool.false_eq_true, not_false_eq_true, true_and, and_true] at hp); (try rw [hb]); (try clear hb))) | refine ps_pcall (up) ?_ | refine ps_pcall_g (up) ?_ | refine ps_pcall (cp) ?_ | refine ps_pcall_g (cp) ?_ | refine ps_pcall (cl) ?_ | refine ps_pcall_g (cl) ?_ | refine ps_pcall (cl1) ?_ | refine ps_pcall_g (cl1) ?_ | refine ps_alloc fun g => ?_ | refine ps_box fun g => ?_ | refine ps_store ?_ | refine ps_lit fun g => ?_ | refine pops_nil ?_) | (refine pstl_go ?_ ?_ ?_; first | refine pstl_end ?_ | (refine pd_split (fun hb => ?_) (fun hb => ?_); (fail_if_success (guard_hyp hb : true = true)); (fail_if_success (guard_hyp hb : false = true)); all_goals (have hp := hb; (try simp only [decide_eq_true_eq, Bool.eq_false_iff, ne_eq, Bool.not_eq_true', Bool.not_eq_false', Bool.and_eq_true, Bool.or_eq_true, decide_true, decide_false, Bool.and_true, Bool.true_and, Bool.false_eq_true, not_false_eq_true, true_and, and_true] at hp); (try rw [hb]); (try clear hb))) | refine pd_pcall (up) ?_ | refine pd_pcall_g (up) ?_ | refine pd_pcall (cp) ?_ | refine pd_pcall_g (cp) ?_ | refine pd_pcall (cl) ?_ | refine pd_pcall_g (cl) ?_ | refine pd_pcall (cl1) ?_ | refine pd_pcall_g (cl1) ?_) | (refine kn ?_; repeat (first | with_reducible refine blk_n ?_ | with_reducible refine beh_n ?_)) | (refine kx ?_; (repeat (first | with_reducible refine beh_x ?_ | with_reducible refine blk_up rfl ?_)); refine blk_here ?_; refine beh_n ?_)))
    all_goals (refine ends_ret ?_ retPV_one; rfl)
  | false =>
    by_cases gb : (6000 : Int) < b.length
    · refine pcall_mk Tryd.func4 rfl [.tmp 6] Tryd.results4 94 rfl (tk_start ?_)
      (repeat' (first | refine ka ?_ | refine ksk ?_ | (refine kr ?_ ?_ ?_; first | refine pops_end ?_ | (refine ps_split (fun hb => ?_) (fun hb => ?_); (fail_if_success (guard_hyp hb : true = true)); (fail_if_success (guard_hyp hb : false = true)); all_goals (have hp := hb; (try simp only [decide_eq_true_eq, Bool.eq_false_iff, ne_eq, Bool.not_eq_true', Bool.not_eq_false', Bool.and_eq_true, Bool.or_eq_true, decide_true, decide_false, Bool.and_true, Bool.true_and, Bool.false_eq_true, not_false_eq_true, true_and, and_true] at hp); (try rw [hb]); (try clear hb))) | refine ps_pcall (up) ?_ | refine ps_pcall_g (up) ?_ | refine ps_pcall (cp) ?_ | refine ps_pcall_g (cp) ?_ | refine ps_pcall (cl) ?_ | refine ps_pcall_g (cl) ?_ | refine ps_pcall (cl1) ?_ | refine ps_pcall_g (cl1) ?_ | refine ps_alloc fun g => ?_ | refine ps_box fun g => ?_ | refine ps_store ?_ | refine ps_lit fun g => ?_ | refine pops_nil ?_ | skip) | (refine kd ?_ ?_ ?_; first | refine pstl_end ?_ | (refine pd_split (fun hb => ?_) (fun hb => ?_); (fail_if_success (guard_hyp hb : true = true)); (fail_if_success (guard_hyp hb : false = true)); all_goals (have hp := hb; (try simp only [decide_eq_true_eq, Bool.eq_false_iff, ne_eq, Bool.not_eq_true', Bool.not_eq_false', Bool.and_eq_true, Bool.or_eq_true, decide_true, decide_false, Bool.and_true, Bool.true_and, Bool.false_eq_true, not_false_eq_true, true_and, and_true] at hp); (try rw [hb]); (try clear hb))) | refine pd_pcall (up) ?_ | refine pd_pcall_g (up) ?_ | refine pd_pcall (cp) ?_ | refine pd_pcall_g (cp) ?_ | refine pd_pcall (cl) ?_ | refine pd_pcall_g (cl) ?_ | refine pd_pcall (cl1) ?_ | refine pd_pcall_g (cl1) ?_ | skip) | refine kct ?_ | refine kcf ?_ | (refine kcs (fun hb => ?_) (fun hb => ?_) <;> (have hp := hb; (try simp only [decide_eq_true_eq, Bool.eq_false_iff, ne_eq, Bool.not_eq_true', Bool.not_eq_false', Bool.and_eq_true, Bool.or_eq_true, decide_true, decide_false, Bool.and_true, Bool.true_and, Bool.false_eq_true, not_false_eq_true, true_and, and_true] at hp); (try rw [hb]); (try clear hb))) | (refine kret ?_; repeat (first | with_reducible refine beh_r ?_ | with_reducible refine blk_r ?_)) | refine kb ?_ | (refine ps_split (fun hb => ?_) (fun hb => ?_); (fail_if_success (guard_hyp hb : true = true)); (fail_if_success (guard_hyp hb : false = true)); all_goals (have hp := hb; (try simp only [decide_eq_true_eq, Bool.eq_false_iff, ne_eq, Bool.not_eq_true', Bool.not_eq_false', Bool.and_eq_true, Bool.or_eq_true, decide_true, decide_false, Bool.and_true, Bool.true_and, Bool.false_eq_true, not_false_eq_true, true_and, and_true] at hp); (try rw [hb]); (try clear hb))) | refine ps_pcall (up) ?_ | refine ps_pcall_g (up) ?_ | refine ps_pcall (cp) ?_ | refine ps_pcall_g (cp) ?_ | refine ps_pcall (cl) ?_ | refine ps_pcall_g (cl) ?_ | refine ps_pcall (cl1) ?_ | refine ps_pcall_g (cl1) ?_ | refine ps_alloc fun g => ?_ | refine ps_box fun g => ?_ | refine ps_store ?_ | refine ps_lit fun g => ?_ | refine pops_nil ?_ | (refine pd_split (fun hb => ?_) (fun hb => ?_); (fail_if_success (guard_hyp hb : true = true)); (fail_if_success (guard_hyp hb : false = true)); all_goals (have hp := hb; (try simp only [decide_eq_true_eq, Bool.eq_false_iff, ne_eq, Bool.not_eq_true', Bool.not_eq_false', Bool.and_eq_true, Bool.or_eq_true, decide_true, decide_false, Bool.and_true, Bool.true_and, Bool.false_eq_true, not_false_eq_true, true_and, and_true] at hp); (try rw [hb]); (try clear hb))) | refine pd_pcall (up) ?_ | refine pd_pcall_g (up) ?_ | refine pd_pcall (cp) ?_ | refine pd_pcall_g (cp) ?_ | refine pd_pcall (cl) ?_ | refine pd_pcall_g (cl) ?_ | refine pd_pcall (cl1) ?_ | refine pd_pcall_g (cl1) ?_ | (refine pops_go ?_ ?_ ?_; first | refine pops_end ?_ | (refine ps_split (fun hb => ?_) (fun hb => ?_); (fail_if_success (guard_hyp hb : true = true)); (fail_if_success (guard_hyp hb : false = true)); all_goals (have hp := hb; (try simp only [decide_eq_true_eq, Bool.eq_false_iff, ne_eq, Bool.not_eq_true', Bool.not_eq_false', Bool.and_eq_true, Bool.or_eq_true, decide_true, decide_false, Bool.and_true, Bool.true_and, Bool.false_eq_true, not_false_eq_true, true_and, and_true] at hp); (try rw [hb]); (try clear hb))) | refine ps_pcall (up) ?_ | refine ps_pcall_g (up) ?_ | refine ps_pcall (cp) ?_ | refine ps_pcall_g (cp) ?_ | refine ps_pcall (cl) ?_ | refine ps_pcall_g (cl) ?_ | refine ps_pcall (cl1) ?_ | refine ps_pcall_g (cl1) ?_ | refine ps_alloc fun g => ?_ | refine ps_box fun g => ?_ | refine ps_store ?_ | refine ps_lit fun g => ?_ | refine pops_nil ?_) | (refine pstl_go ?_ ?_ ?_; first | refine pstl_end ?_ | (refine pd_split (fun hb => ?_) (fun hb => ?_); (fail_if_success (guard_hyp hb : true = true)); (fail_if_success (guard_hyp hb : false = true)); all_goals (have hp := hb; (try simp only [decide_eq_true_eq, Bool.eq_false_iff, ne_eq, Bool.not_eq_true', Bool.not_eq_false', Bool.and_eq_true, Bool.or_eq_true, decide_true, decide_false, Bool.and_true, Bool.true_and, Bool.false_eq_true, not_false_eq_true, true_and, and_true] at hp); (try rw [hb]); (try clear hb))) | refine pd_pcall (up) ?_ | refine pd_pcall_g (up) ?_ | refine pd_pcall (cp) ?_ | refine pd_pcall_g (cp) ?_ | refine pd_pcall (cl) ?_ | refine pd_pcall_g (cl) ?_ | refine pd_pcall (cl1) ?_ | refine pd_pcall_g (cl1) ?_) | (refine kn ?_; repeat (first | with_reducible refine blk_n ?_ | with_reducible refine beh_n ?_)) | (refine kx ?_; (repeat (first | with_reducible refine beh_x ?_ | with_reducible refine blk_up rfl ?_)); refine blk_here ?_; refine beh_n ?_)))
      all_goals (refine ends_ret ?_ retPV_one; rfl)
    obtain ⟨l1, l2⟩ := hbig rfl
    obtain ⟨m1, m2⟩ := hbig1 rfl
    have hO : EnsOk E := fun e he => ⟨(hE e he).1, by have := totN_memD (List.mem_map_of_mem (f := fun e : En => e.1) he); omega⟩
    have hP : FisOk F := fun f hf => by
      have := totL_mem hf
      exact ⟨(hF f hf).1, by omega, by omega⟩
    have c1 := dof_ok F hP (by omega)
    have c2 := rof_ok F hP (by omega)
    have c3 := dcut_ok E hO (by omega) b (by omega)
    have c4 := own_ok E (by omega)
    have c5 := rcut_ok E hO (by omega) b (by omega)
    obtain ⟨k1, k2, k3, k4⟩ := ofF_ok hP
    obtain ⟨k5, k6⟩ := cutF_ok (b := b) hO ob (by omega)
    have c6 := own_ok (ofF F).1 (by omega)
    have c7 := same15 (ofF F).1 (ofF F).1 k1 k1 (by omega) (by omega)
    have c8 := sameb_big (ofF F).2.1 k3
    have c9 := files15 (cutF E b).1 (cutF E b).1 k5 k5 (by omega) (by omega)
    rw [decide_eq_true rfl] at c7 c9
    generalize (ofF F).1 = L at *
    generalize (ofF F).2.1 = B at *
    generalize (ofF F).2.2 = r at *
    generalize (cutF E b).1 = V at *
    generalize (cutF E b).2 = g at *
    refine pcall_mk Tryd.func4 rfl [.tmp 6] Tryd.results4 94 rfl (tk_start ?_)
    (repeat refine ka ?_); refine kr ?_ ?_ (pops_end ?_)
    (repeat refine ka ?_); refine kr ?_ ?_ ?_
    refine ps_pcall up ?_
    refine pops_go ?_ ?_ (pops_end ?_)
    (repeat refine ka ?_); refine kr ?_ ?_ ?_
    refine ps_pcall cl1 ?_
    refine pops_go ?_ ?_ (pops_end ?_)
    (repeat refine ka ?_); refine kr ?_ ?_ ?_
    refine ps_pcall cp ?_
    refine pops_go ?_ ?_ ?_
    refine ps_pcall cl ?_
    refine pops_go ?_ ?_ (pops_end ?_)
    (repeat refine ka ?_); refine kr ?_ ?_ (pops_end ?_)
    (repeat refine ka ?_); refine kcf ?_
    (repeat refine ka ?_); refine ksk ?_
    (repeat refine ka ?_); refine kr ?_ ?_ ?_
    refine ps_pcall c1 ?_
    refine pops_go ?_ ?_ (pops_end ?_)
    (repeat refine ka ?_); refine kr ?_ ?_ ?_
    refine ps_pcall c2 ?_
    refine pops_go ?_ ?_ (pops_end ?_)
    (repeat refine ka ?_); refine kr ?_ ?_ ?_
    refine ps_pcall c3 ?_
    refine pops_go ?_ ?_ (pops_end ?_)
    (repeat refine ka ?_); refine kr ?_ ?_ ?_
    refine ps_pcall c4 ?_
    refine pops_go ?_ ?_ ?_
    refine ps_pcall c5 ?_
    refine pops_go ?_ ?_ (pops_end ?_)
    (repeat refine ka ?_); refine kr ?_ ?_ ?_
    refine ps_pcall c6 ?_
    refine pops_go ?_ ?_ ?_
    refine ps_pcall c7 ?_
    refine pops_go ?_ ?_ (pops_end ?_)
    (repeat refine ka ?_); refine kr ?_ ?_ ?_
    refine ps_pcall c8 ?_
    refine pops_go ?_ ?_ (pops_end ?_)
    (repeat refine ka ?_); refine kr ?_ ?_ ?_
    refine ps_pcall c9 ?_
    refine pops_go ?_ ?_ (pops_end ?_)
    (repeat refine ka ?_); refine kr ?_ ?_ (pops_end ?_)
    (repeat refine ka ?_); refine kret ?_; repeat (first | with_reducible refine beh_r ?_ | with_reducible refine blk_r ?_)
    refine ends_ret ?_ retPV_one
    rfl
end Go.Proofs.YtenoecffjfcifaaDoor.Pv
