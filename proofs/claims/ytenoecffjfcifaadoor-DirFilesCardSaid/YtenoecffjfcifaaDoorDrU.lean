-- DirTells.
import Derived.Test.YtenoecffjfcifaaDoorD3
namespace Go.Proofs.YtenoecffjfcifaaDoor.Pv
set_option linter.all false
set_option linter.unusedVariables false
open Go.RowKit Go.Proofs
set_option maxRecDepth 100000
set_option maxHeartbeats 4000000
theorem ssl_oneD {xs : List PV} (h : SSl 1 1 (SInt .u8) xs) : ∃ l, xs = [.ro 1 false (ints .u8 l)] ∧ Oct l ∧ l.length ≤ 140737488351232 := by
  obtain ⟨rows, rfl, r1, r2, r3⟩ := h
  obtain ⟨b, e, hb1, hb2⟩ := sl_ints (x := .ro 1 false rows) ⟨rows, rfl, r1, r2, r3⟩
  cases e
  exact ⟨b, rfl, wf8d hb2, by omega⟩
theorem readF_ok {b : List Int} (hb : Oct b) (hl : b.length ≤ 1000000000) (n : Int) : EnsOk (readF b n).1 ∧ (readF b n).1.length ≤ 200 := by
  unfold readF
  by_cases h : n < 0 ∨ 200 < n
  · rw [if_pos h]
    exact ⟨(fun e he => by cases he), Nat.zero_le _⟩
  · rw [if_neg h]
    cases hS : readS b n.toNat with
    | none => exact ⟨(fun e he => by cases he), Nat.zero_le _⟩
    | some p =>
      obtain ⟨L, r⟩ := p
      obtain ⟨h1, h2, h3, h4⟩ := readS_ok hb hl hS
      simp only
      by_cases q : r = []
      · rw [if_neg (fun h => h q)]
        by_cases q2 : checkF L = 0
        · rw [if_neg (fun h => h q2)]
          exact ⟨h4, by simp only; omega⟩
        · rw [if_pos q2]
          exact ⟨(fun e he => by cases he), Nat.zero_le _⟩
      · rw [if_pos q]
        exact ⟨(fun e he => by cases he), Nat.zero_le _⟩
theorem checkF_cases (E : List En) : (bytesF15 E).length ≤ 1000000000 := by
  unfold bytesF15
  by_cases h : checkF E = 0
  · rw [if_pos h]
    obtain ⟨h1, h2⟩ := checkF_ents h
    have := entsF_len E fun e he => (h2 e he).1
    omega
  · rw [if_neg h]
    exact Nat.zero_le _
theorem totN_memD : ∀ {L : List (List Int)} {x : List Int}, x ∈ L → (x.length : Int) ≤ totN L
  | y :: L, x, h => by
    have := totN_nonneg L
    rw [totN]
    rcases List.mem_cons.1 h with rfl | h
    · omega
    · have := totN_memD h
      omega
theorem tells15 {x0 x1 x2 : PV} (h0 : SSl 2 24 (SFs [SStr, SInt .i64]) [x0]) (h1 : SSl 1 1 (SInt .u8) [x1]) (h2 : SInt .i64 [x2]) : PCall Tryd.prog 3 [x0, x1, x2] (.v (.bool true)) := by
  obtain ⟨E, e0, hE, lE⟩ := arg_ents h0
  obtain ⟨b, e1, ob, lb⟩ := ssl_oneD h1
  obtain ⟨n, e2, hn⟩ := h2
  cases e0; cases e1; cases e2
  have up := dir_awake
  have la := entRows_length E
  have lm : (E.map (·.1)).length = E.length := List.length_map ..
  have cp := paths_ok E lE
  obtain ⟨big, hbig, cl⟩ := large06 (E.map (·.1)) (by omega) (fun x hx => by obtain ⟨e, he, rfl⟩ := List.mem_map.1 hx; exact (hE e he).2)
  cases big with
  | true =>
    refine pcall_mk Tryd.func3 rfl [.tmp 6] Tryd.results3 85 rfl (tk_start ?_)
    (repeat' (first | refine ka ?_ | refine ksk ?_ | (refine kr ?_ ?_ ?_; first | refine pops_end ?_ | (refine ps_split (fun hb => ?_) (fun hb => ?_); (fail_if_success (guard_hyp hb : true = true)); (fail_if_success (guard_hyp hb : false = true)); all_goals (have hp := hb; (try simp only [decide_eq_true_eq, Bool.eq_false_iff, ne_eq, Bool.not_eq_true', Bool.not_eq_false', Bool.and_eq_true, Bool.or_eq_true, decide_true, decide_false, Bool.and_true, Bool.true_and, Bool.false_eq_true, not_false_eq_true, true_and, and_true] at hp); (try rw [hb]); (try clear hb))) | refine ps_pcall (up) ?_ | refine ps_pcall_g (up) ?_ | refine ps_pcall (cp) ?_ | refine ps_pcall_g (cp) ?_ | refine ps_pcall (cl) ?_ | refine ps_pcall_g (cl) ?_ | refine ps_alloc fun g => ?_ | refine ps_box fun g => ?_ | refine ps_store ?_ | refine ps_lit fun g => ?_ | refine pops_nil ?_ | skip) | (refine kd ?_ ?_ ?_; first | refine pstl_end ?_ | (refine pd_split (fun hb => ?_) (fun hb => ?_); (fail_if_success (guard_hyp hb : true = true)); (fail_if_success (guard_hyp hb : false = true)); all_goals (have hp := hb; (try simp only [decide_eq_true_eq, Bool.eq_false_iff, ne_eq, Bool.not_eq_true', Bool.not_eq_false', Bool.and_eq_true, Bool.or_eq_true, decide_true, decide_false, Bool.and_true, Bool.true_and, Bool.false_eq_true, not_false_eq_true, true_and, and_true] at hp); (try rw [hb]); (try clear hb))) | refine pd_pcall (up) ?_ | refine pd_pcall_g (up) ?_ | refine pd_pcall (cp) ?_ | refine pd_pcall_g (cp) ?_ | refine pd_pcall (cl) ?_ | refine pd_pcall_g (cl) ?_ | skip) | refine kct ?_ | refine kcf ?_ | (refine kcs (fun hb => ?_) (fun hb => ?_) <;> (have hp := hb; (try simp only [decide_eq_true_eq, Bool.eq_false_iff, ne_eq, Bool.not_eq_true', Bool.not_eq_false', Bool.and_eq_true, Bool.or_eq_true, decide_true, decide_false, Bool.and_true, Bool.true_and, Bool.false_eq_true, not_false_eq_true, true_and, and_true] at hp); (try rw [hb]); (try clear hb))) | (refine kret ?_; repeat (first | with_reducible refine beh_r ?_ | with_reducible refine blk_r ?_)) | refine kb ?_ | (refine ps_split (fun hb => ?_) (fun hb => ?_); (fail_if_success (guard_hyp hb : true = true)); (fail_if_success (guard_hyp hb : false = true)); all_goals (have hp := hb; (try simp only [decide_eq_true_eq, Bool.eq_false_iff, ne_eq, Bool.not_eq_true', Bool.not_eq_false', Bool.and_eq_true, Bool.or_eq_true, decide_true, decide_false, Bool.and_true, Bool.true_and, Bool.false_eq_true, not_false_eq_true, true_and, and_true] at hp); (try rw [hb]); (try clear hb))) | refine ps_pcall (up) ?_ | refine ps_pcall_g (up) ?_ | refine ps_pcall (cp) ?_ | refine ps_pcall_g (cp) ?_ | refine ps_pcall (cl) ?_ | refine ps_pcall_g (cl) ?_ | refine ps_alloc fun g => ?_ | refine ps_box fun g => ?_ | refine ps_store ?_ | refine ps_lit fun g => ?_ | refine pops_nil ?_ | (refine pd_split (fun hb => ?_) (fun hb => ?_); (fail_if_success (guard_hyp hb : true = true)); (fail_if_success (guard_hyp hb : false = true)); all_goals (have hp := hb; (try simp only [decide_eq_true_eq, Bool.eq_false_iff, ne_eq, Bool.not_eq_true', Bool.not_eq_false', Bool.and_eq_true, Bool.or_eq_true, decide_true, decide_false, Bool.and_true, Bool.true_and, Bool.false_eq_true, not_false_eq_true, true_and, and_true] at hp); (try rw [hb]); (try clear hb))) | refine pd_pcall (up) ?_ | refine pd_pcall_g (up) ?_ | refine pd_pcall (cp) ?_ | refine pd_pcall_g (cp) ?_ | refine pd_pcall (cl) ?_ | refine pd_pcall_g (cl) ?_ | (refine pops_go ?_ ?_ ?_; first | refine pops_end ?_ | (refine ps_split (fun hb => ?_) (fun hb => ?_); (fail_if_success (guard_hyp hb : true = true)); (fail_if_success (guard_hyp hb : false = true)); all_goals (have hp := hb; (try simp only [decide_eq_true_eq, Bool.eq_false_iff, ne_eq, Bool.not_eq_true', Bool.not_eq_false', Bool.and_eq_true, Bool.or_eq_true, decide_true, decide_false, Bool.and_true, Bool.true_and, Bool.false_eq_true, not_false_eq_true, true_and, and_true] at hp); (try rw [hb]); (try clear hb))) | refine ps_pcall (up) ?_ | refine ps_pcall_g (up) ?_ | refine ps_pcall (cp) ?_ | refine ps_pcall_g (cp) ?_ | refine ps_pcall (cl) ?_ | refine ps_pcall_g (cl) ?_ | refine ps_alloc fun g => ?_ | refine ps_box fun g => ?_ | refine ps_store ?_ | refine ps_lit fun g => ?_ | refine pops_nil ?_) | (refine pstl_go ?_ ?_ ?_; first | refine pstl_end ?_ | (refine pd_split (fun hb => ?_) (fun hb => ?_); (fail_if_success (guard_hyp hb : true = true)); (fail_if_success (guard_hyp hb : false = true)); all_goals (have hp := hb; (try simp only [decide_eq_true_eq, Bool.eq_false_iff, ne_eq, Bool.not_eq_true', Bool.not_eq_false', Bool.and_eq_true, Bool.or_eq_true, decide_true, decide_false, Bool.and_true, Bool.true_and, Bool.false_eq_true, not_false_eq_true, true_and, and_true] at hp); (try rw [hb]); (try clear hb))) | refine pd_pcall (up) ?_ | refine pd_pcall_g (up) ?_ | refine pd_pcall (cp) ?_ | refine pd_pcall_g (cp) ?_ | refine pd_pcall (cl) ?_ | refine pd_pcall_g (cl) ?_) | (refine kn ?_; repeat (first | with_reducible refine blk_n ?_ | with_reducible refine beh_n ?_)) | (refine kx ?_; (repeat (first | with_reducible refine beh_x ?_ | with_reducible refine blk_up rfl ?_)); refine blk_here ?_; refine beh_n ?_)))
    all_goals (refine ends_ret ?_ retPV_one; rfl)
  | false =>
    by_cases gb : (6000 : Int) < b.length
    · refine pcall_mk Tryd.func3 rfl [.tmp 6] Tryd.results3 85 rfl (tk_start ?_)
      (repeat' (first | refine ka ?_ | refine ksk ?_ | (refine kr ?_ ?_ ?_; first | refine pops_end ?_ | (refine ps_split (fun hb => ?_) (fun hb => ?_); (fail_if_success (guard_hyp hb : true = true)); (fail_if_success (guard_hyp hb : false = true)); all_goals (have hp := hb; (try simp only [decide_eq_true_eq, Bool.eq_false_iff, ne_eq, Bool.not_eq_true', Bool.not_eq_false', Bool.and_eq_true, Bool.or_eq_true, decide_true, decide_false, Bool.and_true, Bool.true_and, Bool.false_eq_true, not_false_eq_true, true_and, and_true] at hp); (try rw [hb]); (try clear hb))) | refine ps_pcall (up) ?_ | refine ps_pcall_g (up) ?_ | refine ps_pcall (cp) ?_ | refine ps_pcall_g (cp) ?_ | refine ps_pcall (cl) ?_ | refine ps_pcall_g (cl) ?_ | refine ps_alloc fun g => ?_ | refine ps_box fun g => ?_ | refine ps_store ?_ | refine ps_lit fun g => ?_ | refine pops_nil ?_ | skip) | (refine kd ?_ ?_ ?_; first | refine pstl_end ?_ | (refine pd_split (fun hb => ?_) (fun hb => ?_); (fail_if_success (guard_hyp hb : true = true)); (fail_if_success (guard_hyp hb : false = true)); all_goals (have hp := hb; (try simp only [decide_eq_true_eq, Bool.eq_false_iff, ne_eq, Bool.not_eq_true', Bool.not_eq_false', Bool.and_eq_true, Bool.or_eq_true, decide_true, decide_false, Bool.and_true, Bool.true_and, Bool.false_eq_true, not_false_eq_true, true_and, and_true] at hp); (try rw [hb]); (try clear hb))) | refine pd_pcall (up) ?_ | refine pd_pcall_g (up) ?_ | refine pd_pcall (cp) ?_ | refine pd_pcall_g (cp) ?_ | refine pd_pcall (cl) ?_ | refine pd_pcall_g (cl) ?_ | skip) | refine kct ?_ | refine kcf ?_ | (refine kcs (fun hb => ?_) (fun hb => ?_) <;> (have hp := hb; (try simp only [decide_eq_true_eq, Bool.eq_false_iff, ne_eq, Bool.not_eq_true', Bool.not_eq_false', Bool.and_eq_true, Bool.or_eq_true, decide_true, decide_false, Bool.and_true, Bool.true_and, Bool.false_eq_true, not_false_eq_true, true_and, and_true] at hp); (try rw [hb]); (try clear hb))) | (refine kret ?_; repeat (first | with_reducible refine beh_r ?_ | with_reducible refine blk_r ?_)) | refine kb ?_ | (refine ps_split (fun hb => ?_) (fun hb => ?_); (fail_if_success (guard_hyp hb : true = true)); (fail_if_success (guard_hyp hb : false = true)); all_goals (have hp := hb; (try simp only [decide_eq_true_eq, Bool.eq_false_iff, ne_eq, Bool.not_eq_true', Bool.not_eq_false', Bool.and_eq_true, Bool.or_eq_true, decide_true, decide_false, Bool.and_true, Bool.true_and, Bool.false_eq_true, not_false_eq_true, true_and, and_true] at hp); (try rw [hb]); (try clear hb))) | refine ps_pcall (up) ?_ | refine ps_pcall_g (up) ?_ | refine ps_pcall (cp) ?_ | refine ps_pcall_g (cp) ?_ | refine ps_pcall (cl) ?_ | refine ps_pcall_g (cl) ?_ | refine ps_alloc fun g => ?_ | refine ps_box fun g => ?_ | refine ps_store ?_ | refine ps_lit fun g => ?_ | refine pops_nil ?_ | (refine pd_split (fun hb => ?_) (fun hb => ?_); (fail_if_success (guard_hyp hb : true = true)); (fail_if_success (guard_hyp hb : false = true)); all_goals (have hp := hb; (try simp only [decide_eq_true_eq, Bool.eq_false_iff, ne_eq, Bool.not_eq_true', Bool.not_eq_false', Bool.and_eq_true, Bool.or_eq_true, decide_true, decide_false, Bool.and_true, Bool.true_and, Bool.false_eq_true, not_false_eq_true, true_and, and_true] at hp); (try rw [hb]); (try clear hb))) | refine pd_pcall (up) ?_ | refine pd_pcall_g (up) ?_ | refine pd_pcall (cp) ?_ | refine pd_pcall_g (cp) ?_ | refine pd_pcall (cl) ?_ | refine pd_pcall_g (cl) ?_ | (refine pops_go ?_ ?_ ?_; first | refine pops_end ?_ | (refine ps_split (fun hb => ?_) (fun hb => ?_); (fail_if_success (guard_hyp hb : true = true)); (fail_if_success (guard_hyp hb : false = true)); all_goals (have hp := hb; (try simp only [decide_eq_true_eq, Bool.eq_false_iff, ne_eq, Bool.not_eq_true', Bool.not_eq_false', Bool.and_eq_true, Bool.or_eq_true, decide_true, decide_false, Bool.and_true, Bool.true_and, Bool.false_eq_true, not_false_eq_true, true_and, and_true] at hp); (try rw [hb]); (try clear hb))) | refine ps_pcall (up) ?_ | refine ps_pcall_g (up) ?_ | refine ps_pcall (cp) ?_ | refine ps_pcall_g (cp) ?_ | refine ps_pcall (cl) ?_ | refine ps_pcall_g (cl) ?_ | refine ps_alloc fun g => ?_ | refine ps_box fun g => ?_ | refine ps_store ?_ | refine ps_lit fun g => ?_ | refine pops_nil ?_) | (refine pstl_go ?_ ?_ ?_; first | refine pstl_end ?_ | (refine pd_split (fun hb => ?_) (fun hb => ?_); (fail_if_success (guard_hyp hb : true = true)); (fail_if_success (guard_hyp hb : false = true)); all_goals (have hp := hb; (try simp only [decide_eq_true_eq, Bool.eq_false_iff, ne_eq, Bool.not_eq_true', Bool.not_eq_false', Bool.and_eq_true, Bool.or_eq_true, decide_true, decide_false, Bool.and_true, Bool.true_and, Bool.false_eq_true, not_false_eq_true, true_and, and_true] at hp); (try rw [hb]); (try clear hb))) | refine pd_pcall (up) ?_ | refine pd_pcall_g (up) ?_ | refine pd_pcall (cp) ?_ | refine pd_pcall_g (cp) ?_ | refine pd_pcall (cl) ?_ | refine pd_pcall_g (cl) ?_) | (refine kn ?_; repeat (first | with_reducible refine blk_n ?_ | with_reducible refine beh_n ?_)) | (refine kx ?_; (repeat (first | with_reducible refine beh_x ?_ | with_reducible refine blk_up rfl ?_)); refine blk_here ?_; refine beh_n ?_)))
      all_goals (refine ends_ret ?_ retPV_one; rfl)
    obtain ⟨l1, l2⟩ := hbig rfl
    have hO : EnsOk E := fun e he => ⟨(hE e he).1, by have := totN_memD (List.mem_map_of_mem (f := fun e : En => e.1) he); omega⟩
    have c1 := dbytes_ok E hO (by omega)
    have c2 := own_ok E (by omega)
    have c3 := rbytes15_ok E hO (by omega)
    have c4 := dread_ok b ob (by omega) n
    have c5 := rread_ok b ob (by omega) n
    have hbl := checkF_cases E
    have c6 := sameb_ok (bytesF15 E) (bytesF15 E) hbl hbl
    obtain ⟨k1, k2⟩ := readF_ok ob (by omega) n
    have c7 := own_ok (readF b n).1 (by omega)
    have c8 := same15 (readF b n).1 (readF b n).1 k1 k1 (by omega) (by omega)
    have c9 := dcheck_ok E hO (by omega)
    have c10 := rcheck_ok E hO (by omega)
    rw [decide_eq_true rfl] at c6 c8
    generalize (readF b n).1 = L at *
    generalize (readF b n).2 = r at *
    generalize bytesF15 E = B at *
    generalize checkF E = ch at *
    refine pcall_mk Tryd.func3 rfl [.tmp 6] Tryd.results3 85 rfl (tk_start ?_)
    (repeat refine ka ?_); refine kr ?_ ?_ (pops_end ?_)
    (repeat refine ka ?_); refine kr ?_ ?_ ?_
    refine ps_pcall up ?_
    refine pops_go ?_ ?_ (pops_end ?_)
    (repeat refine ka ?_); refine kr ?_ ?_ ?_
    refine ps_pcall cp ?_
    refine pops_go ?_ ?_ ?_
    refine ps_pcall cl ?_
    refine pops_go ?_ ?_ (pops_end ?_)
    (repeat refine ka ?_); refine kr ?_ ?_ (pops_end ?_)
    (repeat refine ka ?_); refine kcf ?_
    (repeat refine ka ?_); refine ksk ?_
    (repeat refine ka ?_); refine kr ?_ ?_ ?_
    refine ps_pcall c1 ?_
    refine pops_go ?_ ?_ (pops_end ?_)
    (repeat refine ka ?_); refine kr ?_ ?_ ?_
    refine ps_pcall c2 ?_
    refine pops_go ?_ ?_ ?_
    refine ps_pcall c3 ?_
    refine pops_go ?_ ?_ (pops_end ?_)
    (repeat refine ka ?_); refine kr ?_ ?_ ?_
    refine ps_pcall c4 ?_
    refine pops_go ?_ ?_ (pops_end ?_)
    (repeat refine ka ?_); refine kr ?_ ?_ ?_
    refine ps_pcall c5 ?_
    refine pops_go ?_ ?_ (pops_end ?_)
    (repeat refine ka ?_); refine kr ?_ ?_ ?_
    refine ps_pcall c6 ?_
    refine pops_go ?_ ?_ (pops_end ?_)
    (repeat refine ka ?_); refine kr ?_ ?_ ?_
    refine ps_pcall c7 ?_
    refine pops_go ?_ ?_ ?_
    refine ps_pcall c8 ?_
    refine pops_go ?_ ?_ (pops_end ?_)
    (repeat refine ka ?_); refine kr ?_ ?_ ?_
    refine ps_pcall_g c9 ?_
    refine pops_go ?_ ?_ ?_
    refine ps_pcall_g c2 ?_
    refine pops_go ?_ ?_ ?_
    refine ps_pcall_g c10 ?_
    refine pops_go ?_ ?_ (pops_end ?_)
    (repeat refine ka ?_); refine kret ?_; repeat (first | with_reducible refine beh_r ?_ | with_reducible refine blk_r ?_)
    refine ends_ret ?_ retPV_one
    rfl
end Go.Proofs.YtenoecffjfcifaaDoor.Pv
