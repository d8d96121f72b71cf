-- DirBack.
import Derived.Test.YtenoecffjfcifaaDoorDrW
namespace Go.Proofs.YtenoecffjfcifaaDoor.Pv
set_option linter.all false
set_option linter.unusedVariables false
open Go.RowKit Go.Proofs
set_option maxRecDepth 100000
set_option maxHeartbeats 4000000
section
variable {P : Program} {ops : List Oper} {Q : PS → Prop} {rest : List Oper} {n : Nat} {tm : List (Nat × PV)} {S S' : List Blk} {d : Tmp} {ty : TypeId} {pos : String} {af : Array Edge} {t t' e : TypeId} {x y s : Operand}
theorem pd_scmp_g {op : BinOp} {t t' : TypeId} {a b : List Int} {r w : Bool} {j : Nat} (ha : Oct a) (hb : Oct b) (hr : cmpS op a b = some r) (k : PStL P ops Q rest ⟨n, (d, .v (.bool r)) :: tm, S⟩) (hg : guardPV ops ⟨n, tm, S⟩ j w = some w := by ((conv => lhs; whnf) <;> fail "no")) (hx : PS.get ⟨n, tm, S⟩ x = .v (.string (str a)) := by ((conv => lhs; whnf) <;> fail "no")) (hy : PS.get ⟨n, tm, S⟩ y = .v (.string (str b)) := by ((conv => lhs; whnf) <;> fail "no")) :
    PStL P ops Q (⟨some d, .binOp op t x y t', ty, pos, af, some (j, w)⟩ :: rest) ⟨n, tm, S⟩ := by
  refine ⟨.v (.bool r), ?_, k⟩
  unfold GSt
  refine .inl ⟨hg, .sem fun σ' hg hS => pop_scmp rfl ?_ ?_ ha hb hr ⟨rfl, rfl⟩⟩
  · rw [← hg x (by simp [Op.operands])]; exact hx
  · rw [← hg y (by simp [Op.operands])]; exact hy
end
theorem of_len {F : List Fi} (h : (ofF F).2.2 = 0) : (ofF F).2.1.length ≤ 65536 := by
  unfold ofF at h ⊢
  by_cases q0 : rsetF (F.map (·.1)) = 0
  · rw [if_neg (fun h => h q0)] at h ⊢
    by_cases q1 : 65536 < totF F
    · rw [if_pos q1] at h; cases h
    · rw [if_neg q1]
      have h5 := dataOf_len (sortFi F)
      rw [totF_perm (sortFi_spec (rset_nodup q0)).1] at h5
      simp only
      omega
  · rw [if_pos q0] at h; exact absurd h q0
theorem filRows_take (F : List Fi) (k : Nat) : (filRows F).take k = filRows (F.take k) := by simp [filRows, List.map_take]
theorem filRows_drop (F : List Fi) (k : Nat) : (filRows F).drop k = filRows (F.drop k) := by simp [filRows, List.map_drop]
theorem mem_take_succ {α : Type} {L : List α} {j : Nat} {x y : α} (h : L[j]? = some y) : x ∈ L.take (j + 1) ↔ x ∈ L.take j ∨ x = y := by
  rw [take_snoc h]
  simp
theorem dback15 {x0 x1 x2 : PV} (h0 : SSl 2 40 (SFs [SStr, SSl 1 1 (SInt .u8)]) [x0]) (h1 : SSl 1 1 (SInt .u8) [x1]) (h2 : ∃ xs, x2 = .agg xs ∧ SArr 2 (SInt .i64) xs) : PCall Tryd.prog 5 [x0, x1, x2] (.v (.bool true)) := by
  obtain ⟨F, e0, hF, lF⟩ := arg_fils h0
  obtain ⟨b, e1, ob, lb⟩ := ssl_oneD h1
  obtain ⟨xs, rfl, rows, rfl, hrl, hrows⟩ := h2
  cases e0; cases e1
  match rows, hrl with
  | [ra, rb], _ =>
  obtain ⟨n0, rfl, hn0⟩ := hrows ra (by simp)
  obtain ⟨n1, rfl, hn1⟩ := hrows rb (by simp)
  clear hrows h0 h1
  simp only [List.flatten_cons, List.flatten_nil, List.append_nil, List.cons_append, List.nil_append]
  have up := dir_awake
  have la := filRows_length F
  obtain ⟨big1, hbig1, cl1⟩ := large15 F 6000 (by decide) (by omega) (fun f hf => (hF f hf).2)
  cases big1 with
  | true =>
    refine pcall_mk Tryd.func5 rfl [.tmp 6] Tryd.results5 242 rfl (tk_start ?_)
    (repeat' (first | refine ka ?_ | refine ksk ?_ | (refine kr ?_ ?_ ?_; first | refine pops_end ?_ | (refine ps_split (fun hb => ?_) (fun hb => ?_); (fail_if_success (guard_hyp hb : true = true)); (fail_if_success (guard_hyp hb : false = true)); all_goals (have hp := hb; (try simp only [decide_eq_true_eq, Bool.eq_false_iff, ne_eq, Bool.not_eq_true', Bool.not_eq_false', Bool.and_eq_true, Bool.or_eq_true, decide_true, decide_false, Bool.and_true, Bool.true_and, Bool.false_eq_true, not_false_eq_true, true_and, and_true] at hp); (try rw [hb]); (try clear hb))) | refine ps_pcall (up) ?_ | refine ps_pcall_g (up) ?_ | refine ps_pcall (cl1) ?_ | refine ps_pcall_g (cl1) ?_ | refine ps_alloc fun g => ?_ | refine ps_box fun g => ?_ | refine ps_store ?_ | refine ps_lit fun g => ?_ | refine pops_nil ?_ | skip) | (refine kd ?_ ?_ ?_; first | refine pstl_end ?_ | (refine pd_split (fun hb => ?_) (fun hb => ?_); (fail_if_success (guard_hyp hb : true = true)); (fail_if_success (guard_hyp hb : false = true)); all_goals (have hp := hb; (try simp only [decide_eq_true_eq, Bool.eq_false_iff, ne_eq, Bool.not_eq_true', Bool.not_eq_false', Bool.and_eq_true, Bool.or_eq_true, decide_true, decide_false, Bool.and_true, Bool.true_and, Bool.false_eq_true, not_false_eq_true, true_and, and_true] at hp); (try rw [hb]); (try clear hb))) | refine pd_pcall (up) ?_ | refine pd_pcall_g (up) ?_ | refine pd_pcall (cl1) ?_ | refine pd_pcall_g (cl1) ?_ | skip) | refine kct ?_ | refine kcf ?_ | (refine kcs (fun hb => ?_) (fun hb => ?_) <;> (have hp := hb; (try simp only [decide_eq_true_eq, Bool.eq_false_iff, ne_eq, Bool.not_eq_true', Bool.not_eq_false', Bool.and_eq_true, Bool.or_eq_true, decide_true, decide_false, Bool.and_true, Bool.true_and, Bool.false_eq_true, not_false_eq_true, true_and, and_true] at hp); (try rw [hb]); (try clear hb))) | (refine kret ?_; repeat (first | with_reducible refine beh_r ?_ | with_reducible refine blk_r ?_)) | refine kb ?_ | (refine ps_split (fun hb => ?_) (fun hb => ?_); (fail_if_success (guard_hyp hb : true = true)); (fail_if_success (guard_hyp hb : false = true)); all_goals (have hp := hb; (try simp only [decide_eq_true_eq, Bool.eq_false_iff, ne_eq, Bool.not_eq_true', Bool.not_eq_false', Bool.and_eq_true, Bool.or_eq_true, decide_true, decide_false, Bool.and_true, Bool.true_and, Bool.false_eq_true, not_false_eq_true, true_and, and_true] at hp); (try rw [hb]); (try clear hb))) | refine ps_pcall (up) ?_ | refine ps_pcall_g (up) ?_ | refine ps_pcall (cl1) ?_ | refine ps_pcall_g (cl1) ?_ | refine ps_alloc fun g => ?_ | refine ps_box fun g => ?_ | refine ps_store ?_ | refine ps_lit fun g => ?_ | refine pops_nil ?_ | (refine pd_split (fun hb => ?_) (fun hb => ?_); (fail_if_success (guard_hyp hb : true = true)); (fail_if_success (guard_hyp hb : false = true)); all_goals (have hp := hb; (try simp only [decide_eq_true_eq, Bool.eq_false_iff, ne_eq, Bool.not_eq_true', Bool.not_eq_false', Bool.and_eq_true, Bool.or_eq_true, decide_true, decide_false, Bool.and_true, Bool.true_and, Bool.false_eq_true, not_false_eq_true, true_and, and_true] at hp); (try rw [hb]); (try clear hb))) | refine pd_pcall (up) ?_ | refine pd_pcall_g (up) ?_ | refine pd_pcall (cl1) ?_ | refine pd_pcall_g (cl1) ?_ | (refine pops_go ?_ ?_ ?_; first | refine pops_end ?_ | (refine ps_split (fun hb => ?_) (fun hb => ?_); (fail_if_success (guard_hyp hb : true = true)); (fail_if_success (guard_hyp hb : false = true)); all_goals (have hp := hb; (try simp only [decide_eq_true_eq, Bool.eq_false_iff, ne_eq, Bool.not_eq_true', Bool.not_eq_false', Bool.and_eq_true, Bool.or_eq_true, decide_true, decide_false, Bool.and_true, Bool.true_and, Bool.false_eq_true, not_false_eq_true, true_and, and_true] at hp); (try rw [hb]); (try clear hb))) | refine ps_pcall (up) ?_ | refine ps_pcall_g (up) ?_ | refine ps_pcall (cl1) ?_ | refine ps_pcall_g (cl1) ?_ | refine ps_alloc fun g => ?_ | refine ps_box fun g => ?_ | refine ps_store ?_ | refine ps_lit fun g => ?_ | refine pops_nil ?_) | (refine pstl_go ?_ ?_ ?_; first | refine pstl_end ?_ | (refine pd_split (fun hb => ?_) (fun hb => ?_); (fail_if_success (guard_hyp hb : true = true)); (fail_if_success (guard_hyp hb : false = true)); all_goals (have hp := hb; (try simp only [decide_eq_true_eq, Bool.eq_false_iff, ne_eq, Bool.not_eq_true', Bool.not_eq_false', Bool.and_eq_true, Bool.or_eq_true, decide_true, decide_false, Bool.and_true, Bool.true_and, Bool.false_eq_true, not_false_eq_true, true_and, and_true] at hp); (try rw [hb]); (try clear hb))) | refine pd_pcall (up) ?_ | refine pd_pcall_g (up) ?_ | refine pd_pcall (cl1) ?_ | refine pd_pcall_g (cl1) ?_) | (refine kn ?_; repeat (first | with_reducible refine blk_n ?_ | with_reducible refine beh_n ?_)) | (refine kx ?_; (repeat (first | with_reducible refine beh_x ?_ | with_reducible refine blk_up rfl ?_)); refine blk_here ?_; refine beh_n ?_)))
    all_goals (refine ends_ret ?_ retPV_one; rfl)
  | false =>
  by_cases gb : (6000 : Int) < b.length
  · refine pcall_mk Tryd.func5 rfl [.tmp 6] Tryd.results5 242 rfl (tk_start ?_)
    (repeat' (first | refine ka ?_ | refine ksk ?_ | (refine kr ?_ ?_ ?_; first | refine pops_end ?_ | (refine ps_split (fun hb => ?_) (fun hb => ?_); (fail_if_success (guard_hyp hb : true = true)); (fail_if_success (guard_hyp hb : false = true)); all_goals (have hp := hb; (try simp only [decide_eq_true_eq, Bool.eq_false_iff, ne_eq, Bool.not_eq_true', Bool.not_eq_false', Bool.and_eq_true, Bool.or_eq_true, decide_true, decide_false, Bool.and_true, Bool.true_and, Bool.false_eq_true, not_false_eq_true, true_and, and_true] at hp); (try rw [hb]); (try clear hb))) | refine ps_pcall (up) ?_ | refine ps_pcall_g (up) ?_ | refine ps_pcall (cl1) ?_ | refine ps_pcall_g (cl1) ?_ | refine ps_alloc fun g => ?_ | refine ps_box fun g => ?_ | refine ps_store ?_ | refine ps_lit fun g => ?_ | refine pops_nil ?_ | skip) | (refine kd ?_ ?_ ?_; first | refine pstl_end ?_ | (refine pd_split (fun hb => ?_) (fun hb => ?_); (fail_if_success (guard_hyp hb : true = true)); (fail_if_success (guard_hyp hb : false = true)); all_goals (have hp := hb; (try simp only [decide_eq_true_eq, Bool.eq_false_iff, ne_eq, Bool.not_eq_true', Bool.not_eq_false', Bool.and_eq_true, Bool.or_eq_true, decide_true, decide_false, Bool.and_true, Bool.true_and, Bool.false_eq_true, not_false_eq_true, true_and, and_true] at hp); (try rw [hb]); (try clear hb))) | refine pd_pcall (up) ?_ | refine pd_pcall_g (up) ?_ | refine pd_pcall (cl1) ?_ | refine pd_pcall_g (cl1) ?_ | skip) | refine kct ?_ | refine kcf ?_ | (refine kcs (fun hb => ?_) (fun hb => ?_) <;> (have hp := hb; (try simp only [decide_eq_true_eq, Bool.eq_false_iff, ne_eq, Bool.not_eq_true', Bool.not_eq_false', Bool.and_eq_true, Bool.or_eq_true, decide_true, decide_false, Bool.and_true, Bool.true_and, Bool.false_eq_true, not_false_eq_true, true_and, and_true] at hp); (try rw [hb]); (try clear hb))) | (refine kret ?_; repeat (first | with_reducible refine beh_r ?_ | with_reducible refine blk_r ?_)) | refine kb ?_ | (refine ps_split (fun hb => ?_) (fun hb => ?_); (fail_if_success (guard_hyp hb : true = true)); (fail_if_success (guard_hyp hb : false = true)); all_goals (have hp := hb; (try simp only [decide_eq_true_eq, Bool.eq_false_iff, ne_eq, Bool.not_eq_true', Bool.not_eq_false', Bool.and_eq_true, Bool.or_eq_true, decide_true, decide_false, Bool.and_true, Bool.true_and, Bool.false_eq_true, not_false_eq_true, true_and, and_true] at hp); (try rw [hb]); (try clear hb))) | refine ps_pcall (up) ?_ | refine ps_pcall_g (up) ?_ | refine ps_pcall (cl1) ?_ | refine ps_pcall_g (cl1) ?_ | refine ps_alloc fun g => ?_ | refine ps_box fun g => ?_ | refine ps_store ?_ | refine ps_lit fun g => ?_ | refine pops_nil ?_ | (refine pd_split (fun hb => ?_) (fun hb => ?_); (fail_if_success (guard_hyp hb : true = true)); (fail_if_success (guard_hyp hb : false = true)); all_goals (have hp := hb; (try simp only [decide_eq_true_eq, Bool.eq_false_iff, ne_eq, Bool.not_eq_true', Bool.not_eq_false', Bool.and_eq_true, Bool.or_eq_true, decide_true, decide_false, Bool.and_true, Bool.true_and, Bool.false_eq_true, not_false_eq_true, true_and, and_true] at hp); (try rw [hb]); (try clear hb))) | refine pd_pcall (up) ?_ | refine pd_pcall_g (up) ?_ | refine pd_pcall (cl1) ?_ | refine pd_pcall_g (cl1) ?_ | (refine pops_go ?_ ?_ ?_; first | refine pops_end ?_ | (refine ps_split (fun hb => ?_) (fun hb => ?_); (fail_if_success (guard_hyp hb : true = true)); (fail_if_success (guard_hyp hb : false = true)); all_goals (have hp := hb; (try simp only [decide_eq_true_eq, Bool.eq_false_iff, ne_eq, Bool.not_eq_true', Bool.not_eq_false', Bool.and_eq_true, Bool.or_eq_true, decide_true, decide_false, Bool.and_true, Bool.true_and, Bool.false_eq_true, not_false_eq_true, true_and, and_true] at hp); (try rw [hb]); (try clear hb))) | refine ps_pcall (up) ?_ | refine ps_pcall_g (up) ?_ | refine ps_pcall (cl1) ?_ | refine ps_pcall_g (cl1) ?_ | refine ps_alloc fun g => ?_ | refine ps_box fun g => ?_ | refine ps_store ?_ | refine ps_lit fun g => ?_ | refine pops_nil ?_) | (refine pstl_go ?_ ?_ ?_; first | refine pstl_end ?_ | (refine pd_split (fun hb => ?_) (fun hb => ?_); (fail_if_success (guard_hyp hb : true = true)); (fail_if_success (guard_hyp hb : false = true)); all_goals (have hp := hb; (try simp only [decide_eq_true_eq, Bool.eq_false_iff, ne_eq, Bool.not_eq_true', Bool.not_eq_false', Bool.and_eq_true, Bool.or_eq_true, decide_true, decide_false, Bool.and_true, Bool.true_and, Bool.false_eq_true, not_false_eq_true, true_and, and_true] at hp); (try rw [hb]); (try clear hb))) | refine pd_pcall (up) ?_ | refine pd_pcall_g (up) ?_ | refine pd_pcall (cl1) ?_ | refine pd_pcall_g (cl1) ?_) | (refine kn ?_; repeat (first | with_reducible refine blk_n ?_ | with_reducible refine beh_n ?_)) | (refine kx ?_; (repeat (first | with_reducible refine beh_x ?_ | with_reducible refine blk_up rfl ?_)); refine blk_here ?_; refine beh_n ?_)))
    all_goals (refine ends_ret ?_ retPV_one; rfl)
  by_cases g0 : n0 < 0
  · refine pcall_mk Tryd.func5 rfl [.tmp 6] Tryd.results5 242 rfl (tk_start ?_)
    (repeat' (first | refine ka ?_ | refine ksk ?_ | (refine kr ?_ ?_ ?_; first | refine pops_end ?_ | (refine ps_split (fun hb => ?_) (fun hb => ?_); (fail_if_success (guard_hyp hb : true = true)); (fail_if_success (guard_hyp hb : false = true)); all_goals (have hp := hb; (try simp only [decide_eq_true_eq, Bool.eq_false_iff, ne_eq, Bool.not_eq_true', Bool.not_eq_false', Bool.and_eq_true, Bool.or_eq_true, decide_true, decide_false, Bool.and_true, Bool.true_and, Bool.false_eq_true, not_false_eq_true, true_and, and_true] at hp); (try rw [hb]); (try clear hb))) | refine ps_pcall (up) ?_ | refine ps_pcall_g (up) ?_ | refine ps_pcall (cl1) ?_ | refine ps_pcall_g (cl1) ?_ | refine ps_alloc fun g => ?_ | refine ps_box fun g => ?_ | refine ps_store ?_ | refine ps_lit fun g => ?_ | refine pops_nil ?_ | skip) | (refine kd ?_ ?_ ?_; first | refine pstl_end ?_ | (refine pd_split (fun hb => ?_) (fun hb => ?_); (fail_if_success (guard_hyp hb : true = true)); (fail_if_success (guard_hyp hb : false = true)); all_goals (have hp := hb; (try simp only [decide_eq_true_eq, Bool.eq_false_iff, ne_eq, Bool.not_eq_true', Bool.not_eq_false', Bool.and_eq_true, Bool.or_eq_true, decide_true, decide_false, Bool.and_true, Bool.true_and, Bool.false_eq_true, not_false_eq_true, true_and, and_true] at hp); (try rw [hb]); (try clear hb))) | refine pd_pcall (up) ?_ | refine pd_pcall_g (up) ?_ | refine pd_pcall (cl1) ?_ | refine pd_pcall_g (cl1) ?_ | skip) | refine kct ?_ | refine kcf ?_ | (refine kcs (fun hb => ?_) (fun hb => ?_) <;> (have hp := hb; (try simp only [decide_eq_true_eq, Bool.eq_false_iff, ne_eq, Bool.not_eq_true', Bool.not_eq_false', Bool.and_eq_true, Bool.or_eq_true, decide_true, decide_false, Bool.and_true, Bool.true_and, Bool.false_eq_true, not_false_eq_true, true_and, and_true] at hp); (try rw [hb]); (try clear hb))) | (refine kret ?_; repeat (first | with_reducible refine beh_r ?_ | with_reducible refine blk_r ?_)) | refine kb ?_ | (refine ps_split (fun hb => ?_) (fun hb => ?_); (fail_if_success (guard_hyp hb : true = true)); (fail_if_success (guard_hyp hb : false = true)); all_goals (have hp := hb; (try simp only [decide_eq_true_eq, Bool.eq_false_iff, ne_eq, Bool.not_eq_true', Bool.not_eq_false', Bool.and_eq_true, Bool.or_eq_true, decide_true, decide_false, Bool.and_true, Bool.true_and, Bool.false_eq_true, not_false_eq_true, true_and, and_true] at hp); (try rw [hb]); (try clear hb))) | refine ps_pcall (up) ?_ | refine ps_pcall_g (up) ?_ | refine ps_pcall (cl1) ?_ | refine ps_pcall_g (cl1) ?_ | refine ps_alloc fun g => ?_ | refine ps_box fun g => ?_ | refine ps_store ?_ | refine ps_lit fun g => ?_ | refine pops_nil ?_ | (refine pd_split (fun hb => ?_) (fun hb => ?_); (fail_if_success (guard_hyp hb : true = true)); (fail_if_success (guard_hyp hb : false = true)); all_goals (have hp := hb; (try simp only [decide_eq_true_eq, Bool.eq_false_iff, ne_eq, Bool.not_eq_true', Bool.not_eq_false', Bool.and_eq_true, Bool.or_eq_true, decide_true, decide_false, Bool.and_true, Bool.true_and, Bool.false_eq_true, not_false_eq_true, true_and, and_true] at hp); (try rw [hb]); (try clear hb))) | refine pd_pcall (up) ?_ | refine pd_pcall_g (up) ?_ | refine pd_pcall (cl1) ?_ | refine pd_pcall_g (cl1) ?_ | (refine pops_go ?_ ?_ ?_; first | refine pops_end ?_ | (refine ps_split (fun hb => ?_) (fun hb => ?_); (fail_if_success (guard_hyp hb : true = true)); (fail_if_success (guard_hyp hb : false = true)); all_goals (have hp := hb; (try simp only [decide_eq_true_eq, Bool.eq_false_iff, ne_eq, Bool.not_eq_true', Bool.not_eq_false', Bool.and_eq_true, Bool.or_eq_true, decide_true, decide_false, Bool.and_true, Bool.true_and, Bool.false_eq_true, not_false_eq_true, true_and, and_true] at hp); (try rw [hb]); (try clear hb))) | refine ps_pcall (up) ?_ | refine ps_pcall_g (up) ?_ | refine ps_pcall (cl1) ?_ | refine ps_pcall_g (cl1) ?_ | refine ps_alloc fun g => ?_ | refine ps_box fun g => ?_ | refine ps_store ?_ | refine ps_lit fun g => ?_ | refine pops_nil ?_) | (refine pstl_go ?_ ?_ ?_; first | refine pstl_end ?_ | (refine pd_split (fun hb => ?_) (fun hb => ?_); (fail_if_success (guard_hyp hb : true = true)); (fail_if_success (guard_hyp hb : false = true)); all_goals (have hp := hb; (try simp only [decide_eq_true_eq, Bool.eq_false_iff, ne_eq, Bool.not_eq_true', Bool.not_eq_false', Bool.and_eq_true, Bool.or_eq_true, decide_true, decide_false, Bool.and_true, Bool.true_and, Bool.false_eq_true, not_false_eq_true, true_and, and_true] at hp); (try rw [hb]); (try clear hb))) | refine pd_pcall (up) ?_ | refine pd_pcall_g (up) ?_ | refine pd_pcall (cl1) ?_ | refine pd_pcall_g (cl1) ?_) | (refine kn ?_; repeat (first | with_reducible refine blk_n ?_ | with_reducible refine beh_n ?_)) | (refine kx ?_; (repeat (first | with_reducible refine beh_x ?_ | with_reducible refine blk_up rfl ?_)); refine blk_here ?_; refine beh_n ?_)))
    all_goals (refine ends_ret ?_ retPV_one; rfl)
  by_cases g1 : (F.length : Int) < n0
  · refine pcall_mk Tryd.func5 rfl [.tmp 6] Tryd.results5 242 rfl (tk_start ?_)
    (repeat' (first | refine ka ?_ | refine ksk ?_ | (refine kr ?_ ?_ ?_; first | refine pops_end ?_ | (refine ps_split (fun hb => ?_) (fun hb => ?_); (fail_if_success (guard_hyp hb : true = true)); (fail_if_success (guard_hyp hb : false = true)); all_goals (have hp := hb; (try simp only [decide_eq_true_eq, Bool.eq_false_iff, ne_eq, Bool.not_eq_true', Bool.not_eq_false', Bool.and_eq_true, Bool.or_eq_true, decide_true, decide_false, Bool.and_true, Bool.true_and, Bool.false_eq_true, not_false_eq_true, true_and, and_true] at hp); (try rw [hb]); (try clear hb))) | refine ps_pcall (up) ?_ | refine ps_pcall_g (up) ?_ | refine ps_pcall (cl1) ?_ | refine ps_pcall_g (cl1) ?_ | refine ps_alloc fun g => ?_ | refine ps_box fun g => ?_ | refine ps_store ?_ | refine ps_lit fun g => ?_ | refine pops_nil ?_ | skip) | (refine kd ?_ ?_ ?_; first | refine pstl_end ?_ | (refine pd_split (fun hb => ?_) (fun hb => ?_); (fail_if_success (guard_hyp hb : true = true)); (fail_if_success (guard_hyp hb : false = true)); all_goals (have hp := hb; (try simp only [decide_eq_true_eq, Bool.eq_false_iff, ne_eq, Bool.not_eq_true', Bool.not_eq_false', Bool.and_eq_true, Bool.or_eq_true, decide_true, decide_false, Bool.and_true, Bool.true_and, Bool.false_eq_true, not_false_eq_true, true_and, and_true] at hp); (try rw [hb]); (try clear hb))) | refine pd_pcall (up) ?_ | refine pd_pcall_g (up) ?_ | refine pd_pcall (cl1) ?_ | refine pd_pcall_g (cl1) ?_ | skip) | refine kct ?_ | refine kcf ?_ | (refine kcs (fun hb => ?_) (fun hb => ?_) <;> (have hp := hb; (try simp only [decide_eq_true_eq, Bool.eq_false_iff, ne_eq, Bool.not_eq_true', Bool.not_eq_false', Bool.and_eq_true, Bool.or_eq_true, decide_true, decide_false, Bool.and_true, Bool.true_and, Bool.false_eq_true, not_false_eq_true, true_and, and_true] at hp); (try rw [hb]); (try clear hb))) | (refine kret ?_; repeat (first | with_reducible refine beh_r ?_ | with_reducible refine blk_r ?_)) | refine kb ?_ | (refine ps_split (fun hb => ?_) (fun hb => ?_); (fail_if_success (guard_hyp hb : true = true)); (fail_if_success (guard_hyp hb : false = true)); all_goals (have hp := hb; (try simp only [decide_eq_true_eq, Bool.eq_false_iff, ne_eq, Bool.not_eq_true', Bool.not_eq_false', Bool.and_eq_true, Bool.or_eq_true, decide_true, decide_false, Bool.and_true, Bool.true_and, Bool.false_eq_true, not_false_eq_true, true_and, and_true] at hp); (try rw [hb]); (try clear hb))) | refine ps_pcall (up) ?_ | refine ps_pcall_g (up) ?_ | refine ps_pcall (cl1) ?_ | refine ps_pcall_g (cl1) ?_ | refine ps_alloc fun g => ?_ | refine ps_box fun g => ?_ | refine ps_store ?_ | refine ps_lit fun g => ?_ | refine pops_nil ?_ | (refine pd_split (fun hb => ?_) (fun hb => ?_); (fail_if_success (guard_hyp hb : true = true)); (fail_if_success (guard_hyp hb : false = true)); all_goals (have hp := hb; (try simp only [decide_eq_true_eq, Bool.eq_false_iff, ne_eq, Bool.not_eq_true', Bool.not_eq_false', Bool.and_eq_true, Bool.or_eq_true, decide_true, decide_false, Bool.and_true, Bool.true_and, Bool.false_eq_true, not_false_eq_true, true_and, and_true] at hp); (try rw [hb]); (try clear hb))) | refine pd_pcall (up) ?_ | refine pd_pcall_g (up) ?_ | refine pd_pcall (cl1) ?_ | refine pd_pcall_g (cl1) ?_ | (refine pops_go ?_ ?_ ?_; first | refine pops_end ?_ | (refine ps_split (fun hb => ?_) (fun hb => ?_); (fail_if_success (guard_hyp hb : true = true)); (fail_if_success (guard_hyp hb : false = true)); all_goals (have hp := hb; (try simp only [decide_eq_true_eq, Bool.eq_false_iff, ne_eq, Bool.not_eq_true', Bool.not_eq_false', Bool.and_eq_true, Bool.or_eq_true, decide_true, decide_false, Bool.and_true, Bool.true_and, Bool.false_eq_true, not_false_eq_true, true_and, and_true] at hp); (try rw [hb]); (try clear hb))) | refine ps_pcall (up) ?_ | refine ps_pcall_g (up) ?_ | refine ps_pcall (cl1) ?_ | refine ps_pcall_g (cl1) ?_ | refine ps_alloc fun g => ?_ | refine ps_box fun g => ?_ | refine ps_store ?_ | refine ps_lit fun g => ?_ | refine pops_nil ?_) | (refine pstl_go ?_ ?_ ?_; first | refine pstl_end ?_ | (refine pd_split (fun hb => ?_) (fun hb => ?_); (fail_if_success (guard_hyp hb : true = true)); (fail_if_success (guard_hyp hb : false = true)); all_goals (have hp := hb; (try simp only [decide_eq_true_eq, Bool.eq_false_iff, ne_eq, Bool.not_eq_true', Bool.not_eq_false', Bool.and_eq_true, Bool.or_eq_true, decide_true, decide_false, Bool.and_true, Bool.true_and, Bool.false_eq_true, not_false_eq_true, true_and, and_true] at hp); (try rw [hb]); (try clear hb))) | refine pd_pcall (up) ?_ | refine pd_pcall_g (up) ?_ | refine pd_pcall (cl1) ?_ | refine pd_pcall_g (cl1) ?_) | (refine kn ?_; repeat (first | with_reducible refine blk_n ?_ | with_reducible refine beh_n ?_)) | (refine kx ?_; (repeat (first | with_reducible refine beh_x ?_ | with_reducible refine blk_up rfl ?_)); refine blk_here ?_; refine beh_n ?_)))
    all_goals (refine ends_ret ?_ retPV_one; rfl)
  obtain ⟨m1, m2⟩ := hbig1 rfl
  have hP : FisOk F := fun f hf => by
    have := totL_mem hf
    exact ⟨(hF f hf).1, by omega, by omega⟩
  have hperm : (F.drop n0.toNat ++ F.take n0.toNat).Perm F := List.perm_append_comm.trans (by rw [List.take_append_drop])
  have hTl : (F.drop n0.toNat ++ F.take n0.toNat).length = F.length := hperm.length_eq
  have hPT : FisOk (F.drop n0.toNat ++ F.take n0.toNat) := fun f hf => hP f (hperm.mem_iff.1 hf)
  have c1 := dof_ok F hP (by omega)
  have c2 := dof_ok (F.drop n0.toNat ++ F.take n0.toNat) hPT (by omega)
  rw [ofF_perm hperm] at c2
  obtain ⟨k1, k2, k3, k4⟩ := ofF_ok hP
  have c6 := own_ok (ofF F).1 (by omega)
  have c7 := same15 (ofF F).1 (ofF F).1 k1 k1 (by omega) (by omega)
  have c8 := sameb_big (ofF F).2.1 k3
  rw [decide_eq_true rfl] at c7
  have d1 := dread_ok b ob (by omega) n1
  have s1 : (filRows F).drop n0.toNat = filRows (F.drop n0.toNat) := filRows_drop _ _
  have s2 : (filRows F).take n0.toNat = filRows (F.take n0.toNat) := filRows_take _ _
  have hdl : (F.drop n0.toNat).length = F.length - n0.toNat := List.length_drop
  have htl : (F.take n0.toNat).length = n0.toNat := by rw [List.length_take]; omega
  have good := of_good (F := F)
  have rok := readF_ok ob (by omega) n1
  have rbad := read_bad (b := b) (n := n1)
  have rfwd := read_fwd ob (by omega) (n := n1)
  refine pcall_mk Tryd.func5 rfl [.tmp 6] Tryd.results5 242 rfl (tk_start ?_)
  (repeat refine ka ?_); refine kr ?_ ?_ ?_
  refine ps_box (c := [.v (.int .i64 n0), .v (.int .i64 n1)]) (sz := 2) (fun gx => ?_)
  refine pops_go ?_ ?_ (pops_end ?_)
  (repeat refine ka ?_); refine kr ?_ ?_ ?_
  refine ps_pcall up ?_
  refine pops_go ?_ ?_ (pops_end ?_)
  (repeat refine ka ?_); refine kr ?_ ?_ ?_
  refine ps_pcall cl1 ?_
  refine pops_go ?_ ?_ (pops_end ?_)
  (repeat refine ka ?_); refine kr ?_ ?_ (pops_end ?_)
  (repeat refine ka ?_); refine kcf ?_
  (repeat refine ka ?_); refine ksk ?_
  (repeat refine ka ?_); refine kr ?_ ?_ ?_
  refine ps_pcall c1 ?_
  refine pops_go ?_ ?_ (pops_end ?_)
  (repeat refine ka ?_); refine kds [1, 2, 3, 4, 6, 7, 8, 9] [0, 5, 10, 11] ?_
  refine pstl_go ?_ ?_ (pstl_end ?_)
  refine hs_w [] [1, 2, 3, 4, 6, 7, 8, 9] ?_ (by refine pstl_go ?_ ?_ (pstl_end ?_); exact rfl); refine pstl_nil ?_; refine ⟨rfl, ?_⟩
  refine ps_lit fun g2 => ?_
  refine pops_nil ?_
  refine hs_w [1, 2, 3, 4] [6, 7, 8, 9] ?_ (by refine pstl_go ?_ ?_ (pstl_end ?_); exact rfl); refine pstl_go ?_ ?_ (pstl_end ?_); refine ⟨rfl, ?_⟩
  refine ps_app_vw (rows' := filRows (F.drop n0.toNat)) (m := F.length - n0.toNat) (fun g3 => ?_) (hsrc := rfl) (hrows := by first | exact s1 | exact List.nil_append _ | (simp only [List.nil_append]; exact s1)) (hm := by first | rw [filRows_length, hdl]; omega | (rw [s1, filRows_length, hdl]; omega))
  refine pops_nil ?_
  refine hs_w [6, 7, 8, 9] [] ?_ (by refine pstl_go ?_ ?_ (pstl_end ?_); exact rfl); refine pstl_go ?_ ?_ (pstl_end ?_); refine ⟨rfl, ?_⟩
  refine ps_app_vw (rows' := filRows (F.drop n0.toNat ++ F.take n0.toNat)) (m := F.length) (fun g4 => ?_) (hsrc := rfl) (hrows := by rw [filRows_app]) (hlen := by rw [filRows_length, hdl]) (hm := by rw [filRows_length, htl]; omega)
  refine pops_nil ?_
  refine hs_w [] [] ?_ (by refine pstl_nil ?_; exact rfl); refine pstl_nil ?_; refine ⟨rfl, ?_⟩
  refine ps_ev (p := .vw 1 g4 0 F.length) ?_ rfl
  refine pops_nil ?_
  refine hs_end ?_; refine pstl_nil ?_; refine ⟨rfl, ?_⟩
  (repeat refine ka ?_)
  refine kfreeze 1 ?_
  refine kfzT 12 [1] (y := .ro 2 false (filRows (F.drop n0.toNat ++ F.take n0.toNat))) ?_ (lend_fils (List.mem_singleton.2 rfl) rfl rfl hTl) (by intro τ hτ blk hb; cases List.mem_singleton.1 hτ; cases hb; rfl)
  (repeat refine ka ?_); refine kr ?_ ?_ ?_
  refine ps_pcall c2 ?_
  refine pops_go ?_ ?_ (pops_end ?_)
  (repeat refine ka ?_); refine kr ?_ ?_ ?_
  refine ps_pcall c6 ?_
  refine pops_go ?_ ?_ ?_
  refine ps_pcall c6 ?_
  refine pops_go ?_ ?_ ?_
  refine ps_pcall c7 ?_
  refine pops_go ?_ ?_ (pops_end ?_)
  (repeat refine ka ?_); refine kr ?_ ?_ ?_
  refine ps_pcall c8 ?_
  refine pops_go ?_ ?_ (pops_end ?_)
  (repeat refine ka ?_); refine kr ?_ ?_ (pops_end ?_)
  (repeat refine ka ?_); refine kcf ?_
  (repeat refine ka ?_); refine ksk ?_
  by_cases q : (ofF F).2.2 = 0
  case neg =>
    (repeat refine ka ?_); refine kr ?_ ?_ (pops_end ?_)
    (repeat refine ka ?_); refine kcf ?_
    (repeat refine ka ?_); refine ksk ?_
    (repeat refine ka ?_); refine kr ?_ ?_ ?_
    refine ps_pcall d1 ?_
    refine pops_go ?_ ?_ (pops_end ?_)
    by_cases qr : (readF b n1).2 = 0
    · obtain ⟨v1, v2, v3⟩ := rfwd qr
      have f1 := dbytes_ok (readF b n1).1 rok.1 (by have := rok.2; omega)
      have f3 : bytesF15 (readF b n1).1 = b := by unfold bytesF15; rw [if_pos v1]; exact v2
      rw [f3, v1] at f1
      have f2 := sameb_ok b b (by omega) (by omega)
      rw [decide_eq_true rfl] at f2
      have lr := entRows_length (readF b n1).1
      rw [qr]
      generalize (readF b n1).1 = R at *
      (repeat refine ka ?_); refine kr ?_ ?_ (pops_end ?_)
      (repeat refine ka ?_); refine kcf ?_
      (repeat refine ka ?_); refine ksk ?_
      (repeat refine ka ?_); refine kr ?_ ?_ ?_
      refine ps_pcall f1 ?_
      refine pops_go ?_ ?_ (pops_end ?_)
      (repeat refine ka ?_); refine kr ?_ ?_ ?_
      refine ps_pcall f2 ?_
      refine pops_go ?_ ?_ (pops_end ?_)
      (repeat refine ka ?_); refine kr ?_ ?_ (pops_end ?_)
      (repeat refine ka ?_); refine kret ?_; repeat (first | with_reducible refine beh_r ?_ | with_reducible refine blk_r ?_)
      refine ends_ret ?_ retPV_one
      rfl
    · rw [rbad qr]
      (repeat refine ka ?_); refine kr ?_ ?_ (pops_end ?_)
      (repeat refine ka ?_); refine kct ?_
      (repeat refine ka ?_); refine kr ?_ ?_ (pops_end ?_)
      (repeat refine ka ?_); refine kret ?_; repeat (first | with_reducible refine beh_r ?_ | with_reducible refine blk_r ?_)
      refine ends_ret ?_ retPV_one
      rfl
  obtain ⟨z1, z2, z3, z4, z5, z6, z7⟩ := good q
  have e1 := dcut_ok (ofF F).1 k1 (by omega) (ofF F).2.1 (by have := of_len q; omega)
  have e2 := dbytes_ok (ofF F).1 k1 (by omega)
  have ecut : cutF (ofF F).1 (ofF F).2.1 = (sortFi F, 0) := by
    rw [z1, z2]
    unfold cutF
    rw [z6, ents_sizes, dataOf_len, if_neg (fun h => h rfl), if_neg (fun h => h rfl), cut_back]
  have ebyt : bytesF15 (ofF F).1 = entsF (ofF F).1 := by rw [z1]; unfold bytesF15; rw [if_pos z6]
  have echk : checkF (ofF F).1 = 0 := by rw [z1]; exact z6
  have elen : (ofF F).1.length = F.length := by rw [z1]; simp [entsOf, z3]
  have erd := read_back echk
  have k5 : (entsF (ofF F).1).length ≤ 1000000000 := by
    have := entsF_len (ofF F).1 fun e he => ((checkF_ents echk).2 e he).1
    omega
  have ooct : Oct (entsF (ofF F).1) := by
    intro x hx
    simp only [entsF, List.mem_flatten, List.mem_map] at hx
    obtain ⟨l, ⟨e, he, rfl⟩, hx⟩ := hx
    simp only [entF, List.mem_append] at hx
    rcases hx with (hx | hx) | hx
    · exact oct_leN _ _ x hx
    · exact (k1 e he).1.1 x hx
    · exact oct_leN _ _ x hx
  have e3 := dread_ok (entsF (ofF F).1) ooct k5 (F.length : Int)
  rw [elen] at erd
  rw [erd, ← la] at e3
  rw [ecut] at e1
  rw [ebyt, echk] at e2
  have hSo : ∀ f ∈ sortFi F, Oct f.1 ∧ Oct f.2 := fun f hf => (hP f (z4 f hf)).1
  have ls := filRows_length (sortFi F)
  clear erd ecut ebyt ooct z1 z2 z6 good c1 c2 
  rw [q]
  (repeat refine ka ?_); refine kr ?_ ?_ (pops_end ?_)
  (repeat refine ka ?_); refine kct ?_
  (repeat refine ka ?_); refine kr ?_ ?_ ?_
  refine ps_pcall e1 ?_
  refine pops_go ?_ ?_ (pops_end ?_)
  (repeat refine ka ?_); refine kr ?_ ?_ ?_
  refine ps_pcall e2 ?_
  refine pops_go ?_ ?_ (pops_end ?_)
  (repeat refine ka ?_); refine kr ?_ ?_ ?_
  refine ps_pcall e3 ?_
  refine pops_go ?_ ?_ (pops_end ?_)
  (repeat refine ka ?_); refine kr ?_ ?_ ?_
  refine ps_pcall c6 ?_
  refine pops_go ?_ ?_ ?_
  refine ps_pcall c6 ?_
  refine pops_go ?_ ?_ ?_
  refine ps_pcall c7 ?_
  refine pops_go ?_ ?_ (pops_end ?_)
  have hlz : ((sortFi F).length : Int) = F.length := by omega
  (repeat refine ka ?_); refine kr ?_ ?_ (pops_end ?_)
  (repeat refine ka ?_); refine kcf ?_
  (repeat refine ka ?_); refine ksk ?_
  (repeat refine ka ?_); refine kr ?_ ?_ (pops_end ?_)
  generalize sortFi F = Z at *
  (repeat refine ka ?_); refine kb ?_
  refine kw (fun k : Nat => [(0, .ro 2 false (filRows F)), (1, .ro 1 false (ints .u8 b)), (5, .ptr 0 gx 0 0), (7, .v (.bool true)), (18, .ro 2 false (filRows Z)), (25, .v (.int .i64 k))]) (fun _ => [⟨gx, true, 2, [[.v (.int .i64 n0), .v (.int .i64 n1)]]⟩]) (fun k => k ≤ Z.length) (fun k => Z.length - k) 0 (Nat.zero_le _) (holds 1 (by repeat (first | exact .nil | refine has1 ?_))) ?_
  intro k hk
  by_cases h : k < Z.length
  · obtain ⟨z, hz⟩ : ∃ z, Z[k]? = some z := ⟨Z[k], by simp [h]⟩
    have r2 := filRows_get hz
    have zm := List.mem_of_getElem? hz
    obtain ⟨o1, o3⟩ := hSo z zm
    (repeat refine ka ?_); refine kr ?_ ?_ (pops_end ?_)
    (repeat refine ka ?_); refine kct ?_
    (repeat refine ka ?_); refine ksk ?_
    (repeat refine ka ?_); refine kb ?_
    (repeat refine ka ?_); refine kr ?_ ?_ (pops_end ?_)
    (repeat refine ka ?_); refine kr ?_ ?_ (pops_end ?_)
    (repeat refine ka ?_); refine kb ?_
    refine kw (fun j : Nat => [(0, .ro 2 false (filRows F)), (1, .ro 1 false (ints .u8 b)), (5, .ptr 0 gx 0 0), (7, .v (.bool true)), (18, .ro 2 false (filRows Z)), (25, .v (.int .i64 k)), (26, .v (.bool (decide (z ∈ F.take j)))), (27, .v (.int .i64 j))]) (fun _ => [⟨gx, true, 2, [[.v (.int .i64 n0), .v (.int .i64 n1)]]⟩]) (fun j => j ≤ F.length) (fun j => F.length - j) 0 (Nat.zero_le _) (by rw [decide_eq_false (by simp : ¬ z ∈ F.take 0)]; exact (holds 1 (by repeat (first | exact .nil | refine has1 ?_)))) ?_
    intro j hj
    by_cases hjl : j < F.length
    · obtain ⟨f, hf⟩ : ∃ f, F[j]? = some f := ⟨F[j], by simp [hjl]⟩
      have r1 := filRows_get hf
      obtain ⟨o2, o4⟩ := (hP f (List.mem_of_getElem? hf)).1
      have ms := mem_take_succ (x := z) hf
      by_cases w1 : z ∈ F.take j
      · have w2 : z ∈ F.take (j + 1) := ms.2 (.inl w1)
        rw [decide_eq_true w1]
        (repeat refine ka ?_); refine kr ?_ ?_ (pops_end ?_)
        (repeat refine ka ?_); refine kct ?_
        (repeat refine ka ?_); refine ksk ?_
        (repeat refine ka ?_); refine kb ?_
        (repeat refine ka ?_); refine kd ?_ ?_ (pstl_end ?_)
        refine kn ?_; repeat (first | with_reducible refine blk_n ?_ | with_reducible refine beh_n ?_)
        (repeat refine ka ?_); refine kr ?_ ?_ (pops_end ?_)
        refine kn ?_; repeat (first | with_reducible refine blk_n ?_ | with_reducible refine beh_n ?_)
        refine ⟨j + 1, by omega, by omega, ?_⟩
        rw [decide_eq_true w2]
        exact (holds 1 (by repeat (first | exact .nil | refine has1 ?_)))
      · rw [decide_eq_false w1]
        by_cases p1 : f.1 = z.1
        · by_cases p2 : f.2 = z.2
          · have w2 : z ∈ F.take (j + 1) := ms.2 (.inr (Prod.ext p1 p2).symm)
            (repeat refine ka ?_); refine kr ?_ ?_ (pops_end ?_)
            (repeat refine ka ?_); refine kct ?_
            (repeat refine ka ?_); refine ksk ?_
            (repeat refine ka ?_); refine kb ?_
            (repeat refine ka ?_); refine kd ?_ ?_ ?_
            refine pd_cst_g ?_
            refine pstl_go ?_ ?_ ?_
            refine pd_cst_g ?_
            refine pstl_go ?_ ?_ (pstl_end ?_)
            refine kn ?_; repeat (first | with_reducible refine blk_n ?_ | with_reducible refine beh_n ?_)
            (repeat refine ka ?_); refine kr ?_ ?_ (pops_end ?_)
            refine kn ?_; repeat (first | with_reducible refine blk_n ?_ | with_reducible refine beh_n ?_)
            refine ⟨j + 1, by omega, by omega, ?_⟩
            rw [decide_eq_true w2]
            exact (holds 1 (by repeat (first | exact .nil | refine has1 ?_)))
          · have w2 : ¬ z ∈ F.take (j + 1) := fun h => (ms.1 h).elim w1 fun e => p2 (by rw [e])
            (repeat refine ka ?_); refine kr ?_ ?_ (pops_end ?_)
            (repeat refine ka ?_); refine kct ?_
            (repeat refine ka ?_); refine ksk ?_
            (repeat refine ka ?_); refine kb ?_
            (repeat refine ka ?_); refine kd ?_ ?_ ?_
            refine pd_cst_g ?_
            refine pstl_go ?_ ?_ ?_
            refine pd_cst_g ?_
            refine pstl_go ?_ ?_ (pstl_end ?_)
            refine kn ?_; repeat (first | with_reducible refine blk_n ?_ | with_reducible refine beh_n ?_)
            (repeat refine ka ?_); refine kr ?_ ?_ (pops_end ?_)
            refine kn ?_; repeat (first | with_reducible refine blk_n ?_ | with_reducible refine beh_n ?_)
            refine ⟨j + 1, by omega, by omega, ?_⟩
            rw [decide_eq_false w2]
            exact (holds 1 (by repeat (first | exact .nil | refine has1 ?_)))
        · have w2 : ¬ z ∈ F.take (j + 1) := fun h => (ms.1 h).elim w1 fun e => p1 (by rw [e])
          (repeat refine ka ?_); refine kr ?_ ?_ (pops_end ?_)
          (repeat refine ka ?_); refine kct ?_
          (repeat refine ka ?_); refine ksk ?_
          (repeat refine ka ?_); refine kb ?_
          (repeat refine ka ?_); refine kd ?_ ?_ (pstl_end ?_)
          refine kn ?_; repeat (first | with_reducible refine blk_n ?_ | with_reducible refine beh_n ?_)
          (repeat refine ka ?_); refine kr ?_ ?_ (pops_end ?_)
          refine kn ?_; repeat (first | with_reducible refine blk_n ?_ | with_reducible refine beh_n ?_)
          refine ⟨j + 1, by omega, by omega, ?_⟩
          rw [decide_eq_false w2]
          exact (holds 1 (by repeat (first | exact .nil | refine has1 ?_)))
    · obtain rfl : j = F.length := by omega
      rw [List.take_length, decide_eq_true (z4 z zm)]
      (repeat refine ka ?_); refine kr ?_ ?_ (pops_end ?_)
      (repeat refine ka ?_); refine kcf ?_
      (repeat refine ka ?_); refine kx ?_; (repeat (first | with_reducible refine beh_x ?_ | with_reducible refine blk_up rfl ?_)); refine blk_here ?_; refine beh_n ?_
      by_cases hk0 : k = 0
      · subst hk0
        (repeat refine ka ?_); refine kd ?_ ?_ (pstl_end ?_)
        (repeat refine ka ?_); refine kcf ?_
        (repeat refine ka ?_); refine ksk ?_
        refine kn ?_; repeat (first | with_reducible refine blk_n ?_ | with_reducible refine beh_n ?_)
        (repeat refine ka ?_); refine kr ?_ ?_ (pops_end ?_)
        refine kn ?_; repeat (first | with_reducible refine blk_n ?_ | with_reducible refine beh_n ?_)
        exact ⟨0 + 1, by omega, by omega, (holds 1 (by repeat (first | exact .nil | refine has1 ?_)))⟩
      · obtain ⟨y, hy⟩ : ∃ y, Z[k - 1]? = some y := ⟨Z[k - 1]'(by omega), by simp [show k - 1 < Z.length by omega]⟩
        have r3 := filRows_get hy
        rw [show ((k - 1 : Nat) : Int) = (k : Int) - 1 by omega] at r3
        have o5 := (hSo y (List.mem_of_getElem? hy)).1
        have hlt : cmpS .geq y.1 z.1 = some false := by
          have := (List.pairwise_iff_getElem.1 z5) (k - 1) k (by rw [List.length_map]; omega) (by rw [List.length_map]; omega) (by omega)
          rw [List.getElem_map, List.getElem_map, (List.getElem?_eq_some_iff.1 hy).2, (List.getElem?_eq_some_iff.1 hz).2] at this
          simp only [cmpS, this, Bool.not_true]
        (repeat refine ka ?_); refine kd ?_ ?_ ?_
        refine pd_scmp_g o5 o1 hlt ?_
        refine pstl_go ?_ ?_ (pstl_end ?_)
        (repeat refine ka ?_); refine kcf ?_
        (repeat refine ka ?_); refine ksk ?_
        refine kn ?_; repeat (first | with_reducible refine blk_n ?_ | with_reducible refine beh_n ?_)
        (repeat refine ka ?_); refine kr ?_ ?_ (pops_end ?_)
        refine kn ?_; repeat (first | with_reducible refine blk_n ?_ | with_reducible refine beh_n ?_)
        exact ⟨k + 1, by omega, by omega, (holds 1 (by repeat (first | exact .nil | refine has1 ?_)))⟩
  · obtain rfl : k = Z.length := by omega
    (repeat refine ka ?_); refine kr ?_ ?_ (pops_end ?_)
    (repeat refine ka ?_); refine kcf ?_
    (repeat refine ka ?_); refine kx ?_; (repeat (first | with_reducible refine beh_x ?_ | with_reducible refine blk_up rfl ?_)); refine blk_here ?_; refine beh_n ?_
    (repeat refine ka ?_); refine kr ?_ ?_ ?_
    refine ps_pcall d1 ?_
    refine pops_go ?_ ?_ (pops_end ?_)
    by_cases qr : (readF b n1).2 = 0
    · obtain ⟨v1, v2, v3⟩ := rfwd qr
      have f1 := dbytes_ok (readF b n1).1 rok.1 (by have := rok.2; omega)
      have f3 : bytesF15 (readF b n1).1 = b := by unfold bytesF15; rw [if_pos v1]; exact v2
      rw [f3, v1] at f1
      have f2 := sameb_ok b b (by omega) (by omega)
      rw [decide_eq_true rfl] at f2
      have lr := entRows_length (readF b n1).1
      rw [qr]
      generalize (readF b n1).1 = R at *
      (repeat refine ka ?_); refine kr ?_ ?_ (pops_end ?_)
      (repeat refine ka ?_); refine kcf ?_
      (repeat refine ka ?_); refine ksk ?_
      (repeat refine ka ?_); refine kr ?_ ?_ ?_
      refine ps_pcall f1 ?_
      refine pops_go ?_ ?_ (pops_end ?_)
      (repeat refine ka ?_); refine kr ?_ ?_ ?_
      refine ps_pcall f2 ?_
      refine pops_go ?_ ?_ (pops_end ?_)
      (repeat refine ka ?_); refine kr ?_ ?_ (pops_end ?_)
      (repeat refine ka ?_); refine kret ?_; repeat (first | with_reducible refine beh_r ?_ | with_reducible refine blk_r ?_)
      refine ends_ret ?_ retPV_one
      rfl
    · rw [rbad qr]
      (repeat refine ka ?_); refine kr ?_ ?_ (pops_end ?_)
      (repeat refine ka ?_); refine kct ?_
      (repeat refine ka ?_); refine kr ?_ ?_ (pops_end ?_)
      (repeat refine ka ?_); refine kret ?_; repeat (first | with_reducible refine beh_r ?_ | with_reducible refine blk_r ?_)
      refine ends_ret ?_ retPV_one
      rfl
end Go.Proofs.YtenoecffjfcifaaDoor.Pv
