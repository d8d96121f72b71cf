-- strings.Index at "/".
import Derived.Test.YtenoecffjfcifaaDoorPtF
import Derived.Lib.Bytealg
namespace Go.Proofs.YtenoecffjfcifaaDoor.Pv
set_option linter.all false
open Go.RowKit Go.Proofs
set_option maxRecDepth 100000
set_option maxHeartbeats 4000000
theorem lite_calls06 (s : ByteArray) (c : Int) (w : World) : Calls Tryd.prog 79 #[.string s, .int .u8 c] w fun e w' => e = .returned (.int .i64 (Lib.indexByte s.data.toList c.toNat.toUInt8)) ∧ w' = w := by
  go_enter Tryd.func79, Tryd.ntmps79
  go_wp2
  rw [run_callFunc_extern Tryd.func83 (by kernel_rfl) (by kernel_rfl) (by kernel_rfl) (e := Extern.BytealgIndexByte.indexByte) (by kernel_rfl), Lib.run_indexByteString]
  simp only [Result.andThen]
  rw [Oper.upon_value]
  go_wp2
  go_ret
  exact ⟨rfl, rfl⟩
/-- Where the first / is, or -1. -/
def idxF : List Int → Int
  | [] => -1
  | x :: l => if x = 47 then 0 else if idxF l = -1 then -1 else idxF l + 1
theorem idxF_ge : ∀ l, -1 ≤ idxF l
  | [] => Int.le_refl _
  | x :: l => by
    have := idxF_ge l
    rw [idxF]
    split
    · omega
    · split <;> omega
theorem ib_eq : ∀ (l : List Int), Oct l → Lib.indexByte (l.map fun n => UInt8.ofNat n.toNat) (47 : Int).toNat.toUInt8 = idxF l
  | [], _ => rfl
  | x :: l, h => by
    have ih := ib_eq l fun y hy => h y (by simp [hy])
    have hx := h x (by simp)
    rw [List.map_cons, Lib.indexByte, idxF, ih]
    by_cases e : x = 47
    · subst e
      rfl
    · have : ¬ (UInt8.ofNat x.toNat == (47 : Int).toNat.toUInt8) = true := by
        intro h
        have h := eq_of_beq h
        have h := congrArg UInt8.toNat h
        simp only [UInt8.toNat_ofNat', Nat.toUInt8_eq] at h
        have e2 : (47 : Int).toNat = 47 := rfl
        rw [e2] at h
        omega
      rw [if_neg this, if_neg e]
      by_cases k : idxF l = -1
      · simp [k]
      · rw [if_neg (by simpa using k), if_neg k]
/-- What stands ahead of the first /, and behind it. -/
theorem idxF_split : ∀ (l : List Int), (idxF l = -1 ∧ ∀ c ∈ l, c ≠ 47) ∨ (0 ≤ idxF l ∧ (idxF l).toNat < l.length ∧ (∀ c ∈ l.take (idxF l).toNat, c ≠ 47) ∧ l = l.take (idxF l).toNat ++ 47 :: l.drop ((idxF l).toNat + 1))
  | [] => .inl ⟨rfl, by simp⟩
  | x :: l => by
    rw [idxF]
    by_cases e : x = 47
    · subst e
      refine .inr ?_
      rw [if_pos rfl]
      simp
    · rw [if_neg e]
      rcases idxF_split l with ⟨h1, h2⟩ | ⟨h1, h2, h3, h4⟩
      · rw [if_pos h1]
        refine .inl ⟨rfl, fun c hc => ?_⟩
        rcases List.mem_cons.1 hc with rfl | hc
        · exact e
        · exact h2 c hc
      · rw [if_neg (by omega)]
        refine .inr ⟨by omega, ?_⟩
        have e1 : (idxF l + 1).toNat = (idxF l).toNat + 1 := by omega
        rw [e1]
        refine ⟨by simp; omega, ?_, ?_⟩
        · intro c hc
          rw [List.take_succ_cons] at hc
          rcases List.mem_cons.1 hc with rfl | hc
          · exact e
          · exact h3 c hc
        · rw [List.take_succ_cons, List.drop_succ_cons, List.cons_append, ← h4]
theorem sindex_ok (l : List Int) (ho : Oct l) (hl : l.length ≤ 1000000000) : PCall Tryd.prog 75 [.v (.string (str l)), .v (.string (str [47]))] (.v (.int .i64 (idxF l))) := by
  have c1 := pcall_of_calls (P := Tryd.prog) [.string (str l), .int .u8 47] (lite_calls06 (str l) 47)
  have e : Lib.indexByte (str l).data.toList (47 : Int).toNat.toUInt8 = idxF l := by
    have := ib_eq l ho
    unfold str
    simpa using this
  rw [e] at c1
  have o1 : Oct [47] := by decide
  have c2 : PCall Tryd.prog 78 [.v (.string (str l)), .v (.string (str [47]))] (.v (.int .i64 (idxF l))) := by
    by_cases h : [47] = l
    · subst h
      refine pcall_mk Tryd.func78 rfl [.tmp 4] Tryd.results78 143 rfl (tk_start ?_)
      (repeat refine ka ?_); refine kr ?_ ?_ (pops_end ?_)
      (repeat refine ka ?_); refine kr ?_ ?_ (pops_end ?_)
      (repeat refine ka ?_); refine kb ?_
      (repeat refine ka ?_); refine kr ?_ ?_ (pops_end ?_)
      (repeat refine ka ?_); refine kct ?_
      (repeat refine ka ?_); refine kr ?_ ?_ (pops_end ?_)
      (repeat refine ka ?_); refine kret ?_; repeat (first | with_reducible refine beh_r ?_ | with_reducible refine blk_r ?_)
      refine ends_ret ?_ retPV_one
      rfl
    · refine pcall_mk Tryd.func78 rfl [.tmp 4] Tryd.results78 143 rfl (tk_start ?_)
      (repeat refine ka ?_); refine kr ?_ ?_ (pops_end ?_)
      (repeat refine ka ?_); refine kr ?_ ?_ (pops_end ?_)
      (repeat refine ka ?_); refine kb ?_
      (repeat refine ka ?_); refine kr ?_ ?_ (pops_end ?_)
      (repeat refine ka ?_); refine kcf ?_
      (repeat refine ka ?_); refine kr ?_ ?_ (pops_end ?_)
      (repeat refine ka ?_); refine kct ?_
      (repeat refine ka ?_); refine kr ?_ ?_ ?_
      refine ps_pcall c1 ?_
      refine pops_go ?_ ?_ (pops_end ?_)
      (repeat refine ka ?_); refine kret ?_; repeat (first | with_reducible refine beh_r ?_ | with_reducible refine blk_r ?_)
      refine ends_ret ?_ retPV_one
      rfl
  refine pcall_mk Tryd.func75 rfl [.tmp 4] Tryd.results75 8 rfl (tk_start ?_)
  (repeat' (first | refine ka ?_ | refine ksk ?_ | (refine kr ?_ ?_ ?_; first | refine pops_end ?_ | (refine ps_split (fun hb => ?_) (fun hb => ?_); (fail_if_success (guard_hyp hb : true = true)); (fail_if_success (guard_hyp hb : false = true)); all_goals (have hp := hb; (try simp only [decide_eq_true_eq, Bool.eq_false_iff, ne_eq, Bool.not_eq_true', Bool.not_eq_false', Bool.and_eq_true, Bool.or_eq_true, decide_true, decide_false, Bool.and_true, Bool.true_and, Bool.false_eq_true, not_false_eq_true, true_and, and_true] at hp); (try rw [hb]); (try clear hb))) | refine ps_pcall (c2) ?_ | refine ps_pcall_g (c2) ?_ | refine ps_alloc fun g => ?_ | refine ps_box fun g => ?_ | refine ps_store ?_ | refine ps_lit fun g => ?_ | refine pops_nil ?_ | skip) | (refine kd ?_ ?_ ?_; first | refine pstl_end ?_ | (refine pd_split (fun hb => ?_) (fun hb => ?_); (fail_if_success (guard_hyp hb : true = true)); (fail_if_success (guard_hyp hb : false = true)); all_goals (have hp := hb; (try simp only [decide_eq_true_eq, Bool.eq_false_iff, ne_eq, Bool.not_eq_true', Bool.not_eq_false', Bool.and_eq_true, Bool.or_eq_true, decide_true, decide_false, Bool.and_true, Bool.true_and, Bool.false_eq_true, not_false_eq_true, true_and, and_true] at hp); (try rw [hb]); (try clear hb))) | refine pd_pcall (c2) ?_ | refine pd_pcall_g (c2) ?_ | skip) | refine kct ?_ | refine kcf ?_ | (refine kcs (fun hb => ?_) (fun hb => ?_) <;> (have hp := hb; (try simp only [decide_eq_true_eq, Bool.eq_false_iff, ne_eq, Bool.not_eq_true', Bool.not_eq_false', Bool.and_eq_true, Bool.or_eq_true, decide_true, decide_false, Bool.and_true, Bool.true_and, Bool.false_eq_true, not_false_eq_true, true_and, and_true] at hp); (try rw [hb]); (try clear hb))) | (refine kret ?_; repeat (first | with_reducible refine beh_r ?_ | with_reducible refine blk_r ?_)) | refine kb ?_ | (refine ps_split (fun hb => ?_) (fun hb => ?_); (fail_if_success (guard_hyp hb : true = true)); (fail_if_success (guard_hyp hb : false = true)); all_goals (have hp := hb; (try simp only [decide_eq_true_eq, Bool.eq_false_iff, ne_eq, Bool.not_eq_true', Bool.not_eq_false', Bool.and_eq_true, Bool.or_eq_true, decide_true, decide_false, Bool.and_true, Bool.true_and, Bool.false_eq_true, not_false_eq_true, true_and, and_true] at hp); (try rw [hb]); (try clear hb))) | refine ps_pcall (c2) ?_ | refine ps_pcall_g (c2) ?_ | refine ps_alloc fun g => ?_ | refine ps_box fun g => ?_ | refine ps_store ?_ | refine ps_lit fun g => ?_ | refine pops_nil ?_ | (refine pd_split (fun hb => ?_) (fun hb => ?_); (fail_if_success (guard_hyp hb : true = true)); (fail_if_success (guard_hyp hb : false = true)); all_goals (have hp := hb; (try simp only [decide_eq_true_eq, Bool.eq_false_iff, ne_eq, Bool.not_eq_true', Bool.not_eq_false', Bool.and_eq_true, Bool.or_eq_true, decide_true, decide_false, Bool.and_true, Bool.true_and, Bool.false_eq_true, not_false_eq_true, true_and, and_true] at hp); (try rw [hb]); (try clear hb))) | refine pd_pcall (c2) ?_ | refine pd_pcall_g (c2) ?_ | (refine pops_go ?_ ?_ ?_; first | refine pops_end ?_ | (refine ps_split (fun hb => ?_) (fun hb => ?_); (fail_if_success (guard_hyp hb : true = true)); (fail_if_success (guard_hyp hb : false = true)); all_goals (have hp := hb; (try simp only [decide_eq_true_eq, Bool.eq_false_iff, ne_eq, Bool.not_eq_true', Bool.not_eq_false', Bool.and_eq_true, Bool.or_eq_true, decide_true, decide_false, Bool.and_true, Bool.true_and, Bool.false_eq_true, not_false_eq_true, true_and, and_true] at hp); (try rw [hb]); (try clear hb))) | refine ps_pcall (c2) ?_ | refine ps_pcall_g (c2) ?_ | refine ps_alloc fun g => ?_ | refine ps_box fun g => ?_ | refine ps_store ?_ | refine ps_lit fun g => ?_ | refine pops_nil ?_) | (refine pstl_go ?_ ?_ ?_; first | refine pstl_end ?_ | (refine pd_split (fun hb => ?_) (fun hb => ?_); (fail_if_success (guard_hyp hb : true = true)); (fail_if_success (guard_hyp hb : false = true)); all_goals (have hp := hb; (try simp only [decide_eq_true_eq, Bool.eq_false_iff, ne_eq, Bool.not_eq_true', Bool.not_eq_false', Bool.and_eq_true, Bool.or_eq_true, decide_true, decide_false, Bool.and_true, Bool.true_and, Bool.false_eq_true, not_false_eq_true, true_and, and_true] at hp); (try rw [hb]); (try clear hb))) | refine pd_pcall (c2) ?_ | refine pd_pcall_g (c2) ?_) | (refine kn ?_; repeat (first | with_reducible refine blk_n ?_ | with_reducible refine beh_n ?_)) | (refine kx ?_; (repeat (first | with_reducible refine beh_x ?_ | with_reducible refine blk_up rfl ?_)); refine blk_here ?_; refine beh_n ?_)))
  all_goals (refine ends_ret ?_ retPV_one; rfl)
end Go.Proofs.YtenoecffjfcifaaDoor.Pv
