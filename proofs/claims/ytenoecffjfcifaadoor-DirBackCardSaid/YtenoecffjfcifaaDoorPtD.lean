-- carapaceref06: May.
import Derived.Test.YtenoecffjfcifaaDoorPtC
namespace Go.Proofs.YtenoecffjfcifaaDoor.Pv
set_option linter.all false
open Go.RowKit Go.Proofs
set_option maxRecDepth 100000
set_option maxHeartbeats 4000000
/-- What stands between bytes /. -/
def partsF : List Int → List (List Int)
  | [] => [[]]
  | c :: l => if c = 47 then [] :: partsF l else match partsF l with
    | p :: ps => (c :: p) :: ps
    | [] => [[c]]
theorem parts_one : ∀ (s : List Int), (∀ c ∈ s, c ≠ 47) → partsF s = [s]
  | [], _ => rfl
  | c :: s, h => by
    rw [partsF, if_neg (h c (by simp)), parts_one s fun x hx => h x (by simp [hx])]
theorem parts_cons : ∀ (s r : List Int), (∀ c ∈ s, c ≠ 47) → partsF (s ++ 47 :: r) = s :: partsF r
  | [], r, _ => by rw [List.nil_append, partsF, if_pos rfl]
  | c :: s, r, h => by
    rw [List.cons_append, partsF, if_neg (h c (by simp)), parts_cons s r fun x hx => h x (by simp [hx])]
def rmayP (l : List Int) : Prop := l.length ≤ 200 ∧ ∀ p ∈ partsF l, rpartP p
instance (l : List Int) : Decidable (rmayP l) := by unfold rmayP; infer_instance
/-- From one place up to another one. -/
def sgm (l : List Int) (f i : Nat) : List Int := (l.drop f).take (i - f)
theorem sgm_succ {l : List Int} {f i : Nat} (h : f ≤ i) (hi : i < l.length) : sgm l f (i + 1) = sgm l f i ++ [l.getD i 0] := by
  unfold sgm
  rw [show i + 1 - f = i - f + 1 by omega, List.take_succ_eq_append_getElem (by rw [List.length_drop]; omega), List.getElem_drop, List.getD_eq_getElem?_getD]
  congr 2
  rw [List.getElem?_eq_getElem hi]
  simp [show f + (i - f) = i by omega]
theorem sgm_split {l : List Int} {f i : Nat} (h : f ≤ i) (hi : i < l.length) (hc : l.getD i 0 = 47) : l.drop f = sgm l f i ++ 47 :: l.drop (i + 1) := by
  have e := List.take_append_drop (i - f) (l.drop f)
  rw [List.drop_drop, show f + (i - f) = i by omega, List.drop_eq_getElem_cons hi] at e
  rw [← e]
  rw [List.getD_eq_getElem?_getD, List.getElem?_eq_getElem hi] at hc
  simp only [Option.getD_some] at hc
  rw [hc]
  rfl
theorem oct_sgm {l : List Int} (ho : Oct l) (f i : Nat) : Oct (sgm l f i) := fun x hx => ho x (List.mem_of_mem_drop (List.mem_of_mem_take hx))
theorem rmay_ok (l : List Int) (ho : Oct l) (hl : l.length ≤ 1000000000) : PCall Tryd.prog 46 [.v (.string (str l))] (.v (.bool (decide (rmayP l)))) := by
  by_cases hn : (200 : Int) < l.length
  · rw [decide_eq_false (fun h : rmayP l => by have := h.1; omega)]
    refine pcall_mk Tryd.func46 rfl [.tmp 2] Tryd.results46 30 rfl (tk_start ?_)
    (repeat' (first | refine ka ?_ | refine ksk ?_ | (refine kr ?_ ?_ ?_; first | refine pops_end ?_ | (refine ps_split (fun hb => ?_) (fun hb => ?_); (fail_if_success (guard_hyp hb : true = true)); (fail_if_success (guard_hyp hb : false = true)); all_goals (have hp := hb; (try simp only [decide_eq_true_eq, Bool.eq_false_iff, ne_eq, Bool.not_eq_true', Bool.not_eq_false', Bool.and_eq_true, Bool.or_eq_true, decide_true, decide_false, Bool.and_true, Bool.true_and, Bool.false_eq_true, not_false_eq_true, true_and, and_true] at hp); (try rw [hb]); (try clear hb))) | refine ps_alloc fun g => ?_ | refine ps_box fun g => ?_ | refine ps_store ?_ | refine ps_lit fun g => ?_ | refine pops_nil ?_ | skip) | (refine kd ?_ ?_ ?_; first | refine pstl_end ?_ | (refine pd_split (fun hb => ?_) (fun hb => ?_); (fail_if_success (guard_hyp hb : true = true)); (fail_if_success (guard_hyp hb : false = true)); all_goals (have hp := hb; (try simp only [decide_eq_true_eq, Bool.eq_false_iff, ne_eq, Bool.not_eq_true', Bool.not_eq_false', Bool.and_eq_true, Bool.or_eq_true, decide_true, decide_false, Bool.and_true, Bool.true_and, Bool.false_eq_true, not_false_eq_true, true_and, and_true] at hp); (try rw [hb]); (try clear hb))) | skip) | refine kct ?_ | refine kcf ?_ | (refine kcs (fun hb => ?_) (fun hb => ?_) <;> (have hp := hb; (try simp only [decide_eq_true_eq, Bool.eq_false_iff, ne_eq, Bool.not_eq_true', Bool.not_eq_false', Bool.and_eq_true, Bool.or_eq_true, decide_true, decide_false, Bool.and_true, Bool.true_and, Bool.false_eq_true, not_false_eq_true, true_and, and_true] at hp); (try rw [hb]); (try clear hb))) | (refine kret ?_; repeat (first | with_reducible refine beh_r ?_ | with_reducible refine blk_r ?_)) | refine kb ?_ | (refine ps_split (fun hb => ?_) (fun hb => ?_); (fail_if_success (guard_hyp hb : true = true)); (fail_if_success (guard_hyp hb : false = true)); all_goals (have hp := hb; (try simp only [decide_eq_true_eq, Bool.eq_false_iff, ne_eq, Bool.not_eq_true', Bool.not_eq_false', Bool.and_eq_true, Bool.or_eq_true, decide_true, decide_false, Bool.and_true, Bool.true_and, Bool.false_eq_true, not_false_eq_true, true_and, and_true] at hp); (try rw [hb]); (try clear hb))) | refine ps_alloc fun g => ?_ | refine ps_box fun g => ?_ | refine ps_store ?_ | refine ps_lit fun g => ?_ | refine pops_nil ?_ | (refine pd_split (fun hb => ?_) (fun hb => ?_); (fail_if_success (guard_hyp hb : true = true)); (fail_if_success (guard_hyp hb : false = true)); all_goals (have hp := hb; (try simp only [decide_eq_true_eq, Bool.eq_false_iff, ne_eq, Bool.not_eq_true', Bool.not_eq_false', Bool.and_eq_true, Bool.or_eq_true, decide_true, decide_false, Bool.and_true, Bool.true_and, Bool.false_eq_true, not_false_eq_true, true_and, and_true] at hp); (try rw [hb]); (try clear hb))) | (refine pops_go ?_ ?_ ?_; first | refine pops_end ?_ | (refine ps_split (fun hb => ?_) (fun hb => ?_); (fail_if_success (guard_hyp hb : true = true)); (fail_if_success (guard_hyp hb : false = true)); all_goals (have hp := hb; (try simp only [decide_eq_true_eq, Bool.eq_false_iff, ne_eq, Bool.not_eq_true', Bool.not_eq_false', Bool.and_eq_true, Bool.or_eq_true, decide_true, decide_false, Bool.and_true, Bool.true_and, Bool.false_eq_true, not_false_eq_true, true_and, and_true] at hp); (try rw [hb]); (try clear hb))) | refine ps_alloc fun g => ?_ | refine ps_box fun g => ?_ | refine ps_store ?_ | refine ps_lit fun g => ?_ | refine pops_nil ?_) | (refine pstl_go ?_ ?_ ?_; first | refine pstl_end ?_ | (refine pd_split (fun hb => ?_) (fun hb => ?_); (fail_if_success (guard_hyp hb : true = true)); (fail_if_success (guard_hyp hb : false = true)); all_goals (have hp := hb; (try simp only [decide_eq_true_eq, Bool.eq_false_iff, ne_eq, Bool.not_eq_true', Bool.not_eq_false', Bool.and_eq_true, Bool.or_eq_true, decide_true, decide_false, Bool.and_true, Bool.true_and, Bool.false_eq_true, not_false_eq_true, true_and, and_true] at hp); (try rw [hb]); (try clear hb)))) | (refine kn ?_; repeat (first | with_reducible refine blk_n ?_ | with_reducible refine beh_n ?_)) | (refine kx ?_; (repeat (first | with_reducible refine beh_x ?_ | with_reducible refine blk_up rfl ?_)); refine blk_here ?_; refine beh_n ?_)))
    all_goals (refine ends_ret ?_ retPV_one; rfl)
  refine pcall_mk Tryd.func46 rfl [.tmp 2] Tryd.results46 30 rfl (tk_start ?_)
  (repeat refine ka ?_); refine kr ?_ ?_ (pops_end ?_)
  (repeat refine ka ?_); refine kr ?_ ?_ (pops_end ?_)
  (repeat refine ka ?_); refine kcf ?_
  (repeat refine ka ?_); refine ksk ?_
  (repeat refine ka ?_); refine kr ?_ ?_ (pops_end ?_)
  (repeat refine ka ?_); refine kr ?_ ?_ (pops_end ?_)
  (repeat refine ka ?_); refine kb ?_
  refine kw (fun s : Nat × Nat => [(0, PV.v (.string (str l))), (3, .v (.int .i64 s.2)), (4, .v (.int .i64 s.1))]) (fun _ => []) (fun s => s.2 ≤ s.1 ∧ s.1 ≤ l.length ∧ (∀ c ∈ sgm l s.2 s.1, c ≠ 47) ∧ ((∀ p ∈ partsF l, rpartP p) ↔ ∀ p ∈ partsF (l.drop s.2), rpartP p)) (fun s => l.length - s.1) (0, 0) ⟨Nat.le_refl _, Nat.zero_le _, by simp [sgm], Iff.rfl⟩ (holds 0 (by repeat (first | exact .nil | refine has1 ?_))) ?_
  rintro ⟨i, f⟩ ⟨hf, hi, hs, hp⟩
  simp only at hf hi hs hp ⊢
  have e : ((i : Nat) : Int).toNat = i := Int.toNat_natCast i
  have ef : ((f : Nat) : Int).toNat = f := Int.toNat_natCast f
  by_cases h : i < l.length
  · by_cases k : l.getD i 0 = 47
    · have k' : l.getD ((i : Nat) : Int).toNat 0 = 47 := by rw [e]; exact k
      have hsp := sgm_split hf h k
      rw [hsp, parts_cons _ _ hs] at hp
      have c1 := rpart_ok (sgm l f i) (oct_sgm ho f i) (by unfold sgm; rw [List.length_take, List.length_drop]; omega)
      have c2 : sgm l f i = (l.drop ((f : Nat) : Int).toNat).take (((i : Nat) : Int).toNat - ((f : Nat) : Int).toNat) := by rw [e, ef]; rfl
      by_cases q : rpartP (sgm l f i)
      · rw [decide_eq_true q, c2] at c1
        (repeat refine ka ?_); refine kr ?_ ?_ (pops_end ?_)
        (repeat refine ka ?_); refine kct ?_
        (repeat refine ka ?_); refine ksk ?_
        (repeat refine ka ?_); refine kb ?_
        (repeat refine ka ?_); refine kr ?_ ?_ (pops_end ?_)
        (repeat refine ka ?_); refine kct ?_
        (repeat refine ka ?_); refine kr ?_ ?_ ?_
        refine ps_pcall c1 ?_
        refine pops_go ?_ ?_ (pops_end ?_)
        (repeat refine ka ?_); refine kcf ?_
        (repeat refine ka ?_); refine ksk ?_
        (repeat refine ka ?_); refine kr ?_ ?_ (pops_end ?_)
        refine kn ?_; repeat (first | with_reducible refine blk_n ?_ | with_reducible refine beh_n ?_)
        (repeat refine ka ?_); refine kr ?_ ?_ (pops_end ?_)
        refine kn ?_; repeat (first | with_reducible refine blk_n ?_ | with_reducible refine beh_n ?_)
        refine ⟨(i + 1, i + 1), ⟨Nat.le_refl _, by simp only; omega, by simp [sgm], hp.trans ⟨fun g p hp' => g p (List.mem_cons_of_mem _ hp'), fun g p hp' => ?_⟩⟩, by simp only; omega, (holds 0 (by repeat (first | exact .nil | refine has1 ?_)))⟩
        rcases List.mem_cons.1 hp' with rfl | hp'
        · exact q
        · exact g p hp'
      · rw [decide_eq_false q, c2] at c1
        rw [decide_eq_false (fun hr : rmayP l => q (hp.1 hr.2 _ (by simp)))]
        (repeat refine ka ?_); refine kr ?_ ?_ (pops_end ?_)
        (repeat refine ka ?_); refine kct ?_
        (repeat refine ka ?_); refine ksk ?_
        (repeat refine ka ?_); refine kb ?_
        (repeat refine ka ?_); refine kr ?_ ?_ (pops_end ?_)
        (repeat refine ka ?_); refine kct ?_
        (repeat refine ka ?_); refine kr ?_ ?_ ?_
        refine ps_pcall c1 ?_
        refine pops_go ?_ ?_ (pops_end ?_)
        (repeat refine ka ?_); refine kct ?_
        (repeat refine ka ?_); refine kr ?_ ?_ (pops_end ?_)
        (repeat refine ka ?_); refine kret ?_; repeat (first | with_reducible refine beh_r ?_ | with_reducible refine blk_r ?_)
        refine ends_ret ?_ retPV_one
        rfl
    · have k' : ¬ l.getD ((i : Nat) : Int).toNat 0 = 47 := by rw [e]; exact k
      (repeat refine ka ?_); refine kr ?_ ?_ (pops_end ?_)
      (repeat refine ka ?_); refine kct ?_
      (repeat refine ka ?_); refine ksk ?_
      (repeat refine ka ?_); refine kb ?_
      (repeat refine ka ?_); refine kr ?_ ?_ (pops_end ?_)
      (repeat refine ka ?_); refine kcf ?_
      (repeat refine ka ?_); refine ksk ?_
      refine kn ?_; repeat (first | with_reducible refine blk_n ?_ | with_reducible refine beh_n ?_)
      (repeat refine ka ?_); refine kr ?_ ?_ (pops_end ?_)
      refine kn ?_; repeat (first | with_reducible refine blk_n ?_ | with_reducible refine beh_n ?_)
      refine ⟨(i + 1, f), ⟨by simp only; omega, by simp only; omega, ?_, hp⟩, by simp only; omega, (holds 0 (by repeat (first | exact .nil | refine has1 ?_)))⟩
      intro c hc
      rw [sgm_succ hf h] at hc
      rcases List.mem_append.1 hc with hc | hc
      · exact hs c hc
      · rw [List.mem_singleton] at hc
        rw [hc]
        exact k
  · obtain rfl : i = l.length := by omega
    have hd : sgm l f l.length = l.drop f := by
      unfold sgm
      rw [List.take_of_length_le (by rw [List.length_drop]; omega)]
    rw [hd] at hs
    rw [parts_one _ hs] at hp
    have c1 := rpart_ok (l.drop f) (fun x hx => ho x (List.mem_of_mem_drop hx)) (by rw [List.length_drop]; omega)
    have e1 : decide (rpartP (l.drop f)) = decide (rmayP l) := by
      apply decide_eq_decide.2
      unfold rmayP
      rw [hp]
      simp
      omega
    rw [e1] at c1
    have c2 : l.drop f = l.drop ((f : Nat) : Int).toNat := by rw [ef]
    rw [c2] at c1
    (repeat refine ka ?_); refine kr ?_ ?_ (pops_end ?_)
    (repeat refine ka ?_); refine kcf ?_
    (repeat refine ka ?_); refine kx ?_; (repeat (first | with_reducible refine beh_x ?_ | with_reducible refine blk_up rfl ?_)); refine blk_here ?_; refine beh_n ?_
    (repeat refine ka ?_); refine kr ?_ ?_ ?_
    refine ps_pcall c1 ?_
    refine pops_go ?_ ?_ (pops_end ?_)
    (repeat refine ka ?_); refine kret ?_; repeat (first | with_reducible refine beh_r ?_ | with_reducible refine blk_r ?_)
    refine ends_ret ?_ retPV_one
    rfl
end Go.Proofs.YtenoecffjfcifaaDoor.Pv
