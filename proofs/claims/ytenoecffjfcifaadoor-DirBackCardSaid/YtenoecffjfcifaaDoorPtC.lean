-- carapaceref06: Less, May.
import Derived.Test.YtenoecffjfcifaaDoorPtB
namespace Go.Proofs.YtenoecffjfcifaaDoor.Pv
set_option linter.all false
open Go.RowKit Go.Proofs
set_option maxRecDepth 100000
set_option maxHeartbeats 4000000
/-- Does a text stand ahead of another one? -/
def lessF : List Int → List Int → Bool
  | [], [] => false
  | [], _ :: _ => true
  | _ :: _, [] => false
  | a :: l, b :: m => if a = b then lessF l m else decide (a < b)
theorem lessF_drop {a b : List Int} {i : Nat} (h : i < a.length) (k : i < b.length) : lessF (a.drop i) (b.drop i) = if a.getD i 0 = b.getD i 0 then lessF (a.drop (i + 1)) (b.drop (i + 1)) else decide (a.getD i 0 < b.getD i 0) := by
  rw [List.drop_eq_getElem_cons h, List.drop_eq_getElem_cons k, lessF, List.getD_eq_getElem?_getD, List.getD_eq_getElem?_getD, List.getElem?_eq_getElem h, List.getElem?_eq_getElem k]
  rfl
theorem lessF_end {a b : List Int} {i : Nat} (h : ¬ (i < a.length ∧ i < b.length)) (ha : i ≤ a.length) (hb : i ≤ b.length) : lessF (a.drop i) (b.drop i) = decide (a.length < b.length) := by
  by_cases h1 : i < a.length
  · have h2 : b.drop i = [] := List.drop_eq_nil_of_le (by omega)
    rw [h2, List.drop_eq_getElem_cons h1, lessF, decide_eq_false (by omega)]
  · have h2 : a.drop i = [] := List.drop_eq_nil_of_le (by omega)
    rw [h2]
    by_cases h3 : i < b.length
    · rw [List.drop_eq_getElem_cons h3, lessF, decide_eq_true (by omega)]
    · rw [List.drop_eq_nil_of_le (by omega : b.length ≤ i), lessF, decide_eq_false (by omega)]
theorem less_ok (a b : List Int) (ha : Oct a) (hb : Oct b) (hl : a.length ≤ 1000000000) (hl2 : b.length ≤ 1000000000) : PCall Tryd.prog 48 [.v (.string (str a)), .v (.string (str b))] (.v (.bool (lessF a b))) := by
  refine pcall_mk Tryd.func48 rfl [.tmp 4] Tryd.results48 37 rfl (tk_start ?_)
  (repeat refine ka ?_); refine kr ?_ ?_ (pops_end ?_)
  (repeat refine ka ?_); refine kr ?_ ?_ (pops_end ?_)
  (repeat refine ka ?_); refine kb ?_
  refine kw (fun i : Nat => [(0, PV.v (.string (str a))), (1, .v (.string (str b))), (5, .v (.int .i64 i))]) (fun _ => []) (fun i => i ≤ a.length ∧ i ≤ b.length ∧ lessF a b = lessF (a.drop i) (b.drop i)) (fun i => a.length - i) 0 ⟨Nat.zero_le _, Nat.zero_le _, rfl⟩ (holds 0 (by repeat (first | exact .nil | refine has1 ?_))) ?_
  rintro i ⟨hi, hi2, hf⟩
  have e : ((i : Nat) : Int).toNat = i := Int.toNat_natCast i
  by_cases h1 : i < a.length
  · by_cases h2 : i < b.length
    · rw [lessF_drop h1 h2] at hf
      by_cases k : a.getD i 0 = b.getD i 0
      · rw [if_pos k] at hf
        have k' : a.getD ((i : Nat) : Int).toNat 0 = b.getD ((i : Nat) : Int).toNat 0 := by rw [e]; exact k
        (repeat refine ka ?_); refine kr ?_ ?_ (pops_end ?_)
        (repeat refine ka ?_); refine kct ?_
        (repeat refine ka ?_); refine ksk ?_
        (repeat refine ka ?_); refine kb ?_
        (repeat refine ka ?_); refine kd ?_ ?_ (pstl_end ?_)
        (repeat refine ka ?_); refine kcf ?_
        (repeat refine ka ?_); refine ksk ?_
        refine kn ?_; repeat (first | with_reducible refine blk_n ?_ | with_reducible refine beh_n ?_)
        (repeat refine ka ?_); refine kr ?_ ?_ (pops_end ?_)
        refine kn ?_; repeat (first | with_reducible refine blk_n ?_ | with_reducible refine beh_n ?_)
        exact ⟨i + 1, ⟨by omega, by omega, hf⟩, by omega, (holds 0 (by repeat (first | exact .nil | refine has1 ?_)))⟩
      · rw [if_neg k] at hf
        have q' : decide (a.getD i 0 < b.getD i 0) = decide (a.getD ((i : Nat) : Int).toNat 0 < b.getD ((i : Nat) : Int).toNat 0) := by rw [e]
        rw [hf, q']
        have k' : ¬ a.getD ((i : Nat) : Int).toNat 0 = b.getD ((i : Nat) : Int).toNat 0 := by rw [e]; exact k
        by_cases q : a.getD ((i : Nat) : Int).toNat 0 < b.getD ((i : Nat) : Int).toNat 0
        · rw [decide_eq_true q]
          (repeat refine ka ?_); refine kr ?_ ?_ (pops_end ?_)
          (repeat refine ka ?_); refine kct ?_
          (repeat refine ka ?_); refine ksk ?_
          (repeat refine ka ?_); refine kb ?_
          (repeat refine ka ?_); refine kd ?_ ?_ (pstl_end ?_)
          (repeat refine ka ?_); refine kct ?_
          (repeat refine ka ?_); refine kd ?_ ?_ (pstl_end ?_)
          (repeat refine ka ?_); refine kret ?_; repeat (first | with_reducible refine beh_r ?_ | with_reducible refine blk_r ?_)
          refine ends_ret ?_ retPV_one
          rfl
        · rw [decide_eq_false q]
          (repeat refine ka ?_); refine kr ?_ ?_ (pops_end ?_)
          (repeat refine ka ?_); refine kct ?_
          (repeat refine ka ?_); refine ksk ?_
          (repeat refine ka ?_); refine kb ?_
          (repeat refine ka ?_); refine kd ?_ ?_ (pstl_end ?_)
          (repeat refine ka ?_); refine kct ?_
          (repeat refine ka ?_); refine kd ?_ ?_ (pstl_end ?_)
          (repeat refine ka ?_); refine kret ?_; repeat (first | with_reducible refine beh_r ?_ | with_reducible refine blk_r ?_)
          refine ends_ret ?_ retPV_one
          rfl
    · rw [lessF_end (fun h => h2 h.2) hi hi2] at hf
      rw [hf, decide_eq_false (by omega)]
      (repeat refine ka ?_); refine kr ?_ ?_ (pops_end ?_)
      (repeat refine ka ?_); refine kcf ?_
      (repeat refine ka ?_); refine kx ?_; (repeat (first | with_reducible refine beh_x ?_ | with_reducible refine blk_up rfl ?_)); refine blk_here ?_; refine beh_n ?_
      (repeat refine ka ?_); refine kr ?_ ?_ (pops_end ?_)
      (repeat refine ka ?_); refine kret ?_; repeat (first | with_reducible refine beh_r ?_ | with_reducible refine blk_r ?_)
      refine ends_ret ?_ retPV_one
      rfl
  · rw [lessF_end (fun h => h1 h.1) hi hi2] at hf
    rw [hf]
    by_cases q : a.length < b.length
    · rw [decide_eq_true q]
      (repeat refine ka ?_); refine kr ?_ ?_ (pops_end ?_)
      (repeat refine ka ?_); refine kcf ?_
      (repeat refine ka ?_); refine kx ?_; (repeat (first | with_reducible refine beh_x ?_ | with_reducible refine blk_up rfl ?_)); refine blk_here ?_; refine beh_n ?_
      (repeat refine ka ?_); refine kr ?_ ?_ (pops_end ?_)
      (repeat refine ka ?_); refine kret ?_; repeat (first | with_reducible refine beh_r ?_ | with_reducible refine blk_r ?_)
      refine ends_ret ?_ retPV_one
      rfl
    · rw [decide_eq_false q]
      (repeat refine ka ?_); refine kr ?_ ?_ (pops_end ?_)
      (repeat refine ka ?_); refine kcf ?_
      (repeat refine ka ?_); refine kx ?_; (repeat (first | with_reducible refine beh_x ?_ | with_reducible refine blk_up rfl ?_)); refine blk_here ?_; refine beh_n ?_
      (repeat refine ka ?_); refine kr ?_ ?_ (pops_end ?_)
      (repeat refine ka ?_); refine kret ?_; repeat (first | with_reducible refine beh_r ?_ | with_reducible refine blk_r ?_)
      refine ends_ret ?_ retPV_one
      rfl
end Go.Proofs.YtenoecffjfcifaaDoor.Pv
