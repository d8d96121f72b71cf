-- carapaceref06: Set.
import Derived.Test.YtenoecffjfcifaaDoorPtE
namespace Go.Proofs.YtenoecffjfcifaaDoor.Pv
set_option linter.all false
open Go.RowKit Go.Proofs
set_option maxRecDepth 100000
set_option maxHeartbeats 4000000
def clashP (L : List (List Int)) (i k : Nat) : Prop := i ≠ k ∧ L.getD i [] = L.getD k [] ∨ inP (L.getD i []) (L.getD k [])
instance (L : List (List Int)) (i k : Nat) : Decidable (clashP L i k) := by unfold clashP; infer_instance
def clashes (L : List (List Int)) : Prop := ∃ i, i < L.length ∧ ∃ k, k < L.length ∧ clashP L i k
instance (L : List (List Int)) : Decidable (clashes L) :=
  decidable_of_iff (∃ i ∈ List.range L.length, ∃ k ∈ List.range L.length, clashP L i k) (by simp [clashes])
def rsetF (L : List (List Int)) : Int := if 200 < L.length then 4 else if ∀ x ∈ L, rmayP x then (if clashes L then 7 else 0) else 5
theorem rset_ok (L : List (List Int)) (ho : ∀ x ∈ L, Oct x) (hl : L.length ≤ 100000000000000) (hs : ∀ x ∈ L, x.length ≤ 1000000000) : PCall Tryd.prog 32 [.ro 1 false (strRows L)] (.v (.int .i64 (rsetF L))) := by
  have la := strRows_length L
  by_cases hn : (200 : Int) < L.length
  · rw [rsetF, if_pos (by omega)]
    refine pcall_mk Tryd.func32 rfl [.tmp 2] Tryd.results32 58 rfl (tk_start ?_)
    (repeat refine ka ?_); refine kr ?_ ?_ (pops_end ?_)
    (repeat refine ka ?_); refine kr ?_ ?_ (pops_end ?_)
    (repeat refine ka ?_); refine kct ?_
    (repeat refine ka ?_); refine kr ?_ ?_ (pops_end ?_)
    (repeat refine ka ?_); refine kret ?_; repeat (first | with_reducible refine beh_r ?_ | with_reducible refine blk_r ?_)
    refine ends_ret ?_ retPV_one
    rfl
  have hn' : ¬ 200 < L.length := by omega
  refine pcall_mk Tryd.func32 rfl [.tmp 2] Tryd.results32 58 rfl (tk_start ?_)
  (repeat refine ka ?_); refine kr ?_ ?_ (pops_end ?_)
  (repeat refine ka ?_); refine kr ?_ ?_ (pops_end ?_)
  (repeat refine ka ?_); refine kcf ?_
  (repeat refine ka ?_); refine ksk ?_
  (repeat refine ka ?_); refine kr ?_ ?_ (pops_end ?_)
  (repeat refine ka ?_); refine kb ?_
  refine kw (fun i : Nat => [(0, .ro 1 false (strRows L)), (3, .v (.int .i64 i))]) (fun _ => []) (fun i => i ≤ L.length ∧ ∀ x ∈ L.take i, rmayP x) (fun i => L.length - i) 0 ⟨Nat.zero_le _, by simp⟩ (holds 0 (by repeat (first | exact .nil | refine has1 ?_))) ?_
  rintro i ⟨hi, ha⟩
  by_cases h : i < L.length
  · obtain ⟨x, hx⟩ : ∃ x, L[i]? = some x := ⟨L[i], by simp [h]⟩
    have r1 := strRows_get hx
    have hm := List.mem_of_getElem? hx
    have c := rmay_ok x (ho x hm) (hs x hm)
    by_cases k : rmayP x
    · rw [decide_eq_true k] at c
      (repeat refine ka ?_); refine kr ?_ ?_ (pops_end ?_)
      (repeat refine ka ?_); refine kct ?_
      (repeat refine ka ?_); refine ksk ?_
      (repeat refine ka ?_); refine kb ?_
      (repeat refine ka ?_); refine kr ?_ ?_ ?_
      refine ps_pcall c ?_
      refine pops_go ?_ ?_ (pops_end ?_)
      (repeat refine ka ?_); refine kcf ?_
      (repeat refine ka ?_); refine ksk ?_
      refine kn ?_; repeat (first | with_reducible refine blk_n ?_ | with_reducible refine beh_n ?_)
      (repeat refine ka ?_); refine kr ?_ ?_ (pops_end ?_)
      refine kn ?_; repeat (first | with_reducible refine blk_n ?_ | with_reducible refine beh_n ?_)
      refine ⟨i + 1, ⟨by omega, fun y hy => ?_⟩, by omega, (holds 0 (by repeat (first | exact .nil | refine has1 ?_)))⟩
      obtain ⟨h1, h2⟩ := List.getElem?_eq_some_iff.1 hx
      rw [List.take_succ_eq_append_getElem h1, h2] at hy
      rcases List.mem_append.1 hy with hy | hy
      · exact ha y hy
      · rw [List.mem_singleton] at hy
        rw [hy]
        exact k
    · rw [decide_eq_false k] at c
      rw [rsetF, if_neg hn', if_neg (fun hall => k (hall x hm))]
      (repeat refine ka ?_); refine kr ?_ ?_ (pops_end ?_)
      (repeat refine ka ?_); refine kct ?_
      (repeat refine ka ?_); refine ksk ?_
      (repeat refine ka ?_); refine kb ?_
      (repeat refine ka ?_); refine kr ?_ ?_ ?_
      refine ps_pcall c ?_
      refine pops_go ?_ ?_ (pops_end ?_)
      (repeat refine ka ?_); refine kct ?_
      (repeat refine ka ?_); refine kr ?_ ?_ (pops_end ?_)
      (repeat refine ka ?_); refine kret ?_; repeat (first | with_reducible refine beh_r ?_ | with_reducible refine blk_r ?_)
      refine ends_ret ?_ retPV_one
      rfl
  · obtain rfl : i = L.length := by omega
    rw [List.take_length] at ha
    rw [rsetF, if_neg hn', if_pos ha]
    (repeat refine ka ?_); refine kr ?_ ?_ (pops_end ?_)
    (repeat refine ka ?_); refine kcf ?_
    (repeat refine ka ?_); refine kx ?_; (repeat (first | with_reducible refine beh_x ?_ | with_reducible refine blk_up rfl ?_)); refine blk_here ?_; refine beh_n ?_
    (repeat refine ka ?_); refine kr ?_ ?_ (pops_end ?_)
    (repeat refine ka ?_); refine kb ?_
    refine kw (fun i : Nat => [(0, .ro 1 false (strRows L)), (4, .v (.int .i64 i))]) (fun _ => []) (fun i => i ≤ L.length ∧ ∀ j, j < i → ∀ k, k < L.length → ¬ clashP L j k) (fun i => L.length - i) 0 ⟨Nat.zero_le _, by intro j hj; omega⟩ (holds 0 (by repeat (first | exact .nil | refine has1 ?_))) ?_
    rintro i ⟨hi, hj⟩
    by_cases h : i < L.length
    · obtain ⟨x, hx⟩ : ∃ x, L[i]? = some x := ⟨L[i], by simp [h]⟩
      have r1 := strRows_get hx
      have hxd : L.getD i [] = x := by rw [List.getD_eq_getElem?_getD, hx]; rfl
      have ox := ho x (List.mem_of_getElem? hx)
      have lx := hs x (List.mem_of_getElem? hx)
      (repeat refine ka ?_); refine kr ?_ ?_ (pops_end ?_)
      (repeat refine ka ?_); refine kct ?_
      (repeat refine ka ?_); refine ksk ?_
      (repeat refine ka ?_); refine kb ?_
      (repeat refine ka ?_); refine kr ?_ ?_ (pops_end ?_)
      (repeat refine ka ?_); refine kb ?_
      refine kw (fun k : Nat => [(0, .ro 1 false (strRows L)), (4, .v (.int .i64 i)), (5, .v (.int .i64 k))]) (fun _ => []) (fun k => k ≤ L.length ∧ ∀ q, q < k → ¬ clashP L i q) (fun k => L.length - k) 0 ⟨Nat.zero_le _, by intro j hj; omega⟩ (holds 0 (by repeat (first | exact .nil | refine has1 ?_))) ?_
      rintro k ⟨hk, hq⟩
      by_cases g : k < L.length
      · obtain ⟨y, hy⟩ : ∃ y, L[k]? = some y := ⟨L[k], by simp [g]⟩
        have r2 := strRows_get hy
        have hyd : L.getD k [] = y := by rw [List.getD_eq_getElem?_getD, hy]; rfl
        have oy := ho y (List.mem_of_getElem? hy)
        have ly := hs y (List.mem_of_getElem? hy)
        have c := rin_ok x y ox oy lx ly
        have hcl : clashP L i k ↔ (i ≠ k ∧ x = y ∨ inP x y) := by unfold clashP; rw [hxd, hyd]
        by_cases u : i ≠ k ∧ x = y
        · rw [if_pos (show clashes L from ⟨i, h, k, g, hcl.2 (.inl u)⟩)]
          have u1 : ¬ (i : Int) = k := by have := u.1; omega
          have u2 := u.2
          (repeat refine ka ?_); refine kr ?_ ?_ (pops_end ?_)
          (repeat refine ka ?_); refine kct ?_
          (repeat refine ka ?_); refine ksk ?_
          (repeat refine ka ?_); refine kb ?_
          (repeat refine ka ?_); refine kd ?_ ?_ (pstl_end ?_)
          (repeat refine ka ?_); refine kct ?_
          (repeat refine ka ?_); refine kr ?_ ?_ (pops_end ?_)
          (repeat refine ka ?_); refine kret ?_; repeat (first | with_reducible refine beh_r ?_ | with_reducible refine blk_r ?_)
          refine ends_ret ?_ retPV_one
          rfl
        by_cases v : inP x y
        · rw [if_pos (show clashes L from ⟨i, h, k, g, hcl.2 (.inr v)⟩)]
          rw [decide_eq_true v] at c
          by_cases u1 : (i : Int) = k
          · (repeat refine ka ?_); refine kr ?_ ?_ (pops_end ?_)
            (repeat refine ka ?_); refine kct ?_
            (repeat refine ka ?_); refine ksk ?_
            (repeat refine ka ?_); refine kb ?_
            (repeat refine ka ?_); refine kd ?_ ?_ ?_
            refine pd_pcall_g c ?_
            refine pstl_go ?_ ?_ (pstl_end ?_)
            (repeat refine ka ?_); refine kct ?_
            (repeat refine ka ?_); refine kr ?_ ?_ (pops_end ?_)
            (repeat refine ka ?_); refine kret ?_; repeat (first | with_reducible refine beh_r ?_ | with_reducible refine blk_r ?_)
            refine ends_ret ?_ retPV_one
            rfl
          · have u2 : ¬ x = y := fun e => u ⟨by omega, e⟩
            (repeat refine ka ?_); refine kr ?_ ?_ (pops_end ?_)
            (repeat refine ka ?_); refine kct ?_
            (repeat refine ka ?_); refine ksk ?_
            (repeat refine ka ?_); refine kb ?_
            (repeat refine ka ?_); refine kd ?_ ?_ ?_
            refine pd_pcall_g c ?_
            refine pstl_go ?_ ?_ (pstl_end ?_)
            (repeat refine ka ?_); refine kct ?_
            (repeat refine ka ?_); refine kr ?_ ?_ (pops_end ?_)
            (repeat refine ka ?_); refine kret ?_; repeat (first | with_reducible refine beh_r ?_ | with_reducible refine blk_r ?_)
            refine ends_ret ?_ retPV_one
            rfl
        · rw [decide_eq_false v] at c
          have hnc : ¬ clashP L i k := fun hc => (hcl.1 hc).elim u v
          have fin : ∀ q, q < k + 1 → ¬ clashP L i q := fun q hq' => by
            by_cases e : q = k
            · subst e; exact hnc
            · exact hq q (by omega)
          by_cases u1 : (i : Int) = k
          · (repeat refine ka ?_); refine kr ?_ ?_ (pops_end ?_)
            (repeat refine ka ?_); refine kct ?_
            (repeat refine ka ?_); refine ksk ?_
            (repeat refine ka ?_); refine kb ?_
            (repeat refine ka ?_); refine kd ?_ ?_ ?_
            refine pd_pcall_g c ?_
            refine pstl_go ?_ ?_ (pstl_end ?_)
            (repeat refine ka ?_); refine kcf ?_
            (repeat refine ka ?_); refine ksk ?_
            refine kn ?_; repeat (first | with_reducible refine blk_n ?_ | with_reducible refine beh_n ?_)
            (repeat refine ka ?_); refine kr ?_ ?_ (pops_end ?_)
            refine kn ?_; repeat (first | with_reducible refine blk_n ?_ | with_reducible refine beh_n ?_)
            exact ⟨k + 1, ⟨by omega, fin⟩, by omega, (holds 0 (by repeat (first | exact .nil | refine has1 ?_)))⟩
          · have u2 : ¬ x = y := fun e => u ⟨by omega, e⟩
            (repeat refine ka ?_); refine kr ?_ ?_ (pops_end ?_)
            (repeat refine ka ?_); refine kct ?_
            (repeat refine ka ?_); refine ksk ?_
            (repeat refine ka ?_); refine kb ?_
            (repeat refine ka ?_); refine kd ?_ ?_ ?_
            refine pd_pcall_g c ?_
            refine pstl_go ?_ ?_ (pstl_end ?_)
            (repeat refine ka ?_); refine kcf ?_
            (repeat refine ka ?_); refine ksk ?_
            refine kn ?_; repeat (first | with_reducible refine blk_n ?_ | with_reducible refine beh_n ?_)
            (repeat refine ka ?_); refine kr ?_ ?_ (pops_end ?_)
            refine kn ?_; repeat (first | with_reducible refine blk_n ?_ | with_reducible refine beh_n ?_)
            exact ⟨k + 1, ⟨by omega, fin⟩, by omega, (holds 0 (by repeat (first | exact .nil | refine has1 ?_)))⟩
      · obtain rfl : k = L.length := by omega
        (repeat refine ka ?_); refine kr ?_ ?_ (pops_end ?_)
        (repeat refine ka ?_); refine kcf ?_
        (repeat refine ka ?_); refine kx ?_; (repeat (first | with_reducible refine beh_x ?_ | with_reducible refine blk_up rfl ?_)); refine blk_here ?_; refine beh_n ?_
        refine kn ?_; repeat (first | with_reducible refine blk_n ?_ | with_reducible refine beh_n ?_)
        (repeat refine ka ?_); refine kr ?_ ?_ (pops_end ?_)
        refine kn ?_; repeat (first | with_reducible refine blk_n ?_ | with_reducible refine beh_n ?_)
        refine ⟨i + 1, ⟨by omega, fun j hj' => ?_⟩, by omega, (holds 0 (by repeat (first | exact .nil | refine has1 ?_)))⟩
        by_cases e : j = i
        · subst e; exact hq
        · exact hj j (by omega)
    · obtain rfl : i = L.length := by omega
      rw [if_neg (fun ⟨j, hj1, k, hk1, hc⟩ => hj j hj1 k hk1 hc)]
      (repeat refine ka ?_); refine kr ?_ ?_ (pops_end ?_)
      (repeat refine ka ?_); refine kcf ?_
      (repeat refine ka ?_); refine kx ?_; (repeat (first | with_reducible refine beh_x ?_ | with_reducible refine blk_up rfl ?_)); refine blk_here ?_; refine beh_n ?_
      (repeat refine ka ?_); refine kr ?_ ?_ (pops_end ?_)
      (repeat refine ka ?_); refine kret ?_; repeat (first | with_reducible refine beh_r ?_ | with_reducible refine blk_r ?_)
      refine ends_ret ?_ retPV_one
      rfl
end Go.Proofs.YtenoecffjfcifaaDoor.Pv
