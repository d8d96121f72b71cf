-- asm.Places.
import Derived.Test.YtgbfbcbblndnoaaAsL
namespace Go.Proofs.Ytgbfbcbblndnoaa.Pv
set_option linter.all false
open Go.RowKit Go.Proofs
set_option maxRecDepth 100000
set_option maxHeartbeats 4000000
def mapOf (L : List (List Int × Int)) : List (ByteArray × Int) := L.map fun p => (str p.1, p.2)
theorem str_eq_iff {a b : List Int} (ha : Oct a) (hb : Oct b) : str a = str b ↔ a = b := by
  constructor
  · intro h
    have := str_eq ha hb
    rw [h] at this
    simpa using this
  · rintro rfl; rfl
theorem mfind_mapOf : ∀ (L : List (List Int × Int)) {n : List Int}, Oct n → (∀ p ∈ L, Oct p.1) → mfind (str n) (mapOf L) = if (findF L n).2 = true then some (findF L n).1 else none
  | [], n, _, _ => by simp [mapOf, mfind, mpos, findF]
  | (m, z) :: L, n, hn, ho => by
    have ih := mfind_mapOf L hn (fun p hp => ho p (.tail _ hp))
    have hm : Oct m := ho (m, z) (.head _)
    unfold mfind at ih ⊢
    by_cases e : m = n
    · subst e
      simp [mapOf, mpos, findF]
    · have e' : ¬ str n = str m := fun h => e ((str_eq_iff hn hm).1 h).symm
      simp only [mapOf, List.map_cons, mpos, if_neg e', findF, if_neg e, Option.map_map]
      rw [← ih]
      rfl
theorem mput_mapOf (z : Int) : ∀ (L : List (List Int × Int)) {n : List Int}, Oct n → (∀ p ∈ L, Oct p.1) → (findF L n).2 = false → mput (str n) z (mapOf L) = mapOf (L ++ [(n, z)])
  | [], n, _, _, _ => rfl
  | (m, y) :: L, n, hn, ho, h => by
    have hm : Oct m := ho (m, y) (.head _)
    by_cases e : m = n
    · subst e; simp [findF] at h
    · have e' : ¬ str n = str m := fun h => e ((str_eq_iff hn hm).1 h).symm
      simp only [findF, if_neg e] at h
      simp only [mapOf, List.map_cons, mput, if_neg e', List.cons_append]
      rw [show mput (str n) z (List.map (fun p => (str p.1, p.2)) L) = mapOf (L ++ [(n, z)]) from mput_mapOf z L hn (fun p hp => ho p (.tail _ hp)) h]
      rfl
theorem places_ok (f : Bool) (L : List It) (hl : L.length ≤ 1000000) (ho : ∀ x ∈ L, Oct x.n) : PCall Try.prog 44 [.ro 8 f (itRows L)] (.tup [.rmp (mapOf (labelsF L).1), .v (.int .i64 (labelsF L).2)]) := by
  have hcl := itRows_length L
  have c0 := it_contains f L ho hl
  refine pcall_mkg Try.func44 rfl [.tmp 2, .tmp 3] Try.results44 44 rfl (tk_start ?_)
  unfold labelsF
  by_cases hk : 4096 < (L.length : Int)
  · rw [if_pos (by omega)]
    (repeat refine ka ?_); refine kr ?_ ?_ (pops_end ?_)
    (repeat refine ka ?_); refine kr ?_ ?_ (pops_end ?_)
    (repeat refine ka ?_); refine kct ?_
    (repeat refine ka ?_); refine kr ?_ ?_ (pops_end ?_)
    (repeat refine ka ?_); refine kret ?_; repeat (first | with_reducible refine beh_r ?_ | with_reducible refine blk_r ?_)
    refine ends_ret ?_ (retPV_2 res_tmp res_tmp)
    exact gives_two .mnil (.same (.v _))
  rw [if_neg (by omega)]
  (repeat refine ka ?_); refine kr ?_ ?_ (pops_end ?_)
  (repeat refine ka ?_); refine kr ?_ ?_ (pops_end ?_)
  (repeat refine ka ?_); refine kcf ?_
  (repeat refine ka ?_); refine ksk ?_
  cases hb : L.any badIt with
  | true =>
    rw [hb] at c0
    rw [if_pos rfl]
    (repeat refine ka ?_); refine kr ?_ ?_ ?_
    refine ps_pcall c0 ?_
    refine pops_go ?_ ?_ (pops_end ?_)
    (repeat refine ka ?_); refine kct ?_
    (repeat refine ka ?_); refine kr ?_ ?_ (pops_end ?_)
    (repeat refine ka ?_); refine kret ?_; repeat (first | with_reducible refine beh_r ?_ | with_reducible refine blk_r ?_)
    refine ends_ret ?_ (retPV_2 res_tmp res_tmp)
    exact gives_two .mnil (.same (.v _))
  | false =>
    rw [hb] at c0
    rw [if_neg (by decide)]
    (repeat refine ka ?_); refine kr ?_ ?_ ?_
    refine ps_pcall c0 ?_
    refine pops_go ?_ ?_ (pops_end ?_)
    (repeat refine ka ?_); refine kcf ?_
    (repeat refine ka ?_); refine ksk ?_
    (repeat refine ka ?_); refine kr ?_ ?_ ?_
    refine ps_mkmap fun g0 => ?_
    refine pops_go ?_ ?_ (pops_end ?_)
    (repeat refine ka ?_); refine kr ?_ ?_ (pops_end ?_)
    (repeat refine ka ?_); refine kr ?_ ?_ (pops_end ?_)
    (repeat refine ka ?_); refine kb ?_
    refine kw (fun s : Nat × List (List Int × Int) × Int => [(0, PV.ro 8 f (itRows L)), (4, .mp 0 g0), (5, .v (.int .i64 s.2.2)), (16, .ro 8 f (itRows L)), (17, .v (.int .i64 L.length)), (18, .v (.int .i64 s.1))]) (fun s => [⟨g0, true, 0, [[.rmp (mapOf s.2.1)]]⟩]) (fun s => s.1 ≤ L.length ∧ labGo L [] 0 = labGo (L.drop s.1) s.2.1 s.2.2 ∧ (∀ p ∈ s.2.1, Oct p.1) ∧ 0 ≤ s.2.2 ∧ s.2.2 ≤ 8 * s.1) (fun s => L.length - s.1) (0, [], 0) (by simp) (holds 1 (by repeat (first | exact .nil | refine has1 ?_))) ?_
    rintro ⟨i, out, a⟩ ⟨hi, hf, hoo, ha0, ha1⟩
    simp only at hi hf hoo ha0 ha1 ⊢
    by_cases g : (i : Int) < L.length
    · obtain ⟨x, hx⟩ : ∃ x, L[i]? = some x := ⟨L[i]'(by omega), by simp [show i < L.length by omega]⟩
      have hrow := itRows_get hx
      have hxo := ho x (List.mem_of_getElem? hx)
      have hd : L.drop i = x :: L.drop (i + 1) := drop_cons hx
      rw [hd, labGo] at hf
      have hm := manyF_in x.k
      have c2 := words_it x
      unfold It.row at c2
      by_cases k3 : x.k = 0
      · rw [if_pos k3] at hf
        have hmf := mfind_mapOf out hxo hoo
        cases hfd : (findF out x.n).2 with
        | true =>
          rw [if_pos hfd] at hf
          rw [hfd, if_pos rfl] at hmf
          rw [hf]
          (repeat refine ka ?_); refine kr ?_ ?_ (pops_end ?_)
          (repeat refine ka ?_); refine kct ?_
          (repeat refine ka ?_); refine ksk ?_
          (repeat refine ka ?_); refine kb ?_
          (repeat refine ka ?_); refine kr ?_ ?_ ?_
          refine ps_alloc fun g1 => ?_
          refine ps_store ?_
          refine pops_nil ?_
          (repeat refine ka ?_); refine kr ?_ ?_ (pops_end ?_)
          (repeat refine ka ?_); refine kct ?_
          (repeat refine ka ?_); refine kr ?_ ?_ (pops_end ?_)
          simp only [hmf, Option.isSome_some, Option.getD_some]
          (repeat refine ka ?_); refine kr ?_ ?_ (pops_end ?_)
          (repeat refine ka ?_); refine kct ?_
          (repeat refine ka ?_); refine kr ?_ ?_ (pops_end ?_)
          (repeat refine ka ?_); refine kret ?_; repeat (first | with_reducible refine beh_r ?_ | with_reducible refine blk_r ?_)
          refine ends_ret ?_ (retPV_2 res_tmp res_tmp)
          exact gives_two .mnil (.same (.v _))
        | false =>
          rw [if_neg (by rw [hfd]; decide)] at hf
          rw [hfd, if_neg (by decide)] at hmf
          have hmp := mput_mapOf a out hxo hoo hfd
          (repeat refine ka ?_); refine kr ?_ ?_ (pops_end ?_)
          (repeat refine ka ?_); refine kct ?_
          (repeat refine ka ?_); refine ksk ?_
          (repeat refine ka ?_); refine kb ?_
          (repeat refine ka ?_); refine kr ?_ ?_ ?_
          refine ps_alloc fun g1 => ?_
          refine ps_store ?_
          refine pops_nil ?_
          (repeat refine ka ?_); refine kr ?_ ?_ (pops_end ?_)
          (repeat refine ka ?_); refine kct ?_
          (repeat refine ka ?_); refine kr ?_ ?_ (pops_end ?_)
          simp only [hmf, Option.isSome_none, Option.getD_none]
          (repeat refine ka ?_); refine kr ?_ ?_ (pops_end ?_)
          (repeat refine ka ?_); refine kcf ?_
          (repeat refine ka ?_); refine ksk ?_
          (repeat refine ka ?_); refine kr ?_ ?_ ?_
          refine ps_mapu ?_ (he := hmp)
          refine pops_go ?_ ?_ (pops_end ?_)
          (repeat refine ka ?_); refine kr ?_ ?_ ?_
          refine ps_pcall c2 ?_
          refine pops_go ?_ ?_ (pops_end ?_)
          refine kn ?_; repeat (first | with_reducible refine blk_n ?_ | with_reducible refine beh_n ?_)
          (repeat refine ka ?_); refine kr ?_ ?_ (pops_end ?_)
          refine kn ?_; repeat (first | with_reducible refine blk_n ?_ | with_reducible refine beh_n ?_)
          refine ⟨(i + 1, out ++ [(x.n, a)], a + 4 * manyF x.k), ⟨by simp only; omega, hf, fun p hp => ?_, by simp only; omega, by simp only; omega⟩, by simp only; omega, (holds 1 (by repeat (first | exact .nil | refine has1 ?_)))⟩
          rcases List.mem_append.1 hp with hp | hp
          · exact hoo p hp
          · simp only [List.mem_singleton] at hp
            subst hp
            exact hxo
      · rw [if_neg k3] at hf
        (repeat refine ka ?_); refine kr ?_ ?_ (pops_end ?_)
        (repeat refine ka ?_); refine kct ?_
        (repeat refine ka ?_); refine ksk ?_
        (repeat refine ka ?_); refine kb ?_
        (repeat refine ka ?_); refine kr ?_ ?_ ?_
        refine ps_alloc fun g1 => ?_
        refine ps_store ?_
        refine pops_nil ?_
        (repeat refine ka ?_); refine kr ?_ ?_ (pops_end ?_)
        (repeat refine ka ?_); refine kcf ?_
        (repeat refine ka ?_); refine ksk ?_
        (repeat refine ka ?_); refine kr ?_ ?_ ?_
        refine ps_pcall c2 ?_
        refine pops_go ?_ ?_ (pops_end ?_)
        refine kn ?_; repeat (first | with_reducible refine blk_n ?_ | with_reducible refine beh_n ?_)
        (repeat refine ka ?_); refine kr ?_ ?_ (pops_end ?_)
        refine kn ?_; repeat (first | with_reducible refine blk_n ?_ | with_reducible refine beh_n ?_)
        exact ⟨(i + 1, out, a + 4 * manyF x.k), ⟨by simp only; omega, hf, hoo, by simp only; omega, by simp only; omega⟩, by simp only; omega, (holds 1 (by repeat (first | exact .nil | refine has1 ?_)))⟩
    · have hz : L.drop i = [] := List.drop_eq_nil_of_le (by omega)
      rw [hz, labGo] at hf
      rw [hf]
      (repeat refine ka ?_); refine kr ?_ ?_ (pops_end ?_)
      (repeat refine ka ?_); refine kcf ?_
      (repeat refine ka ?_); refine kx ?_; (repeat (first | with_reducible refine beh_x ?_ | with_reducible refine blk_up rfl ?_)); refine blk_here ?_; refine beh_n ?_
      (repeat refine ka ?_); refine kr ?_ ?_ (pops_end ?_)
      (repeat refine ka ?_); refine kret ?_; repeat (first | with_reducible refine beh_r ?_ | with_reducible refine blk_r ?_)
      refine ends_ret ?_ (retPV_2 res_tmp res_tmp)
      exact gives_two (.mp rfl) (.same (.v _))
end Go.Proofs.Ytgbfbcbblndnoaa.Pv
