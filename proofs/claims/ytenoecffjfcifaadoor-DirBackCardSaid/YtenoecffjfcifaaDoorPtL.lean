-- path.May.
import Derived.Test.YtenoecffjfcifaaDoorSpB
import Derived.Test.YtenoecffjfcifaaDoorPtK
namespace Go.Proofs.YtenoecffjfcifaaDoor.Pv
set_option linter.all false
set_option linter.unusedVariables false
open Go.RowKit Go.Proofs
set_option maxRecDepth 100000
set_option maxHeartbeats 4000000
theorem partsF_D : ∀ l, partsF l = partsD 47 l
  | [] => rfl
  | c :: l => by rw [partsF, partsD, partsF_D l]; cases partsD 47 l <;> rfl
theorem ppart_ok (l : List Int) (ho : Oct l) : PCall Tryd.prog 53 [.v (.string (str l))] (.v (.bool (decide (partP l)))) := part_ok l ho
theorem partsD_oct (d : Int) : ∀ (l : List Int), Oct l → ∀ p ∈ partsD d l, Oct p
  | [], _, p, h => by simp [partsD] at h; subst h; intro x hx; simp at hx
  | c :: l, ho, p, h => by
    have ih := partsD_oct d l fun x hx => ho x (by simp [hx])
    rw [partsD] at h
    split at h
    · rcases List.mem_cons.1 h with rfl | h
      · intro x hx; simp at hx
      · exact ih p h
    · split at h
      · rename_i q qs hq
        rw [hq] at ih
        rcases List.mem_cons.1 h with rfl | h
        · intro x hx
          rcases List.mem_cons.1 hx with rfl | hx
          · exact ho _ (by simp)
          · exact ih q (by simp) x hx
        · exact ih p (by simp [h])
      · rename_i hq
        simp at h
        subst h
        intro x hx
        simp at hx
        subst hx
        exact ho _ (by simp)
theorem pmay_ok (l : List Int) (ho : Oct l) (hl : l.length ≤ 1000000000) : PCall Tryd.prog 43 [.v (.string (str l))] (.v (.bool (decide (rmayP l)))) := by
  refine pcall_mk Tryd.func43 rfl [.cell 2 4] Tryd.results43 30 rfl (tk_start ?_)
  (repeat refine ka ?_); refine kr ?_ ?_ ?_
  refine ps_alloc fun g0 => ?_
  refine pops_nil ?_
  (repeat refine ka ?_); refine kr ?_ ?_ ?_
  refine ps_rangeS fun g1 => ?_
  refine pops_nil ?_
  (repeat refine ka ?_); refine kb ?_
  refine kw (fun i : Nat => [(0, PV.v (.string (str l))), (2, .ptr 0 g0 0 0), (7, .it 1 g1)]) (fun i => [⟨g0, true, 1, [[.v (.bool false)]]⟩, ⟨g1, true, 0, [[.v (.string (str l)), .v (.int .i64 ((i : Nat) : Int))]]⟩]) (fun i => i ≤ l.length ∧ ∀ x ∈ l.take i, okC x) (fun i => l.length - i) 0 ⟨Nat.zero_le _, by simp⟩ (holds 2 (by repeat (first | exact .nil | refine has1 ?_))) ?_
  rintro i ⟨hi, ha⟩
  have hsz : (str l).size = l.length := by simp [str, ByteArray.size]
  by_cases h : i < l.length
  · have hm := getD_mem h
    by_cases k : okC (l.getD i 0)
    · have hd := decode_lo l ho i h (by have := k.2.1; omega)
      have hn := ho _ hm
      (repeat refine ka ?_); refine kr ?_ ?_ ?_
      refine ps_nextS ?_ (by rw [hsz]; exact h)
      rw [hd]
      dsimp only
      have hc : okC (((l.getD i 0).toNat : Nat) : Int) := by rw [show (((l.getD i 0).toNat : Nat) : Int) = l.getD i 0 by omega]; exact k
      generalize (((l.getD i 0).toNat : Nat) : Int) = c at hc
      obtain ⟨k1, k2, k3⟩ := hc
      refine pops_go ?_ ?_ (pops_end ?_)
      (repeat refine ka ?_); refine kct ?_
      (repeat refine ka ?_); refine ksk ?_
      (repeat refine ka ?_); refine kb ?_
      (repeat refine ka ?_); refine kr ?_ ?_ (pops_end ?_)
      (repeat refine ka ?_); refine kr ?_ ?_ (pops_end ?_)
      (repeat refine ka ?_); refine kcf ?_
      (repeat refine ka ?_); refine ksk ?_
      refine kn ?_; repeat (first | with_reducible refine blk_n ?_ | with_reducible refine beh_n ?_)
      exact ⟨i + 1, ⟨by omega, take_all h ha k⟩, by omega, (holds 2 (by repeat (first | exact .nil | refine has1 ?_)))⟩
    · rw [decide_eq_false (fun hr : rmayP l => k (((rmay_iff l).1 hr).2.1 _ hm))]
      have hc : ¬ okC (((Utf8.decode (str l) i).1 : Nat) : Int) := by
        by_cases hlo : l.getD i 0 < 128
        · rw [decode_lo l ho i h hlo]
          have := ho _ hm
          rw [show (((l.getD i 0).toNat : Nat) : Int) = l.getD i 0 by omega]
          exact k
        · have := (decode_hi l ho i h (by omega)).1
          intro hc
          have := hc.2.1
          omega
      unfold okC at hc
      (repeat refine ka ?_); refine kr ?_ ?_ ?_
      refine ps_nextS ?_ (by rw [hsz]; exact h)
      generalize (((Utf8.decode (str l) i).1 : Nat) : Int) = c at hc
      refine pops_go ?_ ?_ (pops_end ?_)
      (repeat refine ka ?_); refine kct ?_
      (repeat refine ka ?_); refine ksk ?_
      (repeat refine ka ?_); refine kb ?_
      (repeat refine ka ?_); refine kr ?_ ?_ (pops_end ?_)
      by_cases k1 : 32 ≤ c
      · by_cases k2 : c ≤ 126
        · have k3 : c = 92 := by omega
          (repeat refine ka ?_); refine kr ?_ ?_ (pops_end ?_)
          (repeat refine ka ?_); refine kct ?_
          (repeat refine ka ?_); refine kr ?_ ?_ ?_
          refine ps_store ?_
          refine pops_nil ?_
          (repeat refine ka ?_); refine kret ?_; repeat (first | with_reducible refine beh_r ?_ | with_reducible refine blk_r ?_)
          refine ends_ret ?_ (retPV_1 res_cell)
          rfl
        · (repeat refine ka ?_); refine kr ?_ ?_ (pops_end ?_)
          (repeat refine ka ?_); refine kct ?_
          (repeat refine ka ?_); refine kr ?_ ?_ ?_
          refine ps_store ?_
          refine pops_nil ?_
          (repeat refine ka ?_); refine kret ?_; repeat (first | with_reducible refine beh_r ?_ | with_reducible refine blk_r ?_)
          refine ends_ret ?_ (retPV_1 res_cell)
          rfl
      · (repeat refine ka ?_); refine kr ?_ ?_ (pops_end ?_)
        (repeat refine ka ?_); refine kct ?_
        (repeat refine ka ?_); refine kr ?_ ?_ ?_
        refine ps_store ?_
        refine pops_nil ?_
        (repeat refine ka ?_); refine kret ?_; repeat (first | with_reducible refine beh_r ?_ | with_reducible refine blk_r ?_)
        refine ends_ret ?_ (retPV_1 res_cell)
        rfl
  · obtain rfl : i = l.length := by omega
    rw [List.take_length] at ha
    (repeat refine ka ?_); refine kr ?_ ?_ ?_
    refine ps_nextE ?_ (by rw [hsz]; omega)
    refine pops_go ?_ ?_ (pops_end ?_)
    (repeat refine ka ?_); refine kcf ?_
    (repeat refine ka ?_); refine kx ?_; (repeat (first | with_reducible refine beh_x ?_ | with_reducible refine blk_up rfl ?_)); refine blk_here ?_; refine beh_n ?_
    by_cases hn : (200 : Int) < l.length
    · rw [decide_eq_false (fun h : rmayP l => by have := h.1; omega)]
      (repeat refine ka ?_); refine kr ?_ ?_ (pops_end ?_)
      (repeat refine ka ?_); refine kct ?_
      (repeat refine ka ?_); refine kr ?_ ?_ ?_
      refine ps_store ?_
      refine pops_nil ?_
      (repeat refine ka ?_); refine kret ?_; repeat (first | with_reducible refine beh_r ?_ | with_reducible refine blk_r ?_)
      refine ends_ret ?_ (retPV_1 res_cell)
      rfl
    · (repeat refine ka ?_); refine kr ?_ ?_ (pops_end ?_)
      (repeat refine ka ?_); refine kcf ?_
      (repeat refine ka ?_); refine ksk ?_
      (repeat refine ka ?_); refine kr ?_ ?_ ?_
      refine ps_fcall [] (ssplitSeq_ok 47 (by decide) l) ?_ (by rintro x S' _; exact Nat.zero_le _)
      rintro x S' ⟨s0, s1, s2, rfl, rfl⟩
      (intro x1 S1 hx1 hS1; simp only [List.map_cons, List.map_nil, renB, ren_ints, putB, List.set_cons_zero, List.set_cons_succ, List.cons_append, List.nil_append, List.append_nil, renL, ren, sg, List.length_cons, List.length_nil, Nat.reduceAdd, Nat.zero_add, Nat.add_zero] at hx1 hS1; subst hx1 hS1)
      refine pops_go ?_ ?_ (pops_end ?_)
      (repeat refine ka ?_); refine kb ?_
      refine krfB (splitSeq_it 47 (by decide) l ho hl s0 s1 s2) (fun _ : Unit => [⟨g0, true, 1, [[.v (.bool false)]]⟩, ⟨g1, true, 0, [[.v (.string (str l)), .v (.int .i64 ((l.length : Nat) : Int))]]⟩]) (fun k _ => ∀ j, j < k → ∀ p, (partsD 47 l)[j]? = some p → partP p) (fun S' => ∃ y, S' = [⟨g0, true, 1, [[.v (.bool false)]]⟩, y] ∧ ¬ rmayP l) () ?_ ?_ ?_ (by intro item hi; obtain ⟨k, _, rfl⟩ := List.mem_map.1 hi; rfl) (by intro j hj; omega)
      · intro k _ item hki hV
        simp only [textItems, List.getElem?_map] at hki
        obtain ⟨p, hp, rfl⟩ := Option.map_eq_some_iff.1 hki
        have hmem := List.mem_of_getElem? hp
        have c := part_ok p (partsD_oct 47 l ho p hmem)
        simp only [setTmB]
        (repeat refine ka ?_); refine kr ?_ ?_ (pops_end ?_)
        refine kn ?_; repeat (first | with_reducible refine blk_n ?_ | with_reducible refine beh_n ?_)
        refine ⟨rfl, ?_⟩
        (repeat refine ka ?_); refine kb ?_
        (repeat refine ka ?_); refine kr ?_ ?_ ?_
        refine ps_pcall c ?_
        by_cases hpp : partP p
        · rw [decide_eq_true hpp]
          refine pops_go ?_ ?_ (pops_end ?_)
          (repeat refine ka ?_); refine kcf ?_
          (repeat refine ka ?_); refine ksk ?_
          refine kn ?_; repeat (first | with_reducible refine blk_n ?_ | with_reducible refine beh_n ?_)
          refine ⟨(), fun j hj q hq => ?_, 2, rfl⟩
          by_cases e : j = k
          · subst e
            rw [hp] at hq
            cases hq
            exact hpp
          · exact hV j (by omega) q hq
        · rw [decide_eq_false hpp]
          refine pops_go ?_ ?_ (pops_end ?_)
          (repeat refine ka ?_); refine kct ?_
          (repeat refine ka ?_); refine kr ?_ ?_ ?_
          refine ps_store ?_
          refine pops_nil ?_
          (repeat refine ka ?_); refine kret ?_; repeat (first | with_reducible refine beh_r ?_ | with_reducible refine blk_r ?_)
          exact ⟨_, rfl, fun hr => hpp (((rmay_iff l).1 hr).2.2 p (by rw [partsF_D]; exact hmem))⟩
      · intro _ hV
        have hr : rmayP l := (rmay_iff l).2 ⟨by omega, ha, fun p hp => by
          rw [partsF_D] at hp
          obtain ⟨j, hj⟩ := List.getElem?_of_mem hp
          exact hV j (by have := (List.getElem?_eq_some_iff.1 hj).1; simp only [textItems, List.length_map]; omega) p hj⟩
        rw [decide_eq_true hr]
        refine kn ?_; repeat (first | with_reducible refine blk_n ?_ | with_reducible refine beh_n ?_)
        (repeat refine ka ?_); refine kr ?_ ?_ ?_
        refine ps_store ?_
        refine pops_nil ?_
        (repeat refine ka ?_); refine kret ?_; repeat (first | with_reducible refine beh_r ?_ | with_reducible refine blk_r ?_)
        refine ends_ret ?_ (retPV_1 res_cell)
        rfl
      · rintro S' ⟨y, rfl, hz⟩
        rw [decide_eq_false hz]
        dsimp only [inBlk, behind]
        refine ends_ret ?_ (retPV_1 res_cell)
        rfl
end Go.Proofs.YtenoecffjfcifaaDoor.Pv
