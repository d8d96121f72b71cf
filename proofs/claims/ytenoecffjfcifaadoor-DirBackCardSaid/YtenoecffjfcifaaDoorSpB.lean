-- strings.SplitSeq at one byte: an iterator with memory of its own.
import Derived.Test.YtenoecffjfcifaaDoorSpA
import Derived.Test.YtenoecffjfcifaaDoorRgD
namespace Go.Proofs.YtenoecffjfcifaaDoor.Pv
set_option linter.all false
set_option linter.unusedVariables false
open Go.RowKit Go.Proofs
set_option maxRecDepth 100000
set_option maxHeartbeats 4000000
def spB (g0 g1 g2 : Nat) (d : Int) (s : List Int) : List Blk := [⟨g0, true, 1, [[.v (.string (str s))]]⟩, ⟨g1, true, 1, [[.v (.string (str [d]))]]⟩, ⟨g2, true, 1, [[.v (.int .i64 0)]]⟩]
def spC (g0 g1 g2 : Nat) : List PV := [.ptr 1 g1 0 0, .ptr 0 g0 0 0, .ptr 2 g2 0 0]
def textItems (L : List (List Int)) : List (List PV) := L.map fun p => [.v (.string (str p))]
theorem textItems_get {L : List (List Int)} {i : Nat} {x : List Int} (h : L[i]? = some x) : (textItems L)[i]? = some [.v (.string (str x))] := by
  rw [textItems, List.getElem?_map, h]; rfl
theorem splitSeq_it (d : Int) (hd : 0 ≤ d ∧ d ≤ 255) (s : List Int) (ho : Oct s) (hl : s.length ≤ 1000000000) (g0 g1 g2 : Nat) : SeqItB Tryd.prog 73 (spC g0 g1 g2) (spB g0 g1 g2 d s) (textItems (partsD d s)) := by
  have od : Oct [d] := by intro x hx; simp only [List.mem_singleton] at hx; subst hx; omega
  unfold spB spC
  refine seqItB_mk Tryd.func73 rfl rfl 52 rfl ?_
  intro l H JS hJ hR
  repeat refine tib_seq ?_
  refine tib_region (hJ _) (by kernel_rfl) ?_
  refine pops_go ?_ ?_ (pops_end ?_)
  refine ⟨[(11, .v (.bool false)), (0, .v (.func (.yield l) #[] #[])), (1, .ptr 1 g1 0 0), (2, .ptr 0 g0 0 0), (3, .ptr 2 g2 0 0)], spB g0 g1 g2 d s, ⟨rfl, (by repeat (first | exact .nil | refine has1 ?_)), rfl⟩, rfl, ?_⟩
  repeat refine tib_seq ?_
  refine tib_cond (b := false) rfl (fun h => by cases h) (fun _ => tib_skip ?_)
  repeat refine tib_seq ?_
  refine tib_block ?_
  refine tib_less (T2 := [(0, .v (.func (.yield l) #[] #[])), (1, .ptr 1 g1 0 0), (2, .ptr 0 g0 0 0), (3, .ptr 2 g2 0 0)]) (by repeat (first | exact .nil | refine has1 ?_)) ?_
  refine tib_loop (fun m σ t => ∃ (k : Nat) (r : List Int), r.length + 1 = m ∧ t = some k ∧ Oct r ∧ r.length ≤ 1000000000 ∧ (partsD d s).drop k = partsD d r ∧ k ≤ (partsD d s).length ∧ σ = ⟨52, [(0, .v (.func (.yield l) #[] #[])), (1, .ptr 1 g1 0 0), (2, .ptr 0 g0 0 0), (3, .ptr 2 g2 0 0)], spB g0 g1 g2 d r⟩) (s.length + 1) ⟨0, s, rfl, rfl, ho, hl, rfl, Nat.zero_le _, ?_⟩ ?_
  · rfl
  rintro m σ t ⟨k, r, rfl, rfl, hr, hrl, hk, hkl, rfl⟩
  unfold spB
  have c1 := sindexD_ok d hd r hr hrl
  have hge := idxD_ge d r
  have hsp := idxD_split d r
  generalize idxD d r = ix at c1 hge hsp
  repeat refine tib_seq ?_
  refine tib_block ?_
  repeat refine tib_seq ?_
  refine tib_region (hJ _) (by kernel_rfl) ?_
  refine pops_go ?_ ?_ ?_
  refine ps_pcall c1 ?_
  refine pops_go ?_ ?_ (pops_end ?_)
  refine ⟨[(7, .v (.int .i64 ix)), (0, .v (.func (.yield l) #[] #[])), (1, .ptr 1 g1 0 0), (2, .ptr 0 g0 0 0), (3, .ptr 2 g2 0 0)], spB g0 g1 g2 d r, ⟨rfl, (by repeat (first | exact .nil | refine has1 ?_)), rfl⟩, rfl, ?_⟩
  unfold spB
  repeat refine tib_seq ?_
  by_cases hlt : ix < 0
  · obtain ⟨h1, h2⟩ : ix = -1 ∧ ∀ c ∈ r, c ≠ d := by
      rcases hsp with h | ⟨h, _⟩
      · exact h
      · omega
    rw [partsD_one d r h2] at hk
    have hkk : (partsD d s)[k]? = some r := by rw [← List.head?_drop, hk]; rfl
    have hlen : (partsD d s).length = k + 1 := by
      have := congrArg List.length hk
      rw [List.length_drop, List.length_singleton] at this
      omega
    refine tib_region (hJ _) (by kernel_rfl) ?_
    refine pops_go ?_ ?_ (pops_end ?_)
    refine ⟨[(33, .v (.bool true)), (7, .v (.int .i64 ix)), (0, .v (.func (.yield l) #[] #[])), (1, .ptr 1 g1 0 0), (2, .ptr 0 g0 0 0), (3, .ptr 2 g2 0 0)], spB g0 g1 g2 d r, ⟨rfl, (by repeat (first | exact .nil | refine has1 ?_)), rfl⟩, rfl, ?_⟩
    unfold spB
    refine tib_cond (b := true) rfl (fun _ => tib_exit ?_) (fun h => by cases h)
    simp only [behindJ, inBlkJ, if_true]
    refine tib_yield 2 _ 51 _ _ _ hR hJ (by kernel_rfl) rfl rfl rfl rfl ?_
    refine pops_go ?_ ?_ (pops_end ?_)
    refine ⟨[(49, .v (.func (.yield l) #[] #[])), (50, .v (.string (str r)))], spB g0 g1 g2 d r, _, ⟨rfl, (by repeat (first | exact .nil | refine has1 ?_)), rfl⟩, rfl, rfl, textItems_get hkk, rfl, (by intro y hy; simp only [List.mem_singleton] at hy; subst hy; exact .v _), ?_⟩
    intro b
    refine pops_go ?_ ?_ (pops_end ?_)
    refine ⟨[], spB g0 g1 g2 d r, ⟨rfl, (by repeat (first | exact .nil | refine has1 ?_)), rfl⟩, rfl, .inl rfl, ?_⟩
    cases b with
    | true => exact .inl (by simp [textItems, hlen])
    | false => exact .inr rfl
  · obtain ⟨h1, h2, h3, h4⟩ : 0 ≤ ix ∧ ix.toNat < r.length ∧ (∀ c ∈ r.take ix.toNat, c ≠ d) ∧ r = r.take ix.toNat ++ d :: r.drop (ix.toNat + 1) := by
      rcases hsp with ⟨h, _⟩ | h
      · omega
      · exact h
    have hk2 := hk
    rw [h4, partsD_cons d _ _ h3] at hk2
    have hkk : (partsD d s)[k]? = some (r.take ix.toNat) := by rw [← List.head?_drop, hk2]; rfl
    have hkd : (partsD d s).drop (k + 1) = partsD d (r.drop (ix.toNat + 1)) := by rw [← List.tail_drop, hk2]; rfl
    have hkl2 : k < (partsD d s).length := (List.getElem?_eq_some_iff.1 hkk).1
    have hix : (ix.toNat : Int) = ix := by omega
    generalize hq : ix.toNat = q at *
    subst hix
    refine tib_region (hJ _) (by kernel_rfl) ?_
    refine pops_go ?_ ?_ (pops_end ?_)
    refine ⟨[(33, .v (.bool false)), (7, .v (.int .i64 q)), (0, .v (.func (.yield l) #[] #[])), (1, .ptr 1 g1 0 0), (2, .ptr 0 g0 0 0), (3, .ptr 2 g2 0 0)], spB g0 g1 g2 d r, ⟨rfl, (by repeat (first | exact .nil | refine has1 ?_)), rfl⟩, rfl, ?_⟩
    unfold spB
    refine tib_cond (b := false) rfl (fun h => by cases h) (fun _ => tib_skip ?_)
    simp only [behindJ, inBlkJ, if_true]
    repeat refine tib_seq ?_
    refine tib_region (hJ _) (by kernel_rfl) ?_
    refine pops_go ?_ ?_ (pops_end ?_)
    refine ⟨[(8, .v (.string (str (r.take q)))), (7, .v (.int .i64 q)), (0, .v (.func (.yield l) #[] #[])), (1, .ptr 1 g1 0 0), (2, .ptr 0 g0 0 0), (3, .ptr 2 g2 0 0)], spB g0 g1 g2 d r, ⟨rfl, (by repeat (first | exact .nil | refine has1 ?_)), rfl⟩, rfl, ?_⟩
    unfold spB
    simp only [behindJ, inBlkJ, if_true]
    repeat refine tib_seq ?_
    refine tib_yield 2 _ 41 _ _ _ hR hJ (by kernel_rfl) rfl rfl rfl rfl ?_
    refine pops_go ?_ ?_ (pops_end ?_)
    refine ⟨[(39, .v (.func (.yield l) #[] #[])), (40, .v (.string (str (r.take q)))), (7, .v (.int .i64 q)), (0, .v (.func (.yield l) #[] #[])), (1, .ptr 1 g1 0 0), (2, .ptr 0 g0 0 0), (3, .ptr 2 g2 0 0)], spB g0 g1 g2 d r, _, ⟨rfl, (by repeat (first | exact .nil | refine has1 ?_)), rfl⟩, rfl, rfl, textItems_get hkk, rfl, (by intro y hy; simp only [List.mem_singleton] at hy; subst hy; exact .v _), ?_⟩
    intro b
    unfold spB
    cases b with
    | false =>
      refine pops_go ?_ ?_ (pops_end ?_)
      refine ⟨[(42, .v (.bool true))], spB g0 g1 g2 d r, ⟨rfl, (by repeat (first | exact .nil | refine has1 ?_)), rfl⟩, rfl, ?_⟩
      simp only [behindJ, inBlkJ, if_true]
      refine tib_cond (b := true) rfl (fun _ => tib_ret ?_) (fun h => by cases h)
      exact ⟨.inr rfl, .inr rfl⟩
    | true =>
      refine pops_go ?_ ?_ (pops_end ?_)
      refine ⟨[(42, .v (.bool false)), (7, .v (.int .i64 q)), (0, .v (.func (.yield l) #[] #[])), (1, .ptr 1 g1 0 0), (2, .ptr 0 g0 0 0), (3, .ptr 2 g2 0 0)], spB g0 g1 g2 d r, ⟨rfl, (by repeat (first | exact .nil | refine has1 ?_)), rfl⟩, rfl, ?_⟩
      unfold spB
      simp only [behindJ, inBlkJ, if_true]
      refine tib_cond (b := false) rfl (fun h => by cases h) (fun _ => tib_skip ?_)
      simp only [behindJ, inBlkJ, if_true]
      refine tib_region (hJ _) (by kernel_rfl) ?_
      refine pops_go ?_ ?_ ?_
      refine ps_store ?_
      refine pops_nil ?_
      have e1 : ((q : Int) + ((1 : Nat) : Int)).toNat = q + 1 := by omega
      refine ⟨[(0, .v (.func (.yield l) #[] #[])), (1, .ptr 1 g1 0 0), (2, .ptr 0 g0 0 0), (3, .ptr 2 g2 0 0)], spB g0 g1 g2 d (r.drop (q + 1)), ⟨rfl, (by repeat (first | exact .nil | refine has1 ?_)), ?_⟩, rfl, ?_⟩
      · unfold spB
        rw [← e1]
      · simp only [behindJ, inBlkJ, if_true]
        refine ⟨(r.drop (q + 1)).length + 1, by rw [List.length_drop]; omega, k + 1, r.drop (q + 1), rfl, rfl, oct_drop hr _, by rw [List.length_drop]; omega, hkd, by omega, rfl⟩
theorem ssplitSeq_ok (d : Int) (hd : 0 ≤ d ∧ d ≤ 255) (s : List Int) : GCall Tryd.prog 52 [.v (.string (str s)), .v (.string (str [d]))] [] (fun x S' => ∃ g0 g1 g2, x = .fn (.func 73) [] [.ptr 1 g1 0 0, .ptr 0 g0 0 0, .ptr 2 g2 0 0] ∧ S' = [⟨g0, true, 1, [[.v (.string (str s))]]⟩, ⟨g1, true, 1, [[.v (.string (str [d]))]]⟩, ⟨g2, true, 1, [[.v (.int .i64 0)]]⟩]) := by
  have c : GCall Tryd.prog 67 [.v (.string (str s)), .v (.string (str [d])), .v (.int .i64 0)] [] (fun x S' => ∃ g0 g1 g2, x = .fn (.func 73) [] [.ptr 1 g1 0 0, .ptr 0 g0 0 0, .ptr 2 g2 0 0] ∧ S' = [⟨g0, true, 1, [[.v (.string (str s))]]⟩, ⟨g1, true, 1, [[.v (.string (str [d]))]]⟩, ⟨g2, true, 1, [[.v (.int .i64 0)]]⟩]) := by
    refine gcall_of_tr Tryd.func67 rfl [.tmp 6] Tryd.results67 8 rfl (tk_start ?_)
    (repeat refine ka ?_); refine kr ?_ ?_ ?_
    refine ps_box fun g0 => ?_
    refine ps_box fun g1 => ?_
    refine ps_box fun g2 => ?_
    refine pops_go ?_ ?_ (pops_end ?_)
    (repeat refine ka ?_); refine kr ?_ ?_ (pops_end ?_)
    (repeat refine ka ?_); refine kret ?_; repeat (first | with_reducible refine beh_r ?_ | with_reducible refine blk_r ?_)
    refine ends_ret ?_ retPV_one
    exact ⟨g0, g1, g2, rfl, rfl⟩
  refine gcall_of_tr Tryd.func52 rfl [.tmp 4] Tryd.results52 8 rfl (tk_start ?_)
  (repeat refine ka ?_); refine kr ?_ ?_ (pops_end ?_)
  (repeat refine ka ?_); refine kr ?_ ?_ ?_
  refine ps_gcall c ?_
  rintro x S' ⟨g0, g1, g2, rfl, rfl⟩
  refine pops_go ?_ ?_ (pops_end ?_)
  (repeat refine ka ?_); refine kret ?_; repeat (first | with_reducible refine beh_r ?_ | with_reducible refine blk_r ?_)
  refine ends_ret ?_ retPV_one
  exact ⟨g0, g1, g2, rfl, rfl⟩
end Go.Proofs.YtenoecffjfcifaaDoor.Pv
