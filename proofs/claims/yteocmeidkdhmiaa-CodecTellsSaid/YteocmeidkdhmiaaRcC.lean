-- rc: the writer's bit.
import Derived.Test.YteocmeidkdhmiaaRcB
namespace Go.Proofs.Yteocmeidkdhmiaa.Pv
set_option linter.all false
open Go.RowKit Go.Proofs
set_option maxRecDepth 100000
set_option maxHeartbeats 4000000
/-- Likelihoods. -/
def Lik (l : List Int) : Prop := l.length = 256 ∧ ∀ a < 256, 31 ≤ l.getD a 0 ∧ l.getD a 0 ≤ 2017
theorem lik_P0 : Lik P0 := ⟨P0_length, fun a h => by rw [P0, List.getD_eq_getElem?_getD, List.getElem?_replicate, if_pos h]; decide⟩
theorem lik_set {l : List Int} (h : Lik l) (a : Nat) (b : Int) : Lik (l.set a (learn (l.getD a 0) b)) := by
  refine ⟨by rw [List.length_set]; exact h.1, fun k hk => ?_⟩
  rw [List.getD_eq_getElem?_getD, List.getElem?_set]
  split
  · rename_i e
    subst e
    rw [if_pos (by rw [h.1]; exact hk)]
    exact learn_in b (h.2 a hk).1 (h.2 a hk).2
  · rw [← List.getD_eq_getElem?_getD]; exact h.2 k hk
def WS.turn (s : WS) (a : Nat) (b : Int) : WS := { s with l := s.l.set a (learn (s.l.getD a 0) b), lo := if b = 0 then s.lo else s.lo + part s.l s.wd a, wd := if b = 0 then part s.l s.wd a else s.wd - part s.l s.wd a }
def WS.bit (s : WS) (a : Nat) (b : Int) : WS := if (s.turn a b).wd < 16777216 then WS.move { s.turn a b with wd := (s.turn a b).wd * 256 } else s.turn a b
theorem rc_bit {gw g : Nat} {l out : List Int} {wd lo ca b : Int} {be a : Nat} (hl : Lik l) (ha : a < 256) (hw0 : 0 ≤ wd) (hw1 : wd < 4294967296) (h0 : 0 ≤ lo) (h1 : lo + wd < 8589934592) (hc0 : 0 ≤ ca) (hc1 : ca < 256) (hn : out.length + be ≤ 100000000) :
    GCall Try.prog 59 [.ptr 0 gw 0 0, .v (.int .i64 a), .v (.int .i64 b)] (wS gw g ⟨l, wd, lo, ca, be, out⟩) fun x S' => ∃ g', S' = wS gw g' (WS.bit ⟨l, wd, lo, ca, be, out⟩ a b) := by
  obtain ⟨hl, hp⟩ := hl
  obtain ⟨hp0, hp1⟩ := hp a ha
  have hpart := rc_part (S := wS gw g ⟨l, wd, lo, ca, be, out⟩) (τ := 0) (g := gw) (sz := 261) (l := l) (wd := wd) rfl hl a ha hw0 hw1 hp0 hp1
  obtain ⟨q0, q1, q2⟩ := part_in hw0 hw1 hp0 hp1
  have hq : part l wd a ≤ wd := by omega
  unfold WS.bit WS.turn
  dsimp only
  generalize part l wd a = p at *
  generalize hnl : l.set a (learn (l.getD a 0) b) = nl
  have hnl1 : nl.length = 256 := by rw [← hnl, List.length_set]; exact hl
  unfold wS at hpart ⊢
  dsimp only at hpart ⊢
  refine gcall_of_tr Try.func59 rfl [] Try.results59 70 rfl (tk_start ?_)
  by_cases hb : b = 0
  · rw [if_pos hb, if_pos hb]
    (repeat refine ka ?_); refine kr ?_ ?_ ?_
    refine ps_gcall hpart ?_
    rintro x S' ⟨rfl, rfl⟩
    refine pops_go ?_ ?_ (pops_end ?_)
    (repeat refine ka ?_); refine kr ?_ ?_ (pops_end ?_)
    (repeat refine ka ?_); refine kct ?_
    (repeat refine ka ?_); refine kr ?_ ?_ ?_
    refine ps_st_ct ?_
    refine pops_nil ?_
    (repeat refine ka ?_); refine kdt 15 ?_
    refine pstl_go ?_ ?_ ?_
    refine pd_pcall (rc_learn _ _) ?_
    refine pstl_go ?_ ?_ (pstl_end ?_)
    refine ps_st_ca a ?_
    refine pops_nil ?_
    rw [hnl]
    by_cases hs : p < 16777216
    · rw [if_pos hs]
      have hmv := rc_move (gw := gw) (g := g) (l := nl) (out := out) (wd := p * 256) (lo := lo) (ca := ca) (be := be) hnl1 h0 (by omega) hc0 hc1 hn
      unfold wS at hmv
      dsimp only at hmv
      (repeat refine ka ?_); refine kr ?_ ?_ (pops_end ?_)
      (repeat refine ka ?_); refine kct ?_
      (repeat refine ka ?_); refine kr ?_ ?_ ?_
      refine ps_st_ct ?_
      refine pops_nil ?_
      (repeat refine ka ?_); refine kr ?_ ?_ ?_
      refine ps_gcall hmv ?_
      rintro x S' ⟨g', rfl⟩
      refine pops_go ?_ ?_ (pops_end ?_)
      refine kn ?_; repeat (first | with_reducible refine blk_n ?_ | with_reducible refine beh_n ?_)
      exact ends_normal ⟨g', rfl⟩ rfl
    · rw [if_neg hs]
      (repeat refine ka ?_); refine kr ?_ ?_ (pops_end ?_)
      (repeat refine ka ?_); refine kcf ?_
      (repeat refine ka ?_); refine ksk ?_
      refine kn ?_; repeat (first | with_reducible refine blk_n ?_ | with_reducible refine beh_n ?_)
      exact ends_normal ⟨g, rfl⟩ rfl
  · rw [if_neg hb, if_neg hb]
    (repeat refine ka ?_); refine kr ?_ ?_ ?_
    refine ps_gcall hpart ?_
    rintro x S' ⟨rfl, rfl⟩
    refine pops_go ?_ ?_ (pops_end ?_)
    (repeat refine ka ?_); refine kr ?_ ?_ (pops_end ?_)
    (repeat refine ka ?_); refine kcf ?_
    (repeat refine ka ?_); refine kr ?_ ?_ ?_
    refine ps_st_ct ?_
    refine pops_nil ?_
    (repeat refine ka ?_); refine kr ?_ ?_ ?_
    refine ps_st_ct ?_
    refine pops_nil ?_
    (repeat refine ka ?_); refine kdt 15 ?_
    refine pstl_go ?_ ?_ ?_
    refine pd_pcall (rc_learn _ _) ?_
    refine pstl_go ?_ ?_ (pstl_end ?_)
    refine ps_st_ca a ?_
    refine pops_nil ?_
    rw [hnl]
    by_cases hs : wd - p < 16777216
    · rw [if_pos hs]
      have hmv := rc_move (gw := gw) (g := g) (l := nl) (out := out) (wd := (wd - p) * 256) (lo := lo + p) (ca := ca) (be := be) hnl1 (by omega) (by omega) hc0 hc1 hn
      unfold wS at hmv
      dsimp only at hmv
      (repeat refine ka ?_); refine kr ?_ ?_ (pops_end ?_)
      (repeat refine ka ?_); refine kct ?_
      (repeat refine ka ?_); refine kr ?_ ?_ ?_
      refine ps_st_ct ?_
      refine pops_nil ?_
      (repeat refine ka ?_); refine kr ?_ ?_ ?_
      refine ps_gcall hmv ?_
      rintro x S' ⟨g', rfl⟩
      refine pops_go ?_ ?_ (pops_end ?_)
      refine kn ?_; repeat (first | with_reducible refine blk_n ?_ | with_reducible refine beh_n ?_)
      exact ends_normal ⟨g', rfl⟩ rfl
    · rw [if_neg hs]
      (repeat refine ka ?_); refine kr ?_ ?_ (pops_end ?_)
      (repeat refine ka ?_); refine kcf ?_
      (repeat refine ka ?_); refine ksk ?_
      refine kn ?_; repeat (first | with_reducible refine blk_n ?_ | with_reducible refine beh_n ?_)
      exact ends_normal ⟨g, rfl⟩ rfl
end Go.Proofs.Yteocmeidkdhmiaa.Pv
