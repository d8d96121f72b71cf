-- carapacelaw06: awake; texts and lists of texts as arguments.
import Derived.Test.YtgbfbcbblndnoaaDoorPtP
namespace Go.Proofs.YtgbfbcbblndnoaaDoor.Pv
set_option linter.all false
set_option linter.unusedVariables false
open Go.RowKit Go.Proofs
set_option maxRecDepth 100000
set_option maxHeartbeats 4000000
theorem arg_str {xs : List PV} (h : SStr xs) : ∃ l : List Int, xs = [.v (.string (str l))] ∧ Oct l ∧ l.length ≤ 140737488351232 := by
  obtain ⟨s, rfl, hs⟩ := h
  refine ⟨ofB s, by rw [str_ofB], oct_ofB s, ?_⟩
  have : (ofB s).length = s.size := by rw [ofB, List.length_map, Array.length_toList]; rfl
  omega
theorem arg_strs {xs : List PV} (h : SSl 1 16 SStr xs) : ∃ L : List (List Int), xs = [.ro 1 false (strRows L)] ∧ (∀ x ∈ L, Oct x) ∧ L.length ≤ 8796093021952 ∧ ∀ x ∈ L, x.length ≤ 140737488351232 := by
  obtain ⟨rows, rfl, hl, _, hr⟩ := h
  have : ∀ rows : List (List PV), (∀ row ∈ rows, SStr row) → ∃ L : List (List Int), rows = strRows L ∧ (∀ x ∈ L, Oct x) ∧ ∀ x ∈ L, x.length ≤ 140737488351232 := by
    intro rows
    induction rows with
    | nil => intro _; exact ⟨[], rfl, by simp, by simp⟩
    | cons row rows ih =>
      intro h
      obtain ⟨L, rfl, h1, h2⟩ := ih fun r hr => h r (by simp [hr])
      obtain ⟨l, rfl, h3, h4⟩ := arg_str (h row (by simp))
      refine ⟨l :: L, rfl, ?_, ?_⟩
      · intro x hx
        rcases List.mem_cons.1 hx with rfl | hx
        · exact h3
        · exact h1 x hx
      · intro x hx
        rcases List.mem_cons.1 hx with rfl | hx
        · exact h4
        · exact h2 x hx
  obtain ⟨L, rfl, h1, h2⟩ := this rows hr
  rw [strRows_length] at hl
  exact ⟨L, rfl, h1, by omega, h2⟩
theorem path_awake : PCall Tryd.prog 6 [] (.v (.bool true)) := by
  have m1 := pmay_ok [97, 47, 98] (by decide) (by decide)
  have m2 := pmay_ok [97, 47, 47, 98] (by decide) (by decide)
  have m3 := pmay_ok [97, 47, 46, 46] (by decide) (by decide)
  have i1 := pin_ok [97, 47, 98] [97] (by decide) (by decide) (by decide) (by decide)
  have i2 := pin_ok [97, 98] [97] (by decide) (by decide) (by decide) (by decide)
  have s0 := psorted_ok [[98], [97, 47, 99], [97]] (by decide) (by decide)
  have s1 := pset_ok [[97], [97, 47, 98]] (by decide) (by decide) (by decide)
  have s2 := pset_ok [[97], [98, 47, 99]] (by decide) (by decide) (by decide)
  rw [decide_eq_true (by decide +kernel)] at m1
  rw [decide_eq_false (by decide +kernel)] at m2 m3
  rw [decide_eq_true (by decide +kernel)] at i1
  rw [decide_eq_false (by decide +kernel)] at i2
  rw [show rsortF [[98], [97, 47, 99], [97]] = [[97], [97, 47, 99], [98]] by decide +kernel] at s0
  rw [show rsetF [[97], [97, 47, 98]] = 7 by decide +kernel] at s1
  rw [show rsetF [[97], [98, 47, 99]] = 0 by decide +kernel] at s2
  have p0 := strRows_pure [[98], [97, 47, 99], [97]]
  have p1 := strRows_pure [[97], [97, 47, 98]]
  have p2 := strRows_pure [[97], [98, 47, 99]]
  simp only [strRows, List.map_cons, List.map_nil] at s0 s1 s2 p0 p1 p2
  refine pcall_mk Tryd.func6 rfl [.tmp 0] Tryd.results6 47 rfl (tk_start ?_)
  (repeat refine ka ?_); refine kr ?_ ?_ (pops_end ?_)
  (repeat refine ka ?_); refine kr ?_ ?_ ?_
  refine ps_litf (fun g1 => ?_) p0
  refine ps_pcall s0 ?_
  refine pops_go ?_ ?_ (pops_end ?_)
  (repeat refine ka ?_); refine kr ?_ ?_ ?_
  refine ps_pcall m1 ?_
  refine pops_go ?_ ?_ ?_
  refine ps_pcall_g m2 ?_
  refine pops_go ?_ ?_ ?_
  refine ps_pcall_g m3 ?_
  refine pops_go ?_ ?_ ?_
  refine ps_pcall_g i1 ?_
  refine pops_go ?_ ?_ ?_
  refine ps_pcall_g i2 ?_
  refine pops_go ?_ ?_ ?_
  refine ps_ug ?_
  refine ps_litf (fun g2 => ?_) p1
  refine pops_go ?_ ?_ ?_
  refine ps_pcall_g s1 ?_
  refine pops_go ?_ ?_ ?_
  refine ps_ug ?_
  refine ps_litf (fun g3 => ?_) p2
  refine pops_go ?_ ?_ ?_
  refine ps_pcall_g s2 ?_
  refine pops_go ?_ ?_ (pops_end ?_)
  (repeat refine ka ?_); refine kret ?_; repeat (first | with_reducible refine beh_r ?_ | with_reducible refine blk_r ?_)
  refine ends_ret ?_ retPV_one
  rfl
end Go.Proofs.YtgbfbcbblndnoaaDoor.Pv
