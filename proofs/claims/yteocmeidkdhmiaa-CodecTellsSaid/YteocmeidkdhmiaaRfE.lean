-- slices.Backward over coders: an iterator.
import Derived.Test.YteocmeidkdhmiaaRfD
import Derived.Test.YteocmeidkdhmiaaCoB
namespace Go.Proofs.Yteocmeidkdhmiaa.Pv
set_option linter.all false
set_option linter.unusedVariables false
open Go.RowKit Go.Proofs
set_option maxRecDepth 100000
set_option maxHeartbeats 4000000
def backItems (rows : List (List PV)) : List (List PV) := (List.range rows.length).map fun (k : Nat) => [.v (.int .i64 ((rows.length : Int) - 1 - ((k : Nat) : Int))), .agg (rows.getD (rows.length - 1 - k) [])]
theorem backItems_get {rows : List (List PV)} {k : Nat} (h : k < rows.length) : (backItems rows)[k]? = some [.v (.int .i64 ((rows.length : Int) - 1 - k)), .agg (rows.getD (rows.length - 1 - k) [])] := by
  simp [backItems, h]
theorem backItems_length (rows : List (List PV)) : (backItems rows).length = rows.length := by simp [backItems]
theorem backward_it (f : Bool) (rows : List (List PV)) (hp : ∀ row ∈ rows, ∀ x ∈ row, PV.Pure x) (h4 : ∀ row ∈ rows, row.length = 4) (hmax : rows.length ≤ 1000000) : SeqIt Try.prog 46 [.rp [.ro 4 f rows] 0] (backItems rows) := by
  have hro : PV.Pure (.ro 4 f rows) := .ro hp
  have hrp : PV.Pure (.rp [.ro 4 f rows] 0) := .rp (by intro x hx; simp only [List.mem_singleton] at hx; subst hx; exact hro)
  refine seqIt_mk Try.func46 rfl rfl 19 rfl (by intro x hx; simp only [List.mem_singleton] at hx; subst hx; exact hrp) ?_
  intro l JS hJ hR
  refine ti_seq ?_
  refine ti_region (hJ _) (by kernel_rfl) ?_
  refine pops_go ?_ ?_ (pops_end ?_)
  refine ⟨[(0, .v (.func (.yield l) #[] #[])), (1, .rp [.ro 4 f rows] 0), (3, .v (.int .i64 ((rows.length : Int) - 1)))], ⟨rfl, (by repeat (first | exact .nil | refine has1 ?_)), by intro p hp'; simp only [List.mem_cons, List.not_mem_nil, or_false] at hp'; rcases hp' with rfl | rfl | rfl; exact .v _; exact hrp; exact .v _⟩, ?_⟩
  have pu : ∀ (i : Int), ∀ p ∈ [(0, PV.v (.func (.yield l) #[] #[])), (1, .rp [.ro 4 f rows] 0), (3, .v (.int .i64 i))], p.2.Pure := by
    intro i p hp'
    simp only [List.mem_cons, List.not_mem_nil, or_false] at hp'
    rcases hp' with rfl | rfl | rfl
    · exact .v _
    · exact hrp
    · exact .v _
  have pc : ∀ {p : Nat × PV} {T : List (Nat × PV)}, p.2.Pure → (∀ q ∈ T, q.2.Pure) → ∀ q ∈ p :: T, q.2.Pure := fun h hT q hq => by
    rcases List.mem_cons.1 hq with rfl | hq
    · exact h
    · exact hT q hq
  refine ti_block ?_
  refine ti_loop (fun m σ s => ∃ k : Nat, k ≤ rows.length ∧ m = rows.length - k ∧ s = some k ∧ σ = ⟨19, [(0, PV.v (.func (.yield l) #[] #[])), (1, .rp [.ro 4 f rows] 0), (3, .v (.int .i64 ((rows.length : Int) - 1 - (k : Int))))], []⟩) rows.length ⟨0, Nat.zero_le _, rfl, rfl, by simp⟩ ?_
  rintro m σ s ⟨k, hk, rfl, rfl, rfl⟩
  refine ti_seq ?_
  refine ti_seq ?_
  refine ti_region (hJ _) (by kernel_rfl) ?_
  by_cases hg : (rows.length : Int) - 1 - (k : Int) ≥ 0
  rotate_left
  · refine pops_go ?_ ?_ (pops_end ?_)
    refine ⟨[(8, .v (.bool false)), (0, PV.v (.func (.yield l) #[] #[])), (1, .rp [.ro 4 f rows] 0), (3, .v (.int .i64 ((rows.length : Int) - 1 - (k : Int))))], ⟨rfl, (by repeat (first | exact .nil | refine has1 ?_)), pc (.v _) (pu _)⟩, ?_⟩
    refine ti_cond (b := false) rfl (fun h => by cases h) (fun _ => ti_exit ?_)
    simp only [behindI, inBlkI, if_true]
    exact ⟨by simp, .inl (by rw [backItems_length]; congr 1; omega)⟩
  · have hlt : k < rows.length := by omega
    have hgd : rows[rows.length - 1 - k]? = some (rows.getD (rows.length - 1 - k) []) := by
      rw [List.getD_eq_getElem?_getD, List.getElem?_eq_getElem (by omega)]
      rfl
    have hrow : rows[((rows.length : Int) - 1 - (k : Int)).toNat]? = some (rows.getD (rows.length - 1 - k) []) := by
      rw [show ((rows.length : Int) - 1 - (k : Int)).toNat = rows.length - 1 - k by omega]
      exact hgd
    have hmem := List.mem_of_getElem? hgd
    have hr4 := h4 _ hmem
    have hitem := backItems_get hlt
    have hpa : PV.Pure (.agg (rows.getD (rows.length - 1 - k) [])) := .agg (hp _ hmem)
    generalize rows.getD (rows.length - 1 - k) [] = row at *
    have etk : row.take 4 = row := by rw [← hr4, List.take_length]
    refine pops_go ?_ ?_ (pops_end ?_)
    refine ⟨[(8, .v (.bool true)), (0, PV.v (.func (.yield l) #[] #[])), (1, .rp [.ro 4 f rows] 0), (3, .v (.int .i64 ((rows.length : Int) - 1 - (k : Int))))], ⟨rfl, (by repeat (first | exact .nil | refine has1 ?_)), pc (.v _) (pu _)⟩, ?_⟩
    refine ti_cond (b := true) rfl (fun _ => ti_skip ?_) (fun h => by cases h)
    refine ti_seq ?_
    refine ti_block ?_
    refine ti_seq ?_
    refine ti_yield 6 _ 17 _ _ _ hR hJ (by kernel_rfl) rfl rfl rfl rfl ?_
    refine pops_go ?_ ?_ (pops_end ?_)
    rw [etk]
    refine ⟨[(11, PV.v (.func (.yield l) #[] #[])), (12, .v (.int .i64 ((rows.length : Int) - 1 - (k : Int)))), (16, .agg row), (0, PV.v (.func (.yield l) #[] #[])), (1, .rp [.ro 4 f rows] 0), (3, .v (.int .i64 ((rows.length : Int) - 1 - (k : Int))))], _, ⟨rfl, (by repeat (first | exact .nil | refine has1 ?_)), pc (.v _) (pc (.v _) (pc hpa (pu _)))⟩, rfl, hitem, rfl, (by intro y hy; simp only [List.mem_cons, List.not_mem_nil, or_false] at hy; rcases hy with rfl | rfl; exact .v _; exact hpa), ?_⟩
    intro b
    cases b with
    | true =>
      refine pops_go ?_ ?_ (pops_end ?_)
      refine ⟨[(18, .v (.bool false)), (0, PV.v (.func (.yield l) #[] #[])), (1, .rp [.ro 4 f rows] 0), (3, .v (.int .i64 ((rows.length : Int) - 1 - (k : Int))))], ⟨rfl, (by repeat (first | exact .nil | refine has1 ?_)), pc (.v _) (pu _)⟩, ?_⟩
      refine ti_cond (b := false) rfl (fun h => by cases h) (fun _ => ti_skip ?_)
      refine ti_region (hJ _) (by kernel_rfl) ?_
      refine pops_go ?_ ?_ (pops_end ?_)
      refine ⟨[(0, PV.v (.func (.yield l) #[] #[])), (1, .rp [.ro 4 f rows] 0), (3, .v (.int .i64 ((rows.length : Int) - 1 - (k : Int) - 1)))], ⟨rfl, (by repeat (first | exact .nil | refine has1 ?_)), pu _⟩, ?_⟩
      refine ⟨rows.length - (k + 1), by omega, k + 1, by omega, rfl, rfl, ?_⟩
      rw [show (rows.length : Int) - 1 - (k : Int) - 1 = (rows.length : Int) - 1 - ((k + 1 : Nat) : Int) by omega]
    | false =>
      refine pops_go ?_ ?_ (pops_end ?_)
      refine ⟨[(18, .v (.bool true)), (0, PV.v (.func (.yield l) #[] #[])), (1, .rp [.ro 4 f rows] 0), (3, .v (.int .i64 ((rows.length : Int) - 1 - (k : Int))))], ⟨rfl, (by repeat (first | exact .nil | refine has1 ?_)), pc (.v _) (pu _)⟩, ?_⟩
      refine ti_cond (b := true) rfl (fun _ => ti_ret ?_) (fun h => by cases h)
      exact ⟨.inr rfl, .inr rfl⟩
end Go.Proofs.Yteocmeidkdhmiaa.Pv
