/- AluTells: what alu says is the reference's. For every input; no condition. -/
import Derived.Test.YtaaealngifkaeaaAluF
namespace Go.Proofs.Ytaaealngifkaeaa.Pure
open Go.RowKit Go.Proofs.YtaaealngifkaeaaW.PrintWords Go.Proofs.Ytaaealngifkaeaa.Bv Go.Proofs.Ytaaealngifkaeaa.AluF Go.Proofs.Ytaaealngifkaeaa.QAlu
theorem taken_some (op x y : Int) : ∃ r, alu_Taken.f op x y = some r := by
  unfold alu_Taken.f
  repeat' split
  all_goals exact ⟨_, rfl⟩
theorem AluTells : carapacelaw10_AluTells.Pure := by
  intro op x y ho hx hy
  have hx := wf_u32 hx
  have hy := wf_u32 hy
  suffices h : Ev (fun k => carapacelaw10_AluTells.f k op x y) true from h.rounds
  obtain ⟨r, hr, er⟩ := ref_Alu op x y hx hy
  obtain ⟨t, ht⟩ := taken_some op x y
  refine Ev.congr (fun k => ?_) (Ev.bind (f := fun k b => (carapaceref10_Alu.f k op x y).bind fun c => if b = true then (if r.1 = c.1 then some (r.2 == c.2) else some false) else some false) awake_ev (Ev.bind (f := fun _ c => if true = true then (if r.1 = c.1 then some (r.2 == c.2) else some false) else some false) er ?_))
  · unfold carapacelaw10_AluTells.f
    rw [hr, ht, ← ref_Taken, ht]
    cases carapacelaw10_awake.f k with
    | none => rfl
    | some b =>
      simp only [Option.bind_some]
      cases carapaceref10_Alu.f k op x y with
      | none => rfl
      | some c =>
        simp only [Option.bind_some]
        cases b <;> simp
        by_cases h1 : r.1 = c.1
        · rw [if_pos h1, if_pos h1]
          by_cases h2 : r.2 = c.2 <;> simp [h2]
        · rw [if_neg h1, if_neg h1]
  · simp
    exact Ev.now _
end Go.Proofs.Ytaaealngifkaeaa.Pure
