-- Twenty-seventh text: calls told by values; guards parted.
import Derived.Test.YtaaealngifkaeaaPva
namespace Go.Proofs.Ytaaealngifkaeaa.Pv
set_option linter.all false
open Go.RowKit
set_option linter.unusedVariables false
/-- What is told of a call of values holds of a call of pure values. -/
theorem pcall_of_calls {P : Program} {f : FuncId} (vs : List Value) {v : Value} (h : ∀ w, Calls P f vs.toArray w fun e w' => e = .returned v ∧ w' = w) : PCall P f (vs.map .v) (.v v) := by
  refine ⟨fun x hx => ?_, .v v, fun c vals hi hs hl hv => ?_⟩
  · obtain ⟨u, _, rfl⟩ := List.mem_map.1 hx
    exact .v u
  · have hvals : vals = vs.toArray := by
      apply Array.ext
      · simpa using hl
      · intro i h1 h2
        have := hv i (.v (vs.toArray[i])) vals[i] (by simp) (Array.getElem?_eq_getElem h1)
        generalize vs.toArray[i] = u at *
        generalize vals[i] = u' at *
        cases this
        rfl
    subst hvals
    refine (h c.w).mono ?_
    rintro e w' ⟨rfl, rfl⟩
    exact ⟨v, .v v, c, rfl, rfl, rfl, hi, .refl c, .v v⟩
section
variable {P : Program} {ops : List Oper} {Q : PS → Prop} {rest : List Oper} {n : Nat} {tm : List (Nat × PV)} {S : List Blk}
/-- An operation's guard, parted. -/
theorem ps_split {o : Option Tmp} {op : Op} {ty : TypeId} {pos : String} {af : Array Edge} {j : Nat} {w b : Bool} (ht : b = true → Pops P ops Q (⟨o, op, ty, pos, af, some (j, w)⟩ :: rest) ⟨n, tm, S⟩) (hf : b = false → Pops P ops Q (⟨o, op, ty, pos, af, some (j, w)⟩ :: rest) ⟨n, tm, S⟩)
    (hb : guardPV ops ⟨n, tm, S⟩ j w = some b := by ((conv => lhs; whnf) <;> fail "no")) : Pops P ops Q (⟨o, op, ty, pos, af, some (j, w)⟩ :: rest) ⟨n, tm, S⟩ := by
  cases hb' : b
  · exact hf hb'
  · exact ht hb'
theorem pd_split {o : Option Tmp} {op : Op} {ty : TypeId} {pos : String} {af : Array Edge} {j : Nat} {w b : Bool} (ht : b = true → PStL P ops Q (⟨o, op, ty, pos, af, some (j, w)⟩ :: rest) ⟨n, tm, S⟩) (hf : b = false → PStL P ops Q (⟨o, op, ty, pos, af, some (j, w)⟩ :: rest) ⟨n, tm, S⟩)
    (hb : guardPV ops ⟨n, tm, S⟩ j w = some b := by ((conv => lhs; whnf) <;> fail "no")) : PStL P ops Q (⟨o, op, ty, pos, af, some (j, w)⟩ :: rest) ⟨n, tm, S⟩ := by
  cases hb' : b
  · exact hf hb'
  · exact ht hb'
/-- Results, one by one: out of a slot, out of a cell. -/
theorem res_tmp {t : Tmp} {x : PV} (h : look t tm = x := by ((conv => lhs; whnf) <;> fail "no")) : resPV P ⟨n, tm, S⟩ (.tmp t) = some x := by simp only [resPV, h]
theorem res_cella {a : Tmp} {t : TypeId} {m : Nat} [ha : AggT P t true] [hc : Cel P t m] {row cs : List PV} {τ g i off : Nat} (hx : look a tm = .ptr τ g i off := by ((conv => lhs; whnf) <;> fail "no")) (hr : rowAt? S τ g i = some row := by first | (simp only [rowAt?, List.getElem?_cons_zero, List.getElem?_cons_succ, if_true, ↓reduceIte]; first | exact rfl | assumption) | assumption) (hle : off + m ≤ row.length := by first | decide | (simp only [List.length_cons, List.length_nil]; omega) | omega)
    (hp : (row.drop off).take m = cs := by first | (simp only [List.drop_succ_cons, List.drop_zero, List.take_succ_cons, List.take_zero, List.take_nil]; exact rfl) | exact rfl) : resPV P ⟨n, tm, S⟩ (.cell a t) = some (.agg cs) := by
  simp only [resPV, hx, loadPV, hr, loadRow_agg ha.h hc.h hle, hp]
theorem res_cell {a : Tmp} {t : TypeId} [ha : AggT P t false] {row : List PV} {p : PV} {τ g i off : Nat} (hx : look a tm = .ptr τ g i off := by ((conv => lhs; whnf) <;> fail "no")) (hr : rowAt? S τ g i = some row := by first | (simp only [rowAt?, List.getElem?_cons_zero, List.getElem?_cons_succ, if_true, ↓reduceIte]; first | exact rfl | assumption) | assumption)
    (hp : row[off]? = some p := by ((conv => lhs; whnf) <;> fail "no")) : resPV P ⟨n, tm, S⟩ (.cell a t) = some p := by
  simp only [resPV, hx, loadPV, hr, loadRow_one ha.h hp]
theorem retPV_1 {σ : PS} {r : ResultVar} {x : PV} (h : resPV P σ r = some x) : retPV P σ [r] = some x := h
theorem retPV_2 {σ : PS} {r s : ResultVar} {x y : PV} (h : resPV P σ r = some x) (k : resPV P σ s = some y) : retPV P σ [r, s] = some (.tup [x, y]) := by simp [retPV, h, k]
theorem retPV_3 {σ : PS} {r s t : ResultVar} {x y z : PV} (h : resPV P σ r = some x) (k : resPV P σ s = some y) (l : resPV P σ t = some z) : retPV P σ [r, s, t] = some (.tup [x, y, z]) := by simp [retPV, h, k, l]
end
end Go.Proofs.Ytaaealngifkaeaa.Pv
