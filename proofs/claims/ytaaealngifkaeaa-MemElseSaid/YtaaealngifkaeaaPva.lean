-- Twenty-sixth text: what is no longer written, and calls that read it.
import Derived.Test.YtaaealngifkaeaaPvY
namespace Go.Proofs.Ytaaealngifkaeaa.Pv
set_option linter.all false
open Go.RowKit
set_option linter.unusedVariables false
section
variable {P : Program} {ops : List Oper} {Q : PS → Prop} {rest : List Oper} {n : Nat} {tm : List (Nat × PV)} {S S' : List Blk} {d : Tmp} {ty : TypeId} {pos : String} {af : Array Edge}
theorem popSem_freeze {o : Oper} {K : PV → List Blk → Prop} {τ : Nat} {blk : Blk} (hb : S[τ]? = some blk) (k : PopSem P ⟨n, tm, S.set τ { blk with own := false }⟩ o K) : PopSem P ⟨n, tm, S⟩ o K := by
  intro c a r next Q hn
  have hb' : c.S[τ]? = some blk := by rw [r.S]; exact hb
  obtain ⟨h1, h2⟩ := freezeBlk r.inv hb'
  exact k { c with S := c.S.set τ { blk with own := false } } a ⟨by simp only [r.S], h1, r.n, r.defers, fun t => (r.tm t).step h2⟩ next Q (fun x c' v hK hi hst hv => hn x c' v hK hi (h2.trans hst) hv)
/-- A block is no longer written from here on. -/
theorem ps_freeze {o : Oper} (τ : Nat) {blk : Blk} (k : Pops P ops Q (o :: rest) ⟨n, tm, S'⟩) (hb : S[τ]? = some blk := by ((conv => lhs; whnf) <;> fail "no")) (hS : S.set τ { blk with own := false } = S' := by first | (simp only [List.set_cons_zero, List.set_cons_succ]; exact rfl) | exact rfl) (hg : o.guard = none := by rfl) : Pops P ops Q (o :: rest) ⟨n, tm, S⟩ := by
  subst hS
  unfold Pops at k ⊢
  rw [hg] at k ⊢
  have := popSem_freeze hb k
  intro c a r next Q' hn
  exact this c a r next Q' hn
end
/-- Arguments, lent. -/
inductive Lends (S : List Blk) (T : List Nat) : List PV → List PV → Prop
  | nil : Lends S T [] []
  | cons {x y : PV} {xs ys : List PV} (h : Lend S T x y) (k : Lends S T xs ys) : Lends S T (x :: xs) (y :: ys)
theorem Lends.get {S : List Blk} {T : List Nat} {xs ys : List PV} (h : Lends S T xs ys) : xs.length = ys.length ∧ ∀ (i : Nat) (x y : PV), xs[i]? = some x → ys[i]? = some y → Lend S T x y := by
  induction h with
  | nil => exact ⟨rfl, fun i x y h => by simp at h⟩
  | cons h k ih =>
    refine ⟨by simp [ih.1], fun i x y h1 h2 => ?_⟩
    cases i with
    | zero => simp at h1 h2; subst h1; subst h2; exact h
    | succ i => exact ih.2 i x y (by simpa using h1) (by simpa using h2)
theorem lend_ints {S : List Blk} {T : List Nat} {τ g gg len sz : Nat} {o : Bool} {k : IntKind} {l : List Int} (hT : τ ∈ T) (hb : S[τ]? = some ⟨gg, o, sz, ints k l⟩) (hg : gg = g) (hl : l.length = len) : Lend S T (.vw τ g 0 len) (.ro sz false (ints k l)) := by
  refine .vw hT hb hg ?_ ?_
  · simp only [List.drop_zero]
    rw [← hl, ← ints_length k l, List.take_length]
  · intro row hr x hx
    obtain ⟨b, _, rfl⟩ := List.mem_map.1 hr
    simp at hx
    subst hx
    exact .v _
section
variable {P : Program} {ops : List Oper} {Q : PS → Prop} {rest : List Oper} {n : Nat} {tm : List (Nat × PV)} {S : List Blk} {d : Tmp} {ty : TypeId} {pos : String} {af : Array Edge}
/-- A call that reads slices of one's own. -/
theorem ps_rcall {f : FuncId} [hf : FnOk P f] {args : Array Operand} {ats : Array TypeId} {us bs : List PV} {r : PV} (T : List Nat) (h : PCall P f bs r) (hl : Lends S T us bs) (k : Pops P ops Q rest ⟨n, (d, r) :: tm, S⟩) (hr : r.Plain ∨ ∀ τ ∈ T, ∀ blk, S[τ]? = some blk → blk.own = false) (ha : args.toList.map (PS.get ⟨n, tm, S⟩) = us := by first | rfl | (simp only [List.map_cons, List.map_nil, PS.get, look, ↓reduceIte, Nat.reduceEqDiff, reduceCtorEq]; exact rfl)) :
    Pops P ops Q (⟨some d, .call ⟨.value (.func f), args, ats⟩, ty, pos, af, none⟩ :: rest) ⟨n, tm, S⟩ := ps_lcall h T hl.get.1 hl.get.2 hr k ha
theorem frozen_one {τ : Nat} {blk : Blk} (hb : S[τ]? = some blk) (ho : blk.own = false) : ∀ t ∈ [τ], ∀ b, S[t]? = some b → b.own = false := fun t ht b h => by
  simp at ht
  subst ht
  rw [hb] at h
  cases h
  exact ho
end
end Go.Proofs.Ytaaealngifkaeaa.Pv
