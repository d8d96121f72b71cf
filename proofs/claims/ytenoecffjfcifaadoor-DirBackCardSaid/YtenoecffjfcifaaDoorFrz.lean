-- Frozen at once: literals, and what an operation makes.
import Derived.Test.YtenoecffjfcifaaDoorIfc
namespace Go.Proofs.YtenoecffjfcifaaDoor.Pv
set_option linter.all false
set_option linter.unusedVariables false
open Go.RowKit Go.Proofs
set_option maxRecDepth 100000
set_option maxHeartbeats 4000000
section
variable {P : Program} {ops : List Oper} {Q : PS → Prop} {rest : List Oper} {n : Nat} {tm : List (Nat × PV)} {S S' : List Blk} {d : Tmp} {ty : TypeId} {pos : String} {af : Array Edge} {t t' e : TypeId}
theorem ps_litg {len sz : Nat} {parts : Array (Nat × Operand)} {ps : List (Nat × PV)} {zr : List PV} {bb : Bool} {rows : List (List PV)} [ht : Und P t (.slice e)] [hz : Zer P e zr] [hk : AggT P e bb] [hc : Cel P e sz] (k : Pops P ops Q rest ⟨n, (d, .ro sz false rows) :: tm, S⟩)
    (hpure : ∀ row ∈ rows, ∀ x ∈ row, PV.Pure x) (hsz : sz = zr.length := by rfl) (hpos : 0 < zr.length := by decide) (hb : len * zr.length ≤ 16777216 := by decide) (hl : rows.length = len := by rfl) (hp : (parts.toList.map fun p => (p.1, PS.get ⟨n, tm, S⟩ p.2)) = ps := by first | (simp only [List.map_cons, List.map_nil, PS.get, look, ofValue, ↓reduceIte, Nat.reduceEqDiff, reduceCtorEq]; exact rfl) | rfl) (hf : fillRows sz (List.replicate len zr) ps = some rows := by first | (simp only [List.replicate_succ, List.replicate_zero, fillRows, cellsPV, Value.oneCell', List.length_cons, List.length_nil, List.set_cons_zero, List.set_cons_succ, Nat.reduceAdd, Nat.zero_add, Nat.reduceLT, Nat.reduceSub, Bool.and_self, decide_true, if_true, ↓reduceIte]; exact rfl) | rfl) :
    Pops P ops Q (⟨some d, .buildSlice t len parts, ty, pos, af, none⟩ :: rest) ⟨n, tm, S⟩ := by
  subst hp hsz
  exact pops_one rfl (pop_litg (pop_lit rfl ht.h hz.h hk.h.2 hc.h hpos hb hf fun g => ⟨g, rfl, rfl⟩) hl hpure k)
end
theorem intsP {k : IntKind} (l : List Int) : ∀ row ∈ ints k l, ∀ x ∈ row, PV.Pure x := by
  intro row hr x hx
  obtain ⟨b, _, rfl⟩ := List.mem_map.1 hr
  rw [List.mem_singleton] at hx
  subst hx
  exact .v _
/-- What an operation makes is no longer written, from there on. -/
theorem pop_frz {P : Program} {o : Oper} {σ : PS} {K : PV → List Blk → Prop} {τ len sz : Nat} {rows : List (List PV)} {S' : Nat → List Blk} (hp : PopSem P σ o fun x T => ∃ g, x = .vw τ g 0 len ∧ T = S' g ∧ (S' g)[τ]? = some ⟨g, true, sz, rows⟩) (hl : rows.length = len) (hpure : ∀ row ∈ rows, ∀ x ∈ row, PV.Pure x)
    (hK : ∀ g, K (.ro sz false rows) ((S' g).set τ ⟨g, false, sz, rows⟩)) : PopSem P σ o K := by
  intro c a r next Q hn
  refine hp c a r next Q fun x' c' v k hi hs hv => ?_
  obtain ⟨g, rfl, k2, k3⟩ := k
  have hb : c'.S[τ]? = some ⟨g, true, sz, rows⟩ := by rw [k2]; exact k3
  have hlt := (List.getElem?_eq_some_iff.1 hb).1
  obtain ⟨h1, h2⟩ := freezeBlk hi hb
  have hb2 : (c'.S.set τ ⟨g, false, sz, rows⟩)[τ]? = some ⟨g, false, sz, rows⟩ := List.getElem?_set_self hlt
  refine hn (.ro sz false rows) { c' with S := c'.S.set τ ⟨g, false, sz, rows⟩ } v (by show K _ (c'.S.set τ _); rw [k2]; exact hK g) h1 (hs.trans h2) ?_
  refine Lend.frel h1 (T := [τ]) (.vw (by simp) hb2 rfl (by rw [List.drop_zero, ← hl, List.take_length]) hpure) ?_ (hv.step h2)
  intro t ht b hb'
  simp only [List.mem_singleton] at ht
  subst ht
  have := hb2.symm.trans hb'
  cases this
  rfl
theorem ps_frz {P : Program} {ops rest : List Oper} {Q : PS → Prop} {o : Oper} {n d : Nat} {tm : List (Nat × PV)} {S : List Blk} {τ len sz : Nat} {rows : List (List PV)} {S' : Nat → List Blk} (hg : o.guard = none) (hd : o.dst = some d)
    (h : Pops P ops (fun σ' => ∃ g, look d σ'.tm = .vw τ g 0 len ∧ σ'.S = S' g ∧ (S' g)[τ]? = some ⟨g, true, sz, rows⟩) [o] ⟨n, tm, S⟩) (hl : rows.length = len) (hpure : ∀ row ∈ rows, ∀ x ∈ row, PV.Pure x)
    (k : ∀ g, Pops P ops Q rest ⟨n, (d, .ro sz false rows) :: tm, (S' g).set τ ⟨g, false, sz, rows⟩⟩) : Pops P ops Q (o :: rest) ⟨n, tm, S⟩ := by
  refine pops_one hg (pop_frz (S' := S') (τ := τ) (sz := sz) ?_ hl hpure fun g => ?_)
  · unfold Pops at h
    rw [hg] at h
    refine popSem_mono h fun x T hx => ?_
    unfold Pops at hx
    rw [hd] at hx
    simpa [PS.put, look] using hx
  · rw [hd]
    exact k g
end Go.Proofs.YtenoecffjfcifaaDoor.Pv
