-- slices.Clone of texts.
import Derived.Test.YtenoecffjfcifaaDoorPtH
namespace Go.Proofs.YtenoecffjfcifaaDoor.Pv
set_option linter.all false
open Go.RowKit Go.Proofs
set_option maxRecDepth 100000
set_option maxHeartbeats 4000000
theorem eqNil {P : Program} {t e : TypeId} {n c n' c' : Nat} (w : World) (ht : P.underlying t = some (.slice e)) (X Y : Operand) :
    (do eqGuard .eql t X Y (.slice none n c) (.slice none n' c'); binOp .eql t (.slice none n c) (.slice none n' c') : Sem Value).run P w = .ok (.bool true) w := by
  have hg : (eqGuard .eql t X Y (.slice none n c) (.slice none n' c')) = pure () := by unfold eqGuard; rfl
  rw [hg, pure_bind]
  refine eql_run (b := true) rfl ?_
  refine equal_run fun d => ?_
  unfold Op.equalIn
  rw [Sem.run_bind, run_underlying ht]
  rfl
theorem pop_eqn {P : Program} {σ : PS} {o : Oper} {K : PV → List Blk → Prop} {t t' e : TypeId} {x y : Operand} {sz : Nat} {f : Bool} {rows : List (List PV)} (ho : o.op = .binOp .eql t x y t') (ht : P.underlying t = some (.slice e)) (hx : σ.get x = .ro sz f rows) (hy : σ.get y = .v (.slice none 0 0))
    (hK : ∀ b, (b = true → rows = []) → K (.v (.bool b)) σ.S) : PopSem P σ o K :=
  pop_of_run fun c a r => by
    have h1 := r.get x
    have h2 := r.get y
    rw [hx] at h1
    rw [hy] at h2
    generalize hax : a.eval x = vx at h1
    generalize hay : a.eval y = vy at h2
    cases h2
    cases h1 with
    | ro _ _ _ ad cap vals hcap hmax hfull hnone hlen hcell hpure hrel =>
      cases ad with
      | none =>
        refine ⟨.v (.bool true), c, .bool true, ?_, by rw [r.S]; exact hK true (fun _ => hnone rfl), r.inv, .refl c, .v _⟩
        simp only [execOp, ho, hax, hay]
        exact mk_run (eqNil c.w ht x y)
      | some ad =>
        refine ⟨.v (.bool false), c, .bool false, ?_, by rw [r.S]; exact hK false (fun h => by cases h), r.inv, .refl c, .v _⟩
        simp only [execOp, ho, hax, hay]
        exact mk_run (eqNotNil (v := .bool false) c.w rfl (.inr ⟨e, ad, _, _, _, _, ht, rfl, rfl⟩) x y)
section
variable {P : Program} {ops : List Oper} {Q : PS → Prop} {rest : List Oper} {n : Nat} {tm : List (Nat × PV)} {S : List Blk} {d : Tmp} {ty : TypeId} {pos : String} {af : Array Edge} {x y : Operand}
theorem ps_eqn {t t' e : TypeId} {sz : Nat} {f : Bool} {rows : List (List PV)} [ht : Und P t (.slice e)] (k : ∀ b : Bool, (b = true → rows = []) → Pops P ops Q rest ⟨n, (d, .v (.bool b)) :: tm, S⟩) (hx : PS.get ⟨n, tm, S⟩ x = .ro sz f rows := by ((conv => lhs; whnf) <;> fail "no")) (hy : PS.get ⟨n, tm, S⟩ y = .v (.slice none 0 0) := by ((conv => lhs; whnf) <;> fail "no")) :
    Pops P ops Q (⟨some d, .binOp .eql t x y t', ty, pos, af, none⟩ :: rest) ⟨n, tm, S⟩ := pops_one rfl (pop_eqn rfl ht.h hx hy fun b hb => k b hb)
end
theorem strRows_nil {l : List (List Int)} (h : strRows l = []) : l = [] := by
  cases l with
  | nil => rfl
  | cons a l => simp [strRows] at h
end Go.Proofs.YtenoecffjfcifaaDoor.Pv
