-- Texts compared: which stands ahead.
import Derived.Test.YtenoecffjfcifaaDoorPtO
namespace Go.Proofs.YtenoecffjfcifaaDoor.Pv
set_option linter.all false
set_option linter.unusedVariables false
open Go.RowKit Go.Proofs
set_option maxRecDepth 100000
theorem bytesLess_lessF : ∀ {a b : List Int}, Oct a → Oct b → Op.bytesLess (u8s a) (u8s b) = lessF a b
  | [], [], _, _ => rfl
  | [], _ :: _, _, _ => rfl
  | _ :: _, [], _, _ => rfl
  | x :: a, y :: b, ha, hb => by
    have hx := ha x (by simp)
    have hy := hb y (by simp)
    have ih := bytesLess_lessF (a := a) (b := b) (fun z hz => ha z (by simp [hz])) (fun z hz => hb z (by simp [hz]))
    unfold u8s at ih ⊢
    rw [List.map_cons, List.map_cons, Op.bytesLess, ih, lessF]
    by_cases e : x = y
    · subst e
      rw [if_pos rfl]
      simp
    · rw [if_neg e]
      have h1 : (UInt8.ofNat x.toNat == UInt8.ofNat y.toNat) = false := by
        rw [beq_eq_false_iff_ne]
        exact fun h => e ((u8_eq hx hy).1 h)
      rw [h1, Bool.false_and, Bool.or_false]
      exact decide_eq_decide.2 (u8_lt hx hy)
def cmpS : BinOp → List Int → List Int → Option Bool
  | .lss, a, b => some (lessF a b)
  | .geq, a, b => some (!lessF a b)
  | .gtr, a, b => some (lessF b a)
  | .leq, a, b => some (!lessF b a)
  | _, _, _ => none
theorem lessF_gt (a b : List Int) : lessF b a = !(lessF a b || decide (a = b)) := by
  cases h : lessF a b with
  | true =>
    rw [lessF_asymm _ _ h]
    simp
  | false =>
    by_cases e : a = b
    · subst e
      rw [lessF_irrefl]
      simp
    · cases k : lessF b a with
      | true => simp [e]
      | false => exact absurd (lessF_total a b h k) e
theorem str_list (a : List Int) : (str a).data.toList = u8s a := by
  rw [str_u8s]
theorem scmp_run {P : Program} {op : BinOp} {t : TypeId} {a b : List Int} {r : Bool} (ha : Oct a) (hb : Oct b) (hr : cmpS op a b = some r) (X Y : Operand) (w : World) :
    (do eqGuard op t X Y (.string (str a)) (.string (str b)); binOp op t (.string (str a)) (.string (str b)) : Sem Value).run P w = .ok (.bool r) w := by
  have hg : eqGuard op t X Y (.string (str a)) (.string (str b)) = pure () := by unfold eqGuard; split <;> rfl
  rw [hg, pure_bind]
  have hl : ∀ l : List Int, (str l).toList = u8s l := fun l => by
    rw [str_u8s]
    simp
  have he : ((u8s a == u8s b) : Bool) = decide (a = b) := by
    by_cases e : a = b
    · subst e; simp
    · rw [decide_eq_false e, beq_eq_false_iff_ne]
      exact fun h => e (u8s_inj ha hb h)
  cases op <;> simp only [cmpS] at hr <;> first | (cases hr; done) | skip
  all_goals
    cases hr
    simp only [binOp, Op.stringOp, hl, bytesLess_lessF ha hb, he, Sem.run_pure]
  all_goals first
    | rfl
    | (rw [lessF_gt a b]; try simp)
theorem pop_scmp {P : Program} {σ : PS} {o : Oper} {K : PV → List Blk → Prop} {op : BinOp} {t t' : TypeId} {x y : Operand} {a b : List Int} {r : Bool} (ho : o.op = .binOp op t x y t') (hx : σ.get x = .v (.string (str a))) (hy : σ.get y = .v (.string (str b))) (ha : Oct a) (hb : Oct b) (hr : cmpS op a b = some r)
    (hK : K (.v (.bool r)) σ.S) : PopSem P σ o K :=
  pop_of_run fun c ac rl => by
    have h1 := rl.get x
    have h2 := rl.get y
    rw [hx] at h1
    rw [hy] at h2
    generalize hax : ac.eval x = vx at h1
    generalize hay : ac.eval y = vy at h2
    cases h1
    cases h2
    refine ⟨.v (.bool r), c, .bool r, ?_, by rw [rl.S]; exact hK, rl.inv, .refl c, .v _⟩
    simp only [execOp, ho, hax, hay]
    exact mk_run (scmp_run ha hb hr x y c.w)
section
variable {P : Program} {ops : List Oper} {Q : PS → Prop} {rest : List Oper} {n : Nat} {tm : List (Nat × PV)} {S : List Blk} {d : Tmp} {ty : TypeId} {pos : String} {af : Array Edge} {x y : Operand}
theorem ps_scmp {op : BinOp} {t t' : TypeId} {a b : List Int} {r : Bool} (ha : Oct a) (hb : Oct b) (hr : cmpS op a b = some r) (k : Pops P ops Q rest ⟨n, (d, .v (.bool r)) :: tm, S⟩) (hx : PS.get ⟨n, tm, S⟩ x = .v (.string (str a)) := by ((conv => lhs; whnf) <;> fail "no")) (hy : PS.get ⟨n, tm, S⟩ y = .v (.string (str b)) := by ((conv => lhs; whnf) <;> fail "no")) :
    Pops P ops Q (⟨some d, .binOp op t x y t', ty, pos, af, none⟩ :: rest) ⟨n, tm, S⟩ := pops_one rfl (pop_scmp rfl hx hy ha hb hr k)
theorem pd_scmp {op : BinOp} {t t' : TypeId} {a b : List Int} {r : Bool} (ha : Oct a) (hb : Oct b) (hr : cmpS op a b = some r) (k : PStL P ops Q rest ⟨n, (d, .v (.bool r)) :: tm, S⟩) (hx : PS.get ⟨n, tm, S⟩ x = .v (.string (str a)) := by ((conv => lhs; whnf) <;> fail "no")) (hy : PS.get ⟨n, tm, S⟩ y = .v (.string (str b)) := by ((conv => lhs; whnf) <;> fail "no")) :
    PStL P ops Q (⟨some d, .binOp op t x y t', ty, pos, af, none⟩ :: rest) ⟨n, tm, S⟩ := by
  refine ⟨.v (.bool r), ?_, k⟩
  unfold GSt
  refine .sem fun σ' hg hS => pop_scmp rfl ?_ ?_ ha hb hr ⟨rfl, rfl⟩
  · rw [← hg x (by simp [Op.operands])]; exact hx
  · rw [← hg y (by simp [Op.operands])]; exact hy
end
end Go.Proofs.YtenoecffjfcifaaDoor.Pv
