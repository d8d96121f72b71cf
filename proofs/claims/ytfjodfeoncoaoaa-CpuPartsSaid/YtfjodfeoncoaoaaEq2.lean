-- Structs with arrays in them: the same cells are not unlike.
import Derived.Test.YtfjodfeoncoaoaaKm
namespace Go.Proofs.Ytfjodfeoncoaoaa.Pv
set_option linter.all false
open Go.RowKit Go.Proofs
set_option maxRecDepth 100000
set_option maxHeartbeats 4000000
def kOk : SK → PV → Bool
  | .int, .v (.int _ _) => true
  | .bool, .v (.bool _) => true
  | .str, .v (.string _) => true
  | _, _ => false
def cellsOk (xs : List PV) (l : List (Nat × SK)) : Bool := l.all fun p => match xs[p.1]? with | some x => kOk p.2 x | none => false
def fieldOk (P : Program) (xs : List PV) (f : Field) : Bool := f.name != "_" && match skOf P f.type with
  | some k => cellsOk xs [(f.offset, k)]
  | none => match P.underlying f.type with
    | some (.array n e) => match skOf P e with
      | some k => isAggT P f.type && decide (f.offset + P.cellsOf f.type ≤ xs.length) && cellsOk ((xs.drop f.offset).take (P.cellsOf f.type)) ((List.range n).map fun i => (i * P.cellsOf e, k))
      | none => false
    | _ => false
def selfOk (P : Program) (t : TypeId) (xs : List PV) : Bool := !(P.eqGuardType P.depth t || P.stoodInHeld t) && match P.underlying t with
  | some (.struct fs) => fs.toList.all (fieldOk P xs)
  | _ => false
theorem kOk_eq {k : SK} {x : PV} (h : kOk k x = true) : skEq k x x = some true := by
  unfold kOk at h
  unfold skEq
  split at h
  · simp
  · simp
  · simp
  · cases h
theorem cells_eq (xs : List PV) : ∀ (l : List (Nat × SK)), cellsOk xs l = true → eqCells xs xs l = some true
  | [], _ => rfl
  | (o, k) :: l, h => by
    unfold cellsOk at h
    rw [List.all_cons, Bool.and_eq_true] at h
    obtain ⟨h1, h2⟩ := h
    have ih := cells_eq xs l h2
    unfold eqCells
    simp only at h1
    split at h1
    · rename_i x hx
      simp only [hx, kOk_eq h1, ih, Bool.and_self]
    · cases h1
theorem eqFields_self {P : Program} {c : Cx} {xs : List PV} {va vb : Array Value} (ha : RelV c (.agg xs) (.agg va)) (hb : RelV c (.agg xs) (.agg vb)) (d : Nat) : ∀ (fs : List Field), fs.all (fieldOk P xs) = true → (Op.eqFields (d + 2) va vb fs).run P c.w = .ok true c.w
  | [], _ => rfl
  | f :: fs, h => by
    rw [List.all_cons, Bool.and_eq_true] at h
    obtain ⟨h1, h2⟩ := h
    have ih := eqFields_self ha hb d fs h2
    unfold fieldOk at h1
    rw [Bool.and_eq_true] at h1
    obtain ⟨hn, h1⟩ := h1
    unfold Op.eqFields
    rw [if_pos (by simpa using hn), Sem.run_bind]
    split at h1
    · rename_i k hk
      have e1 := cells_eq xs _ h1
      unfold cellsOk at h1
      simp only [List.all_cons, List.all_nil, Bool.and_true] at h1
      split at h1
      · rename_i x hx
        obtain ⟨g1, g2⟩ := skOf_part hk xs f.offset
        obtain ⟨a, p1, p2⟩ := partPV_sound (by rw [g2]; exact hx) g1 ha
        obtain ⟨b, p3, p4⟩ := partPV_sound (by rw [g2]; exact hx) g1 hb
        rw [p1, Result.andThen_ok, Sem.run_bind, p3, Result.andThen_ok, Sem.run_bind, skEq_run hk (kOk_eq h1) p2 p4 (d + 1), Result.andThen_ok]
        exact ih
      · cases h1
    · split at h1
      · rename_i n e hu
        split at h1
        · rename_i k hk
          simp only [Bool.and_eq_true, decide_eq_true_eq] at h1
          obtain ⟨⟨hag, hle⟩, hc⟩ := h1
          have hkn : known P f.type = true := by unfold known; rw [hu]; rfl
          have hp : partPV P f.type xs f.offset = some (.agg ((xs.drop f.offset).take (P.cellsOf f.type))) := by unfold partPV; rw [if_pos hag, if_pos hle]
          obtain ⟨a, p1, p2⟩ := partPV_sound hp hkn ha
          obtain ⟨b, p3, p4⟩ := partPV_sound hp hkn hb
          cases p2 with
          | agg _ va' hsa h1a ha' =>
          cases p4 with
          | agg _ vb' hsb h1b hb' =>
          have hke : known P e = true := (skOf_part hk [] 0).1
          obtain ⟨ed, hed⟩ := Option.isSome_iff_exists.1 hke
          obtain ⟨i, hi⟩ := info_of_underlying hed
          rw [p1, Result.andThen_ok, Sem.run_bind, p3, Result.andThen_ok, Sem.run_bind, run_equalIn_array c.w (d + 1) va' vb' hu hi, eqItems_run hk (.agg _ va' hsa h1a ha') (.agg _ vb' hsb h1b hb') d (List.range n) true (cells_eq _ _ hc), Result.andThen_ok]
          exact ih
        · cases h1
      · cases h1
theorem pop_ane_self {P : Program} {σ : PS} {o : Oper} {K : PV → List Blk → Prop} {t t' : TypeId} {x y : Operand} {xs : List PV} (ho : o.op = .binOp .neq t x y t') (hx : σ.get x = .agg xs) (hy : σ.get y = .agg xs) (hs : selfOk P t xs = true) (hK : K (.v (.bool false)) σ.S) : PopSem P σ o K :=
  pop_of_run fun c a r => by
    have h1 := r.get x
    have h2 := r.get y
    rw [hx] at h1
    rw [hy] at h2
    generalize hax : a.eval x = vx at h1
    generalize hay : a.eval y = vy at h2
    refine ⟨.v (.bool false), c, .bool false, ?_, by rw [r.S]; exact hK, r.inv, .refl c, .v _⟩
    simp only [execOp, ho, hax, hay]
    refine mk_run ?_
    unfold selfOk at hs
    simp only [Bool.and_eq_true, Bool.not_eq_true', Bool.or_eq_false_iff] at hs
    obtain ⟨hg, hf⟩ := hs
    split at hf
    · rename_i fs hu
      have hu' : P.underlying t = some (.struct (P.fieldsOf t)) := by rw [hu]; simp [Program.fieldsOf, hu]
      have hfs : P.fieldsOf t = fs := by simp [Program.fieldsOf, hu]
      cases h1 with
      | agg _ va hsa h1a ha' =>
      cases h2 with
      | agg _ vb hsb h1b hb' =>
      have hgd : (eqGuard .neq t x y (.agg va) (.agg vb)).run P c.w = .ok () c.w := by
        unfold eqGuard
        first | rfl | (simp only [Bool.not_true, Bool.false_eq_true, if_false, Sem.run_bind, run_program, Result.andThen_ok, hg.1, Bool.not_false, if_true]; rfl)
      have he : (Op.equal t (.agg va) (.agg vb)).run P c.w = .ok true c.w := by
        unfold Op.equal
        rw [show Op.maxDepth = 9997 + 2 + 1 from rfl, run_equalIn_struct c.w (9997 + 2) t va vb hu' hg.2, hfs]
        exact eqFields_self (.agg _ va hsa h1a ha') (.agg _ vb hsb h1b hb') 9997 fs.toList hf
      rw [Sem.run_bind, hgd, Result.andThen_ok]
      exact neq_run (b := true) rfl he
    · cases hf
section
variable {P : Program} {ops : List Oper} {Q : PS → Prop} {rest : List Oper} {n : Nat} {tm : List (Nat × PV)} {S : List Blk} {d : Tmp} {ty : TypeId} {pos : String} {af : Array Edge} {x y : Operand}
theorem ps_ane_self_g {t t' : TypeId} {xs : List PV} {j : Nat} {w : Bool} (k : Pops P ops Q rest ⟨n, (d, .v (.bool false)) :: tm, S⟩) (hs : selfOk P t xs = true) (hx : PS.get ⟨n, tm, S⟩ x = .agg xs := by ((conv => lhs; whnf) <;> fail "no")) (hy : PS.get ⟨n, tm, S⟩ y = .agg xs := by first | ((conv => lhs; whnf) <;> fail "no") | exact rfl) (hg : guardPV ops ⟨n, tm, S⟩ j w = some w := by ((conv => lhs; whnf) <;> fail "no")) :
    Pops P ops Q (⟨some d, .binOp .neq t x y t', ty, pos, af, some (j, w)⟩ :: rest) ⟨n, tm, S⟩ := ps_guard rfl hg (pop_ane_self rfl hx hy hs k)
theorem pd_ane_self_g {t t' : TypeId} {xs : List PV} {j : Nat} {w : Bool} (k : PStL P ops Q rest ⟨n, (d, .v (.bool false)) :: tm, S⟩) (hs : selfOk P t xs = true) (hx : PS.get ⟨n, tm, S⟩ x = .agg xs := by ((conv => lhs; whnf) <;> fail "no")) (hy : PS.get ⟨n, tm, S⟩ y = .agg xs := by first | ((conv => lhs; whnf) <;> fail "no") | exact rfl) (hg : guardPV ops ⟨n, tm, S⟩ j w = some w := by ((conv => lhs; whnf) <;> fail "no")) :
    PStL P ops Q (⟨some d, .binOp .neq t x y t', ty, pos, af, some (j, w)⟩ :: rest) ⟨n, tm, S⟩ := by
  refine ⟨.v (.bool false), (show GSt P ops _ _ _ from .inl ⟨hg, ?_⟩), k⟩
  refine .sem fun σ' hg' hS => pop_ane_self rfl ?_ ?_ hs ⟨rfl, rfl⟩
  · rw [← hx]; exact (hg' x (by simp [Op.operands])).symm
  · rw [← hy]; exact (hg' y (by simp [Op.operands])).symm
end
end Go.Proofs.Ytfjodfeoncoaoaa.Pv
