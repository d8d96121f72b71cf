-- A pointer to what is written no more; calls through function values.
import Derived.Test.YtenoecffjfcifaaDoorFz
namespace Go.Proofs.YtenoecffjfcifaaDoor.Pv
set_option linter.all false
open Go.RowKit Go.Proofs
set_option maxRecDepth 100000
set_option maxHeartbeats 4000000
theorem ptr_frel {c : Cx} (hi : Inv c) {τ g i off : Nat} {blk : Blk} {row : List PV} {v : Value} (hr : RelV c (.ptr τ g i off) v) (hb : c.S[τ]? = some blk) (hg : blk.gen = g) (ho : blk.own = false) (hrow : blk.rows[i]? = some row) (hp : ∀ x ∈ row, PV.Pure x) : RelV c (.rp row off) v := by
  cases hr with
  | ptr _ _ _ _ y hy hN h =>
    obtain ⟨h1, p, hβ, rfl, hcel⟩ := h _ hb hg
    obtain ⟨hl, cs, et, fz, k1, k2, k3, k4⟩ := ((hi.blk τ _ hb).heap p hβ).cells hcel
    have hX : ¬ c.X p.1 := by
      rintro (h | ⟨τ', blk', p', g1, g2, g3, g4⟩)
      · exact hi.notG τ _ p hb hβ h
      · have e := hi.inj τ' τ blk' _ p' p g1 hb g2 g3 hβ g4
        subst e
        rw [hb] at g1
        cases g1
        rw [ho] at g2
        cases g2
    rw [show p.2 + (i * blk.sz + off) = (p.2 + i * blk.sz) + off by omega]
    refine RelV.rp row off p.1 (p.2 + i * blk.sz) (fun j => (cs[p.2 + (i * blk.sz + j)]?).getD default) (fun j x hx => ?_) (fun j x hx => hp x (List.mem_of_getElem? hx)) (fun j x hx => ?_)
    · obtain ⟨v, v1, v2, v3⟩ := k3 i row j x hrow hx
      refine ⟨hX, ?_, by simp only [v1]; exact v2⟩
      rw [cell_of k1, show p.2 + i * blk.sz + j = p.2 + (i * blk.sz + j) by omega, v1]
      rfl
    · obtain ⟨v, v1, v2, v3⟩ := k3 i row j x hrow hx
      simp only [v1]
      exact v3
theorem Rel.fzP {c : Cx} {n : Nat} {tm : List (Nat × PV)} {S : List Blk} {a : Act} (r : Rel c ⟨n, tm, S⟩ a) (t : Nat) {τ g i off : Nat} {blk : Blk} {row : List PV} (ht : look t tm = .ptr τ g i off) (hb : S[τ]? = some blk) (hg : blk.gen = g) (ho : blk.own = false) (hrow : blk.rows[i]? = some row) (hp : ∀ x ∈ row, PV.Pure x) : Rel c ⟨n, (t, .rp row off) :: tm, S⟩ a := by
  have hS : c.S = S := r.S
  refine ⟨r.S, r.inv, r.n, r.defers, fun s => ?_⟩
  simp only [look]
  split
  · rename_i e
    subst e
    have := r.tm s
    simp only [ht] at this
    exact ptr_frel r.inv this (by rw [hS]; exact hb) hg ho hrow hp
  · exact r.tm s
section
variable {P : Program} {n : Nat} {tm : List (Nat × PV)} {S S' : List Blk}
/-- A pointer to a block that is written no more is one that is only read through. -/
theorem kfzP {c : Code} {l : List Code} {Q : Exit → PS → Prop} (t : Nat) {τ g i off : Nat} {blk : Blk} {row : List PV} (k : Tk P (c :: l) ⟨n, (t, .rp row off) :: tm, S⟩ Q) (hp : ∀ x ∈ row, PV.Pure x) (ht : look t tm = .ptr τ g i off := by ((conv => lhs; whnf) <;> exact rfl)) (hb : S[τ]? = some blk := by ((conv => lhs; whnf) <;> fail "no")) (hg : blk.gen = g := by rfl) (ho : blk.own = false := by rfl) (hrow : blk.rows[i]? = some row := by exact rfl) : Tk P (c :: l) ⟨n, tm, S⟩ Q :=
  tr_rel (T := fun g => ⟨n, (t, .rp row off) :: tm, S⟩) (fun c a r => ⟨c, Step.refl c, rfl, r.fzP t ht hb hg ho hrow hp⟩) (fun g => k)
variable {ops : List Oper} {Q : PS → Prop} {rest : List Oper} {d : Tmp} {ty : TypeId} {pos : String} {af : Array Edge}
theorem ps_vpcall {f : FuncId} [hf : FnOk P f] {fo : Operand} {first captured : List PV} {args : Array Operand} {ats : Array TypeId} {us : List PV} {r : PV} (h : PCall P f (first ++ us ++ captured) r) (k : Pops P ops Q rest ⟨n, (d, r) :: tm, S⟩) (hv : PS.get ⟨n, tm, S⟩ fo = .fn (.func f) first captured := by ((conv => lhs; whnf) <;> fail "no")) (ha : args.toList.map (PS.get ⟨n, tm, S⟩) = us := by first | rfl | (simp only [List.map_cons, List.map_nil, PS.get, look, ↓reduceIte, Nat.reduceEqDiff, reduceCtorEq]; exact rfl)) :
    Pops P ops Q (⟨some d, .call ⟨.value fo, args, ats⟩, ty, pos, af, none⟩ :: rest) ⟨n, tm, S⟩ :=
  ps_vcall (R := fun x S' => x = r ∧ S' = S) (h.any S) (fun x S' ⟨e1, e2⟩ => by subst e1 e2; exact k) hv ha
end
instance fnPureG (f : Fn) (a b : List PV) [ha : PureL a] [hb : PureL b] : PureC (.fn f a b) := ⟨.fn ha.h hb.h⟩
instance rpPure (row : List PV) (off : Nat) [h : PureL row] : PureC (.rp row off) := ⟨.rp h.h⟩
end Go.Proofs.YtenoecffjfcifaaDoor.Pv
