-- A range over a text: its iterator is a block of one's own.
import Derived.Test.YtenoecffjfcifaaDoorPvT
import Derived.Laws.RangeAny
namespace Go.Proofs.YtenoecffjfcifaaDoor.Pv
set_option linter.all false
open Go.RowKit Go.Proofs
set_option maxRecDepth 100000
set_option maxHeartbeats 4000000
theorem relV_vals {c : Cx} (l : List Value) : RelV c (.tup (l.map .v)) (.tuple l.toArray) :=
  .tup _ _ (by simp) fun i x v hx hv => by
    rw [List.getElem?_map] at hx
    have hv' : l[i]? = some v := by simpa using hv
    rw [hv'] at hx
    cases hx
    exact .v v
theorem pop_rangeS {P : Program} {σ : PS} {o : Oper} {K : PV → List Blk → Prop} {t : TypeId} {x : Operand} {s : ByteArray} (ho : o.op = .range t x) (ht : P.underlying t = some .string) (hx : σ.get x = .v (.string s))
    (hK : ∀ g, K (.it σ.S.length g) (σ.S ++ [⟨g, true, 0, [[.v (.string s), .v (.int .i64 ((0 : Nat) : Int))]]⟩])) : PopSem P σ o K :=
  pop_of_run fun c a r => by
    obtain ⟨h1, h2⟩ := pushBlk0 r.inv (c.w.alloc (.stringIter s 0)) ⟨c.N, true, 0, [[.v (.string s), .v (.int .i64 ((0 : Nat) : Int))]]⟩ (some (c.w.heap.size, 0)) rfl rfl rfl (by simp) (fun b hb => heap_alloc_old c.w _ b hb) rfl (fun h => by cases h)
      (fun q hq => by
        cases hq
        exact ⟨Nat.le_refl _, .inr ⟨rfl, .inr ⟨s, 0, rfl, heap_alloc_new c.w _⟩⟩⟩)
    have hrx := r.get x
    rw [hx] at hrx
    generalize hax : a.eval x = vx at hrx
    cases hrx
    refine ⟨_, _, .pointer (some ⟨c.w.heap.size, 0, none⟩), ?_, by simp only [r.S]; exact hK _, h1, h2, .it _ _ _ rfl (Nat.lt_succ_self _) (fun blk hb _ => ?_)⟩
    · simp only [execOp, ho, hax]
      refine mk_run ?_
      exact run_range_string c.w t s ht
    · simp only [← r.S] at hb
      rw [List.getElem?_append_right (Nat.le_refl _), Nat.sub_self] at hb
      exact ⟨(c.w.heap.size, 0), by simp [r.S], rfl⟩
theorem pop_nextS {P : Program} {σ : PS} {o : Oper} {K : PV → List Blk → Prop} {it : Operand} {τ g : Nat} {s : ByteArray} {pos : Nat} (ho : o.op = .next it true) (hit : σ.get it = .it τ g) (hb : σ.S[τ]? = some ⟨g, true, 0, [[.v (.string s), .v (.int .i64 pos)]]⟩) (hlt : pos < s.size)
    (hK : K (.tup [.v (.bool true), .v (.int .i64 pos), .v (.int .i32 (Utf8.decode s pos).1)]) (σ.S.set τ ⟨g, true, 0, [[.v (.string s), .v (.int .i64 ((pos + (Utf8.decode s pos).2 : Nat) : Int))]]⟩)) : PopSem P σ o K :=
  pop_of_run fun c a r => by
    have hb' : c.S[τ]? = some ⟨g, true, 0, [[.v (.string s), .v (.int .i64 pos)]]⟩ := by rw [r.S]; exact hb
    have hB := r.inv.blk τ _ hb'
    have hri := r.get it
    rw [hit] at hri
    generalize hai : a.eval it = vi at hri
    cases hri with
    | it _ _ _ hy hN hv =>
      obtain ⟨p, hp, rfl⟩ := hv _ hb' rfl
      rcases hB.heap p hp with ⟨hl, _⟩ | ⟨_, ho2⟩
      · have := hl 0 _ rfl
        simp at this
      · have h2 := ObjOk.asIter ho2
        have hlp : p.1 < c.w.heap.size := (Array.getElem?_eq_some_iff.1 h2).1
        have g1 : (c.w.heap.setIfInBounds p.1 (.stringIter s (pos + (Utf8.decode s pos).2)))[p.1]? = some (.stringIter s (pos + (Utf8.decode s pos).2)) := by
          rw [Array.getElem?_setIfInBounds_self_of_lt hlp]
        have g2 : ∀ b, b ≠ p.1 → (c.w.heap.setIfInBounds p.1 (.stringIter s (pos + (Utf8.decode s pos).2)))[b]? = c.w.heap[b]? := fun b hne => Array.getElem?_setIfInBounds_ne (fun e => hne e.symm)
        obtain ⟨u1, u2⟩ := updBlk0 r.inv hb' rfl { c.w with heap := c.w.heap.setIfInBounds p.1 (.stringIter s (pos + (Utf8.decode s pos).2)) } p ⟨g, true, 0, [[.v (.string s), .v (.int .i64 ((pos + (Utf8.decode s pos).2 : Nat) : Int))]]⟩ c.N rfl rfl rfl (by simp)
          (fun b hb hne => g2 b (hne p hp)) (fun q cs e fz hq hh => by
            rw [hp] at hq
            cases hq
            rw [h2] at hh
            cases hh) (.inl ⟨p, hp, rfl⟩) (Nat.le_refl _) hB.gen (fun _ => ⟨rfl, hp, rfl, rfl⟩) (.inr ⟨rfl, .inr ⟨s, _, rfl, g1⟩⟩)
        refine ⟨_, _, .tuple #[.bool true, .int .i64 pos, .int .i32 (Utf8.decode s pos).1], ?_, by simp only [r.S]; exact hK, u1, u2, relV_vals [.bool true, .int .i64 pos, .int .i32 (Utf8.decode s pos).1]⟩
        simp only [execOp, ho, hai]
        refine mk_run ?_
        simp [Instr.next, getObj, setObj, Sem.run_bind, Sem.run, h2, Result.andThen, hlt, goInt]
theorem pop_nextE {P : Program} {σ : PS} {o : Oper} {K : PV → List Blk → Prop} {it : Operand} {τ g : Nat} {s : ByteArray} {pos : Nat} (ho : o.op = .next it true) (hit : σ.get it = .it τ g) (hb : σ.S[τ]? = some ⟨g, true, 0, [[.v (.string s), .v (.int .i64 pos)]]⟩) (hlt : ¬ pos < s.size)
    (hK : K (.tup [.v (.bool false)]) σ.S) : PopSem P σ o K :=
  pop_of_run fun c a r => by
    have hb' : c.S[τ]? = some ⟨g, true, 0, [[.v (.string s), .v (.int .i64 pos)]]⟩ := by rw [r.S]; exact hb
    have hB := r.inv.blk τ _ hb'
    have hri := r.get it
    rw [hit] at hri
    generalize hai : a.eval it = vi at hri
    cases hri with
    | it _ _ _ hy hN hv =>
      obtain ⟨p, hp, rfl⟩ := hv _ hb' rfl
      rcases hB.heap p hp with ⟨hl, _⟩ | ⟨_, ho2⟩
      · have := hl 0 _ rfl
        simp at this
      · have h2 := ObjOk.asIter ho2
        refine ⟨_, c, .tuple #[.bool false], ?_, by rw [r.S]; exact hK, r.inv, .refl c, relV_vals [.bool false]⟩
        simp only [execOp, ho, hai]
        refine mk_run ?_
        simp [Instr.next, getObj, Sem.run_bind, Sem.run, h2, Result.andThen, hlt]
section
variable {P : Program} {ops : List Oper} {Q : PS → Prop} {rest : List Oper} {n : Nat} {tm : List (Nat × PV)} {S S' : List Blk} {d : Tmp} {ty : TypeId} {pos : String} {af : Array Edge} {t : TypeId} {x it : Operand} {s : ByteArray}
theorem ps_rangeS [ht : Und P t .string] {m : Nat} {S' : Nat → List Blk} (k : ∀ g, Pops P ops Q rest ⟨n, (d, .it m g) :: tm, S' g⟩) (hx : PS.get ⟨n, tm, S⟩ x = .v (.string s) := by ((conv => lhs; whnf) <;> fail "no")) (hm : S.length = m := by first | (simp only [List.length_cons, List.length_nil, Nat.reduceAdd, Nat.zero_add]; exact rfl) | exact rfl)
    (hS : ∀ g, S ++ [⟨g, true, 0, [[.v (.string s), .v (.int .i64 ((0 : Nat) : Int))]]⟩] = S' g := by intro g_; first | (simp only [List.cons_append, List.nil_append]; exact rfl) | exact rfl) :
    Pops P ops Q (⟨some d, .range t x, ty, pos, af, none⟩ :: rest) ⟨n, tm, S⟩ := by
  subst hm
  exact pops_one rfl (pop_rangeS rfl ht.h hx fun g => by rw [hS g]; exact k g)
theorem ps_nextS {τ g q : Nat} (k : Pops P ops Q rest ⟨n, (d, .tup [.v (.bool true), .v (.int .i64 q), .v (.int .i32 (Utf8.decode s q).1)]) :: tm, S'⟩) (hlt : q < s.size) (hi : PS.get ⟨n, tm, S⟩ it = .it τ g := by ((conv => lhs; whnf) <;> fail "no")) (hb : S[τ]? = some ⟨g, true, 0, [[.v (.string s), .v (.int .i64 q)]]⟩ := by rfl)
    (hS : S.set τ ⟨g, true, 0, [[.v (.string s), .v (.int .i64 ((q + (Utf8.decode s q).2 : Nat) : Int))]]⟩ = S' := by first | (simp only [List.set_cons_zero, List.set_cons_succ]; exact rfl) | exact rfl) :
    Pops P ops Q (⟨some d, .next it true, ty, pos, af, none⟩ :: rest) ⟨n, tm, S⟩ :=
  pops_one rfl (pop_nextS rfl hi hb hlt (by rw [hS]; exact k))
theorem ps_nextE {τ g q : Nat} (k : Pops P ops Q rest ⟨n, (d, .tup [.v (.bool false)]) :: tm, S⟩) (hlt : ¬ q < s.size) (hi : PS.get ⟨n, tm, S⟩ it = .it τ g := by ((conv => lhs; whnf) <;> fail "no")) (hb : S[τ]? = some ⟨g, true, 0, [[.v (.string s), .v (.int .i64 q)]]⟩ := by rfl) :
    Pops P ops Q (⟨some d, .next it true, ty, pos, af, none⟩ :: rest) ⟨n, tm, S⟩ :=
  pops_one rfl (pop_nextE rfl hi hb hlt k)
end
end Go.Proofs.YtenoecffjfcifaaDoor.Pv
