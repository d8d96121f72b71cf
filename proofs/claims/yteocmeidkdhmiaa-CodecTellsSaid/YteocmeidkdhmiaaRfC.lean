-- The contract of an iterator; the statement that ranges over one.
import Derived.Test.YteocmeidkdhmiaaRfB
namespace Go.Proofs.Yteocmeidkdhmiaa.Pv
set_option linter.all false
set_option linter.unusedVariables false
open Go.RowKit Go.Proofs
/-- An iterator: it calls yield with such items, one by one, till it is told 'no more'. -/
def SeqIt (P : Program) (gf : FuncId) (caps : List PV) (items : List (List PV)) : Prop :=
  ∀ (l : Nat) (JS : Option Nat → Cx → Prop), (∀ s, Stable (JS s)) → Rounds P l JS items → ∀ (c : Cx) (lb : Array Value), JS (some 0) c → Inv c → lb.size = caps.length → (∀ (i : Nat) (x : PV) (v : Value), caps[i]? = some x → lb[i]? = some v → RelV c x v) →
    Calls P gf (#[.func (.yield l) #[] #[]] ++ lb) c.w fun e w' => ∃ v c', e = .returned v ∧ c'.w = w' ∧ Inv c' ∧ (JS (some items.length) c' ∨ JS none c')
theorem seqIt_mk {P : Program} {gf : FuncId} {fn : Func} {code : Code} {caps : List PV} {items : List (List PV)} (hf : P.funcs[gf]? = some fn) (hb : fn.body = some code) (hr : fn.results = #[]) (n : Nat) (hn : 1 + caps.length + (fn.ntmps - (1 + caps.length)) = n) (hp : ∀ x ∈ caps, x.Pure)
    (h : ∀ (l : Nat) (JS : Option Nat → Cx → Prop), (∀ s, Stable (JS s)) → Rounds P l JS items → TI P JS code ⟨n, argTm 0 (.v (.func (.yield l) #[] #[]) :: caps), []⟩ (some 0) (fun e σ s => (e = .normal ∨ e = .ret) ∧ (s = some items.length ∨ s = none))) : SeqIt P gf caps items := by
  intro l JS hJ hR c lb hj hi hs hv
  refine calls_of_wp hf hb ?_
  have r : Rel c.lent0 ⟨n, argTm 0 (.v (.func (.yield l) #[] #[]) :: caps), []⟩ { tmps := (#[.func (.yield l) #[] #[]] ++ lb) ++ Array.replicate (fn.ntmps - (#[Value.func (.yield l) #[] #[]] ++ lb).size) Go.undef, defers := [] } := by
    refine ⟨rfl, lent0_inv hi, by simp [hs]; omega, .nil _, fun t => ?_⟩
    rw [look_argTm, if_pos (Nat.zero_le _), Nat.sub_zero]
    cases hx : (PV.v (.func (.yield l) #[] #[]) :: caps)[t]? with
    | none => exact .undef _
    | some x =>
      have hlt : t < (#[Value.func (.yield l) #[] #[]] ++ lb).size := by
        have := (List.getElem?_eq_some_iff.1 hx).1
        simp [hs] at this ⊢
        omega
      have hv' := Array.getElem?_eq_getElem hlt
      have : ((#[Value.func (.yield l) #[] #[]] ++ lb) ++ Array.replicate (fn.ntmps - (#[Value.func (.yield l) #[] #[]] ++ lb).size) Go.undef).getD t Go.undef = (#[Value.func (.yield l) #[] #[]] ++ lb)[t] := by
        rw [Array.getD_eq_getD_getElem?, Array.getElem?_append_left hlt, hv']
        rfl
      simp only [this]
      cases t with
      | zero =>
        simp at hx
        subst hx
        rw [Array.getElem_append_left (by simp)]
        exact .v _
      | succ t =>
        have hx' : caps[t]? = some x := by simpa using hx
        have ht : t < lb.size := by rw [hs]; exact (List.getElem?_eq_some_iff.1 hx').1
        have e : (#[Value.func (.yield l) #[] #[]] ++ lb)[t + 1] = lb[t] := by
          rw [Array.getElem_append_right (by simp)]
          simp
        rw [e]
        exact RelV.lent0 (hp x (List.mem_of_getElem? hx')) (hv t x _ hx' (Array.getElem?_eq_getElem ht))
  refine wp_mono (wpIn_wide.1 (h l JS hJ hR 0 _ c.w ⟨c, rfl, hi, hj, r, rfl⟩)) ?_
  rintro e a w ⟨σ', s', ⟨c', rfl, i', j', r', d'⟩, he, hs'⟩
  have key : a.defers = [] ∧ ∃ v, (results fn a.tmps).run P c'.w = .ok v c'.w ∧ ∃ v' c'', Ending.returned v = .returned v' ∧ c''.w = c'.w ∧ Inv c'' ∧ (JS (some items.length) c'' ∨ JS none c'') := by
    obtain ⟨v, g1, g2⟩ := retPV_run (P := P) r' fn (x := .tup []) (by rw [hr]; rfl)
    refine ⟨d', v, g1, v, c', rfl, rfl, i', ?_⟩
    rcases hs' with rfl | rfl
    · exact .inl j'
    · exact .inr j'
  rcases he with rfl | rfl
  · exact key
  · exact key
theorem turn_put {c : Cx} {l : Nat} {o : Obj} (o' : Obj) (hb : c.w.heap[l]? = some o) (hm : memObj o = false) : Turn c { c with w := c.w.putObj l o' } :=
  ⟨rfl, rfl, rfl, fun _ _ _ _ h => h, fun b ob hob hmb => by
    rw [← hob]
    refine World.putObj_heap_other ?_
    rintro rfl
    rw [hb] at hob
    cases hob
    rw [hm] at hmb
    cases hmb⟩
theorem inv_put {c : Cx} (hi : Inv c) {l : Nat} {o : Obj} (o' : Obj) (hb : c.w.heap[l]? = some o) (hm : memObj o = false) : Inv { c with w := c.w.putObj l o' } :=
  hi.turn (turn_put o' hb hm) (fun b hb => by show b < (c.w.putObj l o').heap.size; rw [World.putObj_size]; exact hi.gLt b hb)
theorem step_put {c0 c : Cx} (h : Step c0 c) {l : Nat} (o' : Obj) (hl : c0.w.heap.size ≤ l) : Step c0 { c with w := c.w.putObj l o' } :=
  ⟨h.G, h.os, h.tape, h.output, by show _ ≤ (c.w.putObj l o').heap.size; rw [World.putObj_size]; exact h.size, h.N, fun b hb ho => (World.putObj_heap_other (by omega)).trans (h.blocks b hb ho), h.ent, h.own, fun b cs e fz hc => by
    obtain ⟨cs', fz', k1, k2⟩ := h.cells b cs e fz hc
    have := (Array.getElem?_eq_some_iff.1 hc).1
    exact ⟨cs', fz', (World.putObj_heap_other (by omega)).trans k1, k2⟩⟩
theorem step_alloc (c : Cx) (hi : Inv c) (o : Obj) : Step c { c with w := c.w.alloc o } ∧ Inv { c with w := c.w.alloc o } := by
  have hb : ∀ b, b < c.w.heap.size → (c.w.alloc o).heap[b]? = c.w.heap[b]? := fun b hb => Below.heap_alloc c.w o b hb
  have hs : c.w.heap.size ≤ (c.w.alloc o).heap.size := by rw [World.size_alloc]; omega
  refine ⟨⟨rfl, rfl, rfl, rfl, hs, Nat.le_refl _, fun b h _ => hb b h, fun τ blk h _ => ⟨blk, h, rfl, rfl, rfl, rfl⟩, fun b h => .inl h, fun b cs e fz h => ⟨cs, fz, (hb b (Array.getElem?_eq_some_iff.1 h).1).trans h, rfl⟩⟩, ?_⟩
  exact Inv.turn (c := c) (c' := { c with w := c.w.alloc o }) ⟨rfl, rfl, rfl, fun _ _ _ _ h => h, fun b ob h _ => (hb b (Array.getElem?_eq_some_iff.1 h).1).trans h⟩ hi (fun b h => Nat.lt_of_lt_of_le (hi.gLt b h) hs)
theorem defOk_put {c : Cx} {ds : List Deferred} (h : DefOk c ds) {l : Nat} {r : Loop} (o' : Obj) (hb : c.w.heap[l]? = some (.loop r)) : DefOk { c with w := c.w.putObj l o' } ds := by
  obtain ⟨Ds, h1, h2, h3⟩ := h
  refine ⟨Ds, h1, h2, fun D hD => ?_⟩
  obtain ⟨k1, k2⟩ := h3 D hD
  exact ⟨(World.putObj_heap_other (by rintro rfl; rw [hb] at k1; cases k1)).trans k1, k2⟩
/-- What the loop's record knows. -/
def recOf (fn : FuncId) (tmps : Array Value) (ps : Array Tmp) (assign body : Code) (D : Nat) (st : LoopState) (pe : Option Code) : Loop := { state := st, pending := pe, fn, tmps, params := ps, assign, body, defers := D }
def setTm : List Tmp → List PV → List (Nat × PV) → List (Nat × PV)
  | p :: ps, x :: xs, tm => setTm ps xs ((p, x) :: tm)
  | _, _, tm => tm
theorem fold_rel {c : Cx} {n : Nat} : ∀ (ps : List Tmp) (vs : List Value) (item : List PV) (tm : List (Nat × PV)) (tmps : Array Value), (∀ p ∈ ps, p < n) → tmps.size = n → vs.length = item.length → (∀ (i : Nat) (x : PV) (v : Value), item[i]? = some x → vs[i]? = some v → RelV c x v) → (∀ t, RelV c (look t tm) (tmps.getD t Go.undef)) →
    ((ps.zip vs).foldl (fun t (p, v) => t.setIfInBounds p v) tmps).size = n ∧ ∀ t, RelV c (look t (setTm ps item tm)) (((ps.zip vs).foldl (fun t (p, v) => t.setIfInBounds p v) tmps).getD t Go.undef)
  | [], vs, item, tm, tmps, _, hn, _, _, h => by simp only [List.zip_nil_left, List.foldl_nil, setTm]; exact ⟨hn, h⟩
  | p :: ps, [], [], tm, tmps, _, hn, _, _, h => by simp only [List.zip_nil_right, List.foldl_nil, setTm]; exact ⟨hn, h⟩
  | p :: ps, [], x :: item, tm, tmps, _, hn, hl, _, h => by simp at hl
  | p :: ps, v :: vs, [], tm, tmps, _, hn, hl, _, h => by simp at hl
  | p :: ps, v :: vs, x :: item, tm, tmps, hp, hn, hl, hr, h => by
    simp only [List.zip_cons_cons, List.foldl_cons, setTm]
    refine fold_rel ps vs item ((p, x) :: tm) _ (fun q hq => hp q (by simp [hq])) (by simp [hn]) (by simpa using hl) (fun i y u h1 h2 => hr (i + 1) y u (by simpa using h1) (by simpa using h2)) (fun t => ?_)
    simp only [look]
    split
    · rename_i e; subst e
      rw [Array.getD_eq_getD_getElem?, Array.getElem?_setIfInBounds_self_of_lt (by rw [hn]; exact hp _ (by simp))]
      exact hr 0 x v rfl rfl
    · rename_i e
      rw [Array.getD_eq_getD_getElem?, Array.getElem?_setIfInBounds_ne (fun h => e h.symm), ← Array.getD_eq_getD_getElem?]
      exact h t
/-- What a round leaves. -/
def roundQ {α : Type} (Sf : α → List Blk) (V : Nat → α → Prop) (QR : List Blk → Prop) (k : Nat) : Exit → PS → Prop
  | .normal, σ => ∃ s', V (k + 1) s' ∧ ∃ j, σ.S.take j = Sf s'
  | .ret, σ => QR σ.S
  | _, _ => False
section
variable {P : Program} {α : Type} (Sf : α → List Blk) (V : Nat → α → Prop) (QR : List Blk → Prop) (c0 : Cx) (fn : FuncId) (tmps : Array Value) (ps : Array Tmp) (assign body : Code) (D l : Nat)
def LoopJ : Option Nat → Cx → Prop
  | some k, c => Step c0 c ∧ c.w.heap[l]? = some (.loop (recOf fn tmps ps assign body D .ready none)) ∧ c.w.heap[D]? = some (.deferred (some [])) ∧ ∃ s, V k s ∧ c.S = Sf s
  | none, c => Step c0 c ∧ c.w.heap[l]? = some (.loop (recOf fn tmps ps assign body D .done (some .ret))) ∧ c.w.heap[D]? = some (.deferred (some [])) ∧ QR c.S
theorem loopJ_stable (s : Option Nat) : Stable (LoopJ Sf V QR c0 fn tmps ps assign body D l s) := by
  intro c w' hj hi hi' hst
  have keep : ∀ (b : Nat) (o : Obj), c.w.heap[b]? = some o → memObj o = false → w'.heap[b]? = some o := fun b o hb hm => (hst.blocks b (Array.getElem?_eq_some_iff.1 hb).1 (notOwn_of hi hb hm)).trans hb
  cases s with
  | some k =>
    obtain ⟨h1, h2, h3, h4⟩ := hj
    exact ⟨h1.trans hst, keep _ _ h2 rfl, keep _ _ h3 rfl, h4⟩
  | none =>
    obtain ⟨h1, h2, h3, h4⟩ := hj
    exact ⟨h1.trans hst, keep _ _ h2 rfl, keep _ _ h3 rfl, h4⟩
end
end Go.Proofs.Yteocmeidkdhmiaa.Pv
