-- The contract of an iterator with memory of its own; the statement that ranges over one.
import Derived.Test.YtenoecffjfcifaaDoorRgB
namespace Go.Proofs.YtenoecffjfcifaaDoor.Pv
set_option linter.all false
set_option linter.unusedVariables false
open Go.RowKit Go.Proofs
/-- An iterator, its blocks B: it calls yield with such items, one by one, till it is told 'no more'. -/
def SeqItB (P : Program) (gf : FuncId) (caps : List PV) (B : List Blk) (items : List (List PV)) : Prop :=
  ∀ (l : Nat) (H : Nat → Prop) (JS : Option Nat → Cx → Prop), (∀ s, StabH H (JS s)) → RoundsB P l JS items → ∀ (cA cB : Cx) (lb : Array Value), JS (some 0) cA → Apart H cA cB → Inv cA → Inv cB → cB.S = B → lb.size = caps.length → (∀ (i : Nat) (x : PV) (v : Value), caps[i]? = some x → lb[i]? = some v → RelV cB x v) →
    Calls P gf (#[.func (.yield l) #[] #[]] ++ lb) cA.w fun e w' => ∃ v c', e = .returned v ∧ c'.w = w' ∧ Inv c' ∧ (JS (some items.length) c' ∨ JS none c')
theorem seqItB_mk {P : Program} {gf : FuncId} {fn : Func} {code : Code} {caps : List PV} {B : List Blk} {items : List (List PV)} (hf : P.funcs[gf]? = some fn) (hb : fn.body = some code) (hr : fn.results = #[]) (n : Nat) (hn : 1 + caps.length + (fn.ntmps - (1 + caps.length)) = n)
    (h : ∀ (l : Nat) (H : Nat → Prop) (JS : Option Nat → Cx → Prop), (∀ s, StabH H (JS s)) → RoundsB P l JS items → TIB P H JS code ⟨n, argTm 0 (.v (.func (.yield l) #[] #[]) :: caps), B⟩ (some 0) (fun e σ s => (e = .normal ∨ e = .ret) ∧ (s = some items.length ∨ s = none))) : SeqItB P gf caps B items := by
  intro l H JS hJ hR cA cB lb hj hap iA iB hSB hs hv
  refine calls_of_wp hf hb ?_
  have r : Rel cB ⟨n, argTm 0 (.v (.func (.yield l) #[] #[]) :: caps), B⟩ { tmps := (#[.func (.yield l) #[] #[]] ++ lb) ++ Array.replicate (fn.ntmps - (#[Value.func (.yield l) #[] #[]] ++ lb).size) Go.undef, defers := [] } := by
    refine ⟨hSB, iB, by simp [hs]; omega, .nil _, fun t => ?_⟩
    rw [look_argTm, if_pos (Nat.zero_le _), Nat.sub_zero]
    cases hx : (PV.v (.func (.yield l) #[] #[]) :: caps)[t]? with
    | none => exact .undef _
    | some x =>
      have hlt : t < (#[Value.func (.yield l) #[] #[]] ++ lb).size := by
        have := (List.getElem?_eq_some_iff.1 hx).1
        simp [hs] at this ⊢
        omega
      have hv' := Array.getElem?_eq_getElem hlt
      have : ((#[Value.func (.yield l) #[] #[]] ++ lb) ++ Array.replicate (fn.ntmps - (#[Value.func (.yield l) #[] #[]] ++ lb).size) Go.undef).getD t Go.undef = (#[Value.func (.yield l) #[] #[]] ++ lb)[t] := by
        rw [Array.getD_eq_getD_getElem?, Array.getElem?_append_left hlt, hv']
        rfl
      simp only [this]
      cases t with
      | zero =>
        simp at hx
        subst hx
        rw [Array.getElem_append_left (by simp)]
        exact .v _
      | succ t =>
        have hx' : caps[t]? = some x := by simpa using hx
        have ht : t < lb.size := by rw [hs]; exact (List.getElem?_eq_some_iff.1 hx').1
        have e : (#[Value.func (.yield l) #[] #[]] ++ lb)[t + 1] = lb[t] := by
          rw [Array.getElem_append_right (by simp)]
          simp
        rw [e]
        exact hv t x _ hx' (Array.getElem?_eq_getElem ht)
  refine wp_mono (wpIn_wide.1 (h l H JS hJ hR 0 _ cA.w ⟨cA, cB, rfl, hap, iA, hj, r, rfl⟩)) ?_
  rintro e a w ⟨σ', s', ⟨cA', cB', rfl, p', i', j', r', d'⟩, he, hs'⟩
  have key : a.defers = [] ∧ ∃ v, (results fn a.tmps).run P cA'.w = .ok v cA'.w ∧ ∃ v' c'', Ending.returned v = .returned v' ∧ c''.w = cA'.w ∧ Inv c'' ∧ (JS (some items.length) c'' ∨ JS none c'') := by
    obtain ⟨v, g1, g2⟩ := retPV_run (P := P) r' fn (x := .tup []) (by rw [hr]; rfl)
    rw [p'.w] at g1
    refine ⟨d', v, g1, v, cA', rfl, rfl, i', ?_⟩
    rcases hs' with rfl | rfl
    · exact .inl j'
    · exact .inr j'
  rcases he with rfl | rfl
  · exact key
  · exact key
theorem bturn_put {c : Cx} {l : Nat} {o : Obj} (o' : Obj) (hb : c.w.heap[l]? = some o) (hm : memObj o = false) : Turn c { c with w := c.w.putObj l o' } :=
  ⟨rfl, rfl, rfl, fun _ _ _ _ h => h, fun b ob hob hmb => by
    rw [← hob]
    refine World.putObj_heap_other ?_
    rintro rfl
    rw [hb] at hob
    cases hob
    rw [hm] at hmb
    cases hmb⟩
theorem binv_put {c : Cx} (hi : Inv c) {l : Nat} {o : Obj} (o' : Obj) (hb : c.w.heap[l]? = some o) (hm : memObj o = false) : Inv { c with w := c.w.putObj l o' } :=
  hi.turn (bturn_put o' hb hm) (fun b hb => by show b < (c.w.putObj l o').heap.size; rw [World.putObj_size]; exact hi.gLt b hb)
theorem stepH_put {H : Nat → Prop} {c0 c : Cx} (h : StepH H c0 c) {l : Nat} (o' : Obj) (hl : c0.w.heap.size ≤ l) : StepH H c0 { c with w := c.w.putObj l o' } :=
  ⟨h.G, h.os, h.tape, h.output, by show _ ≤ (c.w.putObj l o').heap.size; rw [World.putObj_size]; exact h.size, h.N, fun b hb ho hh => (World.putObj_heap_other (by omega)).trans (h.blocks b hb ho hh), h.ent, h.own, fun b cs e fz hc => by
    obtain ⟨cs', fz', k1, k2⟩ := h.cells b cs e fz hc
    have := (Array.getElem?_eq_some_iff.1 hc).1
    exact ⟨cs', fz', (World.putObj_heap_other (by omega)).trans k1, k2⟩⟩
theorem bstep_alloc (c : Cx) (hi : Inv c) (o : Obj) : Step c { c with w := c.w.alloc o } ∧ Inv { c with w := c.w.alloc o } := by
  have hb : ∀ b, b < c.w.heap.size → (c.w.alloc o).heap[b]? = c.w.heap[b]? := fun b hb => Below.heap_alloc c.w o b hb
  have hs : c.w.heap.size ≤ (c.w.alloc o).heap.size := by rw [World.size_alloc]; omega
  refine ⟨⟨rfl, rfl, rfl, rfl, hs, Nat.le_refl _, fun b h _ => hb b h, fun τ blk h _ => ⟨blk, h, rfl, rfl, rfl, rfl⟩, fun b h => .inl h, fun b cs e fz h => ⟨cs, fz, (hb b (Array.getElem?_eq_some_iff.1 h).1).trans h, rfl⟩⟩, ?_⟩
  exact Inv.turn (c := c) (c' := { c with w := c.w.alloc o }) ⟨rfl, rfl, rfl, fun _ _ _ _ h => h, fun b ob h _ => (hb b (Array.getElem?_eq_some_iff.1 h).1).trans h⟩ hi (fun b h => Nat.lt_of_lt_of_le (hi.gLt b h) hs)
theorem bdefOk_put {c : Cx} {ds : List Deferred} (h : DefOk c ds) {l : Nat} {r : Loop} (o' : Obj) (hb : c.w.heap[l]? = some (.loop r)) : DefOk { c with w := c.w.putObj l o' } ds := by
  obtain ⟨Ds, h1, h2, h3⟩ := h
  refine ⟨Ds, h1, h2, fun D hD => ?_⟩
  obtain ⟨k1, k2⟩ := h3 D hD
  exact ⟨(World.putObj_heap_other (by rintro rfl; rw [hb] at k1; cases k1)).trans k1, k2⟩
/-- What the loop's record knows. -/
def recB (fn : FuncId) (tmps : Array Value) (ps : Array Tmp) (assign body : Code) (D : Nat) (st : LoopState) (pe : Option Code) : Loop := { state := st, pending := pe, fn, tmps, params := ps, assign, body, defers := D }
def setTmB : List Tmp → List PV → List (Nat × PV) → List (Nat × PV)
  | p :: ps, x :: xs, tm => setTmB ps xs ((p, x) :: tm)
  | _, _, tm => tm
theorem foldB_rel {c : Cx} {n : Nat} : ∀ (ps : List Tmp) (vs : List Value) (item : List PV) (tm : List (Nat × PV)) (tmps : Array Value), (∀ p ∈ ps, p < n) → tmps.size = n → vs.length = item.length → (∀ (i : Nat) (x : PV) (v : Value), item[i]? = some x → vs[i]? = some v → RelV c x v) → (∀ t, RelV c (look t tm) (tmps.getD t Go.undef)) →
    ((ps.zip vs).foldl (fun t (p, v) => t.setIfInBounds p v) tmps).size = n ∧ ∀ t, RelV c (look t (setTmB ps item tm)) (((ps.zip vs).foldl (fun t (p, v) => t.setIfInBounds p v) tmps).getD t Go.undef)
  | [], vs, item, tm, tmps, _, hn, _, _, h => by simp only [List.zip_nil_left, List.foldl_nil, setTmB]; exact ⟨hn, h⟩
  | p :: ps, [], [], tm, tmps, _, hn, _, _, h => by simp only [List.zip_nil_right, List.foldl_nil, setTmB]; exact ⟨hn, h⟩
  | p :: ps, [], x :: item, tm, tmps, _, hn, hl, _, h => by simp at hl
  | p :: ps, v :: vs, [], tm, tmps, _, hn, hl, _, h => by simp at hl
  | p :: ps, v :: vs, x :: item, tm, tmps, hp, hn, hl, hr, h => by
    simp only [List.zip_cons_cons, List.foldl_cons, setTmB]
    refine foldB_rel ps vs item ((p, x) :: tm) _ (fun q hq => hp q (by simp [hq])) (by simp [hn]) (by simpa using hl) (fun i y u h1 h2 => hr (i + 1) y u (by simpa using h1) (by simpa using h2)) (fun t => ?_)
    simp only [look]
    split
    · rename_i e; subst e
      rw [Array.getD_eq_getD_getElem?, Array.getElem?_setIfInBounds_self_of_lt (by rw [hn]; exact hp _ (by simp))]
      exact hr 0 x v rfl rfl
    · rename_i e
      rw [Array.getD_eq_getD_getElem?, Array.getElem?_setIfInBounds_ne (fun h => e h.symm), ← Array.getD_eq_getD_getElem?]
      exact h t
/-- What a round leaves. -/
def roundB {α : Type} (Sf : α → List Blk) (V : Nat → α → Prop) (QR : List Blk → Prop) (k : Nat) : Exit → PS → Prop
  | .normal, σ => ∃ s', V (k + 1) s' ∧ ∃ j, σ.S.take j = Sf s'
  | .ret, σ => QR σ.S
  | _, _ => False
section
variable {P : Program} {α : Type} (H : Nat → Prop) (Sf : α → List Blk) (V : Nat → α → Prop) (QR : List Blk → Prop) (c0 : Cx) (fn : FuncId) (tmps : Array Value) (ps : Array Tmp) (assign body : Code) (D l : Nat)
def LoopB : Option Nat → Cx → Prop
  | some k, c => StepH H c0 c ∧ c.w.heap[l]? = some (.loop (recB fn tmps ps assign body D .ready none)) ∧ c.w.heap[D]? = some (.deferred (some [])) ∧ ∃ s, V k s ∧ c.S = Sf s
  | none, c => StepH H c0 c ∧ c.w.heap[l]? = some (.loop (recB fn tmps ps assign body D .done (some .ret))) ∧ c.w.heap[D]? = some (.deferred (some [])) ∧ QR c.S
theorem loopB_stable (hl0 : c0.w.heap.size ≤ l) (hD0 : ∀ b, H b → b ≠ D) (hlt : ∀ b, H b → b < c0.w.heap.size) (s : Option Nat) : StabH H (LoopB H Sf V QR c0 fn tmps ps assign body D l s) := by
  intro c w' hj hi hi' hst
  have keep : ∀ (b : Nat) (o : Obj), ¬ H b → c.w.heap[b]? = some o → memObj o = false → w'.heap[b]? = some o := fun b o hh hb hm => (hst.blocks b (Array.getElem?_eq_some_iff.1 hb).1 (notOwn_of hi hb hm) hh).trans hb
  have hHl : ¬ H l := fun h => by have := hlt l h; omega
  have hHD : ¬ H D := fun h => hD0 D h rfl
  cases s with
  | some k =>
    obtain ⟨h1, h2, h3, h4⟩ := hj
    exact ⟨h1.trans hst, keep _ _ hHl h2 rfl, keep _ _ hHD h3 rfl, h4⟩
  | none =>
    obtain ⟨h1, h2, h3, h4⟩ := hj
    exact ⟨h1.trans hst, keep _ _ hHl h2 rfl, keep _ _ hHD h3 rfl, h4⟩
end
theorem loopB_rounds {P : Program} {α : Type} {H : Nat → Prop} {Sf : α → List Blk} {V : Nat → α → Prop} {QR : List Blk → Prop} {c0 : Cx} (hH : ∀ b, H b → c0.G b) {fn : FuncId} {tmps : Array Value} {ps : Array Tmp} {assign body : Code} {D l n : Nat} {tm : List (Nat × PV)} {items : List (List PV)}
    (hl0 : c0.w.heap.size ≤ l) (hlD : l ≠ D) (hn : tmps.size = n) (htm : ∀ t, RelV c0 (look t tm) (tmps.getD t Go.undef)) (hps : ∀ item ∈ items, item.length = ps.size) (hpn : ∀ p ∈ ps.toList, p < n)
    (hbody : ∀ k s item, items[k]? = some item → V k s → Tr P assign ⟨n, setTmB ps.toList item tm, Sf s⟩ (fun e σ' => e = .normal ∧ Tr P body σ' (roundB Sf V QR k))) :
    RoundsB P l (LoopB H Sf V QR c0 fn tmps ps assign body D l) items := by
  rintro mm k c item vals ⟨hst, hl, hD, s, hV, hS⟩ hi hit hsz hvals
  have hlen := hps item (List.mem_of_getElem? hit)
  refine ⟨fn, _, assign, body, run_yield hl (hsz.trans hlen), roundIn_of_wpIn (F := FR none) trivial ?_⟩
  have hf := foldB_rel (c := c) (n := n) ps.toList vals.toList item tm tmps hpn hn (by simpa using hsz) (fun i x v h1 h2 => hvals i x v h1 (by simpa using h2)) (fun t => (htm t).stepH hst hH)
  have hfold : (ps.zip vals).foldl (fun t (p, v) => t.setIfInBounds p v) tmps = (ps.toList.zip vals.toList).foldl (fun t (p, v) => t.setIfInBounds p v) tmps := by
    rw [← Array.foldl_toList, Array.toList_zip]
  have r : Rel c ⟨n, setTmB ps.toList item tm, Sf s⟩ { tmps := (ps.zip vals).foldl (fun t (p, v) => t.setIfInBounds p v) tmps, defers := [] } := by
    rw [hfold]
    exact ⟨hS, hi, hf.1, .nil _, hf.2⟩
  have hro : RoOk c (some l) := fun l' h => by cases h; exact ⟨_, hl, hD⟩
  refine wpIn_mono (hbody k s item hit hV (some l) mm c _ r hro) ?_
  rintro e a1 w1 ⟨c1, σ1, st1, rfl, r1, rfl, hB⟩
  have keep : ∀ {c c' : Cx} (hi : Inv c) (h : Step c c') (b : Nat) (o : Obj), c.w.heap[b]? = some o → memObj o = false → c'.w.heap[b]? = some o := fun hi h b o hb hm => (h.blocks b (Array.getElem?_eq_some_iff.1 hb).1 (notOwn_of hi hb hm)).trans hb
  have hl1 := keep hi st1 _ _ hl rfl
  have hD1 := keep hi st1 _ _ hD rfl
  refine ⟨_, run_beginRound hl1 rfl, ?_⟩
  have t2 := bturn_put (c := c1) (.loop { recB fn tmps ps assign body D .ready none with state := .busy }) hl1 rfl
  have kp2 := kp2_put (c := c1) (.loop { recB fn tmps ps assign body D .ready none with state := .busy }) hl1 rfl
  have i2 := binv_put r1.inv (.loop { recB fn tmps ps assign body D .ready none with state := .busy }) hl1 rfl
  have s2 := stepH_put (hst.trans st1.toH) (.loop { recB fn tmps ps assign body D .ready none with state := .busy }) hl0
  have d2 := bdefOk_put r1.defers (.loop { recB fn tmps ps assign body D .ready none with state := .busy }) hl1
  have hl2 : (c1.w.putObj l (.loop { recB fn tmps ps assign body D .ready none with state := .busy })).heap[l]? = some (.loop { recB fn tmps ps assign body D .ready none with state := .busy }) := World.putObj_heap_same (Array.getElem?_eq_some_iff.1 hl1).1
  have hD2 : (c1.w.putObj l (.loop { recB fn tmps ps assign body D .ready none with state := .busy })).heap[D]? = some (.deferred (some [])) := (World.putObj_heap_other (fun h => hlD h.symm)).trans hD1
  generalize hc2 : ({ c1 with w := c1.w.putObj l (.loop { recB fn tmps ps assign body D .ready none with state := .busy }) } : Cx) = c2 at *
  have hw2 : c1.w.putObj l (.loop { recB fn tmps ps assign body D .ready none with state := .busy }) = c2.w := by rw [← hc2]
  rw [hw2] at hl2 hD2 ⊢
  have hS2 : c2.S = c1.S := t2.S
  have r2 : Rel c2 σ1 a1 := ⟨hS2.trans r1.S, i2, r1.n, d2, fun t => (r1.tm t).turn t2⟩
  have hro2 : RoOk c2 (some l) := fun l' h => by cases h; exact ⟨_, hl2, hD2⟩
  refine wpIn_mono (hB (some l) mm c2 a1 r2 hro2) ?_
  rintro e a3 w3 ⟨c3, σ3, st3, rfl, r3, hq⟩
  have hl3 := keep i2 st3 _ _ hl2 rfl
  have hD3 := keep i2 st3 _ _ hD2 rfl
  have kp3 : Kp2 c c3 := (st1.kp2.trans kp2).trans st3.kp2
  cases e with
  | normal =>
    obtain ⟨s', hV', j, hj⟩ := hq
    obtain ⟨i4, st4⟩ := dropBlk r3.inv j
    have hl4 : ({ c3 with S := c3.S.take j } : Cx).w.heap[l]? = some (.loop { recB fn tmps ps assign body D .ready none with state := .busy }) := hl3
    refine ⟨_, _, run_endRound none hl3, { { c3 with S := c3.S.take j } with w := c3.w.putObj l (.loop (recB fn tmps ps assign body D .ready none)) }, rfl, binv_put i4 _ hl4 rfl, (kp3.trans st4.kp2).trans (kp2_put _ hl4 rfl), .inl ⟨rfl, ?_⟩⟩
    refine ⟨stepH_put ((s2.trans st3.toH).trans st4.toH) _ hl0, World.putObj_heap_same (Array.getElem?_eq_some_iff.1 hl3).1, (World.putObj_heap_other (fun h => hlD h.symm)).trans hD3, s', hV', ?_⟩
    show c3.S.take j = Sf s'
    rw [r3.S]
    exact hj
  | ret =>
    refine ⟨_, _, run_endRound (some .ret) hl3, { c3 with w := c3.w.putObj l (.loop (recB fn tmps ps assign body D .done (some .ret))) }, rfl, binv_put r3.inv _ hl3 rfl, kp3.trans (kp2_put _ hl3 rfl), .inr ⟨rfl, ?_⟩⟩
    refine ⟨stepH_put (s2.trans st3.toH) _ hl0, World.putObj_heap_same (Array.getElem?_eq_some_iff.1 hl3).1, (World.putObj_heap_other (fun h => hlD h.symm)).trans hD3, ?_⟩
    show QR c3.S
    rw [r3.S]
    exact hq
  | exit id => exact hq.elim
  | goto l => exact hq.elim
  | panic ch => exact hq.elim
  | outgrown => exact hq.elim
theorem bmap_mark : ∀ {Es Ds : List Nat}, Es.map markOf = Ds.map markOf → Es = Ds
  | [], [], _ => rfl
  | [], _ :: _, h => by simp at h
  | _ :: _, [], h => by simp at h
  | x :: Es, y :: Ds, h => by
    simp only [List.map_cons, List.cons.injEq] at h
    have h1 : Target.collected x = Target.collected y := congrArg Deferred.target h.1
    cases h1
    rw [bmap_mark h.2]
end Go.Proofs.YtenoecffjfcifaaDoor.Pv
