-- The statement that ranges over a function.
import Derived.Test.YteocmeidkdhmiaaRfC
namespace Go.Proofs.Yteocmeidkdhmiaa.Pv
set_option linter.all false
set_option linter.unusedVariables false
open Go.RowKit Go.Proofs
theorem loop_rounds {P : Program} {α : Type} {Sf : α → List Blk} {V : Nat → α → Prop} {QR : List Blk → Prop} {c0 : Cx} {fn : FuncId} {tmps : Array Value} {ps : Array Tmp} {assign body : Code} {D l n : Nat} {tm : List (Nat × PV)} {items : List (List PV)}
    (hl0 : c0.w.heap.size ≤ l) (hlD : l ≠ D) (hn : tmps.size = n) (htm : ∀ t, RelV c0 (look t tm) (tmps.getD t Go.undef)) (hps : ∀ item ∈ items, item.length = ps.size) (hpn : ∀ p ∈ ps.toList, p < n)
    (hbody : ∀ k s item, items[k]? = some item → V k s → Tr P assign ⟨n, setTm ps.toList item tm, Sf s⟩ (fun e σ' => e = .normal ∧ Tr P body σ' (roundQ Sf V QR k))) :
    Rounds P l (LoopJ Sf V QR c0 fn tmps ps assign body D l) items := by
  rintro mm k c item vals ⟨hst, hl, hD, s, hV, hS⟩ hi hit hsz hvals
  have hlen := hps item (List.mem_of_getElem? hit)
  refine ⟨fn, _, assign, body, run_yield hl (hsz.trans hlen), roundIn_of_wpIn (F := FR none) trivial ?_⟩
  have hf := fold_rel (c := c) (n := n) ps.toList vals.toList item tm tmps hpn hn (by simpa using hsz) (fun i x v h1 h2 => hvals i x v h1 (by simpa using h2)) (fun t => (htm t).step hst)
  have hfold : (ps.zip vals).foldl (fun t (p, v) => t.setIfInBounds p v) tmps = (ps.toList.zip vals.toList).foldl (fun t (p, v) => t.setIfInBounds p v) tmps := by
    rw [← Array.foldl_toList, Array.toList_zip]
  have r : Rel c ⟨n, setTm ps.toList item tm, Sf s⟩ { tmps := (ps.zip vals).foldl (fun t (p, v) => t.setIfInBounds p v) tmps, defers := [] } := by
    rw [hfold]
    exact ⟨hS, hi, hf.1, .nil _, hf.2⟩
  have hro : RoOk c (some l) := fun l' h => by cases h; exact ⟨_, hl, hD⟩
  refine wpIn_mono (hbody k s item hit hV (some l) mm c _ r hro) ?_
  rintro e a1 w1 ⟨c1, σ1, st1, rfl, r1, rfl, hB⟩
  have keep : ∀ {c c' : Cx} (hi : Inv c) (h : Step c c') (b : Nat) (o : Obj), c.w.heap[b]? = some o → memObj o = false → c'.w.heap[b]? = some o := fun hi h b o hb hm => (h.blocks b (Array.getElem?_eq_some_iff.1 hb).1 (notOwn_of hi hb hm)).trans hb
  have hl1 := keep hi st1 _ _ hl rfl
  have hD1 := keep hi st1 _ _ hD rfl
  refine ⟨_, run_beginRound hl1 rfl, ?_⟩
  have t2 := turn_put (c := c1) (.loop { recOf fn tmps ps assign body D .ready none with state := .busy }) hl1 rfl
  have i2 := inv_put r1.inv (.loop { recOf fn tmps ps assign body D .ready none with state := .busy }) hl1 rfl
  have s2 := step_put (hst.trans st1) (.loop { recOf fn tmps ps assign body D .ready none with state := .busy }) hl0
  have d2 := defOk_put r1.defers (.loop { recOf fn tmps ps assign body D .ready none with state := .busy }) hl1
  have hl2 : (c1.w.putObj l (.loop { recOf fn tmps ps assign body D .ready none with state := .busy })).heap[l]? = some (.loop { recOf fn tmps ps assign body D .ready none with state := .busy }) := World.putObj_heap_same (Array.getElem?_eq_some_iff.1 hl1).1
  have hD2 : (c1.w.putObj l (.loop { recOf fn tmps ps assign body D .ready none with state := .busy })).heap[D]? = some (.deferred (some [])) := (World.putObj_heap_other (fun h => hlD h.symm)).trans hD1
  generalize hc2 : ({ c1 with w := c1.w.putObj l (.loop { recOf fn tmps ps assign body D .ready none with state := .busy }) } : Cx) = c2 at *
  have hw2 : c1.w.putObj l (.loop { recOf fn tmps ps assign body D .ready none with state := .busy }) = c2.w := by rw [← hc2]
  rw [hw2] at hl2 hD2 ⊢
  have hS2 : c2.S = c1.S := t2.S
  have r2 : Rel c2 σ1 a1 := ⟨hS2.trans r1.S, i2, r1.n, d2, fun t => (r1.tm t).turn t2⟩
  have hro2 : RoOk c2 (some l) := fun l' h => by cases h; exact ⟨_, hl2, hD2⟩
  refine wpIn_mono (hB (some l) mm c2 a1 r2 hro2) ?_
  rintro e a3 w3 ⟨c3, σ3, st3, rfl, r3, hq⟩
  have hl3 := keep i2 st3 _ _ hl2 rfl
  have hD3 := keep i2 st3 _ _ hD2 rfl
  have kp3 : ∀ x v, RelV c x v → RelV c3 x v := fun x v h => ((h.step st1).turn t2).step st3
  cases e with
  | normal =>
    obtain ⟨s', hV', j, hj⟩ := hq
    obtain ⟨i4, st4⟩ := dropBlk r3.inv j
    have hl4 : ({ c3 with S := c3.S.take j } : Cx).w.heap[l]? = some (.loop { recOf fn tmps ps assign body D .ready none with state := .busy }) := hl3
    refine ⟨_, _, run_endRound none hl3, { { c3 with S := c3.S.take j } with w := c3.w.putObj l (.loop (recOf fn tmps ps assign body D .ready none)) }, rfl, inv_put i4 _ hl4 rfl, fun x v hp h => ((kp3 x v h).step st4).turn (turn_put _ hl4 rfl), .inl ⟨rfl, ?_⟩⟩
    refine ⟨step_put ((s2.trans st3).trans st4) _ hl0, World.putObj_heap_same (Array.getElem?_eq_some_iff.1 hl3).1, (World.putObj_heap_other (fun h => hlD h.symm)).trans hD3, s', hV', ?_⟩
    show c3.S.take j = Sf s'
    rw [r3.S]
    exact hj
  | ret =>
    refine ⟨_, _, run_endRound (some .ret) hl3, { c3 with w := c3.w.putObj l (.loop (recOf fn tmps ps assign body D .done (some .ret))) }, rfl, inv_put r3.inv _ hl3 rfl, fun x v hp h => (kp3 x v h).turn (turn_put _ hl3 rfl), .inr ⟨rfl, ?_⟩⟩
    refine ⟨step_put (s2.trans st3) _ hl0, World.putObj_heap_same (Array.getElem?_eq_some_iff.1 hl3).1, (World.putObj_heap_other (fun h => hlD h.symm)).trans hD3, ?_⟩
    show QR c3.S
    rw [r3.S]
    exact hq
  | exit id => exact hq.elim
  | goto l => exact hq.elim
  | panic ch => exact hq.elim
  | outgrown => exact hq.elim
theorem map_mark : ∀ {Es Ds : List Nat}, Es.map markOf = Ds.map markOf → Es = Ds
  | [], [], _ => rfl
  | [], _ :: _, h => by simp at h
  | _ :: _, [], h => by simp at h
  | x :: Es, y :: Ds, h => by
    simp only [List.map_cons, List.cons.injEq] at h
    have h1 : Target.collected x = Target.collected y := congrArg Deferred.target h.1
    cases h1
    rw [map_mark h.2]
theorem tr_rangeFunc {P : Program} {gf : FuncId} [hfn : FnOk P gf] {caps : List PV} {items : List (List PV)} (hseq : SeqIt P gf caps items) {g : Operand} {ps : Array Tmp} {assign body : Code} {n : Nat} {tm : List (Nat × PV)} {S0 : List Blk} {Q : Exit → PS → Prop} {α : Type} (Sf : α → List Blk) (V : Nat → α → Prop) (QR : List Blk → Prop) (s0 : α)
    (hg : PS.get ⟨n, tm, S0⟩ g = .fn (.func gf) [] caps) (hps : ∀ item ∈ items, item.length = ps.size) (hpn : ∀ p ∈ ps.toList, p < n) (hS : S0 = Sf s0) (hV : V 0 s0)
    (hbody : ∀ k s item, items[k]? = some item → V k s → Tr P assign ⟨n, setTm ps.toList item tm, Sf s⟩ (fun e σ' => e = .normal ∧ Tr P body σ' (roundQ Sf V QR k)))
    (hdone : ∀ s, V items.length s → Q .normal ⟨n, tm, Sf s⟩) (hret : ∀ S', QR S' → Q .ret ⟨n, tm, S'⟩) : Tr P (.rangeFunc g ps assign body) ⟨n, tm, S0⟩ Q := by
  intro ro mm c0 a r hro
  refine wpIn_rangeFunc ?_
  intro fn _
  -- what lies there once the statement is entered
  have enter : ∃ (l D : Nat) (mark : List Deferred) (w1 : World), (Instr.enterLoop fn a.tmps ps assign body (FR ro).round).run P c0.w = .ok (l, mark) w1 ∧ c0.w.heap.size ≤ l ∧ l ≠ D ∧ w1.heap[l]? = some (.loop (recOf fn a.tmps ps assign body D .ready none)) ∧ w1.heap[D]? = some (.deferred (some [])) ∧
      Step c0 { c0 with w := w1 } ∧ Inv { c0 with w := w1 } ∧ (mark = [] ∨ (mark = [markOf D] ∧ c0.w.heap.size ≤ D)) := by
    cases ro with
    | none =>
      obtain ⟨s1, i1⟩ := step_alloc c0 r.inv (.deferred (some []))
      obtain ⟨s2, i2⟩ := step_alloc { c0 with w := c0.w.alloc (.deferred (some [])) } i1 (.loop (recOf fn a.tmps ps assign body c0.w.heap.size .ready none))
      refine ⟨c0.w.heap.size + 1, c0.w.heap.size, [markOf c0.w.heap.size], _, run_enterLoop_outer _ _ _ _ _, by omega, by omega, ?_, ?_, s1.trans s2, i2, .inr ⟨rfl, Nat.le_refl _⟩⟩
      · have := World.alloc_heap_new (c0.w.alloc (.deferred (some []))) (.loop (recOf fn a.tmps ps assign body c0.w.heap.size .ready none))
        rw [World.size_alloc] at this
        exact this
      · exact (Below.heap_alloc _ _ _ (by rw [World.size_alloc]; omega)).trans (World.alloc_heap_new c0.w _)
    | some l0 =>
      obtain ⟨r0, h1, h2⟩ := hro l0 rfl
      obtain ⟨s1, i1⟩ := step_alloc c0 r.inv (.loop (recOf fn a.tmps ps assign body r0.defers .ready none))
      have hlt := (Array.getElem?_eq_some_iff.1 h2).1
      exact ⟨c0.w.heap.size, r0.defers, [], _, run_enterLoop_inner h1 _ _ _ _ _, Nat.le_refl _, by omega, World.alloc_heap_new _ _, (Below.heap_alloc _ _ _ hlt).trans h2, s1, i1, .inl rfl⟩
  obtain ⟨l, D, mark, w1, he, hl0, hlD, hl, hD, st1, i1, hmark⟩ := enter
  have hrg := r.get g
  rw [hg] at hrg
  generalize hag : a.eval g = vg at hrg
  cases hrg with
  | fn _ _ _ va vb hsa hsb ha hb' =>
    obtain rfl : va = #[] := Array.eq_empty_of_size_eq_zero (by simpa using hsa)
    obtain ⟨f, hf1, hf2, hf3⟩ := hfn.h
    refine ⟨l, mark, w1, { target := .fn (.func gf) vb, args := #[.func (.yield l) #[] #[]] }, w1, gf, #[.func (.yield l) #[] #[]] ++ vb, w1, he, ?_, fun f' hf' => trivial, ?_, fun hh => by simp [FR, Fence.wide] at hh, ?_⟩
    · simp only [resolve, hag, Deferred.ofValue, Sem.run_pure]
      simp [Act.eval]
    · simp only [invoke, callFunc, Sem.run_bind, Result.andThen_ok, run_program, hf1]
      have h1 : ¬ (f.name == "runtime.NumGoroutine") = true := by rw [hf3]; simp
      have h2 : ¬ f.body.isNone = true := by cases hb0 : f.body <;> simp_all
      rw [if_neg h1, if_neg h2]
      rfl
    · have hR := loop_rounds (fn := fn) (D := D) (l := l) (QR := QR) hl0 hlD r.n r.tm hps hpn hbody
      have hcall := hseq l (LoopJ Sf V QR c0 fn a.tmps ps assign body D l) (fun s => loopJ_stable Sf V QR c0 fn a.tmps ps assign body D l s) hR { c0 with w := w1 } vb ⟨st1, hl, hD, s0, hV, r.S.trans hS⟩ i1 hsb (fun i x v h1 h2 => (hb' i x v h1 h2).step st1)
      refine CallsIn.mono (callsIn_FR hcall) ?_
      rintro e w' ⟨v, c', rfl, rfl, i', hJ⟩
      have defs : ∀ (rr : Loop), Step c0 c' → c'.w.heap[l]? = some (.loop rr) → c'.w.heap[D]? = some (.deferred (some [])) → DefOk c' (mark ++ a.defers) := by
        intro rr hst _ hD'
        obtain ⟨Ds, d1, d2, d3⟩ := r.defers.step r.inv hst
        obtain ⟨Es, f1, f2, f3⟩ := r.defers
        rcases hmark with rfl | ⟨rfl, hD0⟩
        · exact ⟨Ds, d1, d2, d3⟩
        · have e : Es.map markOf = Ds.map markOf := f2.symm.trans d2
          have hE : Es = Ds := by
            exact map_mark e
          subst hE
          refine ⟨D :: Es, List.nodup_cons.2 ⟨fun hm => ?_, f1⟩, by rw [d2]; rfl, fun E hE => ?_⟩
          · have := (Array.getElem?_eq_some_iff.1 (f3 D hm).1).1
            omega
          · rcases List.mem_cons.1 hE with rfl | hE
            · exact ⟨hD', fun hG => by rw [hst.G] at hG; have := r.inv.gLt _ hG; omega⟩
            · exact d3 E hE
      rcases hJ with ⟨hst, hl', hD', s, hVs, hSs⟩ | ⟨hst, hl', hD', hq⟩
      · refine ⟨none, _, run_endLoop hl' (by simp [recOf]), ?_⟩
        refine ⟨{ c' with w := c'.w.putObj l (.loop { recOf fn a.tmps ps assign body D .ready none with state := .exhausted }) }, ⟨n, tm, Sf s⟩, step_put hst _ hl0, rfl, ⟨hSs, inv_put i' _ hl' rfl, r.n, defOk_put (defs _ hst hl' hD') _ hl', fun t => ((r.tm t).step hst).turn (turn_put _ hl' rfl)⟩, hdone s hVs⟩
      · refine ⟨some .ret, _, run_endLoop hl' (by simp [recOf]), wpIn_ret ?_⟩
        exact ⟨{ c' with w := c'.w.putObj l (.loop { recOf fn a.tmps ps assign body D .done (some .ret) with state := .exhausted }) }, ⟨n, tm, c'.S⟩, step_put hst _ hl0, rfl, ⟨rfl, inv_put i' _ hl' rfl, r.n, defOk_put (defs _ hst hl' hD') _ hl', fun t => ((r.tm t).step hst).turn (turn_put _ hl' rfl)⟩, hret _ hq⟩
end Go.Proofs.Yteocmeidkdhmiaa.Pv
