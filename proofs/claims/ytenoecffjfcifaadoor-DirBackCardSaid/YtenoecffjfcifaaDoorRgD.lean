-- The statement that ranges over a function whose iterator has memory of its own.
import Derived.Test.YtenoecffjfcifaaDoorRgC
namespace Go.Proofs.YtenoecffjfcifaaDoor.Pv
set_option linter.all false
set_option linter.unusedVariables false
open Go.RowKit Go.Proofs
mutual
theorem ren_same : ∀ x : PV, ren (fun t => t) x = x
  | .v x => by rw [ren]
  | .ro sz full rows => by rw [ren]
  | .rp row off => by rw [ren]
  | .vw τ g off len => by rw [ren]
  | .ptr τ g i off => by rw [ren]
  | .sub τ g i off len => by rw [ren]
  | .agg cs => by rw [ren, renL_same cs]
  | .tup cs => by rw [ren, renL_same cs]
  | .fn fn a b => by rw [ren, renL_same a, renL_same b]
  | .iface t x => by rw [ren, ren_same x]
  | .mp τ g => by rw [ren]
  | .it τ g => by rw [ren]
  | .rmp es => by rw [ren]
  | .undef => by rw [ren]
theorem renL_same : ∀ l : List PV, renL (fun t => t) l = l
  | [] => by rw [renL]
  | x :: xs => by rw [renL, ren_same x, renL_same xs]
end
/-- The caller's blocks, and those of the iterator behind them. -/
theorem split_apart {c : Cx} (hi : Inv c) {A B : List Blk} (hS : c.S = A ++ B.map (renB (fun t => A.length + t))) :
    ∃ (H : Nat → Prop) (cA cB : Cx), cA.w = c.w ∧ cA.S = A ∧ cB.S = B ∧ Apart H cA cB ∧ Inv cA ∧ Inv cB ∧ (∀ b, H b → b < c.w.heap.size ∧ ∃ o : Obj, c.w.heap[b]? = some o ∧ memObj o = true) ∧
      (∀ x v, RelV c x v → RelV cA x v) ∧ (∀ x v, RelV c (ren (fun t => A.length + t) x) v → RelV cB x v) ∧
      (∀ c', StepH H cA c' → Inv c' → Step c { c' with G := c.G } ∧ Inv { c' with G := c.G }) := by
  have getA : ∀ {τ : Nat} {blk : Blk}, A[τ]? = some blk → c.S[τ]? = some blk := fun h => by
    rw [hS, List.getElem?_append_left (List.getElem?_eq_some_iff.1 h).1]; exact h
  have getB : ∀ {τ : Nat} {blk : Blk}, B[τ]? = some blk → c.S[A.length + τ]? = some (renB (fun t => A.length + t) blk) := fun h => by
    rw [hS, List.getElem?_append_right (by omega), show A.length + _ - A.length = _ from Nat.add_sub_cancel_left .., List.getElem?_map, h]; rfl
  have cases : ∀ {τ : Nat} {blk : Blk}, c.S[τ]? = some blk → A[τ]? = some blk ∨ ∃ (t : Nat) (b : Blk), τ = A.length + t ∧ B[t]? = some b ∧ blk = renB (fun t => A.length + t) b := by
    intro τ blk h
    rcases Nat.lt_or_ge τ A.length with hl | hl
    · rw [hS, List.getElem?_append_left hl] at h
      exact .inl h
    · rw [hS, List.getElem?_append_right hl, List.getElem?_map] at h
      obtain ⟨b, h1, rfl⟩ := Option.map_eq_some_iff.1 h
      exact .inr ⟨τ - A.length, b, by omega, h1, rfl⟩
  let H : Nat → Prop := fun b => ∃ τ blk p, B[τ]? = some blk ∧ blk.own = true ∧ c.β (A.length + τ) = some p ∧ p.1 = b
  let OA : Nat → Prop := fun b => ∃ τ blk p, A[τ]? = some blk ∧ blk.own = true ∧ c.β τ = some p ∧ p.1 = b
  let cA : Cx := { c with S := A, G := fun b => c.G b ∨ H b }
  let cB : Cx := { c with S := B, β := fun τ => c.β (A.length + τ), G := fun b => c.G b ∨ OA b }
  have ownH : ∀ b, H b → c.Own b := fun b ⟨τ, blk, p, h1, h2, h3, h4⟩ => ⟨_, _, p, getB h1, h2, h3, h4⟩
  have ownA : ∀ b, OA b → c.Own b := fun b ⟨τ, blk, p, h1, h2, h3, h4⟩ => ⟨_, _, p, getA h1, h2, h3, h4⟩
  have ownC : ∀ b, c.Own b → OA b ∨ H b := by
    rintro b ⟨τ, blk, p, h1, h2, h3, h4⟩
    rcases cases h1 with k1 | ⟨t, b', rfl, k1, rfl⟩
    · exact .inl ⟨τ, blk, p, k1, h2, h3, h4⟩
    · exact .inr ⟨t, b', p, k1, h2, h3, h4⟩
  have xA : ∀ b, ¬ c.X b → ¬ cA.X b := by
    rintro b hx ((h1 | h1) | h1)
    · exact hx (.inl h1)
    · exact hx (.inr (ownH b h1))
    · exact hx (.inr (ownA b h1))
  have xB : ∀ b, ¬ c.X b → ¬ cB.X b := by
    rintro b hx ((h1 | h1) | h1)
    · exact hx (.inl h1)
    · exact hx (.inr (ownA b h1))
    · exact hx (.inr (ownH b h1))
  have toA : ∀ x v, RelV c x v → RelV cA x v := fun x v h => ren_into (f := fun t => t) xA rfl rfl (fun τ blk h1 => ⟨blk, getA h1, rfl, rfl, rfl, rfl⟩) h x (ren_same x).symm
  have toB : ∀ x v, RelV c (ren (fun t => A.length + t) x) v → RelV cB x v := fun x v h => ren_into (f := fun t => A.length + t) xB rfl rfl (fun τ blk h1 => ⟨_, getB h1, rfl, rfl, by simp [renB], rfl⟩) h x rfl
  have iA : Inv cA := by
    refine ⟨fun τ blk h1 => ?_, fun τ blk p h1 h2 hg => ?_, fun τ τ' b b' p p' h1 h2 h3 h4 h5 h6 => hi.inj τ τ' b b' p p' (getA h1) (getA h2) h3 h4 h5 h6, fun b hg => ?_, hi.wi.sub rfl fun b h => ownA b h⟩
    · have hB := hi.blk τ blk (getA h1)
      exact ⟨hB.gen, hB.void, fun p hp => (hB.heap p hp).move (fun x v h => toA x v h) rfl⟩
    · rcases hg with hg | ⟨t, b, q, k1, k2, k3, k4⟩
      · exact hi.notG τ blk p (getA h1) h2 hg
      · have e1 := hi.inj _ τ _ _ q p (getB k1) (getA h1) k2 k3 h2 k4
        have e2 : τ < A.length := (List.getElem?_eq_some_iff.1 h1).1
        omega
    · rcases hg with hg | hg
      · exact hi.gLt b hg
      · exact Cx.Own.lt hi (ownH b hg)
  have iB : Inv cB := by
    refine ⟨fun τ blk h1 => ?_, fun τ blk p h1 h2 hg => ?_, fun τ τ' b b' p p' h1 h2 h3 h4 h5 h6 => ?_, fun b hg => ?_, hi.wi.sub rfl fun b h => ownH b h⟩
    · have hB := hi.blk _ _ (getB h1)
      refine ⟨hB.gen, fun hv => ?_, fun p hp => ?_⟩
      · have := hB.void hv
        simpa [renB] using this
      · rcases hB.heap p hp with ⟨hl, cs, et, fz, g1, g2, g3, g4⟩ | ⟨hz, ho⟩
        · refine .inl ⟨fun i row hr => ?_, cs, et, fz, g1, by simpa [renB] using g2, fun i row j x r1 r2 => ?_, g4⟩
          · have := hl i (renL (fun t => A.length + t) row) (by simp [renB, hr])
            rw [renL_length] at this
            exact this
          · obtain ⟨v, v1, v2, v3⟩ := g3 i (renL (fun t => A.length + t) row) j (ren (fun t => A.length + t) x) (by simp [renB, r1]) (by rw [renL_map, List.getElem?_map, r2]; rfl)
            exact ⟨v, v1, v2, toB _ _ v3⟩
        · exact .inr ⟨hz, ObjOk.unren ho⟩
    · rcases hg with hg | ⟨t, b, q, k1, k2, k3, k4⟩
      · exact hi.notG _ _ p (getB h1) h2 hg
      · have e1 := hi.inj t _ _ _ q p (getA k1) (getB h1) k2 k3 h2 k4
        have e2 : t < A.length := (List.getElem?_eq_some_iff.1 k1).1
        omega
    · have := hi.inj _ _ _ _ p p' (getB h1) (getB h2) h3 h4 h5 h6
      omega
    · rcases hg with hg | hg
      · exact hi.gLt b hg
      · exact Cx.Own.lt hi (ownA b hg)
  refine ⟨H, cA, cB, rfl, rfl, rfl, ⟨rfl, fun b h => .inr h, fun b h => h, fun b h => .inr h, fun b h => h.imp .inl id⟩, iA, iB, fun b h => ⟨Cx.Own.lt hi (ownH b h), ?_⟩, toA, toB, fun c' hst i' => ?_⟩
  · obtain ⟨τ, blk, p, h1, h2, h3, rfl⟩ := h
    exact ((hi.blk _ _ (getB h1)).heap p h3).mem
  · have gG : c'.G = fun b => c.G b ∨ H b := hst.G
    have step : Step c { c' with G := c.G } := by
      refine ⟨rfl, hst.os, hst.tape, hst.output, hst.size, hst.N, fun b hb ho => hst.blocks b hb (fun h => ho (ownA b h)) (fun h => ho (ownH b h)), fun τ blk' h1 hg => ?_, fun b ho => ?_, hst.cells⟩
      · obtain ⟨blk, k1, k2, k3, k4, k5⟩ := hst.ent τ blk' h1 hg
        exact ⟨blk, getA k1, k2, k3, k4, k5⟩
      · exact (hst.own b ho).imp (fun h => ownA b h) id
    refine ⟨step, ?_⟩
    have xC : ∀ b, ¬ c'.X b → ¬ ({ c' with G := c.G } : Cx).X b := by
      rintro b hx (h1 | h1)
      · exact hx (.inl (by rw [gG]; exact .inl h1))
      · exact hx (.inr h1)
    have toC : ∀ x v, RelV c' x v → RelV { c' with G := c.G } x v := fun x v h => ren_into (f := fun t => t) xC rfl rfl (fun τ blk h1 => ⟨blk, h1, rfl, rfl, rfl, rfl⟩) h x (ren_same x).symm
    refine ⟨fun τ blk h1 => ?_, fun τ blk p h1 h2 hg => i'.notG τ blk p h1 h2 (by rw [gG]; exact .inl hg), i'.inj, fun b hg => i'.gLt b (by rw [gG]; exact .inl hg), i'.wi⟩
    have hB := i'.blk τ blk h1
    exact ⟨hB.gen, hB.void, fun p hp => (hB.heap p hp).move (fun x v h => toC x v h) rfl⟩
theorem stepF {c c' : Cx} (h : StepH (fun _ => False) c c') : Step c c' :=
  ⟨h.G, h.os, h.tape, h.output, h.size, h.N, fun b h1 h2 => h.blocks b h1 h2 id, h.ent, h.own, h.cells⟩
theorem tr_rangeFuncB {P : Program} {gf : FuncId} [hfn : FnOk P gf] {caps : List PV} {B : List Blk} {items : List (List PV)} (hseq : SeqItB P gf caps B items) {g : Operand} {ps : Array Tmp} {assign body : Code} {n : Nat} {tm : List (Nat × PV)} {S0 : List Blk} {Q : Exit → PS → Prop} {α : Type} (Sf : α → List Blk) (V : Nat → α → Prop) (QR : List Blk → Prop) (s0 : α)
    (hg : PS.get ⟨n, tm, S0⟩ g = .fn (.func gf) [] (renL (fun t => (Sf s0).length + t) caps)) (hps : ∀ item ∈ items, item.length = ps.size) (hpn : ∀ p ∈ ps.toList, p < n) (hS : S0 = Sf s0 ++ B.map (renB (fun t => (Sf s0).length + t))) (hV : V 0 s0)
    (hbody : ∀ k s item, items[k]? = some item → V k s → Tr P assign ⟨n, setTmB ps.toList item tm, Sf s⟩ (fun e σ' => e = .normal ∧ Tr P body σ' (roundB Sf V QR k)))
    (hdone : ∀ s, V items.length s → Q .normal ⟨n, tm, Sf s⟩) (hret : ∀ S', QR S' → Q .ret ⟨n, tm, S'⟩) : Tr P (.rangeFunc g ps assign body) ⟨n, tm, S0⟩ Q := by
  intro ro mm c a r hro
  refine wpIn_rangeFunc ?_
  intro fn _
  obtain ⟨H, c0, cB, hw0, hA0, hB0, hap, iA, iB, hHm, toA, toB, back⟩ := split_apart r.inv (A := Sf s0) (B := B) (r.S.trans hS)
  have hsz : c0.w.heap.size = c.w.heap.size := by rw [hw0]
  have hHlt : ∀ b, H b → b < c0.w.heap.size := fun b h => by rw [hsz]; exact (hHm b h).1
  have enter : ∃ (l D : Nat) (mark : List Deferred) (w1 : World), (Instr.enterLoop fn a.tmps ps assign body (FR ro).round).run P c.w = .ok (l, mark) w1 ∧ c0.w.heap.size ≤ l ∧ l ≠ D ∧ w1.heap[l]? = some (.loop (recB fn a.tmps ps assign body D .ready none)) ∧ w1.heap[D]? = some (.deferred (some [])) ∧
      Step c0 { c0 with w := w1 } ∧ Inv { c0 with w := w1 } ∧ Apart H { c0 with w := w1 } { cB with w := w1 } ∧ Inv { cB with w := w1 } ∧ (∀ x v, RelV cB x v → RelV { cB with w := w1 } x v) ∧ (∀ b, H b → b ≠ D) ∧ (mark = [] ∨ (mark = [markOf D] ∧ c0.w.heap.size ≤ D)) := by
    have hwB : cB.w = c.w := hap.w.trans hw0
    have al : ∀ (cA cB : Cx) (o : Obj), Apart H cA cB → Inv cA → Inv cB → Step cA { cA with w := cA.w.alloc o } ∧ Inv { cA with w := cA.w.alloc o } ∧ Apart H { cA with w := cA.w.alloc o } { cB with w := cA.w.alloc o } ∧ Inv { cB with w := cA.w.alloc o } ∧ (∀ x v, RelV cB x v → RelV { cB with w := cA.w.alloc o } x v) := by
      intro cA cB o hp iA iB
      obtain ⟨s1, i1⟩ := bstep_alloc cA iA o
      obtain ⟨s2, i2⟩ := bstep_alloc cB iB o
      rw [hp.w] at s2 i2
      exact ⟨s1, i1, ⟨rfl, hp.ab, hp.bh, hp.ha, hp.gx⟩, i2, fun x v h => h.step s2⟩
    cases ro with
    | none =>
      obtain ⟨s1, i1, p1, j1, k1⟩ := al c0 cB (.deferred (some [])) hap iA iB
      obtain ⟨s2, i2, p2, j2, k2⟩ := al _ _ (.loop (recB fn a.tmps ps assign body c.w.heap.size .ready none)) p1 i1 j1
      refine ⟨c.w.heap.size + 1, c.w.heap.size, [markOf c.w.heap.size], (c0.w.alloc (.deferred (some []))).alloc (.loop (recB fn a.tmps ps assign body c.w.heap.size .ready none)), by rw [hw0]; exact run_enterLoop_outer _ _ _ _ _, by omega, by omega, ?_, ?_, s1.trans s2, i2, p2, j2, fun x v h => k2 _ _ (k1 _ _ h), fun b h e => ?_, .inr ⟨rfl, by omega⟩⟩
      · have := World.alloc_heap_new (c.w.alloc (.deferred (some []))) (.loop (recB fn a.tmps ps assign body c.w.heap.size .ready none))
        rw [World.size_alloc] at this
        rw [hw0]
        exact this
      · rw [hw0]
        exact (Below.heap_alloc _ _ _ (by rw [World.size_alloc]; omega)).trans (World.alloc_heap_new c.w _)
      · have := hHlt b h
        omega
    | some l0 =>
      obtain ⟨r0, h1, h2⟩ := hro l0 rfl
      obtain ⟨s1, i1, p1, j1, k1⟩ := al c0 cB (.loop (recB fn a.tmps ps assign body r0.defers .ready none)) hap iA iB
      have hlt := (Array.getElem?_eq_some_iff.1 h2).1
      refine ⟨c.w.heap.size, r0.defers, [], c0.w.alloc (.loop (recB fn a.tmps ps assign body r0.defers .ready none)), by rw [hw0]; exact run_enterLoop_inner h1 _ _ _ _ _, by omega, by omega, by rw [hw0]; exact World.alloc_heap_new _ _, by rw [hw0]; exact (Below.heap_alloc _ _ _ hlt).trans h2, s1, i1, p1, j1, k1, fun b h e => ?_, .inl rfl⟩
      obtain ⟨o, m1, m2⟩ := (hHm b h).2
      rw [e, h2] at m1
      cases m1
      cases m2
  obtain ⟨l, D, mark, w1, he, hl0, hlD, hl, hD, st1, i1, p1, j1, kB, hHD, hmark⟩ := enter
  have hrg := r.get g
  rw [hg] at hrg
  generalize hag : a.eval g = vg at hrg
  cases hrg with
  | fn _ _ _ va vb hsa hsb ha hb' =>
    obtain rfl : va = #[] := Array.eq_empty_of_size_eq_zero (by simpa using hsa)
    obtain ⟨f, hf1, hf2, hf3⟩ := hfn.h
    refine ⟨l, mark, w1, { target := .fn (.func gf) vb, args := #[.func (.yield l) #[] #[]] }, w1, gf, #[.func (.yield l) #[] #[]] ++ vb, w1, he, ?_, fun f' hf' => trivial, ?_, fun hh => by simp [FR, Fence.wide] at hh, ?_⟩
    · simp only [resolve, hag, Deferred.ofValue, Sem.run_pure]
      simp [Act.eval]
    · simp only [invoke, callFunc, Sem.run_bind, Result.andThen_ok, run_program, hf1]
      have h1 : ¬ (f.name == "runtime.NumGoroutine") = true := by rw [hf3]; simp
      have h2 : ¬ f.body.isNone = true := by cases hb0 : f.body <;> simp_all
      rw [if_neg h1, if_neg h2]
      rfl
    · have hR := loopB_rounds (H := H) (fn := fn) (D := D) (l := l) (QR := QR) (c0 := c0) hap.ha hl0 hlD r.n (fun t => toA _ _ (r.tm t)) hps hpn hbody
      have hcall := hseq l H (LoopB H Sf V QR c0 fn a.tmps ps assign body D l) (fun s => loopB_stable H Sf V QR c0 fn a.tmps ps assign body D l hl0 hHD hHlt s) hR { c0 with w := w1 } { cB with w := w1 } vb ⟨st1.toH, hl, hD, s0, hV, hA0⟩ p1 i1 j1 hB0 (by rw [hsb, renL_length]) (fun i x v h1 h2 => kB _ _ (toB _ _ (hb' i (ren (fun t => (Sf s0).length + t) x) v (by rw [renL_map, List.getElem?_map, h1]; rfl) h2)))
      refine CallsIn.mono (callsIn_FR hcall) ?_
      rintro e w' ⟨v, c', rfl, rfl, i', hJ⟩
      have defs : ∀ (c2 : Cx), Step c { c2 with G := c.G } → c2.w.heap[D]? = some (.deferred (some [])) → DefOk { c2 with G := c.G } (mark ++ a.defers) := by
        intro c2 hst hD'
        obtain ⟨Ds, d1, d2, d3⟩ := r.defers.step r.inv hst
        obtain ⟨Es, f1, f2, f3⟩ := r.defers
        rcases hmark with rfl | ⟨rfl, hD0⟩
        · exact ⟨Ds, d1, d2, d3⟩
        · have e : Es.map markOf = Ds.map markOf := f2.symm.trans d2
          have hE : Es = Ds := by
            exact bmap_mark e
          subst hE
          refine ⟨D :: Es, List.nodup_cons.2 ⟨fun hm => ?_, f1⟩, by rw [d2]; rfl, fun E hE => ?_⟩
          · have := (Array.getElem?_eq_some_iff.1 (f3 D hm).1).1
            omega
          · rcases List.mem_cons.1 hE with rfl | hE
            · exact ⟨hD', fun hG => by have := r.inv.gLt _ hG; omega⟩
            · exact d3 E hE
      rcases hJ with ⟨hst, hl', hD', s, hVs, hSs⟩ | ⟨hst, hl', hD', hq⟩
      · refine ⟨none, _, run_endLoop hl' (by simp [recB]), ?_⟩
        obtain ⟨b1, b2⟩ := back c' hst i'
        have hl2 : ({ c' with G := c.G } : Cx).w.heap[l]? = some (.loop (recB fn a.tmps ps assign body D .ready none)) := hl'
        exact ⟨{ ({ c' with G := c.G } : Cx) with w := c'.w.putObj l (.loop { recB fn a.tmps ps assign body D .ready none with state := .exhausted }) }, ⟨n, tm, Sf s⟩, stepF (stepH_put b1.toH _ (by omega)), rfl, ⟨hSs, binv_put b2 _ hl2 rfl, r.n, bdefOk_put (defs _ b1 hD') _ hl2, fun t => ((r.tm t).step b1).turn (bturn_put _ hl2 rfl)⟩, hdone s hVs⟩
      · refine ⟨some .ret, _, run_endLoop hl' (by simp [recB]), wpIn_ret ?_⟩
        obtain ⟨b1, b2⟩ := back c' hst i'
        have hl2 : ({ c' with G := c.G } : Cx).w.heap[l]? = some (.loop (recB fn a.tmps ps assign body D .done (some .ret))) := hl'
        exact ⟨{ ({ c' with G := c.G } : Cx) with w := c'.w.putObj l (.loop { recB fn a.tmps ps assign body D .done (some .ret) with state := .exhausted }) }, ⟨n, tm, c'.S⟩, stepF (stepH_put b1.toH _ (by omega)), rfl, ⟨rfl, binv_put b2 _ hl2 rfl, r.n, bdefOk_put (defs _ b1 hD') _ hl2, fun t => ((r.tm t).step b1).turn (bturn_put _ hl2 rfl)⟩, hret _ hq⟩
theorem krfB {P : Program} {gf : FuncId} [hfn : FnOk P gf] {caps : List PV} {B : List Blk} {items : List (List PV)} (hseq : SeqItB P gf caps B items) {g : Operand} {ps : Array Tmp} {assign body : Code} {l : List Code} {n : Nat} {tm : List (Nat × PV)} {S0 : List Blk} {Q : Exit → PS → Prop} {α : Type} (Sf : α → List Blk) (V : Nat → α → Prop) (QR : List Blk → Prop) (s0 : α)
    (hbody : ∀ k s item, items[k]? = some item → V k s → Tk P [assign] ⟨n, setTmB ps.toList item tm, Sf s⟩ (fun e σ' => e = .normal ∧ Tk P [body] σ' (roundB Sf V QR k)))
    (hdone : ∀ s, V items.length s → Tk P l ⟨n, tm, Sf s⟩ Q) (hret : ∀ S', QR S' → Q .ret ⟨n, tm, S'⟩)
    (hps : ∀ item ∈ items, item.length = ps.size) (hV : V 0 s0)
    (hg : PS.get ⟨n, tm, S0⟩ g = .fn (.func gf) [] (renL (fun t => (Sf s0).length + t) caps) := by exact rfl) (hpn : ∀ p ∈ ps.toList, p < n := by decide) (hS : S0 = Sf s0 ++ B.map (renB (fun t => (Sf s0).length + t)) := by exact rfl) : Tk P (.rangeFunc g ps assign body :: l) ⟨n, tm, S0⟩ Q :=
  tr_rangeFuncB hseq Sf V QR s0 hg hps hpn hS hV (fun k s item h1 h2 => Tr.mono (tk_start (hbody k s item h1 h2)) fun e σ' ⟨h3, h4⟩ => ⟨h3, tk_start h4⟩) hdone hret
end Go.Proofs.YtenoecffjfcifaaDoor.Pv
