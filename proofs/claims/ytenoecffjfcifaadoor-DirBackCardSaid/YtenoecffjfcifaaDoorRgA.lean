-- A range over a function whose iterator has memory of its own: two places of one world.
import Derived.Test.YtenoecffjfcifaaDoorPvT
namespace Go.Proofs.YtenoecffjfcifaaDoor.Pv
set_option linter.all false
set_option linter.unusedVariables false
open Go.RowKit Go.Proofs
/-- From c on to c', but for blocks in H, which are somebody else's. -/
structure StepH (H : Nat → Prop) (c c' : Cx) : Prop where
  G : c'.G = c.G
  os : c'.w.os = c.w.os
  tape : c'.w.tape = c.w.tape
  output : c'.w.output = c.w.output
  size : c.w.heap.size ≤ c'.w.heap.size
  N : c.N ≤ c'.N
  blocks : ∀ b, b < c.w.heap.size → ¬ c.Own b → ¬ H b → c'.w.heap[b]? = c.w.heap[b]?
  ent : ∀ τ blk', c'.S[τ]? = some blk' → blk'.gen < c.N → ∃ blk, c.S[τ]? = some blk ∧ blk.gen = blk'.gen ∧ c'.β τ = c.β τ ∧ blk'.sz = blk.sz ∧ blk'.rows.length = blk.rows.length
  own : ∀ b, c'.Own b → c.Own b ∨ c.w.heap.size ≤ b
  cells : ∀ (b : Nat) cs e fz, c.w.heap[b]? = some (.cells cs e fz) → ∃ cs' fz', c'.w.heap[b]? = some (.cells cs' e fz') ∧ cs'.size = cs.size
theorem Step.toH {H : Nat → Prop} {c c' : Cx} (h : Step c c') : StepH H c c' :=
  ⟨h.G, h.os, h.tape, h.output, h.size, h.N, fun b h1 h2 _ => h.blocks b h1 h2, h.ent, h.own, h.cells⟩
theorem StepH.trans {H : Nat → Prop} {a b c : Cx} (h : StepH H a b) (k : StepH H b c) : StepH H a c where
  G := k.G.trans h.G
  os := k.os.trans h.os
  tape := k.tape.trans h.tape
  output := k.output.trans h.output
  size := Nat.le_trans h.size k.size
  N := Nat.le_trans h.N k.N
  blocks := fun n hn ho hh => by
    rw [k.blocks n (Nat.lt_of_lt_of_le hn h.size) (fun hb => by rcases h.own n hb with h1 | h1; exact ho h1; omega) hh]
    exact h.blocks n hn ho hh
  ent := fun τ blk' hc hg => by
    obtain ⟨b1, h1, h2, h3, h4, h5⟩ := k.ent τ blk' hc (Nat.lt_of_lt_of_le hg h.N)
    obtain ⟨b2, k1, k2, k3, k4, k5⟩ := h.ent τ b1 h1 (by rw [h2]; exact hg)
    exact ⟨b2, k1, k2.trans h2, h3.trans k3, h4.trans k4, h5.trans k5⟩
  own := fun n hn => by
    rcases k.own n hn with h1 | h1
    · exact h.own n h1
    · exact .inr (Nat.le_trans h.size h1)
  cells := fun n cs e fz hn => by
    obtain ⟨cs1, fz1, h1, h2⟩ := h.cells n cs e fz hn
    obtain ⟨cs2, fz2, h3, h4⟩ := k.cells n cs1 e fz1 h1
    exact ⟨cs2, fz2, h3, h4.trans h2⟩
theorem StepH.notX {H : Nat → Prop} {c c' : Cx} (h : StepH H c c') {b : Nat} (hb : b < c.w.heap.size) (hx : ¬ c.X b) : ¬ c'.X b := by
  rintro (h1 | h1)
  · exact hx (.inl (by rw [← h.G]; exact h1))
  · rcases h.own b h1 with h2 | h2
    · exact hx (.inr h2)
    · omega
theorem StepH.cell {H : Nat → Prop} {c c' : Cx} (h : StepH H c c') (hH : ∀ b, H b → c.G b) {a : Addr} {v : Value} (hc : c.w.cell? a = some v) (hx : ¬ c.X a.block) : c'.w.cell? a = some v :=
  (World.cell?_of_block (w := c.w) (h.blocks a.block (cell_block hc) (fun ho => hx (.inr ho)) (fun hh => hx (.inl (hH _ hh))))).trans hc
theorem RelV.stepH {H : Nat → Prop} {c c' : Cx} (h : StepH H c c') (hH : ∀ b, H b → c.G b) {x : PV} {v : Value} (hr : RelV c x v) : RelV c' x v := by
  induction hr with
  | v x => exact .v x
  | undef y => exact .undef y
  | ro sz full rows a cap vals hcap hmax hfull hnone hlen hcell hpure hrel ih =>
    exact .ro sz full rows a cap vals hcap hmax hfull hnone hlen (fun ad ha i row j x h1 h2 => by
      obtain ⟨k1, k2, k3, k4⟩ := hcell ad ha i row j x h1 h2
      exact ⟨k1, h.notX (b := ad.block) (by have := cell_block k3; exact this) k2, h.cell hH k3 k2, k4⟩) hpure ih
  | rp row off b o vals hcell hpure hrel ih =>
    exact .rp row off b o vals (fun j x h1 => by
      obtain ⟨k2, k3, k4⟩ := hcell j x h1
      exact ⟨h.notX (b := b) (by have := cell_block k3; exact this) k2, h.cell hH k3 k2, k4⟩) hpure ih
  | vw τ g off len y hy hN hv =>
    refine .vw τ g off len y hy (Nat.lt_of_lt_of_le hN h.N) (fun blk' hb hg => ?_)
    obtain ⟨blk, k1, k2, k3, k4, k5⟩ := h.ent τ blk' hb (by rw [hg]; exact hN)
    obtain ⟨h1, a, cap, h2, h3, h4, h5⟩ := hv blk k1 (k2.trans hg)
    refine ⟨by rw [k5]; exact h1, a, cap, h2, h3, h4, ?_⟩
    rcases h5 with ⟨p, h5, rfl, cs, e, fz, h6, h7⟩ | h5
    · obtain ⟨cs', fz', h8, h9⟩ := h.cells _ cs e fz h6
      exact .inl ⟨p, k3.trans h5, by rw [k4], cs', e, fz', h8, by rw [k4, h9]; exact h7⟩
    · exact .inr h5
  | ptr τ g i off y hy hN hv =>
    refine .ptr τ g i off y hy (Nat.lt_of_lt_of_le hN h.N) (fun blk' hb hg => ?_)
    obtain ⟨blk, k1, k2, k3, k4, k5⟩ := h.ent τ blk' hb (by rw [hg]; exact hN)
    obtain ⟨h1, p, h2, h3, cs, e, fz, h4⟩ := hv blk k1 (k2.trans hg)
    obtain ⟨cs', fz', h5, _⟩ := h.cells _ cs e fz h4
    exact ⟨by rw [k5]; exact h1, p, k3.trans h2, by rw [k4]; exact h3, cs', e, fz', h5⟩
  | sub τ g i off len y hy hN hv =>
    refine .sub τ g i off len y hy (Nat.lt_of_lt_of_le hN h.N) (fun blk' hb hg => ?_)
    obtain ⟨blk, k1, k2, k3, k4, k5⟩ := h.ent τ blk' hb (by rw [hg]; exact hN)
    obtain ⟨h1, p, cap, h2, h3, cs, e, fz, h4⟩ := hv blk k1 (k2.trans hg)
    obtain ⟨cs', fz', h5, _⟩ := h.cells _ cs e fz h4
    exact ⟨by rw [k5]; exact h1, p, cap, k3.trans h2, by rw [k4]; exact h3, cs', e, fz', h5⟩
  | agg cs vs hs h1 hr ih => exact .agg cs vs hs h1 ih
  | tup cs vs hs hr ih => exact .tup cs vs hs ih
  | fn f a b va vb hsa hsb ha hb iha ihb => exact .fn f a b va vb hsa hsb iha ihb
  | iface t x v hr ih => exact .iface t x v ih
  | mp τ g y hy hN hv =>
    refine .mp τ g y hy (Nat.lt_of_lt_of_le hN h.N) (fun blk' hb hg => ?_)
    obtain ⟨blk, k1, k2, k3, k4, k5⟩ := h.ent τ blk' hb (by rw [hg]; exact hN)
    obtain ⟨p, h2, h3⟩ := hv blk k1 (k2.trans hg)
    exact ⟨p, k3.trans h2, h3⟩
  | it τ g y hy hN hv =>
    refine .it τ g y hy (Nat.lt_of_lt_of_le hN h.N) (fun blk' hb hg => ?_)
    obtain ⟨blk, k1, k2, k3, k4, k5⟩ := h.ent τ blk' hb (by rw [hg]; exact hN)
    obtain ⟨p, h2, h3⟩ := hv blk k1 (k2.trans hg)
    exact ⟨p, k3.trans h2, h3⟩
  | rmp es r arr ck hx hh he =>
    have hlt := (Array.getElem?_eq_some_iff.1 hh).1
    exact .rmp es r arr ck (h.notX hlt hx) ((h.blocks r hlt (fun ho => hx (.inr ho)) (fun ho => hx (.inl (hH _ ho)))).trans hh) he
  | rnil => exact .rnil
/-- The same blocks, which lie as they lay; others' blocks may be others. -/
theorem RelV.frame {c c' : Cx} (hi : Inv c) (hS : c'.S = c.S) (hβ : c'.β = c.β) (hN : c'.N = c.N) (hmem : ∀ (b : Nat) (o : Obj), c.w.heap[b]? = some o → memObj o = true → ¬ c.G b → c'.w.heap[b]? = some o)
    (hG : ∀ b, b < c.w.heap.size → c'.G b → c.G b) {x : PV} {v : Value} (hr : RelV c x v) : RelV c' x v := by
  have own : ∀ b, c'.Own b ↔ c.Own b := fun b => by unfold Cx.Own; rw [hS, hβ]
  have lt : ∀ {b : Nat} {o : Obj}, c.w.heap[b]? = some o → b < c.w.heap.size := fun h => (Array.getElem?_eq_some_iff.1 h).1
  have nx : ∀ {b : Nat} {o : Obj}, c.w.heap[b]? = some o → ¬ c.X b → ¬ c'.X b := by
    rintro b o ho hx (h1 | h1)
    · exact hx (.inl (hG b (lt ho) h1))
    · exact hx (.inr ((own b).1 h1))
  have cell : ∀ {a : Addr} {v : Value}, c.w.cell? a = some v → ¬ c.X a.block → c'.w.cell? a = some v := by
    intro a v hc hx
    obtain ⟨o, h1, h2⟩ := mem_of_cell hc
    exact (World.cell?_of_block (w := c.w) ((hmem _ o h1 h2 (fun h => hx (.inl h))).trans h1.symm)).trans hc
  have mine : ∀ {τ : Nat} {blk : Blk} {p : Nat × Nat} {o : Obj}, c.S[τ]? = some blk → c.β τ = some p → c.w.heap[p.1]? = some o → memObj o = true → c'.w.heap[p.1]? = some o := fun h1 h2 h3 h4 => hmem _ _ h3 h4 (hi.notG _ _ _ h1 h2)
  induction hr with
  | v x => exact .v x
  | undef y => exact .undef y
  | ro sz full rows a cap vals hcap hmax hfull hnone hlen hcell hpure hrel ih =>
    exact .ro sz full rows a cap vals hcap hmax hfull hnone hlen (fun ad ha i row j x h1 h2 => by
      obtain ⟨k1, k2, k3, k4⟩ := hcell ad ha i row j x h1 h2
      obtain ⟨o, m1, m2⟩ := mem_of_cell k3
      exact ⟨k1, nx (b := ad.block) m1 k2, cell k3 k2, k4⟩) hpure ih
  | rp row off b o vals hcell hpure hrel ih =>
    exact .rp row off b o vals (fun j x h1 => by
      obtain ⟨k2, k3, k4⟩ := hcell j x h1
      obtain ⟨ob, m1, m2⟩ := mem_of_cell k3
      exact ⟨nx (b := b) m1 k2, cell k3 k2, k4⟩) hpure ih
  | vw τ g off len y hy hNg hv =>
    refine .vw τ g off len y hy (by rw [hN]; exact hNg) (fun blk hb hg => ?_)
    rw [hS] at hb
    obtain ⟨h1, a, cap, h2, h3, h4, h5⟩ := hv blk hb hg
    refine ⟨h1, a, cap, h2, h3, h4, ?_⟩
    rcases h5 with ⟨p, h5, rfl, cs, e, fz, h6, h7⟩ | h5
    · exact .inl ⟨p, by rw [hβ]; exact h5, rfl, cs, e, fz, mine hb h5 h6 rfl, h7⟩
    · exact .inr h5
  | ptr τ g i off y hy hNg hv =>
    refine .ptr τ g i off y hy (by rw [hN]; exact hNg) (fun blk hb hg => ?_)
    rw [hS] at hb
    obtain ⟨h1, p, h2, h3, cs, e, fz, h4⟩ := hv blk hb hg
    exact ⟨h1, p, by rw [hβ]; exact h2, h3, cs, e, fz, mine hb h2 h4 rfl⟩
  | sub τ g i off len y hy hNg hv =>
    refine .sub τ g i off len y hy (by rw [hN]; exact hNg) (fun blk hb hg => ?_)
    rw [hS] at hb
    obtain ⟨h1, p, cap, h2, h3, cs, e, fz, h4⟩ := hv blk hb hg
    exact ⟨h1, p, cap, by rw [hβ]; exact h2, h3, cs, e, fz, mine hb h2 h4 rfl⟩
  | agg cs vs hs h1 hr ih => exact .agg cs vs hs h1 ih
  | tup cs vs hs hr ih => exact .tup cs vs hs ih
  | fn f a b va vb hsa hsb ha hb iha ihb => exact .fn f a b va vb hsa hsb iha ihb
  | iface t x v hr ih => exact .iface t x v ih
  | mp τ g y hy hNg hv =>
    refine .mp τ g y hy (by rw [hN]; exact hNg) (fun blk hb hg => ?_)
    rw [hS] at hb
    obtain ⟨p, h2, h3⟩ := hv blk hb hg
    exact ⟨p, by rw [hβ]; exact h2, h3⟩
  | it τ g y hy hNg hv =>
    refine .it τ g y hy (by rw [hN]; exact hNg) (fun blk hb hg => ?_)
    rw [hS] at hb
    obtain ⟨p, h2, h3⟩ := hv blk hb hg
    exact ⟨p, by rw [hβ]; exact h2, h3⟩
  | rmp es r arr ck hx hh he => exact .rmp es r arr ck (nx hh hx) (hmem _ _ hh rfl (fun h => hx (.inl h))) he
  | rnil => exact .rnil
/-- Two places of one world: the second one's blocks (in H), and the first one's, are somebody else's to the other. -/
structure Apart (H : Nat → Prop) (cA cB : Cx) : Prop where
  w : cB.w = cA.w
  ab : ∀ b, cA.Own b → cB.G b
  bh : ∀ b, cB.Own b → H b
  ha : ∀ b, H b → cA.G b
  gx : ∀ b, cA.G b → cB.X b
/-- The second one goes on. -/
theorem apart_step {H : Nat → Prop} {cA cB cB' : Cx} (hp : Apart H cA cB) (iA : Inv cA) (iB : Inv cB) (iB' : Inv cB') (h : Step cB cB') (hO : ∀ b, cB'.Own b ↔ cB.Own b) :
    Inv { cA with w := cB'.w } ∧ StepH H cA { cA with w := cB'.w } ∧ Apart H { cA with w := cB'.w } cB' := by
  have hw := hp.w
  have hst : StepH H cA { cA with w := cB'.w } := by
    refine ⟨rfl, by rw [← hw]; exact h.os, by rw [← hw]; exact h.tape, by rw [← hw]; exact h.output, by rw [← hw]; exact h.size, Nat.le_refl _, fun b hb ho hh => ?_, fun τ blk h _ => ⟨blk, h, rfl, rfl, rfl, rfl⟩, fun b h => .inl h, fun b cs e fz hb => ?_⟩
    · rw [← hw] at hb ⊢
      exact h.blocks b hb (fun h => hh (hp.bh b h))
    · rw [← hw] at hb
      exact h.cells b cs e fz hb
  have own : ∀ b, ({ cA with w := cB'.w } : Cx).Own b ↔ cA.Own b := fun b => Iff.rfl
  refine ⟨⟨fun τ blk hb => ?_, iA.notG, iA.inj, fun b hb => Nat.lt_of_lt_of_le (iA.gLt b hb) hst.size, iB'.wi.1, fun b hb => ⟨(iB'.wi.2 b hb).1, fun ho => (iA.wi.2 b hb).2 ((own b).1 ho)⟩⟩, hst, rfl, fun b hb => by rw [h.G]; exact hp.ab b hb, fun b hb => hp.bh b ((hO b).1 hb), hp.ha, fun b hb => (hp.gx b hb).imp (fun h1 => by rw [h.G]; exact h1) (hO b).2⟩
  have hB := iA.blk τ blk hb
  refine ⟨hB.gen, hB.void, fun p hp' => (hB.heap p hp').move (fun x v hr => hr.stepH hst hp.ha) ?_⟩
  have hlt := (hB.heap p hp').lt
  have hng := iA.notG τ blk p hb hp'
  rw [← hw] at hlt ⊢
  exact h.blocks p.1 hlt (fun ho => hng (hp.ha _ (hp.bh _ ho)))
/-- What the first one does, as the second one sees it. -/
structure Kp2 (c c' : Cx) : Prop where
  G : c'.G = c.G
  size : c.w.heap.size ≤ c'.w.heap.size
  mem : ∀ (b : Nat) (o : Obj), c.w.heap[b]? = some o → memObj o = true → ¬ c.Own b → c'.w.heap[b]? = some o
  own : ∀ b, c'.Own b → c.Own b ∨ c.w.heap.size ≤ b
theorem Step.kp2 {c c' : Cx} (h : Step c c') : Kp2 c c' :=
  ⟨h.G, h.size, fun b o ho _ hn => (h.blocks b (Array.getElem?_eq_some_iff.1 ho).1 hn).trans ho, h.own⟩
theorem Kp2.trans {a b c : Cx} (h : Kp2 a b) (k : Kp2 b c) : Kp2 a c :=
  ⟨k.G.trans h.G, Nat.le_trans h.size k.size, fun n o ho hm hn => k.mem n o (h.mem n o ho hm hn) hm (fun hb => by
    rcases h.own n hb with h1 | h1
    · exact hn h1
    · have := (Array.getElem?_eq_some_iff.1 ho).1
      omega), fun n hn => by
    rcases k.own n hn with h1 | h1
    · exact h.own n h1
    · exact .inr (Nat.le_trans h.size h1)⟩
theorem kp2_put {c : Cx} {l : Nat} {o : Obj} (o' : Obj) (hb : c.w.heap[l]? = some o) (hm : memObj o = false) : Kp2 c { c with w := c.w.putObj l o' } :=
  by
  refine ⟨rfl, Nat.le_of_eq (World.putObj_size ..).symm, fun b ob hob hmb _ => ?_, fun b h => .inl h⟩
  rw [← hob]
  refine World.putObj_heap_other ?_
  rintro rfl
  rw [hb] at hob
  cases hob
  rw [hm] at hmb
  cases hmb
theorem apart_yield {H : Nat → Prop} {cA cB cA' : Cx} (hp : Apart H cA cB) (iA : Inv cA) (iB : Inv cB) (iA' : Inv cA') (h : Kp2 cA cA') :
    Inv { cB with w := cA'.w, G := fun b => cB.G b ∨ cA'.Own b } ∧ Apart H cA' { cB with w := cA'.w, G := fun b => cB.G b ∨ cA'.Own b } ∧ ∀ x v, RelV cB x v → RelV { cB with w := cA'.w, G := fun b => cB.G b ∨ cA'.Own b } x v := by
  have hw := hp.w
  have hG : ∀ b, b < cB.w.heap.size → (cB.G b ∨ cA'.Own b) → cB.G b := by
    rintro b hb (h1 | h1)
    · exact h1
    · rcases h.own b h1 with h2 | h2
      · exact hp.ab b h2
      · rw [hw] at hb
        omega
  have hmem : ∀ (b : Nat) (o : Obj), cB.w.heap[b]? = some o → memObj o = true → ¬ cB.G b → cA'.w.heap[b]? = some o := fun b o ho hm hn => by
    rw [hw] at ho
    exact h.mem b o ho hm (fun h => hn (hp.ab b h))
  have hr : ∀ x v, RelV cB x v → RelV { cB with w := cA'.w, G := fun b => cB.G b ∨ cA'.Own b } x v := fun x v hr => RelV.frame (c' := { cB with w := cA'.w, G := fun b => cB.G b ∨ cA'.Own b }) iB rfl rfl rfl hmem hG hr
  refine ⟨⟨fun τ blk hb => ?_, fun τ blk p hb hp' hg => ?_, iB.inj, fun b hb => ?_, iA'.wi.1, fun b hb => ⟨(iA'.wi.2 b hb).1, (iB.wi.2 b hb).2⟩⟩, ⟨rfl, fun b hb => .inr hb, fun b hb => hp.bh b hb, fun b hb => by rw [h.G]; exact hp.ha b hb, fun b hb => (hp.gx b (by rw [← h.G]; exact hb)).imp .inl id⟩, hr⟩
  · have hB := iB.blk τ blk hb
    refine ⟨hB.gen, hB.void, fun p hp' => ?_⟩
    have hh := hB.heap p hp'
    obtain ⟨o, m1, m2⟩ := hh.mem
    exact hh.move (fun x v h => hr x v h) ((hmem _ o m1 m2 (iB.notG τ blk p hb hp')).trans m1.symm)
  · exact iB.notG τ blk p hb hp' (hG _ ((iB.blk τ blk hb).heap p hp').lt hg)
  · rcases hb with hb | hb
    · refine Nat.lt_of_lt_of_le (iB.gLt b hb) ?_
      rw [hw]
      exact h.size
    · exact Cx.Own.lt iA' hb
end Go.Proofs.YtenoecffjfcifaaDoor.Pv
