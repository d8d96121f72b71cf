-- A range over a function: what an iterator promises, and how one is walked.
import Derived.Test.YteocmeidkdhmiaaPvT
namespace Go.Proofs.Yteocmeidkdhmiaa.Pv
set_option linter.all false
set_option linter.unusedVariables false
open Go.RowKit Go.Proofs
/-- The place of one that is told of no block. -/
def Cx.lent0 (c : Cx) : Cx := { c with S := [], G := c.X }
theorem lent0_noOwn (c : Cx) (b : Nat) : ¬ c.lent0.Own b := fun ⟨τ, blk, p, h1, _⟩ => by simp [Cx.lent0] at h1
theorem lent0_X (c : Cx) (b : Nat) : c.lent0.X b ↔ c.X b := ⟨fun h => by
  rcases h with h | h
  · exact h
  · exact absurd h (lent0_noOwn c b), fun h => .inl h⟩
theorem lent0_inv {c : Cx} (hi : Inv c) : Inv c.lent0 := ⟨fun τ blk h => by simp [Cx.lent0] at h, fun τ blk p h => by simp [Cx.lent0] at h, fun τ τ' b b' p p' h => by simp [Cx.lent0] at h, fun b hb => by
  rcases hb with hb | hb
  · exact hi.gLt b hb
  · exact Cx.Own.lt hi hb⟩
theorem RelV.lent0 {c : Cx} {x : PV} {v : Value} (hp : x.Pure) (h : RelV c x v) : RelV c.lent0 x v :=
  h.pure hp (fun b hb h => hb ((lent0_X c b).1 h)) (fun _ _ _ h => h) (fun _ _ _ _ h => h)
theorem lent0_back {c c1 : Cx} (hi : Inv c) (hst : Step c.lent0 c1) : Inv { c with w := c1.w } ∧ Step c { c with w := c1.w } ∧ (∀ x v, x.Pure → RelV c1 x v → RelV { c with w := c1.w } x v) := by
  have hall : ∀ b, b < c.w.heap.size → c1.w.heap[b]? = c.w.heap[b]? := fun b hb => hst.blocks b hb (lent0_noOwn c b)
  have hst2 : Step c { c with w := c1.w } := ⟨rfl, hst.os, hst.tape, hst.output, hst.size, Nat.le_refl _, fun b hb _ => hall b hb, fun τ blk h _ => ⟨blk, h, rfl, rfl, rfl, rfl⟩, fun b h => .inl h, fun b cs e fz h => ⟨cs, fz, by rw [hall b (Array.getElem?_eq_some_iff.1 h).1]; exact h, rfl⟩⟩
  refine ⟨⟨fun τ blk h => ?_, hi.notG, hi.inj, fun b hb => Nat.lt_of_lt_of_le (hi.gLt b hb) hst.size⟩, hst2, fun x v hp hr => hr.pure hp (fun b hb h => hb ?_) (fun _ _ _ h => h) (fun _ _ _ _ h => h)⟩
  · have hB := hi.blk τ blk h
    exact ⟨hB.gen, hB.void, fun p hp => (hB.heap p hp).move (fun x v h => h.step hst2) (hall _ (hB.heap p hp).lt)⟩
  · refine .inl ?_
    rw [hst.G]
    exact h
/-- What abides new memory of somebody else's. -/
def Stable (J : Cx → Prop) : Prop := ∀ (c : Cx) (w' : World), J c → Inv c → Inv { c with w := w' } → Step c { c with w := w' } → J { c with w := w' }
/-- What is pure stays as it was. -/
def Kp (c c' : Cx) : Prop := ∀ x v, PV.Pure x → RelV c x v → RelV c' x v
/-- Where an iterator's walk stands: how many rounds are over, or that one said 'no more'. -/
def JRel (J : Cx → Prop) (σ : PS) (a : Act) (w : World) : Prop := ∃ c, c.w = w ∧ Inv c ∧ J c ∧ Rel c.lent0 σ a ∧ a.defers = []
def TI (P : Program) (JS : Option Nat → Cx → Prop) (code : Code) (σ : PS) (s : Option Nat) (Q : Exit → PS → Option Nat → Prop) : Prop :=
  ∀ (mm : Nat) (a : Act) (w : World), JRel (JS s) σ a w → code.wpIn (FR none) mm P (fun e a' w' => ∃ σ' s', JRel (JS s') σ' a' w' ∧ Q e σ' s') a w
theorem TI.mono {P : Program} {JS : Option Nat → Cx → Prop} {code : Code} {σ : PS} {s : Option Nat} {Q Q' : Exit → PS → Option Nat → Prop} (h : TI P JS code σ s Q) (hq : ∀ e σ s, Q e σ s → Q' e σ s) : TI P JS code σ s Q' :=
  fun mm a w hj => wpIn_mono (h mm a w hj) fun e a' w' ⟨σ', s', h1, h2⟩ => ⟨σ', s', h1, hq _ _ _ h2⟩
def behindI (K : PS → Option Nat → Prop) (Q : Exit → PS → Option Nat → Prop) : Exit → PS → Option Nat → Prop
  | .normal, σ, s => K σ s
  | e, σ, s => Q e σ s
theorem ti_seq {P : Program} {JS : Option Nat → Cx → Prop} {x y : Code} {σ : PS} {s : Option Nat} {Q : Exit → PS → Option Nat → Prop} (h : TI P JS x σ s (behindI (fun σ' s' => TI P JS y σ' s' Q) Q)) : TI P JS (.seq x y) σ s Q := by
  intro mm a w hj
  refine wpIn_seq (wpIn_mono (h mm a w hj) ?_)
  rintro e a' w' ⟨σ', s', h1, h2⟩
  cases e with
  | normal => exact h2 mm a' w' h1
  | exit id => exact ⟨σ', s', h1, h2⟩
  | goto l => exact ⟨σ', s', h1, h2⟩
  | ret => exact ⟨σ', s', h1, h2⟩
  | panic ch => exact ⟨σ', s', h1, h2⟩
  | outgrown => exact ⟨σ', s', h1, h2⟩
def inBlkI (id : Nat) (Q : Exit → PS → Option Nat → Prop) : Exit → PS → Option Nat → Prop
  | .exit id', σ, s => if id' = id then Q .normal σ s else Q (.exit id') σ s
  | e, σ, s => Q e σ s
theorem ti_block {P : Program} {JS : Option Nat → Cx → Prop} {id : Nat} {body : Code} {σ : PS} {s : Option Nat} {Q : Exit → PS → Option Nat → Prop} (h : TI P JS body σ s (inBlkI id Q)) : TI P JS (.block id body) σ s Q := by
  intro mm a w hj
  refine wpIn_block (wpIn_mono (h mm a w hj) ?_)
  rintro e a' w' ⟨σ', s', h1, h2⟩
  cases e with
  | exit id' =>
    simp only [inBlkI] at h2
    simp only [Exit.inBlock]
    split at h2
    · rename_i he; rw [if_pos he]; exact ⟨σ', s', h1, h2⟩
    · rename_i he; rw [if_neg he]; exact ⟨σ', s', h1, h2⟩
  | normal => exact ⟨σ', s', h1, h2⟩
  | goto l => exact ⟨σ', s', h1, h2⟩
  | ret => exact ⟨σ', s', h1, h2⟩
  | panic ch => exact ⟨σ', s', h1, h2⟩
  | outgrown => exact ⟨σ', s', h1, h2⟩
theorem ti_cond {P : Program} {JS : Option Nat → Cx → Prop} {cnd : Operand} {x y : Code} {σ : PS} {s : Option Nat} {Q : Exit → PS → Option Nat → Prop} {b : Bool} (hb : σ.get cnd = .v (.bool b)) (ht : b = true → TI P JS x σ s Q) (hf : b = false → TI P JS y σ s Q) : TI P JS (.cond cnd x y) σ s Q := by
  rintro mm a w ⟨c, h1, h2, h3, r, h5⟩
  have hr := r.get cnd
  rw [hb] at hr
  have he : a.eval cnd = .bool b := by
    generalize a.eval cnd = v at hr
    cases hr
    rfl
  exact wpIn_cond_split he (fun h => ht h mm a w ⟨c, h1, h2, h3, r, h5⟩) (fun h => hf h mm a w ⟨c, h1, h2, h3, r, h5⟩)
theorem ti_loop {P : Program} {JS : Option Nat → Cx → Prop} {body : Code} {σ : PS} {s : Option Nat} {Q : Exit → PS → Option Nat → Prop} (I : Nat → PS → Option Nat → Prop) (n0 : Nat) (h0 : I n0 σ s)
    (round : ∀ n σ s, I n σ s → TI P JS body σ s (behindI (fun σ' s' => ∃ m, m < n ∧ I m σ' s') Q)) : TI P JS (.loop body) σ s Q := by
  intro mm a w hj
  have key : ∀ N n σ s, I n σ s → n < N → ∀ a w, JRel (JS s) σ a w → Code.roundsIn (FR none) mm P body (fun e a' w' => ∃ σ' s', JRel (JS s') σ' a' w' ∧ Q e σ' s') N a w := by
    intro N
    induction N with
    | zero => intro n σ s _ h; omega
    | succ N ih =>
      intro n σ s hI hn a w hj
      rw [roundsIn_succ]
      refine wpIn_mono (round n σ s hI mm a w hj) ?_
      rintro e a' w' ⟨σ', s', h1, h2⟩
      cases e with
      | normal =>
        obtain ⟨m, hm, hI'⟩ := h2
        exact ih m σ' s' hI' (by omega) a' w' h1
      | exit id => exact ⟨σ', s', h1, h2⟩
      | goto l => exact ⟨σ', s', h1, h2⟩
      | ret => exact ⟨σ', s', h1, h2⟩
      | panic ch => exact ⟨σ', s', h1, h2⟩
      | outgrown => exact ⟨σ', s', h1, h2⟩
  exact wpIn_loop_rounds (n0 + 1) (key (n0 + 1) n0 σ s h0 (Nat.lt_succ_self _) a w hj)
/-- What is told of slots, all of it pure. -/
def HoldsP (σ : PS) (n : Nat) (T : List (Nat × PV)) : Prop := σ.n = n ∧ Has σ.tm T ∧ ∀ p ∈ T, p.2.Pure
theorem look_pure {T : List (Nat × PV)} (h : ∀ p ∈ T, p.2.Pure) (t : Nat) : (look t T).Pure := by
  induction T with
  | nil => exact .undef
  | cons p T ih =>
    obtain ⟨s, x⟩ := p
    simp only [look]
    split
    · exact h (s, x) (by simp)
    · exact ih fun q hq => h q (by simp [hq])
theorem has_look {tm T : List (Nat × PV)} (h : ∀ p ∈ T, look p.1 tm = p.2) (t : Nat) : look t T = .undef ∨ look t T = look t tm := by
  induction T with
  | nil => exact .inl rfl
  | cons p T ih =>
    obtain ⟨s, x⟩ := p
    simp only [look]
    split
    · rename_i e; subst e; exact .inr (h (t, x) (by simp)).symm
    · exact ih fun q hq => h q (by simp [hq])
end Go.Proofs.Yteocmeidkdhmiaa.Pv
