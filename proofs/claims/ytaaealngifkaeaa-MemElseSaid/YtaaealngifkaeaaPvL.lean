-- Twelfth text: a walk through code: regions, branches, loops, calls.
import Derived.Test.YtaaealngifkaeaaPvI
import Derived.LoopN
namespace Go.Proofs.Ytaaealngifkaeaa.Pv
set_option linter.all false
open Go.RowKit
set_option linter.unusedVariables false

/-- What a call of function f with such arguments and blocks answers. -/
def GCall (P : Program) (f : FuncId) (args : List PV) (S : List Blk) (R : PV → List Blk → Prop) : Prop :=
  ∀ (c : Cx) (vals : Array Value), Inv c → c.S = S → vals.size = args.length → (∀ (i : Nat) (x : PV) (v : Value), args[i]? = some x → vals[i]? = some v → RelV c x v) →
    Calls P f vals c.w fun e w' => ∃ v x c', e = .returned v ∧ c'.w = w' ∧ R x c'.S ∧ Inv c' ∧ Step c c' ∧ RelV c' x v

theorem GCall.mono {P : Program} {f : FuncId} {args : List PV} {S : List Blk} {R R' : PV → List Blk → Prop} (h : GCall P f args S R) (hr : ∀ x S', R x S' → R' x S') : GCall P f args S R' :=
  fun c vals hi hs hl hv => (h c vals hi hs hl hv).mono fun e w' ⟨v, x, c', h1, h2, h3, h4⟩ => ⟨v, x, c', h1, h2, hr _ _ h3, h4⟩

/-- A function of pure values: what it answers for such arguments. -/
def PCall (P : Program) (f : FuncId) (args : List PV) (r : PV) : Prop := (∀ x ∈ args, x.Pure) ∧ r.Pure ∧ GCall P f args [] fun x _ => x = r

/-- A call of pure values changes no block of one's own. -/
theorem PCall.any {P : Program} {f : FuncId} {args : List PV} {r : PV} (h : PCall P f args r) (S : List Blk) : GCall P f args S fun x S' => x = r ∧ S' = S := by
  intro c vals hi hs hl hv
  obtain ⟨hp, hpr, hc⟩ := h
  let c1 : Cx := { c with S := [], G := c.X }
  have hX : ∀ b, c1.X b ↔ c.X b := fun b => ⟨fun h => by
    rcases h with h | ⟨τ, blk, p, h1, _⟩
    · exact h
    · simp [c1] at h1, fun h => .inl h⟩
  have hi1 : Inv c1 := ⟨fun τ blk h => by simp [c1] at h, fun τ blk p h => by simp [c1] at h, fun τ τ' b b' p p' h => by simp [c1] at h, fun b hb => by
    rcases hb with hb | hb
    · exact hi.gLt b hb
    · exact Cx.Own.lt hi hb⟩
  refine (hc c1 vals hi1 rfl hl (fun i x v h1 h2 => (hv i x v h1 h2).pure (hp x (List.mem_of_getElem? h1)) (fun b hb => fun h => hb ((hX b).1 h)) (fun a u _ h => h))).mono ?_
  rintro e w' ⟨v, x, c', rfl, rfl, rfl, hi', hst, hr⟩
  have hno : ∀ b, ¬ c1.Own b := fun b ⟨τ, blk, p, h1, _⟩ => by simp [c1] at h1
  have hall : ∀ b, b < c.w.heap.size → c'.w.heap[b]? = c.w.heap[b]? := fun b hb => hst.blocks b hb (hno b)
  let c2 : Cx := { c with w := c'.w }
  have hst2 : Step c c2 := ⟨rfl, hst.os, hst.tape, hst.output, hst.size, Nat.le_refl _, fun b hb _ => hall b hb, fun τ blk h _ => ⟨blk, h, rfl, rfl, rfl, rfl⟩, fun b h => .inl h, fun b cs e fz h => ⟨cs, fz, by rw [hall b (Array.getElem?_eq_some_iff.1 h).1]; exact h, rfl⟩⟩
  have hi2 : Inv c2 := ⟨fun τ blk h => by
    have hB := hi.blk τ blk h
    exact ⟨hB.gen, hB.len, hB.void, fun p hp => by
      obtain ⟨cs, e, fz, k1, k2, k3, k4⟩ := hB.heap p hp
      exact ⟨cs, e, fz, by rw [hall _ (Array.getElem?_eq_some_iff.1 k1).1]; exact k1, k2, fun i row j x r1 r2 => by
        obtain ⟨v, v1, v2, v3⟩ := k3 i row j x r1 r2
        exact ⟨v, v1, v2, v3.step hst2⟩, k4⟩⟩, hi.notG, hi.inj, fun b hb => Nat.lt_of_lt_of_le (hi.gLt b hb) hst.size⟩
  refine ⟨v, x, c2, rfl, rfl, ⟨rfl, hs⟩, hi2, hst2, hr.pure hpr (fun b hb h => hb ?_) (fun a u _ h => h)⟩
  rcases h with h | h
  · exact .inl (by rw [hst.G]; exact .inl h)
  · exact .inl (by rw [hst.G]; exact .inr h)

theorem calls_post {P : Program} {f : FuncId} {args : Array Value} {w : World} {R R' : Ending → World → Prop} (h : Calls P f args w R) (hr : ∀ e w', R e w' → R' e w') : Calls P f args w R' := h.mono hr

/-- A call by the function's number. -/
theorem pop_call {P : Program} {σ : PS} {o : Oper} {K : PV → List Blk → Prop} {cl : Call} {g : Operand} {f : FuncId} {fn : Func} {first captured : List PV} (ho : o.op = .call cl) (hc : cl.callee = .value g) (hg : σ.get g = .fn (.func f) first captured)
    (hf : P.funcs[f]? = some fn) (hb : fn.body.isSome = true) (hn : (fn.name == "runtime.NumGoroutine") = false) {R : PV → List Blk → Prop} (h : GCall P f (first ++ cl.args.toList.map σ.get ++ captured) σ.S R) (hK : ∀ x S', R x S' → K x S') : PopSem P σ o K := by
  intro c a r next Q hnx
  have hrg := r.get g
  rw [hg] at hrg
  generalize hag : a.eval g = vg at hrg
  cases hrg with
  | fn _ _ _ va vb hsa hsb ha hb' =>
    have hrun : (execOp a.eval o).run P c.w = .ok (.enter f (va ++ cl.args.map a.eval ++ vb)) c.w := by
      simp only [execOp, ho, resolve, hc, hag, Deferred.ofValue, Sem.run_bind, Sem.run_pure, Result.andThen_ok, invoke, callFunc, run_program, hf]
      have h1 : ¬ (fn.name == "runtime.NumGoroutine") = true := by rw [hn]; simp
      have h2 : ¬ fn.body.isNone = true := by cases hb0 : fn.body <;> simp_all
      rw [if_neg h1, if_neg h2]
      rfl
    unfold Oper.wp
    rw [hrun, Oper.upon_enter]
    have hargs : ∀ (i : Nat) (x : PV) (v : Value), (first ++ cl.args.toList.map σ.get ++ captured)[i]? = some x → (va ++ cl.args.map a.eval ++ vb)[i]? = some v → RelV c x v := by
      intro i x v hx hv
      rcases Nat.lt_or_ge i (first ++ cl.args.toList.map σ.get).length with h1 | h1
      · rw [List.getElem?_append_left h1] at hx
        rw [Array.getElem?_append_left (by simp at h1 ⊢; omega)] at hv
        rcases Nat.lt_or_ge i first.length with h2 | h2
        · rw [List.getElem?_append_left h2] at hx
          rw [Array.getElem?_append_left (by omega)] at hv
          exact ha i x v hx hv
        · rw [List.getElem?_append_right h2, List.getElem?_map, Array.getElem?_toList] at hx
          rw [Array.getElem?_append_right (by omega), Array.getElem?_map, hsa] at hv
          obtain ⟨y, hy, rfl⟩ := Option.map_eq_some_iff.1 hx
          rw [hy] at hv
          cases hv
          exact r.get y
      · rw [List.getElem?_append_right h1] at hx
        rw [Array.getElem?_append_right (by simp at h1 ⊢; omega)] at hv
        refine hb' _ x v hx ?_
        rw [← hv]
        congr 1
        simp [hsa]
    refine (h c _ r.inv r.S (by simp [hsa, hsb]) hargs).mono ?_
    rintro e w' ⟨v, x, c', rfl, rfl, h1, h2, h3, h4⟩
    exact hnx x c' v (hK _ _ h1) h2 h3 h4

/-- What a guard says: what was left out says the opposite of what is wanted. -/
def gval (x : PV) (w : Bool) : Option Bool :=
  match x with
  | .v (.bool b) => some b
  | .tup [] => some (!w)
  | _ => none
def guardPV (ops : List Oper) (σ : PS) (j : Nat) (w : Bool) : Option Bool :=
  match ops[j]? with
  | some o => match o.dst with
    | some d => gval (look d σ.tm) w
    | none => none
  | none => none
theorem rel_void (c : Cx) : RelV c (.tup []) Go.undef := .tup [] #[] rfl (fun i x v h _ => by simp at h)

/-- Operations, one behind the other. -/
def Pops (P : Program) (ops : List Oper) (Q : PS → Prop) : List Oper → PS → Prop
  | [], σ => Q σ
  | o :: rest, σ => match o.guard with
    | none => PopSem P σ o fun x S' => Pops P ops Q rest (σ.put o.dst x S')
    | some (j, w) => ∃ b, guardPV ops σ j w = some b ∧ (b = w → PopSem P σ o fun x S' => Pops P ops Q rest (σ.put o.dst x S')) ∧ (b = !w → Pops P ops Q rest (σ.put o.dst (.tup []) σ.S))

def dstOk (n : Nat) (o : Oper) : Bool := match o.dst with | some d => decide (d < n) | none => true

theorem yielded_of {ops : Array Oper} {c : Cx} {σ : PS} {a : Act} (r : Rel c σ a) {j : Nat} {w b : Bool} (h : guardPV ops.toList σ j w = some b) (hd : ∀ o ∈ ops.toList, dstOk σ.n o = true) : (yielded ops a.tmps j == some w) = (b == w) := by
  unfold guardPV at h
  split at h
  · rename_i o ho
    split at h
    · rename_i d hdst
      · have hrel := r.tm d
        have hlt : d < a.tmps.size := by
          have := hd o (List.mem_of_getElem? ho)
          simp only [dstOk, hdst, decide_eq_true_eq] at this
          rw [r.n]; exact this
        unfold yielded
        rw [Array.getElem?_toList] at ho
        have hv : a.tmps[d]? = some (a.tmps.getD d Go.undef) := by
          rw [Array.getD_eq_getD_getElem?, Array.getElem?_eq_getElem hlt]; rfl
        simp only [ho, Option.bind_some, hdst, hv]
        generalize a.tmps.getD d Go.undef = y at hrel
        generalize look d σ.tm = p at h hrel
        unfold gval at h
        split at h
        · cases h
          cases hrel
          rfl
        · cases h
          cases hrel with
          | tup cs vs hs hr => cases w <;> rfl
        · cases h
    · cases h
  · cases h

/-- What a walk leaves, told of slots and world. -/
def Post (c : Cx) (Q : Exit → PS → Prop) (e : Exit) (a : Act) (w : World) : Prop := ∃ c' σ', Step c c' ∧ c'.w = w ∧ Rel c' σ' a ∧ Q e σ'

/-- Code does, from what is known, what Q asks. -/
def Tr (P : Program) (code : Code) (σ : PS) (Q : Exit → PS → Prop) : Prop := ∀ (c : Cx) (a : Act), Rel c σ a → code.wp P (Post c Q) a c.w

theorem Post.step {c c' : Cx} (h : Step c c') {Q : Exit → PS → Prop} {e : Exit} {a : Act} {w : World} (hp : Post c' Q e a w) : Post c Q e a w := by
  obtain ⟨c2, σ', h1, h2, h3, h4⟩ := hp
  exact ⟨c2, σ', h.trans h1, h2, h3, h4⟩

theorem pops_sound {P : Program} {ops : Array Oper} {Q : Exit → PS → Prop} : ∀ (l : List Oper) (σ : PS) (c : Cx) (a : Act), (∀ o ∈ ops.toList, dstOk σ.n o = true) → (∀ o ∈ l, dstOk σ.n o = true) → Pops P ops.toList (Q .normal) l σ → Rel c σ a → wpList P ops (Post c Q) l a c.w
  | [], σ, c, a, _, _, h, r => ⟨c, σ, .refl c, rfl, r, h⟩
  | o :: rest, σ, c, a, hd, hl, h, r => by
    have hdo : ∀ t, o.dst = some t → t < σ.n := fun t ht => by
      have := hl o (by simp)
      simpa [dstOk, ht] using this
    have hput : ∀ x S', (σ.put o.dst x S').n = σ.n := fun x S' => by cases o.dst <;> rfl
    have main : PopSem P σ o (fun x S' => Pops P ops.toList (Q .normal) rest (σ.put o.dst x S')) → o.wp P a c.w (wpList P ops (Post c Q) rest) (Post c Q) := by
      intro hp
      refine hp c a r _ _ (fun x c' v hK hi hs hv => ?_)
      have hr := r.put hs hi hv hdo
      have := pops_sound rest _ c' _ (fun o' ho' => by rw [hput]; exact hd o' ho') (fun o' ho' => by rw [hput]; exact hl o' (by simp [ho'])) hK hr
      have aux : ∀ (l : List Oper) (a : Act) (w : World), wpList P ops (Post c' Q) l a w → wpList P ops (Post c Q) l a w := by
        intro l
        induction l with
        | nil => intro a w h; exact h.step hs
        | cons o l ih =>
          intro a w h
          have mono : ∀ {o : Oper} {a : Act} {w : World}, o.wp P a w (wpList P ops (Post c' Q) l) (Post c' Q) → o.wp P a w (wpList P ops (Post c Q) l) (Post c Q) := by
            intro o a w hh
            unfold Oper.wp at *
            generalize (execOp a.eval o).run P w = res at *
            cases res with
            | ok n w' =>
              cases n <;> simp only [Oper.upon] at hh ⊢ <;>
                first
                  | exact ih _ _ hh
                  | exact Calls.mono hh (fun e w'' he => by cases e with | returned v => exact ih _ _ he | panicked ch => exact Post.step hs he | outgrown => obtain ⟨a0, w0, h0⟩ := he; exact ⟨a0, w0, Post.step hs h0⟩)
                  | exact Rows.mono hh (fun _ _ he => ih _ _ he)
            | halt x w' => cases x <;> simp only [Oper.upon] at hh ⊢ <;> exact Post.step hs hh
          unfold wpList at h ⊢
          split
          · rename_i hw
            rw [if_pos hw] at h
            rcases h with h | ⟨h1, a0, w0, h0⟩
            · exact .inl (mono h)
            · exact .inr ⟨h1, a0, w0, Post.step hs h0⟩
          · rename_i hw
            rw [if_neg hw] at h
            exact ih _ _ h
      exact aux rest _ _ this
    unfold Pops at h
    unfold wpList
    split at h
    · rename_i hg
      rw [if_pos (by simp [Region.wanted, hg])]
      exact .inl (main h)
    · rename_i j w hg
      obtain ⟨b, h1, h2, h3⟩ := h
      have hy := yielded_of r h1 hd
      by_cases hbw : b = w
      · rw [if_pos (by rw [show Region.wanted o (yielded ops a.tmps) = (b == w) from by unfold Region.wanted; rw [hg]; exact hy]; simp [hbw])]
        exact .inl (main (h2 hbw))
      · rw [if_neg (by rw [show Region.wanted o (yielded ops a.tmps) = (b == w) from by unfold Region.wanted; rw [hg]; exact hy]; simp [hbw])]
        have hb' : b = !w := by cases b <;> cases w <;> simp_all
        have hr := r.put (.refl c) r.inv (rel_void c) hdo
        rw [r.S] at hr
        exact pops_sound rest _ c _ (fun o' ho' => by rw [hput]; exact hd o' ho') (fun o' ho' => by rw [hput]; exact hl o' (by simp [ho'])) (h3 hb') hr

theorem tr_region {P : Program} {id : Nat} {ops : Array Oper} {σ : PS} {Q : Exit → PS → Prop} (hd : ops.toList.all (dstOk σ.n) = true) (h : Pops P ops.toList (Q .normal) ops.toList σ) : Tr P (.region id ops false) σ Q :=
  fun c a r => wp_region_list (pops_sound ops.toList σ c a (List.all_eq_true.1 hd) (List.all_eq_true.1 hd) h r)

theorem wp_post {P : Program} {code : Code} {Q Q' : Exit → Act → World → Prop} {a : Act} {w : World} (h : code.wp P Q a w) (hq : ∀ e a w, Q e a w → Q' e a w) : code.wp P Q' a w := wp_mono h hq

theorem Tr.mono {P : Program} {code : Code} {σ : PS} {Q Q' : Exit → PS → Prop} (h : Tr P code σ Q) (hq : ∀ e σ', Q e σ' → Q' e σ') : Tr P code σ Q' :=
  fun c a r => wp_mono (h c a r) fun e a' w' ⟨c', σ', h1, h2, h3, h4⟩ => ⟨c', σ', h1, h2, h3, hq _ _ h4⟩

/-- What stands behind. -/
def behind (K : PS → Prop) (Q : Exit → PS → Prop) : Exit → PS → Prop
  | .normal, σ => K σ
  | e, σ => Q e σ

theorem tr_seq {P : Program} {x y : Code} {σ : PS} {Q : Exit → PS → Prop} (h : ∀ K : PS → Prop, (∀ σ', Tr P y σ' Q → K σ') → Tr P x σ (behind K Q)) : Tr P (.seq x y) σ Q := by
  intro c a r
  refine wp_seq (wp_mono (h (fun σ' => Tr P y σ' Q) (fun _ h => h) c a r) ?_)
  rintro e a' w' ⟨c', σ', h1, rfl, h3, h4⟩
  cases e with
  | normal => exact wp_mono (h4 c' a' h3) fun e a w hp => hp.step h1
  | exit id => exact ⟨c', σ', h1, rfl, h3, h4⟩
  | goto l => exact ⟨c', σ', h1, rfl, h3, h4⟩
  | ret => exact ⟨c', σ', h1, rfl, h3, h4⟩
  | panic ch => exact ⟨c', σ', h1, rfl, h3, h4⟩
  | outgrown => exact ⟨c', σ', h1, rfl, h3, h4⟩

theorem tr_skip {P : Program} {σ : PS} {Q : Exit → PS → Prop} (h : Q .normal σ) : Tr P .skip σ Q := fun c a r => wp_skip ⟨c, σ, .refl c, rfl, r, h⟩
theorem tr_label {P : Program} {l : Nat} {σ : PS} {Q : Exit → PS → Prop} (h : Q .normal σ) : Tr P (.label l) σ Q := fun c a r => wp_label ⟨c, σ, .refl c, rfl, r, h⟩
theorem tr_exit {P : Program} {id : Nat} {σ : PS} {Q : Exit → PS → Prop} (h : Q (.exit id) σ) : Tr P (.exit id) σ Q := fun c a r => wp_exit ⟨c, σ, .refl c, rfl, r, h⟩
theorem tr_goto {P : Program} {l : Nat} {σ : PS} {Q : Exit → PS → Prop} (h : Q (.goto l) σ) : Tr P (.goto l) σ Q := fun c a r => wp_goto ⟨c, σ, .refl c, rfl, r, h⟩
theorem tr_ret {P : Program} {σ : PS} {Q : Exit → PS → Prop} (h : Q .ret σ) : Tr P .ret σ Q := fun c a r => wp_ret ⟨c, σ, .refl c, rfl, r, h⟩

theorem tr_cond {P : Program} {cnd : Operand} {x y : Code} {σ : PS} {Q : Exit → PS → Prop} {b : Bool} (hb : σ.get cnd = .v (.bool b)) (ht : b = true → Tr P x σ Q) (hf : b = false → Tr P y σ Q) : Tr P (.cond cnd x y) σ Q := by
  intro c a r
  have hr := r.get cnd
  rw [hb] at hr
  have he : a.eval cnd = .bool b := by
    generalize a.eval cnd = v at hr
    cases hr
    rfl
  exact wp_cond_split he (fun h => ht h c a r) (fun h => hf h c a r)

/-- A block's way out. -/
def inBlk (id : Nat) (Q : Exit → PS → Prop) : Exit → PS → Prop
  | .exit id', σ => if id' = id then Q .normal σ else Q (.exit id') σ
  | e, σ => Q e σ

theorem tr_block {P : Program} {id : Nat} {body : Code} {σ : PS} {Q : Exit → PS → Prop} (h : Tr P body σ (inBlk id Q)) : Tr P (.block id body) σ Q := by
  intro c a r
  refine wp_block (wp_mono (h c a r) ?_)
  rintro e a' w' ⟨c', σ', h1, rfl, h3, h4⟩
  cases e with
  | exit id' =>
    simp only [inBlk] at h4
    simp only [Exit.inBlock]
    split at h4
    · rename_i he; rw [if_pos he]; exact ⟨c', σ', h1, rfl, h3, h4⟩
    · rename_i he; rw [if_neg he]; exact ⟨c', σ', h1, rfl, h3, h4⟩
  | normal => exact ⟨c', σ', h1, rfl, h3, h4⟩
  | goto l => exact ⟨c', σ', h1, rfl, h3, h4⟩
  | ret => exact ⟨c', σ', h1, rfl, h3, h4⟩
  | panic ch => exact ⟨c', σ', h1, rfl, h3, h4⟩
  | outgrown => exact ⟨c', σ', h1, rfl, h3, h4⟩

theorem tr_loop {P : Program} {body : Code} {σ : PS} {Q : Exit → PS → Prop} (I : Nat → PS → Prop) (n0 : Nat) (h0 : I n0 σ)
    (round : ∀ n σ', I n σ' → Tr P body σ' (behind (fun σ'' => ∃ m, m < n ∧ I m σ'') Q)) : Tr P (.loop body) σ Q := by
  have key : ∀ N n σ', I n σ' → n < N → ∀ c a, Rel c σ' a → Code.rounds P body (Post c Q) N a c.w := by
    intro N
    induction N with
    | zero => intro n σ' _ h; omega
    | succ N ih =>
      intro n σ' hI hn c a r
      rw [rounds_succ]
      refine wp_mono (round n σ' hI c a r) ?_
      rintro e a' w' ⟨c', σ'', h1, rfl, h3, h4⟩
      cases e with
      | normal =>
        obtain ⟨m, hm, hI'⟩ := h4
        have := ih m σ'' hI' (by omega) c' a' h3
        have aux : ∀ N a w, Code.rounds P body (Post c' Q) N a w → Code.rounds P body (Post c Q) N a w := by
          intro N
          induction N with
          | zero => intro a w h; exact h
          | succ N ih2 =>
            intro a w h
            rw [rounds_succ] at h ⊢
            refine wp_mono h ?_
            intro e a w h
            cases e with
            | normal => exact ih2 _ _ h
            | exit id => exact Post.step h1 h
            | goto l => exact Post.step h1 h
            | ret => exact Post.step h1 h
            | panic ch => exact Post.step h1 h
            | outgrown => exact Post.step h1 h
        exact aux N _ _ this
      | exit id => exact ⟨c', σ'', h1, rfl, h3, h4⟩
      | goto l => exact ⟨c', σ'', h1, rfl, h3, h4⟩
      | ret => exact ⟨c', σ'', h1, rfl, h3, h4⟩
      | panic ch => exact ⟨c', σ'', h1, rfl, h3, h4⟩
      | outgrown => exact ⟨c', σ'', h1, rfl, h3, h4⟩
  exact fun c a r => wp_loop_rounds (n0 + 1) (key (n0 + 1) n0 σ h0 (Nat.lt_succ_self _) c a r)

/-- Less is known: some slots, and the first blocks. -/
theorem Rel.forget {c : Cx} {σ : PS} {a : Act} (r : Rel c σ a) (tm : List (Nat × PV)) (k : Nat) (h : ∀ p ∈ tm, look p.1 σ.tm = p.2) : ∃ c', Step c c' ∧ c'.w = c.w ∧ Rel c' ⟨σ.n, tm, σ.S.take k⟩ a := by
  obtain ⟨h1, h2⟩ := dropBlk r.inv k
  refine ⟨_, h2, rfl, by rw [r.S], h1, r.n, r.defers, fun t => ?_⟩
  have hl : look t tm = .undef ∨ look t tm = look t σ.tm := by
    clear h1 h2
    induction tm with
    | nil => exact .inl rfl
    | cons p tm ih =>
      obtain ⟨s, x⟩ := p
      simp only [look]
      split
      · rename_i e; subst e; exact .inr (h (t, x) (by simp)).symm
      · exact ih (fun q hq => h q (by simp [hq]))
  rcases hl with h | h
  · rw [h]; exact .undef _
  · rw [h]; exact (r.tm t).step h2

theorem tr_forget {P : Program} {code : Code} {σ : PS} {Q : Exit → PS → Prop} (tm : List (Nat × PV)) (k : Nat) (h : ∀ p ∈ tm, look p.1 σ.tm = p.2) (hc : Tr P code ⟨σ.n, tm, σ.S.take k⟩ Q) : Tr P code σ Q := by
  intro c a r
  obtain ⟨c', h1, h2, h3⟩ := r.forget tm k h
  rw [← h2]
  exact wp_mono (hc c' a h3) fun e a w hp => hp.step h1
end Go.Proofs.Ytaaealngifkaeaa.Pv
