-- An iterator's walk beside the one that it is for.
import Derived.Test.YtenoecffjfcifaaDoorRgA
namespace Go.Proofs.YtenoecffjfcifaaDoor.Pv
set_option linter.all false
set_option linter.unusedVariables false
open Go.RowKit Go.Proofs
/-- What abides what somebody else does to memory of its own (in H). -/
def StabH (H : Nat → Prop) (J : Cx → Prop) : Prop := ∀ (c : Cx) (w' : World), J c → Inv c → Inv { c with w := w' } → StepH H c { c with w := w' } → J { c with w := w' }
def JRelB (H : Nat → Prop) (J : Cx → Prop) (σ : PS) (a : Act) (w : World) : Prop := ∃ cA cB, cA.w = w ∧ Apart H cA cB ∧ Inv cA ∧ J cA ∧ Rel cB σ a ∧ a.defers = []
def TIB (P : Program) (H : Nat → Prop) (JS : Option Nat → Cx → Prop) (code : Code) (σ : PS) (s : Option Nat) (Q : Exit → PS → Option Nat → Prop) : Prop :=
  ∀ (mm : Nat) (a : Act) (w : World), JRelB H (JS s) σ a w → code.wpIn (FR none) mm P (fun e a' w' => ∃ σ' s', JRelB H (JS s') σ' a' w' ∧ Q e σ' s') a w
def behindJ (K : PS → Option Nat → Prop) (Q : Exit → PS → Option Nat → Prop) : Exit → PS → Option Nat → Prop
  | .normal, σ, s => K σ s
  | e, σ, s => Q e σ s
section
variable {P : Program} {H : Nat → Prop} {JS : Option Nat → Cx → Prop}
theorem tib_seq {x y : Code} {σ : PS} {s : Option Nat} {Q : Exit → PS → Option Nat → Prop} (h : TIB P H JS x σ s (behindJ (fun σ' s' => TIB P H JS y σ' s' Q) Q)) : TIB P H JS (.seq x y) σ s Q := by
  intro mm a w hj
  refine wpIn_seq (wpIn_mono (h mm a w hj) ?_)
  rintro e a' w' ⟨σ', s', h1, h2⟩
  cases e with
  | normal => exact h2 mm a' w' h1
  | exit id => exact ⟨σ', s', h1, h2⟩
  | goto l => exact ⟨σ', s', h1, h2⟩
  | ret => exact ⟨σ', s', h1, h2⟩
  | panic ch => exact ⟨σ', s', h1, h2⟩
  | outgrown => exact ⟨σ', s', h1, h2⟩
def inBlkJ (id : Nat) (Q : Exit → PS → Option Nat → Prop) : Exit → PS → Option Nat → Prop
  | .exit id', σ, s => if id' = id then Q .normal σ s else Q (.exit id') σ s
  | e, σ, s => Q e σ s
theorem tib_block {id : Nat} {body : Code} {σ : PS} {s : Option Nat} {Q : Exit → PS → Option Nat → Prop} (h : TIB P H JS body σ s (inBlkJ id Q)) : TIB P H JS (.block id body) σ s Q := by
  intro mm a w hj
  refine wpIn_block (wpIn_mono (h mm a w hj) ?_)
  rintro e a' w' ⟨σ', s', h1, h2⟩
  cases e with
  | exit id' =>
    simp only [inBlkJ] at h2
    simp only [Exit.inBlock]
    split at h2
    · rename_i he; rw [if_pos he]; exact ⟨σ', s', h1, h2⟩
    · rename_i he; rw [if_neg he]; exact ⟨σ', s', h1, h2⟩
  | normal => exact ⟨σ', s', h1, h2⟩
  | goto l => exact ⟨σ', s', h1, h2⟩
  | ret => exact ⟨σ', s', h1, h2⟩
  | panic ch => exact ⟨σ', s', h1, h2⟩
  | outgrown => exact ⟨σ', s', h1, h2⟩
theorem tib_cond {cnd : Operand} {x y : Code} {σ : PS} {s : Option Nat} {Q : Exit → PS → Option Nat → Prop} {b : Bool} (hb : σ.get cnd = .v (.bool b)) (ht : b = true → TIB P H JS x σ s Q) (hf : b = false → TIB P H JS y σ s Q) : TIB P H JS (.cond cnd x y) σ s Q := by
  rintro mm a w ⟨cA, cB, h1, h2, h3, h4, r, h5⟩
  have hr := r.get cnd
  rw [hb] at hr
  have he : a.eval cnd = .bool b := by
    generalize a.eval cnd = v at hr
    cases hr
    rfl
  exact wpIn_cond_split he (fun h => ht h mm a w ⟨cA, cB, h1, h2, h3, h4, r, h5⟩) (fun h => hf h mm a w ⟨cA, cB, h1, h2, h3, h4, r, h5⟩)
theorem tib_loop {body : Code} {σ : PS} {s : Option Nat} {Q : Exit → PS → Option Nat → Prop} (I : Nat → PS → Option Nat → Prop) (n0 : Nat) (h0 : I n0 σ s)
    (round : ∀ n σ s, I n σ s → TIB P H JS body σ s (behindJ (fun σ' s' => ∃ m, m < n ∧ I m σ' s') Q)) : TIB P H JS (.loop body) σ s Q := by
  intro mm a w hj
  have key : ∀ N n σ s, I n σ s → n < N → ∀ a w, JRelB H (JS s) σ a w → Code.roundsIn (FR none) mm P body (fun e a' w' => ∃ σ' s', JRelB H (JS s') σ' a' w' ∧ Q e σ' s') N a w := by
    intro N
    induction N with
    | zero => intro n σ s _ h; omega
    | succ N ih =>
      intro n σ s hI hn a w hj
      rw [roundsIn_succ]
      refine wpIn_mono (round n σ s hI mm a w hj) ?_
      rintro e a' w' ⟨σ', s', h1, h2⟩
      cases e with
      | normal =>
        obtain ⟨m, hm, hI'⟩ := h2
        exact ih m σ' s' hI' (by omega) a' w' h1
      | exit id => exact ⟨σ', s', h1, h2⟩
      | goto l => exact ⟨σ', s', h1, h2⟩
      | ret => exact ⟨σ', s', h1, h2⟩
      | panic ch => exact ⟨σ', s', h1, h2⟩
      | outgrown => exact ⟨σ', s', h1, h2⟩
  exact wpIn_loop_rounds (n0 + 1) (key (n0 + 1) n0 σ s h0 (Nat.lt_succ_self _) a w hj)
theorem tib_ret {σ : PS} {s : Option Nat} {Q : Exit → PS → Option Nat → Prop} (h : Q .ret σ s) : TIB P H JS .ret σ s Q := fun mm a w hj => wpIn_ret ⟨σ, s, hj, h⟩
theorem tib_skip {σ : PS} {s : Option Nat} {Q : Exit → PS → Option Nat → Prop} (h : Q .normal σ s) : TIB P H JS .skip σ s Q := fun mm a w hj => wpIn_skip ⟨σ, s, hj, h⟩
theorem tib_exit {id : Nat} {σ : PS} {s : Option Nat} {Q : Exit → PS → Option Nat → Prop} (h : Q (.exit id) σ s) : TIB P H JS (.exit id) σ s Q := fun mm a w hj => wpIn_exit ⟨σ, s, hj, h⟩
end
theorem bput_defers (a : Act) (d : Option Tmp) (v : Value) : (a.put d v).defers = a.defers := by cases d <;> rfl
/-- Operations ahead of others. -/
theorem bpops_pre {P : Program} {ops : Array Oper} {K : PS → Prop} {ro : Option Nat} {mm : Nat} {Q : Exit → Act → World → Prop} {l2 : List Oper} : ∀ (l : List Oper) (σ : PS) (c : Cx) (a : Act), (∀ o ∈ ops.toList, dstOk σ.n o = true) → (∀ o ∈ l, dstOk σ.n o = true) → Pops P ops.toList K l σ → Rel c σ a →
    (∀ c' σ' a', Step c c' → Rel c' σ' a' → a'.defers = a.defers → K σ' → wpListIn (FR ro) mm P ops Q l2 a' c'.w) → wpListIn (FR ro) mm P ops Q (l ++ l2) a c.w
  | [], σ, c, a, _, _, h, r, k => k c σ a (.refl c) r rfl h
  | o :: rest, σ, c, a, hd, hl, h, r, k => by
    have hdo : ∀ t, o.dst = some t → t < σ.n := dstOk_lt (hl o (by simp))
    have hnd := dstOk_nd (hl o (by simp))
    have hput : ∀ x S', (σ.put o.dst x S').n = σ.n := fun x S' => by cases o.dst <;> rfl
    have main : PopSem P σ o (fun x S' => Pops P ops.toList K rest (σ.put o.dst x S')) → o.wpIn (FR ro) mm P a c.w (wpListIn (FR ro) mm P ops Q (rest ++ l2)) Q := by
      intro hp
      refine wpIn_of_wp hnd (hp c a r _ _ (fun x c' v hK hi hs hv => ?_))
      exact bpops_pre rest _ c' _ (fun o' ho' => by rw [hput]; exact hd o' ho') (fun o' ho' => by rw [hput]; exact hl o' (by simp [ho'])) hK (r.put hs hi hv hdo)
        (fun c2 σ2 a2 h1 h2 h3 h4 => k c2 σ2 a2 (hs.trans h1) h2 (h3.trans (bput_defers _ _ _)) h4)
    unfold Pops at h
    rw [List.cons_append]
    unfold wpListIn
    split at h
    · rename_i hg
      rw [if_pos (by simp [Region.wanted, hg])]
      exact main h
    · rename_i j w hg
      obtain ⟨b, h1, h2, h3⟩ := h
      have hy := yielded_of r h1 hd
      by_cases hbw : b = w
      · rw [if_pos (by rw [show Region.wanted o (yielded ops a.tmps) = (b == w) from by unfold Region.wanted; rw [hg]; exact hy]; simp [hbw])]
        exact main (h2 hbw)
      · rw [if_neg (by rw [show Region.wanted o (yielded ops a.tmps) = (b == w) from by unfold Region.wanted; rw [hg]; exact hy]; simp [hbw])]
        have hb' : b = !w := by cases b <;> cases w <;> simp_all
        have hr := r.put (.refl c) r.inv (rel_void c) hdo
        rw [r.S] at hr
        exact ⟨fun _ _ => trivial, bpops_pre rest _ c _ (fun o' ho' => by rw [hput]; exact hd o' ho') (fun o' ho' => by rw [hput]; exact hl o' (by simp [ho'])) (h3 hb') hr
          (fun c2 σ2 a2 k1 k2 k3 k4 => k c2 σ2 a2 k1 k2 (k3.trans (bput_defers _ _ _)) k4)⟩
/-- The blocks are those that there were. -/
def SameB (S S' : List Blk) : Prop := S'.map (fun b => (b.gen, b.own)) = S.map (fun b => (b.gen, b.own))
theorem SameB.get {S S' : List Blk} (h : SameB S S') {τ : Nat} {b' : Blk} (hb : S'[τ]? = some b') : ∃ b, S[τ]? = some b ∧ b.gen = b'.gen ∧ b.own = b'.own := by
  have h2 := congrArg (fun l => l[τ]?) h
  simp only [List.getElem?_map, hb, Option.map_some] at h2
  cases hs : S[τ]? with
  | none => rw [hs] at h2; cases h2
  | some b =>
    rw [hs] at h2
    simp only [Option.map_some, Option.some.injEq, Prod.mk.injEq] at h2
    exact ⟨b, rfl, h2.1.symm, h2.2.symm⟩
theorem sameB_own {c c' : Cx} {S S' : List Blk} (h : SameB S S') (hi : Inv c) (hS : c.S = S) (hS' : c'.S = S') (hst : Step c c') : ∀ b, c'.Own b ↔ c.Own b := by
  intro b
  constructor
  · rintro ⟨τ, blk', p, h1, h2, h3, h4⟩
    rw [hS'] at h1
    obtain ⟨blk, k1, k2, k3⟩ := h.get h1
    rw [← hS] at k1
    have hg := (hi.blk τ blk k1).gen
    obtain ⟨blk2, g1, g2, g3, g4, g5⟩ := hst.ent τ blk' (by rw [hS']; exact h1) (by rw [← k2]; exact hg)
    exact ⟨τ, blk, p, k1, k3.trans h2, by rw [← g3]; exact h3, h4⟩
  · rintro ⟨τ, blk, p, h1, h2, h3, h4⟩
    have hg := (hi.blk τ blk h1).gen
    rw [hS] at h1
    obtain ⟨blk', k1, k2, k3⟩ := SameB.get (S := S') (S' := S) (Eq.symm h) h1
    obtain ⟨blk2, g1, g2, g3, g4, g5⟩ := hst.ent τ blk' (by rw [hS']; exact k1) (by rw [k2]; exact hg)
    exact ⟨τ, blk', p, by rw [hS']; exact k1, k3.trans h2, by rw [g3]; exact h3, h4⟩
def HoldsB (σ : PS) (n : Nat) (T : List (Nat × PV)) (S : List Blk) : Prop := σ.n = n ∧ Has σ.tm T ∧ σ.S = S
theorem bhas_look {tm T : List (Nat × PV)} (h : ∀ p ∈ T, look p.1 tm = p.2) (t : Nat) : look t T = .undef ∨ look t T = look t tm := by
  induction T with
  | nil => exact .inl rfl
  | cons p T ih =>
    obtain ⟨s, x⟩ := p
    simp only [look]
    split
    · rename_i e; subst e; exact .inr (h (t, x) (by simp)).symm
    · exact ih fun q hq => h q (by simp [hq])
theorem HoldsB.rel {c : Cx} {σ : PS} {a : Act} {n : Nat} {T : List (Nat × PV)} {S : List Blk} (h : HoldsB σ n T S) (r : Rel c σ a) : Rel c ⟨n, T, S⟩ a := by
  obtain ⟨h1, h2, h3⟩ := h
  refine ⟨r.S.trans h3, r.inv, r.n.trans h1, r.defers, fun t => ?_⟩
  rcases bhas_look h2.all t with h | h
  · simp only [h]; exact .undef _
  · simp only [h]; exact r.tm t
theorem tib_less {P : Program} {H : Nat → Prop} {JS : Option Nat → Cx → Prop} {code : Code} {n : Nat} {T T2 : List (Nat × PV)} {S : List Blk} {s : Option Nat} {Q : Exit → PS → Option Nat → Prop} (hh : Has T T2) (h : TIB P H JS code ⟨n, T2, S⟩ s Q) : TIB P H JS code ⟨n, T, S⟩ s Q := by
  rintro mm a w ⟨cA, cB, h1, h2, h3, h4, r, h5⟩
  exact h mm a w ⟨cA, cB, h1, h2, h3, h4, HoldsB.rel ⟨rfl, hh, rfl⟩ r, h5⟩
theorem tib_region {P : Program} {H : Nat → Prop} {JS : Option Nat → Cx → Prop} {id : Nat} {ops : Array Oper} {n : Nat} {T : List (Nat × PV)} {S : List Blk} {s : Option Nat} {Q : Exit → PS → Option Nat → Prop} (hJ : StabH H (JS s)) (hd : ops.toList.all (dstOk n) = true)
    (h : Pops P ops.toList (fun σ' => ∃ T' S', HoldsB σ' n T' S' ∧ SameB S S' ∧ Q .normal ⟨n, T', S'⟩ s) ops.toList ⟨n, T, S⟩) : TIB P H JS (.region id ops false) ⟨n, T, S⟩ s Q := by
  rintro mm a w ⟨cA, cB, rfl, hp, iA, hj, r, hdf⟩
  refine wpIn_region_list ?_
  have hd' := List.all_eq_true.1 hd
  rw [← hp.w]
  have := bpops_pre (ro := none) (mm := mm) (Q := fun e a' w' => ∃ σ' s', JRelB H (JS s') σ' a' w' ∧ Q e σ' s') (l2 := []) ops.toList ⟨n, T, S⟩ cB a hd' hd' h r (fun c1 σ1 a1 h1 h2 h3 h4 => by
    obtain ⟨T', S', k1, k2, k3⟩ := h4
    obtain ⟨g1, g2, g3⟩ := apart_step hp iA r.inv h2.inv h1 (sameB_own k2 r.inv r.S (h2.S.trans k1.2.2) h1)
    exact ⟨⟨n, T', S'⟩, s, ⟨{ cA with w := c1.w }, c1, rfl, g3, g1, hJ cA _ hj iA g1 g2, k1.rel h2, h3.trans hdf⟩, k3⟩)
  rw [List.append_nil] at this
  exact this
/-- What a call of yield does, round by round. -/
def RoundsB (P : Program) (l : Nat) (JS : Option Nat → Cx → Prop) (items : List (List PV)) : Prop :=
  ∀ (mm k : Nat) (c : Cx) (item : List PV) (vals : Array Value), JS (some k) c → Inv c → items[k]? = some item → vals.size = item.length → (∀ (i : Nat) (x : PV) (v : Value), item[i]? = some x → vals[i]? = some v → RelV c x v) →
    YieldAt (FR none) mm P l vals c.w fun e W' => ∃ c', c'.w = W' ∧ Inv c' ∧ Kp2 c c' ∧ ((e = .returned (.bool true) ∧ JS (some (k + 1)) c') ∨ (e = .returned (.bool false) ∧ JS none c'))
/-- What is pure is known to the other as well. -/
theorem apart_pure {H : Nat → Prop} {cA cB : Cx} (hp : Apart H cA cB) {x : PV} {v : Value} (hx : x.Pure) (h : RelV cB x v) : RelV cA x v :=
  h.pure hx (fun b hb hb' => by
    rcases hb' with h1 | h1
    · exact hb (hp.gx b h1)
    · exact hb (.inl (hp.ab b h1))) (fun a u _ h => by rw [← hp.w]; exact h) (fun r arr ck _ h => by rw [← hp.w]; exact h)
theorem tib_yield {P : Program} {H : Nat → Prop} {JS : Option Nat → Cx → Prop} {id l k : Nat} {items : List (List PV)} {ops : Array Oper} {n : Nat} {T : List (Nat × PV)} {S : List Blk} {Q : Exit → PS → Option Nat → Prop} (m : Nat) (o : Oper) (d : Tmp) (x : Operand) (args : Array Operand) (ats : Array TypeId) (hR : RoundsB P l JS items) (hJ : ∀ s, StabH H (JS s)) (hd : ops.toList.all (dstOk n) = true)
    (ho : ops.toList[m]? = some o) (hop : o.op = .call ⟨.value x, args, ats⟩) (hdst : o.dst = some d) (hgu : o.guard = none)
    (h : Pops P ops.toList (fun σ1 => ∃ (T1 : List (Nat × PV)) (S1 : List Blk) (item : List PV), HoldsB σ1 n T1 S1 ∧ SameB S S1 ∧ PS.get ⟨n, T1, S1⟩ x = .v (.func (.yield l) #[] #[]) ∧ items[k]? = some item ∧ args.toList.map (PS.get ⟨n, T1, S1⟩) = item ∧ (∀ y ∈ item, y.Pure) ∧
      ∀ b : Bool, Pops P ops.toList (fun σ' => ∃ T' S', HoldsB σ' n T' S' ∧ SameB S1 S' ∧ Q .normal ⟨n, T', S'⟩ (if b then some (k + 1) else none)) (ops.toList.drop (m + 1)) ⟨n, (d, .v (.bool b)) :: T1, S1⟩) (ops.toList.take m) ⟨n, T, S⟩) : TIB P H JS (.region id ops false) ⟨n, T, S⟩ (some k) Q := by
  rintro mm a w ⟨cA, cB, rfl, hp, iA, hj, r, hdf⟩
  refine wpIn_region_list ?_
  have hd' := List.all_eq_true.1 hd
  have hm : m < ops.toList.length := (List.getElem?_eq_some_iff.1 ho).1
  have hsplit : ops.toList = ops.toList.take m ++ (o :: ops.toList.drop (m + 1)) := by
    rw [← (List.getElem?_eq_some_iff.1 ho).2, ← List.drop_eq_getElem_cons hm, List.take_append_drop]
  rw [← hp.w]
  have key := bpops_pre (ro := none) (mm := mm) (Q := fun e a' w' => ∃ σ' s', JRelB H (JS s') σ' a' w' ∧ Q e σ' s') (l2 := o :: ops.toList.drop (m + 1)) (ops.toList.take m) ⟨n, T, S⟩ cB a hd' (fun o' ho' => hd' o' (List.mem_of_mem_take ho')) h r (fun c1 σ1 a1 h1 h2 h3 h4 => by
    obtain ⟨T1, S1, item, k1, k2, hx, hit, hargs, hpu, kk⟩ := h4
    obtain ⟨g1, g2, g3⟩ := apart_step hp iA r.inv h2.inv h1 (sameB_own k2 r.inv r.S (h2.S.trans k1.2.2) h1)
    have hd1 := h3.trans hdf
    have r1 := k1.rel h2
    have j1 := hJ _ cA _ hj iA g1 g2
    generalize hc2 : ({ cA with w := c1.w } : Cx) = c2 at *
    have hw2 : c1.w = c2.w := g3.w
    rw [hw2]
    have hev : a1.eval x = .func (.yield l) #[] #[] := by
      have := r1.get x
      rw [hx] at this
      generalize a1.eval x = v at this
      cases this
      rfl
    have hnt : o ∈ ops.toList := List.mem_of_getElem? ho
    have hvals : ∀ (i : Nat) (y : PV) (v : Value), item[i]? = some y → (args.map a1.eval)[i]? = some v → RelV c2 y v := by
      intro i y v hy hv
      rw [← hargs, List.getElem?_map, Array.getElem?_toList] at hy
      rw [Array.getElem?_map] at hv
      obtain ⟨q, hq, rfl⟩ := Option.map_eq_some_iff.1 hy
      rw [hq] at hv
      cases hv
      refine apart_pure g3 (hpu _ ?_) (r1.get q)
      rw [← hargs]
      exact List.mem_map.2 ⟨q, by have := Array.mem_of_getElem? hq; simpa using this, rfl⟩
    obtain ⟨fn, tmps, assign, body, hy, hround⟩ := hR (mm - 1) k c2 item (args.map a1.eval) j1 g1 hit (by rw [← hargs]; simp) hvals
    unfold wpListIn
    rw [if_pos (by simp [Region.wanted, hgu])]
    refine ⟨fun _ _ => trivial, ?_⟩
    rw [Oper.semAt_eq _ _ _ (fun cc hcc => by rw [hop] at hcc; cases hcc)]
    have hrun : (execOp a1.eval o).run P c2.w = .ok (.round l fn tmps assign body) c2.w := by
      simp only [execOp, hop, resolve, hev, Deferred.ofValue, Sem.run_bind, Sem.run_pure, Result.andThen_ok, invoke, callFunc, Array.append_empty, Array.empty_append, hy]
    rw [hrun, Oper.uponIn_round]
    refine ⟨fun hh => by simp [FR, Fence.wide] at hh, RoundIn.mono hround ?_⟩
    rintro e W' ⟨c3, rfl, i3, hkp, he⟩
    have go : ∀ b : Bool, JS (if b then some (k + 1) else none) c3 → wpListIn (FR none) mm P ops (fun e a' w' => ∃ σ' s', JRelB H (JS s') σ' a' w' ∧ Q e σ' s') (ops.toList.drop (m + 1)) (a1.put o.dst (.bool b)) c3.w := by
      intro b hjb
      have hdn : d < n := dstOk_lt (hd' o hnt) d hdst
      obtain ⟨q1, q2, q3⟩ := apart_yield g3 g1 r1.inv i3 hkp
      generalize hc4 : ({ c1 with w := c3.w, G := fun b => c1.G b ∨ c3.Own b } : Cx) = c4 at *
      have hS4 : c4.S = S1 := by rw [← hc4]; exact r1.S
      have r3 : Rel c4 ⟨n, (d, .v (.bool b)) :: T1, S1⟩ (a1.put o.dst (.bool b)) := by
        rw [hdst]
        refine ⟨hS4, q1, by simp [Act.put]; exact r1.n, by rw [show (a1.put (some d) (.bool b)).defers = a1.defers from rfl, hd1]; exact .nil _, fun t => ?_⟩
        simp only [look, Act.put]
        split
        · rename_i e; subst e
          rw [Array.getD_eq_getD_getElem?, Array.getElem?_setIfInBounds_self_of_lt (by rw [r1.n]; exact hdn)]
          exact .v _
        · rename_i e
          rw [Array.getD_eq_getD_getElem?, Array.getElem?_setIfInBounds_ne (fun h => e h.symm), ← Array.getD_eq_getD_getElem?]
          exact q3 _ _ (r1.tm t)
      have hw4 : c4.w = c3.w := q2.w
      rw [← hw4]
      have := bpops_pre (ro := none) (mm := mm) (Q := fun e a' w' => ∃ σ' s', JRelB H (JS s') σ' a' w' ∧ Q e σ' s') (l2 := []) (ops.toList.drop (m + 1)) _ c4 _ hd' (fun o' ho' => hd' o' (List.mem_of_mem_drop ho')) (kk b) r3 (fun c5 σ4 a4 h4 h5 h6 h7 => by
        obtain ⟨T', S', u1, u2, u3⟩ := h7
        obtain ⟨p1, p2, p3⟩ := apart_step q2 i3 q1 h5.inv h4 (sameB_own u2 q1 hS4 (h5.S.trans u1.2.2) h4)
        have hd4 : a4.defers = [] := h6.trans ((bput_defers _ _ _).trans hd1)
        exact ⟨⟨n, T', S'⟩, _, ⟨{ c3 with w := c5.w }, c5, rfl, p3, p1, hJ _ c3 _ hjb i3 p1 p2, u1.rel h5, hd4⟩, u3⟩)
      rw [List.append_nil] at this
      exact this
    rcases he with ⟨rfl, hj3⟩ | ⟨rfl, hj3⟩
    · exact go true hj3
    · exact go false hj3)
  rw [← hsplit] at key
  exact key
end Go.Proofs.YtenoecffjfcifaaDoor.Pv
