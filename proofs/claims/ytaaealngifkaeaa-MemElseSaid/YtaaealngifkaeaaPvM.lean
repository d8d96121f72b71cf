-- Thirteenth text: functions: their beginning, their end; runs of operations that only read.
import Derived.Test.YtaaealngifkaeaaPvL
namespace Go.Proofs.Ytaaealngifkaeaa.Pv
set_option linter.all false
open Go.RowKit
set_option linter.unusedVariables false

def argTm : Nat → List PV → List (Nat × PV)
  | _, [] => []
  | i, x :: xs => (i, x) :: argTm (i + 1) xs

theorem look_argTm : ∀ (xs : List PV) (i t : Nat), look t (argTm i xs) = if i ≤ t then (xs[t - i]?).getD .undef else .undef
  | [], i, t => by simp [argTm, look]
  | x :: xs, i, t => by
    simp only [argTm, look, look_argTm xs (i + 1) t]
    rcases Nat.lt_trichotomy t i with h | h | h
    · rw [if_neg (by omega), if_neg (by omega), if_neg (by omega)]
    · subst h; simp
    · rw [if_neg (by omega), if_pos (by omega), if_pos (by omega), show t - i = (t - (i + 1)) + 1 by omega, List.getElem?_cons_succ]

def resPV (P : Program) (σ : PS) : ResultVar → Option PV
  | .tmp t => some (look t σ.tm)
  | .cell a t => loadPV P σ.S t (look a σ.tm)

def retPV (P : Program) (σ : PS) : List ResultVar → Option PV
  | [r] => resPV P σ r
  | rs => (rs.mapM (resPV P σ)).map .tup

/-- How a function's body ends. -/
def Ends (P : Program) (rs : List ResultVar) (R : PV → List Blk → Prop) : Exit → PS → Prop
  | .normal, σ => ∃ x, retPV P σ rs = some x ∧ R x σ.S
  | .ret, σ => ∃ x, retPV P σ rs = some x ∧ R x σ.S
  | _, _ => False

def resSem (tmps : Array Value) : ResultVar → Sem Value
  | .tmp t => pure (tmps.getD t Go.undef)
  | .cell a t => do loadVar t (← asAddr (tmps.getD a Go.undef))

theorem results_eq (fn : Func) (tmps : Array Value) : results fn tmps = (do
    let vs ← fn.results.mapM (resSem tmps)
    pure (if h : vs.size = 1 then vs[0] else .tuple vs)) := by
  unfold results
  congr 1

theorem resPV_run {P : Program} {c : Cx} {σ : PS} {a : Act} (r : Rel c σ a) (q : ResultVar) {x : PV} (h : resPV P σ q = some x) :
    ∃ v, (resSem a.tmps q).run P c.w = .ok v c.w ∧ RelV c x v := by
  cases q with
  | tmp t => cases h; exact ⟨_, rfl, r.tm t⟩
  | cell p t =>
    simp only [resPV] at h
    rw [← r.S] at h
    obtain ⟨v, h1, h2⟩ := loadPV_sound r.inv h (r.tm p)
    refine ⟨v, ?_, h2⟩
    have hr := r.tm p
    simp only [resSem]
    generalize a.tmps.getD p Go.undef = y at h1 hr ⊢
    simp only [Instr.loadAt, Sem.run_bind] at h1 ⊢
    cases y <;> first | exact h1 | (rename_i ad; cases ad <;> first | exact h1 | (simp [Instr.sureAddr] at h1)) | (simp [Instr.sureAddr] at h1)

theorem retPV_run {P : Program} {c : Cx} {σ : PS} {a : Act} (r : Rel c σ a) (fn : Func) {x : PV} (h : retPV P σ fn.results.toList = some x) : ∃ v, (results fn a.tmps).run P c.w = .ok v c.w ∧ RelV c x v := by
  have many : ∀ (rs : List ResultVar) (xs : List PV), rs.mapM (resPV P σ) = some xs →
      ∃ vs : List Value, (rs.mapM (resSem a.tmps)).run P c.w = .ok vs c.w ∧ vs.length = xs.length ∧ vs.length = rs.length ∧ ∀ (i : Nat) (x : PV) (v : Value), xs[i]? = some x → vs[i]? = some v → RelV c x v := by
    intro rs
    induction rs with
    | nil => intro xs h; simp at h; subst h; exact ⟨[], by simp, rfl, rfl, fun i x v h => by simp at h⟩
    | cons q rs ih =>
      intro xs h
      rw [List.mapM_cons] at h
      cases hq : resPV P σ q with
      | none => rw [hq] at h; simp at h
      | some y =>
        cases hm : rs.mapM (resPV P σ) with
        | none => rw [hq, hm] at h; simp at h
        | some ys =>
          rw [hq, hm] at h
          simp at h
          subst h
          obtain ⟨v, h1, h2⟩ := resPV_run (P := P) r q hq
          obtain ⟨vs, h3, h4, h5, h6⟩ := ih ys hm
          refine ⟨v :: vs, ?_, by simp [h4], by simp [h5], fun i x u hx hu => ?_⟩
          · rw [List.mapM_cons, Sem.run_bind, h1, Result.andThen_ok, Sem.run_bind, h3]
            rfl
          · cases i with
            | zero => simp at hx hu; subst hx hu; exact h2
            | succ i => exact h6 i x u (by simpa using hx) (by simpa using hu)
  rw [results_eq, ← Array.toArray_toList (xs := fn.results), List.mapM_toArray]
  generalize fn.results.toList = rs at h
  unfold retPV at h
  split at h
  · rename_i q
    obtain ⟨v, h1, h2⟩ := resPV_run (P := P) r q h
    refine ⟨v, ?_, h2⟩
    simp only [Sem.run_bind, Sem.run_map, List.mapM_cons, List.mapM_nil, h1, Result.andThen_ok, Sem.run_pure]
    rfl
  · rename_i hne
    obtain ⟨xs, h1, rfl⟩ := Option.map_eq_some_iff.1 h
    obtain ⟨vs, h2, h3, h4, h5⟩ := many rs xs h1
    refine ⟨.tuple vs.toArray, ?_, .tup _ _ (by simpa using h3) (fun i x v hx hv => h5 i x v hx (by simpa using hv))⟩
    simp only [Sem.run_bind, Sem.run_map, h2, Result.andThen_ok, Sem.run_pure]
    have hsz : ¬ vs.toArray.size = 1 := by
      rw [List.size_toArray, h4]
      intro h1
      match rs, hne with
      | [], _ => simp at h1
      | [q], hne => exact hne q rfl
      | _ :: _ :: _, _ => simp at h1
    rw [dif_neg hsz]

/-- A function, out of its body. -/
theorem gcall_of_tr {P : Program} {f : FuncId} {fn : Func} {code : Code} {args : List PV} {S : List Blk} {R : PV → List Blk → Prop} (hf : P.funcs[f]? = some fn) (hb : fn.body = some code) (rs : List ResultVar) (hr : fn.results = rs.toArray) (n : Nat) (hn : args.length + (fn.ntmps - args.length) = n)
    (h : Tr P code ⟨n, argTm 0 args, S⟩ (Ends P rs R)) : GCall P f args S R := by
  intro c vals hi hs hl hv
  refine calls_of_wp hf hb ?_
  have r : Rel c ⟨n, argTm 0 args, S⟩ { tmps := vals ++ Array.replicate (fn.ntmps - vals.size) Go.undef, defers := [] } := by
    refine ⟨hs, hi, by simp [hl, hn], rfl, fun t => ?_⟩
    rw [look_argTm, if_pos (Nat.zero_le _), Nat.sub_zero]
    cases hx : args[t]? with
    | none => exact .undef _
    | some x =>
      have hlt : t < vals.size := by rw [hl]; exact (List.getElem?_eq_some_iff.1 hx).1
      have hv' := Array.getElem?_eq_getElem hlt
      have : (vals ++ Array.replicate (fn.ntmps - vals.size) Go.undef).getD t Go.undef = vals[t] := by
        rw [Array.getD_eq_getD_getElem?, Array.getElem?_append_left hlt, hv']
        rfl
      simp only [this]
      exact hv t x _ hx hv'
  refine wp_mono (h c _ r) ?_
  rintro e a w ⟨c', σ', h1, rfl, h3, h4⟩
  have key : (∃ x, retPV P σ' rs = some x ∧ R x σ'.S) → a.defers = [] ∧ ∃ v, (results fn a.tmps).run P c'.w = .ok v c'.w ∧ ∃ v' x c'', Ending.returned v = .returned v' ∧ c''.w = c'.w ∧ R x c''.S ∧ Inv c'' ∧ Step c c'' ∧ RelV c'' x v' := by
    rintro ⟨x, hx, hR⟩
    obtain ⟨v, g1, g2⟩ := retPV_run (P := P) h3 fn (by rw [hr]; simpa using hx)
    exact ⟨h3.defers, v, g1, v, x, c', rfl, rfl, by rw [h3.S]; exact hR, h3.inv, h1, g2⟩
  cases e with
  | normal => exact key h4
  | ret => exact key h4
  | exit id => exact h4.elim
  | goto l => exact h4.elim
  | panic ch => exact h4.elim
  | outgrown => exact h4.elim

theorem pcall_of_tr {P : Program} {f : FuncId} {fn : Func} {code : Code} {args : List PV} {r : PV} (hf : P.funcs[f]? = some fn) (hb : fn.body = some code) (rs : List ResultVar) (hr : fn.results = rs.toArray) (n : Nat) (hn : args.length + (fn.ntmps - args.length) = n) (hp : ∀ x ∈ args, x.Pure) (hpr : r.Pure)
    (h : Tr P code ⟨n, argTm 0 args, []⟩ (Ends P rs fun x _ => x = r)) : PCall P f args r := ⟨hp, hpr, gcall_of_tr hf hb rs hr n hn h⟩

/-- An operation, as a walk needs it: what it does, its slot, its guard's slot. -/
structure Pr where
  op : Op
  dst : Option Tmp
  guard : Option (Tmp × Bool)

def prOf (ops : List Oper) (o : Oper) : Pr :=
  ⟨o.op, o.dst, match o.guard with
    | none => none
    | some (j, w) => match ops[j]? with
      | some q => match q.dst with
        | some d => some (d, w)
        | none => some (0, w)
      | none => some (0, w)⟩
def prs (ops : List Oper) (l : List Oper) : List Pr := l.map (prOf ops)

/-- Do all guards name an operation that has a slot? -/
def gOk (ops : List Oper) (o : Oper) : Bool :=
  match o.guard with
  | none => true
  | some (j, _) => match ops[j]? with
    | some q => q.dst.isSome
    | none => false

theorem guard_look {ops : List Oper} {σ : PS} {o : Oper} {j : Nat} {w : Bool} (hg : o.guard = some (j, w)) (h : gOk ops o = true) : ∃ d, (prOf ops o).guard = some (d, w) ∧ ∀ b, gval (look d σ.tm) w = some b → guardPV ops σ j w = some b := by
  unfold gOk at h
  rw [hg] at h
  simp only at h
  split at h
  · rename_i q hq
    obtain ⟨d, hd⟩ := Option.isSome_iff_exists.1 h
    refine ⟨d, by simp [prOf, hg, hq, hd], fun b hb => ?_⟩
    simp [guardPV, hq, hd, hb]
  · cases h

/-- The last n of a list. -/
def lastN {α : Type} (l : List α) (n : Nat) : List α := l.drop (l.length - n)
theorem lastN_all {α : Type} (l : List α) : lastN l l.length = l := by simp [lastN]
theorem lastN_cons {α : Type} (x : α) (l : List α) (n : Nat) (h : n ≤ l.length) : lastN (x :: l) n = lastN l n := by
  unfold lastN
  rw [List.length_cons, show l.length + 1 - n = (l.length - n) + 1 by omega, List.drop_succ_cons]

/-- Operations that only read are done, from what is known to what is known then; how many are left. -/
inductive EvR (P : Program) : List Pr → PS → PS → Nat → Prop
  | stop (l : List Pr) (σ : PS) : EvR P l σ σ l.length
  | step {o : Pr} {rest : List Pr} {σ σ' : PS} {n : Nat} {x : PV} (hg : o.guard = none ∨ ∃ d w, o.guard = some (d, w) ∧ look d σ.tm = .v (.bool w)) (h : ev P σ o.op = some x) (k : EvR P rest (σ.put o.dst x σ.S) σ' n) : EvR P (o :: rest) σ σ' n
  | skip {o : Pr} {rest : List Pr} {σ σ' : PS} {n : Nat} {d : Tmp} {w b : Bool} (hg : o.guard = some (d, w)) (hb : gval (look d σ.tm) w = some b) (hw : b ≠ w) (k : EvR P rest (σ.put o.dst (.tup []) σ.S) σ' n) : EvR P (o :: rest) σ σ' n

def EvG (P : Program) (l : List Pr) (σ : PS) (Q : PS → Nat → Prop) : Prop := ∃ σ' n, EvR P l σ σ' n ∧ Q σ' n

theorem ev_stop {P : Program} {l : List Pr} {σ : PS} {Q : PS → Nat → Prop} (h : Q σ l.length) : EvG P l σ Q := ⟨σ, l.length, .stop l σ, h⟩
theorem ev_step {P : Program} {op : Op} {d : Tmp} {rest : List Pr} {n : Nat} {tm : List (Nat × PV)} {S : List Blk} {Q : PS → Nat → Prop} {x : PV} (h : ev P ⟨n, tm, S⟩ op = some x) (k : EvG P rest ⟨n, (d, x) :: tm, S⟩ Q) : EvG P (⟨op, some d, none⟩ :: rest) ⟨n, tm, S⟩ Q := by
  obtain ⟨σ', m, k1, k2⟩ := k
  exact ⟨σ', m, .step (.inl rfl) h k1, k2⟩
theorem ev_run {P : Program} {op : Op} {d g : Tmp} {w : Bool} {rest : List Pr} {n : Nat} {tm : List (Nat × PV)} {S : List Blk} {Q : PS → Nat → Prop} {x : PV} (hg : look g tm = .v (.bool w)) (h : ev P ⟨n, tm, S⟩ op = some x) (k : EvG P rest ⟨n, (d, x) :: tm, S⟩ Q) : EvG P (⟨op, some d, some (g, w)⟩ :: rest) ⟨n, tm, S⟩ Q := by
  obtain ⟨σ', m, k1, k2⟩ := k
  exact ⟨σ', m, .step (.inr ⟨g, w, rfl, hg⟩) h k1, k2⟩
theorem ev_skip {P : Program} {op : Op} {d g : Tmp} {w : Bool} {rest : List Pr} {n : Nat} {tm : List (Nat × PV)} {S : List Blk} {Q : PS → Nat → Prop} (hg : gval (look g tm) w = some (!w)) (k : EvG P rest ⟨n, (d, .tup []) :: tm, S⟩ Q) : EvG P (⟨op, some d, some (g, w)⟩ :: rest) ⟨n, tm, S⟩ Q := by
  obtain ⟨σ', m, k1, k2⟩ := k
  exact ⟨σ', m, .skip rfl hg (by cases w <;> simp) k1, k2⟩

theorem EvR.le {P : Program} {l : List Pr} {σ σ' : PS} {n : Nat} (h : EvR P l σ σ' n) : n ≤ l.length := by
  induction h with
  | stop l σ => exact Nat.le_refl _
  | step hg h k ih => exact Nat.le_succ_of_le ih
  | skip hg hb hw k ih => exact Nat.le_succ_of_le ih

theorem pops_evr {P : Program} {ops : List Oper} {Q : PS → Prop} : ∀ (l : List Oper) (σ σ' : PS) (n : Nat), (∀ o ∈ l, gOk ops o = true) → EvR P (prs ops l) σ σ' n → Pops P ops Q (lastN l n) σ' → Pops P ops Q l σ
  | [], σ, σ', n, _, h, k => by
    cases h with
    | stop => exact k
  | o :: rest, σ, σ', n, hk, h, k => by
    have hk' : ∀ o ∈ rest, gOk ops o = true := fun o' ho' => hk o' (by simp [ho'])
    have h2 : EvR P (prOf ops o :: prs ops rest) σ σ' n := h
    clear h
    generalize hp : prOf ops o = po at h2
    have hop : po.op = o.op := by rw [← hp]; rfl
    have hds : po.dst = o.dst := by rw [← hp]; rfl
    cases h2 with
    | stop => rw [show (po :: prs ops rest).length = (o :: rest).length by simp [prs], lastN_all] at k; exact k
    | step hg hx h3 =>
      rw [hop] at hx
      rw [hds] at h3
      have hle := h3.le
      rw [lastN_cons _ _ _ (by simpa [prs] using hle)] at k
      have ih := pops_evr rest _ σ' n hk' h3 k
      cases hog : o.guard with
      | none => unfold Pops; rw [hog]; exact pop_ev hx ih
      | some p =>
        obtain ⟨j, w⟩ := p
        obtain ⟨d, hpg, hgd⟩ := guard_look (σ := σ) hog (hk o (by simp))
        rw [hp] at hpg
        rcases hg with hg | ⟨d', w', hg, hl⟩
        · rw [hpg] at hg; cases hg
        · rw [hpg] at hg
          cases hg
          unfold Pops
          rw [hog]
          exact ⟨w, hgd w (by rw [hl]; rfl), fun _ => pop_ev hx ih, fun h' => by cases w <;> cases h'⟩
    | skip hg hb hw h3 =>
      rename_i d w b
      rw [hds] at h3
      have hle := h3.le
      rw [lastN_cons _ _ _ (by simpa [prs] using hle)] at k
      have ih := pops_evr rest _ σ' n hk' h3 k
      cases hog : o.guard with
      | none => rw [← hp] at hg; simp [prOf, hog] at hg
      | some p =>
        obtain ⟨j, w'⟩ := p
        obtain ⟨d', hpg, hgd⟩ := guard_look (σ := σ) hog (hk o (by simp))
        rw [hp] at hpg
        rw [hpg] at hg
        cases hg
        unfold Pops
        rw [hog]
        exact ⟨b, hgd b hb, fun h' => absurd h' hw, fun _ => ih⟩

theorem pops_nil {P : Program} {ops : List Oper} {Q : PS → Prop} {σ : PS} (h : Q σ) : Pops P ops Q [] σ := h
theorem pops_cons {P : Program} {ops : List Oper} {Q : PS → Prop} {σ : PS} {o : Oper} {rest : List Oper} (hg : o.guard = none)
    (h : ∀ K : PS → Prop, (∀ σ', Pops P ops Q rest σ' → K σ') → PopSem P σ o fun x S' => K (σ.put o.dst x S')) : Pops P ops Q (o :: rest) σ := by
  unfold Pops
  rw [hg]
  exact h _ fun _ h => h

/-- The operations that are left, once those that only read are done. -/
theorem pops_ev {P : Program} {ops : List Oper} {Q : PS → Prop} {σ : PS} {rest : List Oper} (l : List Pr) (hl : prs ops rest = l) (hd : rest.all (gOk ops) = true) (h : EvG P l σ fun σ' n => Pops P ops Q (lastN rest n) σ') : Pops P ops Q rest σ := by
  subst hl
  obtain ⟨σ', n, h1, h2⟩ := h
  exact pops_evr rest σ σ' n (List.all_eq_true.1 hd) h1 h2

/-- A region's beginning. -/
theorem tr_ev {P : Program} {id : Nat} {ops : Array Oper} {σ : PS} {Q : Exit → PS → Prop} (l : List Pr) (hl : prs ops.toList ops.toList = l) (hd : ops.toList.all (fun o => dstOk σ.n o && gOk ops.toList o) = true) (h : EvG P l σ fun σ' n => Pops P ops.toList (Q .normal) (lastN ops.toList n) σ') : Tr P (.region id ops false) σ Q := by
  have hd' := List.all_eq_true.1 hd
  exact tr_region (List.all_eq_true.2 fun o ho => (Bool.and_eq_true_iff.1 (hd' o ho)).1) (pops_ev l hl (List.all_eq_true.2 fun o ho => (Bool.and_eq_true_iff.1 (hd' o ho)).2) h)

theorem lastN_zero {α : Type} (l : List α) : lastN l 0 = [] := by unfold lastN; rw [Nat.sub_zero, List.drop_length]
/-- A region's end. -/
theorem ev_end {P : Program} {ops : List Oper} {Q : PS → Prop} {σ : PS} (h : Q σ) : EvG P [] σ fun σ' n => Pops P ops Q (lastN ops n) σ' := ev_stop (by rw [List.length_nil, lastN_zero]; exact h)
end Go.Proofs.Ytaaealngifkaeaa.Pv
