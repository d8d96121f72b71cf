-- Fifteenth text: statements whose order Go leaves open.
import Derived.Test.YtaaealngifkaeaaPvM
namespace Go.Proofs.Ytaaealngifkaeaa.Pv
set_option linter.all false
open Go.RowKit
set_option linter.unusedVariables false

theorem map_get_congr {σ σ' : PS} {xs : List Operand} (h : ∀ x ∈ xs, σ.get x = σ'.get x) : xs.map σ.get = xs.map σ'.get := List.map_congr_left h

theorem opt_get_congr {σ σ' : PS} {x : Option Operand} (h : ∀ y ∈ x.toArray, σ.get y = σ'.get y) : x.map σ.get = x.map σ'.get := by
  cases x with
  | none => rfl
  | some y => simp [h y (by simp)]

theorem ev_congr {P : Program} {σ σ' : PS} {o : Op} (h : ∀ x ∈ o.operands, σ.get x = σ'.get x) (hS : σ.S = σ'.S) : ev P σ o = ev P σ' o := by
  cases o <;> simp only [ev, hS] <;> simp only [Op.operands, Call.operands] at h
  case move x => rw [h x (by simp)]
  case assign x => rw [h x (by simp)]
  case pick c a b => rw [h c (by simp), h a (by simp), h b (by simp)]
  case nilCheck x => rw [h x (by simp)]
  case binOp op t x y yt => rw [h x (by simp), h y (by simp)]
  case unOp op t x => rw [h x (by simp)]
  case convert s d x => rw [h x (by simp)]
  case makeFunc fn first captured =>
    rw [map_get_congr (xs := first.toList) (fun x hx => h x (by simp at hx ⊢; exact .inl hx)), map_get_congr (xs := captured.toList) (fun x hx => h x (by simp at hx ⊢; exact .inr hx))]
  case fieldAddr s x f => rw [h x (by simp)]
  case field t x f => rw [h x (by simp)]
  case indexAddr t x i => rw [h x (by simp), h i (by simp)]
  case index t x i => rw [h x (by simp), h i (by simp)]
  case load t x => rw [h x (by simp)]
  case extract x i => rw [h x (by simp)]
  case build t parts =>
    congr 1
    apply List.map_congr_left
    intro p hp
    rw [h p.2 (by simp; exact ⟨p.1, by simpa using hp⟩)]
  case slice t x lo hi mx =>
    rw [h x (by simp), opt_get_congr (x := lo) (fun y hy => h y (by simp at hy ⊢; simp [hy])), opt_get_congr (x := hi) (fun y hy => h y (by simp at hy ⊢; simp [hy])), opt_get_congr (x := mx) (fun y hy => h y (by simp at hy ⊢; simp [hy]))]
  case call c =>
    unfold callPV
    have ha : ∀ x ∈ c.args.toList, σ.get x = σ'.get x := fun x hx => h x (by
      cases c.callee <;> simp at hx ⊢ <;> first | exact hx | exact .inr hx)
    generalize c.args.toList = as at ha
    generalize c.argTypes.toList = ts
    generalize c.callee = cc
    split
    · rename_i x t
      simp only [ha x (by simp), hS]
    · rename_i z x y
      simp only [ha x (by simp), ha y (by simp)]
    · rename_i z x y
      simp only [ha x (by simp), ha y (by simp)]
    · rfl

/-- Two pieces of knowledge that look alike. -/
def LEq (σ σ' : PS) : Prop := σ.n = σ'.n ∧ σ.S = σ'.S ∧ ∀ t, look t σ.tm = look t σ'.tm
theorem LEq.rfl' (σ : PS) : LEq σ σ := ⟨rfl, rfl, fun _ => rfl⟩
theorem LEq.get {σ σ' : PS} (h : LEq σ σ') (x : Operand) : σ.get x = σ'.get x := by cases x <;> simp [PS.get, h.2.2]
theorem LEq.put {σ σ' : PS} (h : LEq σ σ') (d : Option Tmp) (x : PV) (S : List Blk) : LEq (σ.put d x S) (σ'.put d x S) := by
  cases d with
  | none => exact ⟨h.1, rfl, h.2.2⟩
  | some d => exact ⟨h.1, rfl, fun t => by simp only [PS.put, look]; split; rfl; exact h.2.2 t⟩
theorem LEq.trans {a b c : PS} (h : LEq a b) (k : LEq b c) : LEq a c := ⟨h.1.trans k.1, h.2.1.trans k.2.1, fun t => (h.2.2 t).trans (k.2.2 t)⟩
theorem LEq.symm {a b : PS} (h : LEq a b) : LEq b a := ⟨h.1.symm, h.2.1.symm, fun t => (h.2.2 t).symm⟩
theorem Rel.leq {c : Cx} {σ σ' : PS} {a : Act} (r : Rel c σ a) (h : LEq σ σ') : Rel c σ' a := ⟨r.S.trans h.2.1, r.inv, r.n.trans h.1, r.defers, fun t => by rw [← h.2.2 t]; exact r.tm t⟩
theorem LEq.guard {σ σ' : PS} (h : LEq σ σ') (ops : List Oper) (j : Nat) (w : Bool) : guardPV ops σ j w = guardPV ops σ' j w := by
  unfold guardPV
  cases ops[j]? with
  | none => rfl
  | some o => cases hd : o.dst with
    | none => simp [hd]
    | some d => simp [hd, h.2.2]

/-- What an operation that leaves the blocks alone answers: it reads, or calls a function of pure values. -/
inductive Stl (P : Program) (σ : PS) (o : Oper) (x : PV) : Prop
  | ev (h : ev P σ o.op = some x)
  | call (cl : Call) (g : Operand) (f : FuncId) (fn : Func) (first captured : List PV) (ho : o.op = .call cl) (hc : cl.callee = .value g) (hg : σ.get g = .fn (.func f) first captured)
      (hf : P.funcs[f]? = some fn) (hb : fn.body.isSome = true) (hn : (fn.name == "runtime.NumGoroutine") = false) (h : PCall P f (first ++ cl.args.toList.map σ.get ++ captured) x)

theorem Stl.congr {P : Program} {σ σ' : PS} {o : Oper} {x : PV} (h : Stl P σ o x) (hg : ∀ y ∈ o.op.operands, σ.get y = σ'.get y) (hS : σ.S = σ'.S) : Stl P σ' o x := by
  cases h with
  | ev h => exact .ev (by rw [← ev_congr hg hS]; exact h)
  | call cl g f fn first captured ho hc hgg hf hb hn h =>
    rw [ho] at hg
    have h1 : σ.get g = σ'.get g := hg g (by simp [Op.operands, Call.operands, hc])
    refine .call cl g f fn first captured ho hc (by rw [← h1]; exact hgg) hf hb hn ?_
    rw [← map_get_congr (xs := cl.args.toList) (fun y hy => hg y (by simp [Op.operands, Call.operands]; exact .inr (by simpa using hy)))]
    exact h

theorem Stl.pop {P : Program} {σ : PS} {o : Oper} {x : PV} (h : Stl P σ o x) {K : PV → List Blk → Prop} (hK : K x σ.S) : PopSem P σ o K := by
  cases h with
  | ev h => exact pop_ev h hK
  | call cl g f fn first captured ho hc hgg hf hb hn h => exact pop_call ho hc hgg hf hb hn (h.any σ.S) (fun y S' ⟨h1, h2⟩ => by subst h1 h2; exact hK)

/-- The same, with the operation's guard. -/
def GSt (P : Program) (ops : List Oper) (σ : PS) (o : Oper) (x : PV) : Prop :=
  match o.guard with
  | none => Stl P σ o x
  | some (j, w) => (guardPV ops σ j w = some w ∧ Stl P σ o x) ∨ (guardPV ops σ j w = some (!w) ∧ x = .tup [])

theorem get_put {σ : PS} {d : Option Tmp} {x : PV} {S : List Blk} {y : Operand} (h : ∀ t, d = some t → y ≠ .tmp t) : (σ.put d x S).get y = σ.get y := by
  cases d with
  | none => cases y <;> rfl
  | some t =>
    cases y with
    | tmp s => simp only [PS.get, PS.put, look]; rw [if_neg (fun e => h t rfl (by rw [e]))]
    | _ => rfl

theorem looksAt_op {ops : Array Oper} {o : Oper} {t : Tmp} (h : Operand.tmp t ∈ o.op.operands) : t ∈ o.looksAt ops := by
  unfold Oper.looksAt
  exact List.mem_append_left _ (List.mem_filterMap.2 ⟨.tmp t, by simpa using h, rfl⟩)

theorem guard_put {ops : Array Oper} {σ : PS} {o : Oper} {j : Nat} {w : Bool} (hg : o.guard = some (j, w)) {d : Option Tmp} {x : PV} {S : List Blk} (h : ∀ t, d = some t → t ∉ o.looksAt ops) : guardPV ops.toList (σ.put d x S) j w = guardPV ops.toList σ j w := by
  unfold guardPV
  cases ho : ops.toList[j]? with
  | none => rfl
  | some q =>
    cases hd : q.dst with
    | none => simp [hd]
    | some e =>
      have hne : ∀ t, d = some t → e ≠ t := by
        intro t ht he
        subst he
        refine h e ht ?_
        unfold Oper.looksAt
        refine List.mem_append_right _ ?_
        rw [Array.getElem?_toList] at ho
        simp [hg, ho, hd]
      have : look e (σ.put d x S).tm = look e σ.tm := by
        cases d with
        | none => rfl
        | some t => simp only [PS.put, look]; rw [if_neg (hne t rfl)]
      simp [hd, this]

theorem GSt.put {P : Program} {ops : Array Oper} {σ : PS} {o : Oper} {x : PV} {d : Option Tmp} {y : PV} (h : ∀ t, d = some t → t ∉ o.looksAt ops) : GSt P ops.toList σ o x ↔ GSt P ops.toList (σ.put d y σ.S) o x := by
  have hS : σ.S = (σ.put d y σ.S).S := by cases d <;> rfl
  have hget : ∀ z ∈ o.op.operands, σ.get z = (σ.put d y σ.S).get z := fun z hz => (get_put (fun t ht e => h t ht (looksAt_op (by rw [← e]; exact hz)))).symm
  have hst : Stl P σ o x ↔ Stl P (σ.put d y σ.S) o x := ⟨fun k => k.congr hget hS, fun k => k.congr (fun z hz => (hget z hz).symm) hS.symm⟩
  unfold GSt
  cases hg : o.guard with
  | none => exact hst
  | some p =>
    obtain ⟨j, w⟩ := p
    simp only [guard_put hg h, hst]

theorem GSt.leq {P : Program} {ops : List Oper} {σ σ' : PS} {o : Oper} {x : PV} (h : LEq σ σ') (k : GSt P ops σ o x) : GSt P ops σ' o x := by
  unfold GSt at *
  cases hg : o.guard with
  | none => rw [hg] at k; exact k.congr (fun y _ => h.get y) h.2.1
  | some p =>
    obtain ⟨j, w⟩ := p
    rw [hg] at k
    simp only [← h.guard ops j]
    rcases k with ⟨k1, k2⟩ | k
    · exact .inl ⟨k1, k2.congr (fun y _ => h.get y) h.2.1⟩
    · exact .inr k

/-- Operations that leave the blocks alone, in an order. -/
def PSt (P : Program) (ops : Array Oper) (Q : PS → Prop) : List Nat → PS → Prop
  | [], σ => Q σ
  | i :: l, σ => match ops[i]? with
    | none => PSt P ops Q l σ
    | some o => ∃ x, GSt P ops.toList σ o x ∧ PSt P ops Q l (σ.put o.dst x σ.S)

theorem put_S (σ : PS) (d : Option Tmp) (x : PV) (S : List Blk) : (σ.put d x S).S = S := by cases d <;> rfl

theorem PSt.leq {P : Program} {ops : Array Oper} {Q : PS → Prop} (hQ : ∀ σ σ', LEq σ σ' → Q σ → Q σ') : ∀ (l : List Nat) (σ σ' : PS), LEq σ σ' → PSt P ops Q l σ → PSt P ops Q l σ'
  | [], σ, σ', h, k => hQ σ σ' h k
  | i :: l, σ, σ', h, k => by
    unfold PSt at *
    split
    · rename_i ho; simp only [ho] at k; exact PSt.leq hQ l _ _ h k
    · rename_i o ho
      simp only [ho] at k
      obtain ⟨x, k1, k2⟩ := k
      refine ⟨x, k1.leq h, PSt.leq hQ l _ _ ?_ k2⟩
      rw [← h.2.1]
      exact h.put _ _ _

theorem PSt.swap {P : Program} {ops : Array Oper} {Q : PS → Prop} (hQ : ∀ σ σ', LEq σ σ' → Q σ → Q σ') {i j : Nat} {l : List Nat} {σ : PS} {oi oj : Oper} (hi : ops[i]? = some oi) (hj : ops[j]? = some oj) (hap : oi.apart ops oj = true)
    (h : PSt P ops Q (i :: j :: l) σ) : PSt P ops Q (j :: i :: l) σ := by
  obtain ⟨h1, h2, h3⟩ := Oper.apart_spec hap
  unfold PSt at h ⊢
  simp only [hi, hj] at h ⊢
  obtain ⟨x, k1, k2⟩ := h
  unfold PSt at k2 ⊢
  simp only [hi, hj] at k2 ⊢
  obtain ⟨y, k3, k4⟩ := k2
  rw [put_S] at k4
  refine ⟨y, (GSt.put (d := oi.dst) (y := x) h1).2 k3, x, ?_, ?_⟩
  · exact (GSt.put (d := oj.dst) (y := y) h3).1 k1
  · rw [put_S]
    refine PSt.leq hQ l _ _ ?_ k4
    refine ⟨by cases oi.dst <;> cases oj.dst <;> rfl, by rw [put_S, put_S], fun t => ?_⟩
    cases hd : oi.dst with
    | none => cases oj.dst <;> rfl
    | some d =>
      cases he : oj.dst with
      | none => rfl
      | some e =>
        have hne : d ≠ e := fun q => h2 d hd (by rw [he, q])
        simp only [PS.put, look]
        split
        · rename_i q; subst q; rw [if_neg (fun q => hne q.symm)]
        · rfl

/-- One of the operations is done first. -/
theorem PSt.front {P : Program} {ops : Array Oper} {Q : PS → Prop} (hQ : ∀ σ σ', LEq σ σ' → Q σ → Q σ') {i : Nat} {oi : Oper} (hi : ops[i]? = some oi) : ∀ (l1 : List Nat) (l2 : List Nat) (σ : PS), (∀ k ∈ l1, ∀ ok, ops[k]? = some ok → ok.apart ops oi = true) →
    PSt P ops Q (l1 ++ i :: l2) σ → PSt P ops Q (i :: (l1 ++ l2)) σ
  | [], l2, σ, _, h => h
  | k :: l1, l2, σ, ha, h => by
    cases hk : ops[k]? with
    | none =>
      simp only [List.cons_append, PSt, hk] at h ⊢
      have := PSt.front hQ hi l1 l2 σ (fun k' hk' => ha k' (by simp [hk'])) h
      simpa only [PSt, hi] using this
    | some ok =>
      have h' : PSt P ops Q (k :: i :: (l1 ++ l2)) σ := by
        simp only [List.cons_append] at h
        unfold PSt at h ⊢
        simp only [hk] at h ⊢
        obtain ⟨x, h1, h2⟩ := h
        exact ⟨x, h1, PSt.front hQ hi l1 l2 _ (fun k' hk' => ha k' (by simp [hk'])) h2⟩
      exact PSt.swap hQ hk hi (ha k (by simp) ok hk) h'

/-- Is every pair of operations either in order, or apart? -/
def pairOk (ops : Array Oper) (i k : Nat) : Bool :=
  match ops[i]?, ops[k]? with
  | some oi, some ok => oi.after.any (fun e => e.on == k && Region.binds .any e) || ok.apart ops oi
  | _, _ => true
def edgesOk (ops : Array Oper) (i : Nat) : Bool :=
  match ops[i]? with
  | some oi => oi.after.all (fun e => !Region.binds .any e || decide (e.on < i))
  | none => true
def drawOk (ops : Array Oper) : Bool := (List.range ops.size).all fun i => edgesOk ops i && (List.range i).all fun k => pairOk ops i k

/-- The operations left, of which those that are listed are done. -/
structure Left (ops : Array Oper) (listed : Array Bool) (rem : List Nat) : Prop where
  mem : ∀ i, i ∈ rem ↔ i < ops.size ∧ listed.getD i true = false
  sorted : rem.Pairwise (· < ·)
  size : listed.size = ops.size

theorem ready_spec {ops : Array Oper} {listed : Array Bool} {i : Nat} (h : i ∈ Region.ready .any ops listed) :
    i < ops.size ∧ listed.getD i true = false ∧ ∃ o, ops[i]? = some o ∧ ∀ e ∈ o.after, Region.binds .any e = true → listed.getD e.on false = true := by
  unfold Region.ready at h
  rw [List.mem_filter] at h
  obtain ⟨h1, h2⟩ := h
  have hlt : i < ops.size := by simpa using h1
  simp only [Bool.and_eq_true, Bool.not_eq_true'] at h2
  obtain ⟨h3, h4⟩ := h2
  rw [Array.getElem?_eq_getElem hlt] at h4
  simp only [Option.map_some, Option.getD_some] at h4
  refine ⟨hlt, h3, _, Array.getElem?_eq_getElem hlt, fun e he hb => ?_⟩
  have := (Array.all_eq_true'.1 h4) e he
  simpa [hb] using this

theorem Left.pred {ops : Array Oper} {listed : Array Bool} {rem : List Nat} (hl : Left ops listed rem) {k : Nat} (h : listed.getD k false = true) : k ∉ rem := by
  intro hk
  have := (hl.mem k).1 hk
  have hlt : k < listed.size := by rw [hl.size]; exact this.1
  have h1 := this.2
  rw [Array.getD_eq_getD_getElem?, Array.getElem?_eq_getElem hlt] at h h1
  simp only [Option.getD_some] at h h1
  rw [h] at h1
  cases h1

theorem Left.take {ops : Array Oper} {listed : Array Bool} {l1 l2 : List Nat} {i : Nat} (hl : Left ops listed (l1 ++ i :: l2)) : Left ops (listed.setIfInBounds i true) (l1 ++ l2) := by
  have hs := hl.sorted
  rw [List.pairwise_append, List.pairwise_cons] at hs
  obtain ⟨s1, ⟨s2, s3⟩, s4⟩ := hs
  have hi : i < listed.size := by rw [hl.size]; exact ((hl.mem i).1 (by simp)).1
  have ni : i ∉ l1 ++ l2 := by
    intro h
    rcases List.mem_append.1 h with h | h
    · exact Nat.lt_irrefl _ (s4 i h i (by simp))
    · exact Nat.lt_irrefl _ (s2 i h)
  refine ⟨fun k => ?_, by rw [List.pairwise_append]; exact ⟨s1, s3, fun a ha b hb => s4 a ha b (by simp [hb])⟩, by simpa using hl.size⟩
  by_cases hk : k = i
  · subst hk
    refine ⟨fun h => absurd h ni, fun ⟨_, h⟩ => ?_⟩
    rw [Array.getD_eq_getD_getElem?, Array.getElem?_setIfInBounds_self_of_lt hi] at h
    cases h
  · have := hl.mem k
    rw [Array.getD_eq_getD_getElem?, Array.getElem?_setIfInBounds_ne (fun e => hk e.symm), ← Array.getD_eq_getD_getElem?, ← this]
    simp [hk]

theorem Rel.drew {c : Cx} {σ : PS} {a : Act} (r : Rel c σ a) (n : Nat) : ∃ c', Step c c' ∧ c'.w = { c.w with drawn := n } ∧ Rel c' σ a := by
  let c' : Cx := { c with w := { c.w with drawn := n } }
  have hs : Step c c' := ⟨rfl, rfl, rfl, rfl, Nat.le_refl _, Nat.le_refl _, fun _ _ _ => rfl, fun t b h _ => ⟨b, h, rfl, rfl, rfl, rfl⟩, fun b h => .inl h, fun b cs e fz h => ⟨cs, fz, h, rfl⟩⟩
  refine ⟨c', hs, rfl, r.S, ⟨fun t b h => ?_, r.inv.notG, r.inv.inj, r.inv.gLt⟩, r.n, r.defers, fun t => (r.tm t).step hs⟩
  have hB := r.inv.blk t b h
  exact ⟨hB.gen, hB.len, hB.void, fun q hq => by
    obtain ⟨cs, e, fz, k1, k2, k3, k4⟩ := hB.heap q hq
    exact ⟨cs, e, fz, k1, k2, fun i row j x r1 r2 => by
      obtain ⟨v, v1, v2, v3⟩ := k3 i row j x r1 r2
      exact ⟨v, v1, v2, v3.step hs⟩, k4⟩⟩

/-- One operation that leaves the blocks alone, wherever it stands. -/
theorem wpOp_of_gst {P : Program} {ops : Array Oper} {Q' : Exit → Act → World → Prop} {K : Act → World → Prop} {c : Cx} {σ : PS} {a : Act} {i : Nat} {o : Oper} {x : PV} (hi : ops[i]? = some o) (hd : ∀ o ∈ ops.toList, dstOk σ.n o = true) (r : Rel c σ a) (h : GSt P ops.toList σ o x)
    (hK : ∀ c' a', Step c c' → Rel c' (σ.put o.dst x σ.S) a' → K a' c'.w) : wpOp P ops Q' i K a c.w := by
  have hdo : ∀ t, o.dst = some t → t < σ.n := fun t ht => by
    have := hd o (by rw [← Array.getElem?_toList] at hi; exact List.mem_of_getElem? hi)
    simpa [dstOk, ht] using this
  have main : Stl P σ o x → o.wp P a c.w K Q' := fun hs => hs.pop (K := fun y S' => y = x ∧ S' = σ.S) ⟨rfl, rfl⟩ c a r K Q' (fun y c' v ⟨h1, h2⟩ hi' hst hv => by
    subst h1
    refine hK c' _ hst ?_
    have := r.put hst hi' hv hdo
    rw [h2] at this
    exact this)
  unfold wpOp
  simp only [hi]
  unfold GSt at h
  split at h
  · rename_i hg
    rw [if_pos (by simp [Region.wanted, hg])]
    exact .inl (main h)
  · rename_i j w hg
    rcases h with ⟨h1, h2⟩ | ⟨h1, rfl⟩
    · rw [if_pos (by rw [show Region.wanted o (yielded ops a.tmps) = (w == w) from by unfold Region.wanted; rw [hg]; exact yielded_of r h1 hd]; simp)]
      exact .inl (main h2)
    · rw [if_neg (by rw [show Region.wanted o (yielded ops a.tmps) = ((!w) == w) from by unfold Region.wanted; rw [hg]; exact yielded_of r h1 hd]; cases w <;> simp)]
      have := r.put (.refl c) r.inv (rel_void c) hdo
      rw [r.S] at this
      exact hK c _ (.refl c) this

theorem head_ready {ops : Array Oper} {listed : Array Bool} {i : Nat} {rem : List Nat} (hok : drawOk ops = true) (hl : Left ops listed (i :: rem)) : i ∈ Region.ready .any ops listed := by
  have hi := (hl.mem i).1 (by simp)
  unfold Region.ready
  rw [List.mem_filter]
  refine ⟨by simpa using hi.1, ?_⟩
  rw [hi.2, Array.getElem?_eq_getElem hi.1]
  simp only [Bool.not_false, Option.map_some, Option.getD_some, Bool.true_and]
  rw [Array.all_eq_true']
  intro e he
  have h1 := (List.all_eq_true.1 hok) i (by simpa using hi.1)
  simp only [Bool.and_eq_true, edgesOk, Array.getElem?_eq_getElem hi.1] at h1
  have h2 := (Array.all_eq_true'.1 h1.1) e he
  simp only [Bool.or_eq_true, Bool.not_eq_true', decide_eq_true_eq] at h2 ⊢
  rcases h2 with h2 | h2
  · exact .inl h2
  · refine .inr ?_
    have hlt : e.on < listed.size := by rw [hl.size]; omega
    have hn : e.on ∉ i :: rem := by
      intro hm
      rcases List.mem_cons.1 hm with h3 | h3
      · omega
      · have := (List.pairwise_cons.1 hl.sorted).1 _ h3
        omega
    rw [hl.mem] at hn
    have : listed.getD e.on true = true := by
      cases hh : listed.getD e.on true
      · exact absurd ⟨by omega, hh⟩ hn
      · rfl
    rw [Array.getD_eq_getD_getElem?, Array.getElem?_eq_getElem hlt] at this ⊢
    exact this

theorem left_apart {ops : Array Oper} {listed : Array Bool} {i : Nat} {oi : Oper} {l1 l2 : List Nat} (hok : drawOk ops = true) (hl : Left ops listed (l1 ++ i :: l2)) (hi : ops[i]? = some oi) (hp : ∀ e ∈ oi.after, Region.binds .any e = true → listed.getD e.on false = true) :
    ∀ k ∈ l1, ∀ ok, ops[k]? = some ok → ok.apart ops oi = true := by
  intro k hk ok hok'
  have hlt : k < i := by
    have hs := hl.sorted
    rw [List.pairwise_append] at hs
    exact hs.2.2 k hk i (by simp)
  have h1 := (List.all_eq_true.1 hok) i (by simpa using (Array.getElem?_eq_some_iff.1 hi).1)
  simp only [Bool.and_eq_true] at h1
  have h2 := (List.all_eq_true.1 h1.2) k (by simpa using hlt)
  simp only [pairOk, hi, hok', Bool.or_eq_true] at h2
  rcases h2 with h2 | h2
  · obtain ⟨e, he, hb⟩ := Array.any_eq_true'.1 h2
    simp only [Bool.and_eq_true, beq_iff_eq] at hb
    have := hl.pred (hp e he hb.2)
    rw [hb.1] at this
    exact absurd (by simp [hk]) this
  · exact h2

theorem any_of_pst {P : Program} {ops : Array Oper} {Q : Exit → PS → Prop} (hok : drawOk ops = true) : ∀ (fuel : Nat) (listed : Array Bool) (rem : List Nat) (c0 c : Cx) (σ : PS) (a : Act), rem.length = fuel → Left ops listed rem → Step c0 c → Rel c σ a → (∀ o ∈ ops.toList, dstOk σ.n o = true) →
    PSt P ops (fun σ' => ∃ σ'', LEq σ' σ'' ∧ Q .normal σ'') rem σ → wpAny P .any ops (Post c0 Q) fuel listed a c.w := by
  have hQ : ∀ σ σ', LEq σ σ' → (∃ σ'', LEq σ σ'' ∧ Q .normal σ'') → ∃ σ'', LEq σ' σ'' ∧ Q .normal σ'' := fun σ σ' h ⟨σ'', h1, h2⟩ => ⟨σ'', h.symm.trans h1, h2⟩
  have fin : ∀ (c0 c : Cx) (σ : PS) (a : Act), Step c0 c → Rel c σ a → (∃ σ'', LEq σ σ'' ∧ Q .normal σ'') → Post c0 Q .normal a c.w := fun c0 c σ a hs r ⟨σ'', h1, h2⟩ => ⟨c, σ'', hs, rfl, r.leq h1, h2⟩
  have nil : ∀ listed, Left ops listed [] → Region.ready .any ops listed = [] := by
    intro listed hl
    rw [List.eq_nil_iff_forall_not_mem]
    intro i hi
    obtain ⟨h1, h2, _⟩ := ready_spec hi
    have := (hl.mem i).2 ⟨h1, h2⟩
    simp at this
  intro fuel
  induction fuel with
  | zero =>
    intro listed rem c0 c σ a hlen hl hs r hd h
    obtain rfl := List.eq_nil_of_length_eq_zero hlen
    exact ⟨nil listed hl, fin c0 c σ a hs r h⟩
  | succ fuel ih =>
    intro listed rem c0 c σ a hlen hl hs r hd h
    refine ⟨fun h0 => ?_, fun i hi => ?_⟩
    · cases rem with
      | nil => simp at hlen
      | cons i rem => rw [List.eq_nil_iff_forall_not_mem] at h0; exact absurd (head_ready hok hl) (h0 i)
    · obtain ⟨h1, h2, o, ho, hp⟩ := ready_spec hi
      obtain ⟨l1, l2, rfl⟩ := List.append_of_mem ((hl.mem i).2 ⟨h1, h2⟩)
      have hf := PSt.front hQ ho l1 l2 σ (left_apart hok hl ho hp) h
      unfold PSt at hf
      simp only [ho] at hf
      obtain ⟨x, g1, g2⟩ := hf
      refine wpOp_of_gst ho hd r g1 (fun c' a' hst hr => ?_)
      refine ih _ (l1 ++ l2) c0 c' _ a' (by simp at hlen ⊢; omega) hl.take (hs.trans hst) hr ?_ g2
      intro o' ho'
      have : (σ.put o.dst x σ.S).n = σ.n := by cases o.dst <;> rfl
      rw [this]
      exact hd o' ho'

theorem left_all (ops : Array Oper) : Left ops (Array.replicate ops.size false) (List.range ops.size) :=
  ⟨fun i => by
    simp only [List.mem_range]
    refine ⟨fun h => ⟨h, ?_⟩, fun h => h.1⟩
    rw [Array.getD_eq_getD_getElem?, Array.getElem?_replicate, if_pos h]
    rfl, List.pairwise_lt_range, by simp⟩

theorem tr_draw {P : Program} (hm : P.follows .mixedOrders = true) {id : Nat} {ops : Array Oper} {σ : PS} {Q : Exit → PS → Prop} (hd : ops.toList.all (dstOk σ.n) = true) (hok : drawOk ops = true) (h : PSt P ops (Q .normal) (List.range ops.size) σ) : Tr P (.region id ops true) σ Q := by
  intro c a r
  refine wp_region_any hm ?_
  obtain ⟨c', h1, h2, h3⟩ := r.drew (c.w.drawn + 1)
  rw [← h2]
  have mono : ∀ (l : List Nat) (σ : PS), PSt P ops (Q .normal) l σ → PSt P ops (fun σ' => ∃ σ'', LEq σ' σ'' ∧ Q .normal σ'') l σ := by
    intro l
    induction l with
    | nil => intro σ h; exact ⟨σ, .rfl' σ, h⟩
    | cons i l ih =>
      intro σ h
      unfold PSt at h ⊢
      split
      · rename_i ho; simp only [ho] at h; exact ih _ h
      · rename_i o ho
        simp only [ho] at h
        obtain ⟨x, g1, g2⟩ := h
        exact ⟨x, g1, ih _ g2⟩
  exact any_of_pst hok ops.size _ _ c c' σ a (by simp) (left_all ops) h1 h3 (List.all_eq_true.1 hd) (mono _ _ h)

/-- The same, told of the list of operations. -/
def PStL (P : Program) (ops : List Oper) (Q : PS → Prop) : List Oper → PS → Prop
  | [], σ => Q σ
  | o :: rest, σ => ∃ x, GSt P ops σ o x ∧ PStL P ops Q rest (σ.put o.dst x σ.S)

theorem pst_of_list {P : Program} {ops : Array Oper} {Q : PS → Prop} : ∀ (l : List Oper) (k : Nat) (σ : PS), (∀ j, l[j]? = ops[k + j]?) → PStL P ops.toList Q l σ → PSt P ops Q (List.range' k l.length) σ
  | [], k, σ, _, h => h
  | o :: l, k, σ, hl, h => by
    have h0 : ops[k]? = some o := by simpa using (hl 0).symm
    obtain ⟨x, g1, g2⟩ := h
    simp only [List.length_cons, List.range'_succ, PSt, h0]
    exact ⟨x, g1, pst_of_list l (k + 1) _ (fun j => by have := hl (j + 1); simpa [Nat.add_assoc, Nat.add_comm 1 j] using this) g2⟩

theorem pstl_evr {P : Program} {ops : List Oper} {Q : PS → Prop} : ∀ (l : List Oper) (σ σ' : PS) (n : Nat), (∀ o ∈ l, gOk ops o = true) → EvR P (prs ops l) σ σ' n → PStL P ops Q (lastN l n) σ' → PStL P ops Q l σ
  | [], σ, σ', n, _, h, k => by
    cases h with
    | stop => exact k
  | o :: rest, σ, σ', n, hk, h, k => by
    have hk' : ∀ o ∈ rest, gOk ops o = true := fun o' ho' => hk o' (by simp [ho'])
    have h2 : EvR P (prOf ops o :: prs ops rest) σ σ' n := h
    clear h
    generalize hp : prOf ops o = po at h2
    have hop : po.op = o.op := by rw [← hp]; rfl
    have hds : po.dst = o.dst := by rw [← hp]; rfl
    cases h2 with
    | stop => rw [show (po :: prs ops rest).length = (o :: rest).length by simp [prs], lastN_all] at k; exact k
    | step hg hx h3 =>
      rw [hop] at hx
      rw [hds] at h3
      have hle := h3.le
      rw [lastN_cons _ _ _ (by simpa [prs] using hle)] at k
      have ih := pstl_evr rest _ σ' n hk' h3 k
      refine ⟨_, ?_, ih⟩
      unfold GSt
      cases hog : o.guard with
      | none => exact .ev hx
      | some p =>
        obtain ⟨j, w⟩ := p
        obtain ⟨d, hpg, hgd⟩ := guard_look (σ := σ) hog (hk o (by simp))
        rw [hp] at hpg
        rcases hg with hg | ⟨d', w', hg, hl⟩
        · rw [hpg] at hg; cases hg
        · rw [hpg] at hg
          cases hg
          exact .inl ⟨hgd w (by rw [hl]; rfl), .ev hx⟩
    | skip hg hb hw h3 =>
      rename_i d w b
      rw [hds] at h3
      have hle := h3.le
      rw [lastN_cons _ _ _ (by simpa [prs] using hle)] at k
      have ih := pstl_evr rest _ σ' n hk' h3 k
      refine ⟨_, ?_, ih⟩
      unfold GSt
      cases hog : o.guard with
      | none => rw [← hp] at hg; simp [prOf, hog] at hg
      | some p =>
        obtain ⟨j, w'⟩ := p
        obtain ⟨d', hpg, hgd⟩ := guard_look (σ := σ) hog (hk o (by simp))
        rw [hp] at hpg
        rw [hpg] at hg
        cases hg
        exact .inr ⟨by rw [hgd b hb]; cases b <;> cases w <;> simp_all, rfl⟩

theorem pstl_nil {P : Program} {ops : List Oper} {Q : PS → Prop} {σ : PS} (h : Q σ) : PStL P ops Q [] σ := h
theorem pstl_ev {P : Program} {ops : List Oper} {Q : PS → Prop} {σ : PS} {rest : List Oper} (l : List Pr) (hl : prs ops rest = l) (hd : rest.all (gOk ops) = true) (h : EvG P l σ fun σ' n => PStL P ops Q (lastN rest n) σ') : PStL P ops Q rest σ := by
  subst hl
  obtain ⟨σ', n, h1, h2⟩ := h
  exact pstl_evr rest σ σ' n (List.all_eq_true.1 hd) h1 h2

theorem tr_drawn {P : Program} (hm : P.follows .mixedOrders = true) {id : Nat} {ops : Array Oper} {σ : PS} {Q : Exit → PS → Prop} (l : List Pr) (hl : prs ops.toList ops.toList = l) (hd : ops.toList.all (fun o => dstOk σ.n o && gOk ops.toList o) = true) (hok : drawOk ops = true)
    (h : EvG P l σ fun σ' n => PStL P ops.toList (Q .normal) (lastN ops.toList n) σ') : Tr P (.region id ops true) σ Q := by
  have hd' := List.all_eq_true.1 hd
  refine tr_draw hm (List.all_eq_true.2 fun o ho => (Bool.and_eq_true_iff.1 (hd' o ho)).1) hok ?_
  have := pst_of_list (P := P) (ops := ops) (Q := Q .normal) ops.toList 0 σ (fun j => by rw [Nat.zero_add, Array.getElem?_toList]) (pstl_ev l hl (List.all_eq_true.2 fun o ho => (Bool.and_eq_true_iff.1 (hd' o ho)).2) h)
  rw [Array.length_toList, ← List.range_eq_range'] at this
  exact this

theorem ev_endd {P : Program} {ops : List Oper} {Q : PS → Prop} {σ : PS} (h : Q σ) : EvG P [] σ fun σ' n => PStL P ops Q (lastN ops n) σ' := ev_stop (by rw [List.length_nil, lastN_zero]; exact h)
end Go.Proofs.Ytaaealngifkaeaa.Pv
