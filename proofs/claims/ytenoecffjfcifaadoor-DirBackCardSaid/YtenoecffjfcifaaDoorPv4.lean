/- Go values read as pure values: generic laws of walks (text written by a program of this session out of its parts). -/
import Derived.Test.YtenoecffjfcifaaDoorPv3
-- Thirty-second text: statements whose order Go leaves open, with calls that change blocks of one's own.
namespace Go.Proofs.YtenoecffjfcifaaDoor.Pv
set_option linter.all false
open Go.RowKit
set_option linter.unusedVariables false
variable {ro : Option Nat} {mm : Nat}
def atS (σ : PS) (S : List Blk) : PS := ⟨σ.n, σ.tm, S⟩
theorem atS_get (σ : PS) (S : List Blk) (x : Operand) : (atS σ S).get x = σ.get x := by cases x <;> rfl
theorem atS_put (σ : PS) (d : Option Tmp) (x : PV) (S S' : List Blk) : (atS σ S).put d x S' = atS (σ.put d x σ.S) S' := by cases d <;> rfl
theorem atS_guard (ops : List Oper) (σ : PS) (S : List Blk) (j : Nat) (w : Bool) : guardPV ops (atS σ S) j w = guardPV ops σ j w := rfl
def upd (D : Nat → Bool) (i : Nat) : Nat → Bool := fun k => if k = i then true else D k
theorem upd_comm (D : Nat → Bool) (i j : Nat) : upd (upd D i) j = upd (upd D j) i := by
  funext k
  unfold upd
  split <;> split <;> rfl
/-- What an operation answers, and the blocks behind it: it reads, or it calls. -/
inductive StU (P : Program) (σ : PS) (S S' : List Blk) (o : Oper) (x : PV) : Prop
  | ev (h : ev P (atS σ S) o.op = some x) (hS : S' = S)
  | call (cl : Call) (g : Operand) (f : FuncId) (fn : Func) (first captured : List PV) (ho : o.op = .call cl) (hc : cl.callee = .value g) (hg : σ.get g = .fn (.func f) first captured)
      (hf : P.funcs[f]? = some fn) (hb : fn.body.isSome = true) (hn : (fn.name == "runtime.NumGoroutine") = false) (h : GCall P f (first ++ cl.args.toList.map σ.get ++ captured) S fun y T => y = x ∧ T = S')
theorem StU.congr {P : Program} {σ σ' : PS} {S S' : List Blk} {o : Oper} {x : PV} (h : StU P σ S S' o x) (hg : ∀ y ∈ o.op.operands, σ.get y = σ'.get y) : StU P σ' S S' o x := by
  cases h with
  | ev h hS => exact .ev (by rw [← ev_congr (σ := atS σ S) (σ' := atS σ' S) (fun y hy => by rw [atS_get, atS_get]; exact hg y hy) rfl]; exact h) hS
  | call cl g f fn first captured ho hc hgg hf hb hn h =>
    rw [ho] at hg
    have h1 : σ.get g = σ'.get g := hg g (by simp [Op.operands, Call.operands, hc])
    refine .call cl g f fn first captured ho hc (by rw [← h1]; exact hgg) hf hb hn ?_
    rw [← map_get_congr (xs := cl.args.toList) (fun y hy => hg y (by simp [Op.operands, Call.operands]; exact .inr (by simpa using hy)))]
    exact h
theorem StU.pop {P : Program} {σ : PS} {S S' : List Blk} {o : Oper} {x : PV} (h : StU P σ S S' o x) {K : PV → List Blk → Prop} (hK : K x S') : PopSem P (atS σ S) o K := by
  cases h with
  | ev h hS => subst hS; exact pop_ev h hK
  | call cl g f fn first captured ho hc hgg hf hb hn h =>
    refine pop_call (R := fun y T => y = x ∧ T = S') ho hc (by rw [atS_get]; exact hgg) hf hb hn ?_ (fun y T ⟨h1, h2⟩ => by subst h1 h2; exact hK)
    rw [map_get_congr (σ' := σ) (xs := cl.args.toList) (fun y _ => atS_get σ S y)]
    exact h
/-- The same, whatever else has been done, and with the operation's guard. -/
def GSU (P : Program) (ops : List Oper) (U : (Nat → Bool) → List Blk) (σ : PS) (i : Nat) (o : Oper) (x : PV) : Prop :=
  match o.guard with
  | none => ∀ D, D i = false → StU P σ (U D) (U (upd D i)) o x
  | some (j, w) => (guardPV ops σ j w = some w ∧ ∀ D, D i = false → StU P σ (U D) (U (upd D i)) o x) ∨ (guardPV ops σ j w = some (!w) ∧ x = .tup [] ∧ ∀ D, D i = false → U (upd D i) = U D)
theorem GSU.put {P : Program} {ops : Array Oper} {U : (Nat → Bool) → List Blk} {σ : PS} {i : Nat} {o : Oper} {x : PV} {d : Option Tmp} {y : PV} (h : ∀ t, d = some t → t ∉ o.looksAt ops) : GSU P ops.toList U σ i o x ↔ GSU P ops.toList U (σ.put d y σ.S) i o x := by
  have hget : ∀ z ∈ o.op.operands, σ.get z = (σ.put d y σ.S).get z := fun z hz => (get_put (fun t ht e => h t ht (looksAt_op (by rw [← e]; exact hz)))).symm
  have hst : ∀ S S', StU P σ S S' o x ↔ StU P (σ.put d y σ.S) S S' o x := fun S S' => ⟨fun k => k.congr hget, fun k => k.congr (fun z hz => (hget z hz).symm)⟩
  unfold GSU
  cases hg : o.guard with
  | none => simp only [hst]
  | some p =>
    obtain ⟨j, w⟩ := p
    simp only [guard_put hg h, hst]
theorem GSU.leq {P : Program} {ops : List Oper} {U : (Nat → Bool) → List Blk} {σ σ' : PS} {i : Nat} {o : Oper} {x : PV} (h : LEq σ σ') (k : GSU P ops U σ i o x) : GSU P ops U σ' i o x := by
  unfold GSU at *
  cases hg : o.guard with
  | none => rw [hg] at k; exact fun D hD => (k D hD).congr (fun y _ => h.get y)
  | some p =>
    obtain ⟨j, w⟩ := p
    rw [hg] at k
    simp only [← h.guard ops j]
    rcases k with ⟨k1, k2⟩ | k
    · exact .inl ⟨k1, fun D hD => (k2 D hD).congr (fun y _ => h.get y)⟩
    · exact .inr k
def PSU (P : Program) (ops : Array Oper) (U : (Nat → Bool) → List Blk) (Q : PS → Prop) : List Nat → PS → Prop
  | [], σ => Q (atS σ (U fun _ => true))
  | i :: l, σ => match ops[i]? with
    | none => PSU P ops U Q l σ
    | some o => ∃ x, GSU P ops.toList U σ i o x ∧ PSU P ops U Q l (σ.put o.dst x σ.S)
theorem LEq.atS {σ σ' : PS} (h : LEq σ σ') (S : List Blk) : LEq (atS σ S) (atS σ' S) := ⟨h.1, rfl, h.2.2⟩
theorem PSU.leq {P : Program} {ops : Array Oper} {U : (Nat → Bool) → List Blk} {Q : PS → Prop} (hQ : ∀ σ σ', LEq σ σ' → Q σ → Q σ') : ∀ (l : List Nat) (σ σ' : PS), LEq σ σ' → PSU P ops U Q l σ → PSU P ops U Q l σ'
  | [], σ, σ', h, k => hQ _ _ (h.atS _) k
  | i :: l, σ, σ', h, k => by
    unfold PSU at *
    split
    · rename_i ho; simp only [ho] at k; exact PSU.leq hQ l _ _ h k
    · rename_i o ho
      simp only [ho] at k
      obtain ⟨x, k1, k2⟩ := k
      refine ⟨x, k1.leq h, PSU.leq hQ l _ _ ?_ k2⟩
      rw [← h.2.1]
      exact h.put _ _ _
theorem PSU.swap {P : Program} {ops : Array Oper} {U : (Nat → Bool) → List Blk} {Q : PS → Prop} (hQ : ∀ σ σ', LEq σ σ' → Q σ → Q σ') {i j : Nat} {l : List Nat} {σ : PS} {oi oj : Oper} (hi : ops[i]? = some oi) (hj : ops[j]? = some oj) (hap : oi.apart ops oj = true)
    (h : PSU P ops U Q (i :: j :: l) σ) : PSU P ops U Q (j :: i :: l) σ := by
  obtain ⟨h1, h2, h3⟩ := Oper.apart_spec hap
  unfold PSU at h ⊢
  simp only [hi, hj] at h ⊢
  obtain ⟨x, k1, k2⟩ := h
  unfold PSU at k2 ⊢
  simp only [hi, hj] at k2 ⊢
  obtain ⟨y, k3, k4⟩ := k2
  rw [put_S] at k4
  refine ⟨y, (GSU.put (d := oi.dst) (y := x) h1).2 k3, x, ?_, ?_⟩
  · exact (GSU.put (d := oj.dst) (y := y) h3).1 k1
  · rw [put_S]
    refine PSU.leq hQ l _ _ ?_ k4
    refine ⟨by cases oi.dst <;> cases oj.dst <;> rfl, by rw [put_S, put_S], fun t => ?_⟩
    cases hd : oi.dst with
    | none => cases oj.dst <;> rfl
    | some d =>
      cases he : oj.dst with
      | none => rfl
      | some e =>
        have hne : d ≠ e := fun q => h2 d hd (by rw [he, q])
        simp only [PS.put, look]
        split
        · rename_i q; subst q; rw [if_neg (fun q => hne q.symm)]
        · rfl
theorem PSU.front {P : Program} {ops : Array Oper} {U : (Nat → Bool) → List Blk} {Q : PS → Prop} (hQ : ∀ σ σ', LEq σ σ' → Q σ → Q σ') {i : Nat} {oi : Oper} (hi : ops[i]? = some oi) : ∀ (l1 : List Nat) (l2 : List Nat) (σ : PS), (∀ k ∈ l1, ∀ ok, ops[k]? = some ok → ok.apart ops oi = true) →
    PSU P ops U Q (l1 ++ i :: l2) σ → PSU P ops U Q (i :: (l1 ++ l2)) σ
  | [], l2, σ, _, h => h
  | k :: l1, l2, σ, ha, h => by
    cases hk : ops[k]? with
    | none =>
      simp only [List.cons_append, PSU, hk] at h ⊢
      have := PSU.front hQ hi l1 l2 σ (fun k' hk' => ha k' (by simp [hk'])) h
      simpa only [PSU, hi] using this
    | some ok =>
      have h' : PSU P ops U Q (k :: i :: (l1 ++ l2)) σ := by
        simp only [List.cons_append] at h
        unfold PSU at h ⊢
        simp only [hk] at h ⊢
        obtain ⟨x, h1, h2⟩ := h
        exact ⟨x, h1, PSU.front hQ hi l1 l2 _ (fun k' hk' => ha k' (by simp [hk'])) h2⟩
      exact PSU.swap hQ hk hi (ha k (by simp) ok hk) h'
theorem wpOp_of_gsu {P : Program} {ops : Array Oper} {U : (Nat → Bool) → List Blk} {Q' : Exit → Act → World → Prop} {K : Act → World → Prop} {c : Cx} {σ : PS} {a : Act} {i : Nat} {o : Oper} {x : PV} {D : Nat → Bool} (hi : ops[i]? = some o) (hd : ∀ o ∈ ops.toList, dstOk σ.n o = true) (r : Rel c (atS σ (U D)) a) (hD : D i = false) (h : GSU P ops.toList U σ i o x)
    (hK : ∀ c' a', Step c c' → Rel c' (atS (σ.put o.dst x σ.S) (U (upd D i))) a' → K a' c'.w) : wpOpIn (FR ro) mm P ops Q' i K a c.w := by
  have hdo : ∀ t, o.dst = some t → t < σ.n := dstOk_lt (hd o (by rw [← Array.getElem?_toList] at hi; exact List.mem_of_getElem? hi))
  have hnd : notDefer o = true := dstOk_nd (hd o (by rw [← Array.getElem?_toList] at hi; exact List.mem_of_getElem? hi))
  have main : StU P σ (U D) (U (upd D i)) o x → o.wpIn (FR ro) mm P a c.w K Q' := fun hs => wpIn_of_wp hnd (hs.pop (K := fun y S' => y = x ∧ S' = U (upd D i)) ⟨rfl, rfl⟩ c a r K Q' (fun y c' v ⟨h1, h2⟩ hi' hst hv => by
    subst h1
    refine hK c' _ hst ?_
    have := r.put hst hi' hv hdo
    rw [h2, atS_put] at this
    exact this))
  unfold wpOpIn
  simp only [hi]
  unfold GSU at h
  split at h
  · rename_i hg
    rw [if_pos (by simp [Region.wanted, hg])]
    exact main (h D hD)
  · rename_i j w hg
    rcases h with ⟨h1, h2⟩ | ⟨h1, rfl, h2⟩
    · rw [if_pos (by rw [show Region.wanted o (yielded ops a.tmps) = (w == w) from by unfold Region.wanted; rw [hg]; exact yielded_of r h1 hd]; simp)]
      exact main (h2 D hD)
    · rw [if_neg (by rw [show Region.wanted o (yielded ops a.tmps) = ((!w) == w) from by unfold Region.wanted; rw [hg]; exact yielded_of r h1 hd]; cases w <;> simp)]
      have := r.put (.refl c) r.inv (rel_void c) hdo
      rw [r.S, atS_put] at this
      rw [h2 D hD] at hK
      exact ⟨fun _ _ => trivial, hK c _ (.refl c) this⟩
theorem getD_setT (listed : Array Bool) (i : Nat) : (fun k => (listed.setIfInBounds i true).getD k true) = upd (fun k => listed.getD k true) i := by
  funext k
  unfold upd
  simp only [Array.getD_eq_getD_getElem?]
  by_cases h : k = i
  · subst h
    rw [if_pos rfl]
    by_cases hk : k < listed.size
    · rw [Array.getElem?_setIfInBounds_self_of_lt hk]; rfl
    · rw [Array.getElem?_eq_none (by simpa using hk)]; rfl
  · rw [if_neg h, Array.getElem?_setIfInBounds_ne (fun e => h e.symm)]
theorem any_of_psu {P : Program} {ops : Array Oper} {U : (Nat → Bool) → List Blk} {Q : Exit → PS → Prop} (hok : drawOk ops = true) : ∀ (fuel : Nat) (listed : Array Bool) (rem : List Nat) (c0 c : Cx) (σ : PS) (a : Act), rem.length = fuel → Left ops listed rem → Step c0 c → Rel c (atS σ (U fun k => listed.getD k true)) a → (∀ o ∈ ops.toList, dstOk σ.n o = true) →
    PSU P ops U (fun σ' => ∃ σ'', LEq σ' σ'' ∧ Q .normal σ'') rem σ → wpAnyIn (FR ro) mm P .any ops (Post c0 Q) fuel listed a c.w := by
  have hQ : ∀ σ σ', LEq σ σ' → (∃ σ'', LEq σ σ'' ∧ Q .normal σ'') → ∃ σ'', LEq σ' σ'' ∧ Q .normal σ'' := fun σ σ' h ⟨σ'', h1, h2⟩ => ⟨σ'', h.symm.trans h1, h2⟩
  have fin : ∀ (c0 c : Cx) (σ : PS) (a : Act), Step c0 c → Rel c σ a → (∃ σ'', LEq σ σ'' ∧ Q .normal σ'') → Post c0 Q .normal a c.w := fun c0 c σ a hs r ⟨σ'', h1, h2⟩ => ⟨c, σ'', hs, rfl, r.leq h1, h2⟩
  have nil : ∀ listed, Left ops listed [] → Region.ready .any ops listed = [] := by
    intro listed hl
    rw [List.eq_nil_iff_forall_not_mem]
    intro i hi
    obtain ⟨h1, h2, _⟩ := ready_spec hi
    have := (hl.mem i).2 ⟨h1, h2⟩
    simp at this
  have allT : ∀ listed, Left ops listed [] → (fun k => listed.getD k true) = fun _ => true := by
    intro listed hl
    funext k
    cases hk : listed.getD k true with
    | true => rfl
    | false =>
      have hlt : k < ops.size := by
        rw [← hl.size]
        rcases Nat.lt_or_ge k listed.size with h | h
        · exact h
        · rw [Array.getD_eq_getD_getElem?, Array.getElem?_eq_none h] at hk; cases hk
      have := (hl.mem k).2 ⟨hlt, hk⟩
      simp at this
  intro fuel
  induction fuel with
  | zero =>
    intro listed rem c0 c σ a hlen hl hs r hd h
    obtain rfl := List.eq_nil_of_length_eq_zero hlen
    rw [allT listed hl] at r
    exact ⟨nil listed hl, fin c0 c _ a hs r h⟩
  | succ fuel ih =>
    intro listed rem c0 c σ a hlen hl hs r hd h
    refine ⟨fun h0 => ?_, fun i hi => ?_⟩
    · cases rem with
      | nil => simp at hlen
      | cons i rem => rw [List.eq_nil_iff_forall_not_mem] at h0; exact absurd (head_ready hok hl) (h0 i)
    · obtain ⟨h1, h2, o, ho, hp⟩ := ready_spec hi
      obtain ⟨l1, l2, rfl⟩ := List.append_of_mem ((hl.mem i).2 ⟨h1, h2⟩)
      have hf := PSU.front hQ ho l1 l2 σ (left_apart hok hl ho hp) h
      unfold PSU at hf
      simp only [ho] at hf
      obtain ⟨x, g1, g2⟩ := hf
      refine wpOp_of_gsu (D := fun k => listed.getD k true) ho hd r h2 g1 (fun c' a' hst hr => ?_)
      rw [← getD_setT] at hr
      refine ih _ (l1 ++ l2) c0 c' _ a' (by simp at hlen ⊢; omega) hl.take (hs.trans hst) hr ?_ g2
      intro o' ho'
      have : (σ.put o.dst x σ.S).n = σ.n := by cases o.dst <;> rfl
      rw [this]
      exact hd o' ho'
theorem tr_drawu {P : Program} (hm : P.follows .mixedOrders = true) {id : Nat} {ops : Array Oper} {U : (Nat → Bool) → List Blk} {σ : PS} {Q : Exit → PS → Prop} (hd : ops.toList.all (dstOk σ.n) = true) (hok : drawOk ops = true) (hU : U (fun k => decide (ops.size ≤ k)) = σ.S) (h : PSU P ops U (Q .normal) (List.range ops.size) σ) : Tr P (.region id ops true) σ Q := by
  intro ro mm c a r hro
  refine wpIn_region_any hm ?_
  obtain ⟨c', h1, h2, h3⟩ := r.drew (c.w.drawn + 1)
  rw [← h2]
  have mono : ∀ (l : List Nat) (σ : PS), PSU P ops U (Q .normal) l σ → PSU P ops U (fun σ' => ∃ σ'', LEq σ' σ'' ∧ Q .normal σ'') l σ := by
    intro l
    induction l with
    | nil => intro σ h; exact ⟨_, .rfl' _, h⟩
    | cons i l ih =>
      intro σ h
      unfold PSU at h ⊢
      split
      · rename_i ho; simp only [ho] at h; exact ih _ h
      · rename_i o ho
        simp only [ho] at h
        obtain ⟨x, g1, g2⟩ := h
        exact ⟨x, g1, ih _ g2⟩
  have h0 : (fun k => (Array.replicate ops.size false).getD k true) = fun k => decide (ops.size ≤ k) := by
    funext k
    rw [Array.getD_eq_getD_getElem?, Array.getElem?_replicate]
    split
    · rename_i h; simp; omega
    · rename_i h; simp; omega
  refine any_of_psu hok ops.size _ _ c c' σ a (by simp) (left_all ops) h1 ?_ (List.all_eq_true.1 hd) (mono _ _ h)
  rw [h0, hU]
  exact h3
/-- The same, told of the list of operations. -/
inductive PSUL (P : Program) (ops : List Oper) (U : (Nat → Bool) → List Blk) (Q : PS → Prop) : Nat → List Oper → PS → Prop
  | nil {i : Nat} {σ : PS} (h : Q (atS σ (U fun _ => true))) : PSUL P ops U Q i [] σ
  | cons {i : Nat} {o : Oper} {rest : List Oper} {σ : PS} (x : PV) (g : GSU P ops U σ i o x) (k : PSUL P ops U Q (i + 1) rest (σ.put o.dst x σ.S)) : PSUL P ops U Q i (o :: rest) σ
theorem psul_mk {P : Program} {ops : List Oper} {U : (Nat → Bool) → List Blk} {Q : PS → Prop} {i : Nat} {o : Oper} {rest : List Oper} {σ : PS} (h : ∃ x, GSU P ops U σ i o x ∧ PSUL P ops U Q (i + 1) rest (σ.put o.dst x σ.S)) : PSUL P ops U Q i (o :: rest) σ := by
  obtain ⟨x, g, k⟩ := h
  exact .cons x g k
theorem psu_of_list {P : Program} {ops : Array Oper} {U : (Nat → Bool) → List Blk} {Q : PS → Prop} : ∀ (l : List Oper) (k : Nat) (σ : PS), (∀ j, l[j]? = ops[k + j]?) → PSUL P ops.toList U Q k l σ → PSU P ops U Q (List.range' k l.length) σ
  | [], k, σ, _, h => by cases h with | nil h => exact h
  | o :: l, k, σ, hl, h => by
    have h0 : ops[k]? = some o := by simpa using (hl 0).symm
    cases h with
    | cons x g1 g2 =>
    simp only [List.length_cons, List.range'_succ, PSU, h0]
    exact ⟨x, g1, psu_of_list l (k + 1) _ (fun j => by have := hl (j + 1); simpa [Nat.add_assoc, Nat.add_comm 1 j] using this) g2⟩
/-- A walk comes to such a region: U tells the blocks by what has been done. -/
theorem kdu {P : Program} {id : Nat} {ops : Array Oper} {l : List Code} {σ : PS} {Q : Exit → PS → Prop} (U : (Nat → Bool) → List Blk) (k : PSUL P ops.toList U (fun σ' => Tk P l σ' Q) 0 ops.toList σ) [hm : Mixed P] (hd : ops.toList.all (dstOk σ.n) = true := by kernel_rfl) (hok : drawOk ops = true := by kernel_rfl) (hU : U (fun k => decide (ops.size ≤ k)) = σ.S := by rfl) : Tk P (.region id ops true :: l) σ Q := by
  refine tr_drawu hm.h hd hok hU ?_
  have := psu_of_list (P := P) (ops := ops) (U := U) (Q := fun σ' => Tk P l σ' Q) ops.toList 0 σ (fun j => by rw [Nat.zero_add, Array.getElem?_toList]) k
  rw [Array.length_toList, ← List.range_eq_range'] at this
  exact this
section
variable {P : Program} {ops : List Oper} {U : (Nat → Bool) → List Blk} {Q : PS → Prop} {rest : List Oper} {i n : Nat} {tm : List (Nat × PV)} {S : List Blk} {d : Tmp} {ty : TypeId} {pos : String} {af : Array Edge} {op : Op}
theorem evr_one {x : PV} {σ : PS} (h : EvR P [⟨op, some d, none⟩] ⟨n, tm, S⟩ ⟨n, (d, x) :: tm, S⟩ 0) : ev P ⟨n, tm, S⟩ op = some x := by
  generalize hl : [(⟨op, some d, none⟩ : Pr)] = l at h
  generalize hs : (⟨n, tm, S⟩ : PS) = σ at h
  generalize ht : (⟨n, (d, x) :: tm, S⟩ : PS) = τ at h
  generalize hz : (0 : Nat) = z at h
  cases h with
  | stop => subst hl; cases hz
  | step hg h k =>
    cases hl
    subst hs
    generalize hl2 : ([] : List Pr) = l2 at k
    cases k with
    | stop =>
      injection ht with h1 h2 h3
      injection h2 with h4 h5
      injection h4 with h6 h7
      rw [h7]; exact h
    | step hg h k => cases hl2
    | skip hg hb hw k => cases hl2
  | skip hg hb hw k => cases hl; cases hg
/-- It reads what no call changes. -/
theorem pu_ev (x : PV) (k : PSUL P ops U Q (i + 1) rest ⟨n, (d, x) :: tm, S⟩)
    (he : ∀ D, D i = false → EvR P [⟨op, some d, none⟩] ⟨n, tm, U D⟩ ⟨n, (d, x) :: tm, U D⟩ 0 := by intro D_ hD_; repeat (first | (refine is_c ?_; first | (refine is_u ?_; first | (refine is_mv ?_; refine es_mv ?_) | (refine is_as ?_; refine es_as ?_) | (refine is_bin ?_; first | (refine is_b_lss ?_; first | refine es_lt_t ?_ | refine es_lt_f ?_ | refine es_lt ?_) | (refine is_b_leq ?_; first | refine es_le_t ?_ | refine es_le_f ?_ | refine es_le ?_) | (refine is_b_gtr ?_; first | refine es_gt_t ?_ | refine es_gt_f ?_ | refine es_gt ?_) | (refine is_b_geq ?_; first | refine es_ge_t ?_ | refine es_ge_f ?_ | refine es_ge ?_) | (refine is_b_eql ?_; first | refine es_eq_t ?_ | refine es_eq_f ?_ | refine es_eq ?_ | refine es_seq_t ?_ | refine es_seq_f ?_ | refine es_seq ?_ | refine es_aeq_t ?_ | refine es_aeq ?_ | refine es_beq ?_ | refine es_eqn_ro ?_ | refine es_eqn_nil ?_ | refine es_eqp_ptr ?_ | refine es_eqp_nil ?_) | (refine is_b_neq ?_; first | refine es_ne_t ?_ | refine es_ne_f ?_ | refine es_ne ?_ | refine es_sne_t ?_ | refine es_sne_f ?_ | refine es_sne ?_ | refine es_ane_f ?_ | refine es_ane ?_ | refine es_bne ?_ | refine es_nen_ro ?_ | refine es_nen_nil ?_ | refine es_nep_ptr ?_ | refine es_nep_nil ?_) | (refine is_b_add ?_; first | refine es_add ?_ | refine es_sadd ?_) | (refine is_b_sub ?_; refine es_sub ?_) | (refine is_b_mul ?_; refine es_mul ?_) | (refine is_b_quo ?_; refine es_quo ?_) | (refine is_b_rem ?_; refine es_rem ?_) | (refine is_b_and ?_; first | refine es_andh ?_ | refine es_and ?_) | (refine is_b_or ?_; first | refine es_orh ?_ | refine es_or ?_) | (refine is_b_xor ?_; first | refine es_xorh ?_ | refine es_xor ?_) | (refine is_b_andNot ?_; first | refine es_andnh ?_ | refine es_andn ?_) | (refine is_b_shl ?_; refine es_shl ?_) | (refine is_b_shr ?_; refine es_shr ?_)) | (refine is_ld ?_; first | refine es_ld_rp ?_ | refine es_lda_rp ?_ | refine es_ld_ptr ?_ | refine es_lda_ptr ?_ | refine es_ld_ca ?_ | refine es_ld_ct ?_ | refine es_lda_row ?_) | (refine is_ixa ?_; first | refine es_ix_ro ?_ | refine es_ix_vw ?_ | refine es_ix_arr ?_ | refine es_ix_sub ?_) | (refine is_ix ?_; first | refine es_six ?_ | refine es_aixc ?_ | refine es_aix ?_) | (refine is_fa ?_; first | refine es_fa_ptr ?_ | refine es_fa_rp ?_) | (refine is_ext ?_; refine es_ext ?_) | (refine is_pick ?_; first | refine es_pick_t ?_ | refine es_pick_f ?_ | refine es_pick ?_) | (refine is_call ?_; first | refine es_slen ?_ | refine es_len_ro ?_ | refine es_len_vw ?_ | refine es_len_nil ?_ | refine es_len_sub ?_ | refine es_len_str ?_ | refine es_min ?_ | refine es_max ?_) | (refine is_conv ?_; refine es_conv ?_) | (refine is_un ?_; first | refine es_not_t ?_ | refine es_not_f ?_ | refine es_not ?_ | refine es_neg ?_) | (refine is_fv ?_; first | refine es_fv ?_ | refine es_fva ?_) | (refine is_nil ?_; first | refine es_nil_ptr ?_ | refine es_nil_fn ?_) | (refine is_bld ?_; refine es_bld ?_) | (refine is_mf ?_; refine es_mf ?_) | (refine is_sl ?_; first | refine es_sl_arr ?_ | refine es_sl_h ?_ | refine es_sl_l ?_ | refine es_sl_b ?_ | refine es_ssl_h ?_ | refine es_ssl_l ?_ | refine es_ssl_b ?_ | refine es_vsl_h ?_ | refine es_vsl_l ?_ | refine es_vsl_b ?_ | refine es_vsl_3 ?_ | refine es_sl_3 ?_ | refine es_rsl_h ?_ | refine es_rsl_l ?_ | refine es_rsl_b ?_)) | (refine es_guard ?_; first | (refine is_mv ?_; refine es_mv ?_) | (refine is_as ?_; refine es_as ?_) | (refine is_bin ?_; first | (refine is_b_lss ?_; first | refine es_lt_t ?_ | refine es_lt_f ?_ | refine es_lt ?_) | (refine is_b_leq ?_; first | refine es_le_t ?_ | refine es_le_f ?_ | refine es_le ?_) | (refine is_b_gtr ?_; first | refine es_gt_t ?_ | refine es_gt_f ?_ | refine es_gt ?_) | (refine is_b_geq ?_; first | refine es_ge_t ?_ | refine es_ge_f ?_ | refine es_ge ?_) | (refine is_b_eql ?_; first | refine es_eq_t ?_ | refine es_eq_f ?_ | refine es_eq ?_ | refine es_seq_t ?_ | refine es_seq_f ?_ | refine es_seq ?_ | refine es_aeq_t ?_ | refine es_aeq ?_ | refine es_beq ?_ | refine es_eqn_ro ?_ | refine es_eqn_nil ?_ | refine es_eqp_ptr ?_ | refine es_eqp_nil ?_) | (refine is_b_neq ?_; first | refine es_ne_t ?_ | refine es_ne_f ?_ | refine es_ne ?_ | refine es_sne_t ?_ | refine es_sne_f ?_ | refine es_sne ?_ | refine es_ane_f ?_ | refine es_ane ?_ | refine es_bne ?_ | refine es_nen_ro ?_ | refine es_nen_nil ?_ | refine es_nep_ptr ?_ | refine es_nep_nil ?_) | (refine is_b_add ?_; first | refine es_add ?_ | refine es_sadd ?_) | (refine is_b_sub ?_; refine es_sub ?_) | (refine is_b_mul ?_; refine es_mul ?_) | (refine is_b_quo ?_; refine es_quo ?_) | (refine is_b_rem ?_; refine es_rem ?_) | (refine is_b_and ?_; first | refine es_andh ?_ | refine es_and ?_) | (refine is_b_or ?_; first | refine es_orh ?_ | refine es_or ?_) | (refine is_b_xor ?_; first | refine es_xorh ?_ | refine es_xor ?_) | (refine is_b_andNot ?_; first | refine es_andnh ?_ | refine es_andn ?_) | (refine is_b_shl ?_; refine es_shl ?_) | (refine is_b_shr ?_; refine es_shr ?_)) | (refine is_ld ?_; first | refine es_ld_rp ?_ | refine es_lda_rp ?_ | refine es_ld_ptr ?_ | refine es_lda_ptr ?_ | refine es_ld_ca ?_ | refine es_ld_ct ?_ | refine es_lda_row ?_) | (refine is_ixa ?_; first | refine es_ix_ro ?_ | refine es_ix_vw ?_ | refine es_ix_arr ?_ | refine es_ix_sub ?_) | (refine is_ix ?_; first | refine es_six ?_ | refine es_aixc ?_ | refine es_aix ?_) | (refine is_fa ?_; first | refine es_fa_ptr ?_ | refine es_fa_rp ?_) | (refine is_ext ?_; refine es_ext ?_) | (refine is_pick ?_; first | refine es_pick_t ?_ | refine es_pick_f ?_ | refine es_pick ?_) | (refine is_call ?_; first | refine es_slen ?_ | refine es_len_ro ?_ | refine es_len_vw ?_ | refine es_len_nil ?_ | refine es_len_sub ?_ | refine es_len_str ?_ | refine es_min ?_ | refine es_max ?_) | (refine is_conv ?_; refine es_conv ?_) | (refine is_un ?_; first | refine es_not_t ?_ | refine es_not_f ?_ | refine es_not ?_ | refine es_neg ?_) | (refine is_fv ?_; first | refine es_fv ?_ | refine es_fva ?_) | (refine is_nil ?_; first | refine es_nil_ptr ?_ | refine es_nil_fn ?_) | (refine is_bld ?_; refine es_bld ?_) | (refine is_mf ?_; refine es_mf ?_) | (refine is_sl ?_; first | refine es_sl_arr ?_ | refine es_sl_h ?_ | refine es_sl_l ?_ | refine es_sl_b ?_ | refine es_ssl_h ?_ | refine es_ssl_l ?_ | refine es_ssl_b ?_ | refine es_vsl_h ?_ | refine es_vsl_l ?_ | refine es_vsl_b ?_ | refine es_vsl_3 ?_ | refine es_sl_3 ?_ | refine es_rsl_h ?_ | refine es_rsl_l ?_ | refine es_rsl_b ?_)) | refine es_skip ?_) | exact EvR.stop _ _))
    (hU : ∀ D, D i = false → U (upd D i) = U D := by intro D_ hD_; rfl) : PSUL P ops U Q i (⟨some d, op, ty, pos, af, none⟩ :: rest) ⟨n, tm, S⟩ :=
  psul_mk ⟨x, fun D hD => .ev (evr_one (σ := ⟨n, tm, U D⟩) (he D hD)) (hU D hD), k⟩
/-- It calls. -/
theorem pu_gcall {f : FuncId} [hf : FnOk P f] {args : Array Operand} {ats : Array TypeId} {ar : List PV} {x : PV} (h : ∀ D, D i = false → GCall P f ar (U D) fun y T => y = x ∧ T = U (upd D i)) (k : PSUL P ops U Q (i + 1) rest ⟨n, (d, x) :: tm, S⟩)
    (ha : args.toList.map (PS.get ⟨n, tm, S⟩) = ar := by first | rfl | (simp only [List.map_cons, List.map_nil, PS.get, look, ↓reduceIte, Nat.reduceEqDiff, reduceCtorEq]; exact rfl)) :
    PSUL P ops U Q i (⟨some d, .call ⟨.value (.func f), args, ats⟩, ty, pos, af, none⟩ :: rest) ⟨n, tm, S⟩ := by
  obtain ⟨fn, h1, h2, h3⟩ := hf.h
  exact psul_mk ⟨x, fun D hD => .call _ _ f fn [] [] rfl rfl rfl h1 h2 h3 (by simp only [List.nil_append, List.append_nil, ha]; exact h D hD), k⟩
/-- The same, guarded. -/
theorem pu_ev_g {j : Nat} {w : Bool} (x : PV) (k : PSUL P ops U Q (i + 1) rest ⟨n, (d, x) :: tm, S⟩) (hg : guardPV ops ⟨n, tm, S⟩ j w = some w := by ((conv => lhs; whnf) <;> fail "no"))
    (he : ∀ D, D i = false → EvR P [⟨op, some d, none⟩] ⟨n, tm, U D⟩ ⟨n, (d, x) :: tm, U D⟩ 0 := by intro D_ hD_; repeat (first | (refine is_c ?_; first | (refine is_u ?_; first | (refine is_mv ?_; refine es_mv ?_) | (refine is_as ?_; refine es_as ?_) | (refine is_bin ?_; first | (refine is_b_lss ?_; first | refine es_lt_t ?_ | refine es_lt_f ?_ | refine es_lt ?_) | (refine is_b_leq ?_; first | refine es_le_t ?_ | refine es_le_f ?_ | refine es_le ?_) | (refine is_b_gtr ?_; first | refine es_gt_t ?_ | refine es_gt_f ?_ | refine es_gt ?_) | (refine is_b_geq ?_; first | refine es_ge_t ?_ | refine es_ge_f ?_ | refine es_ge ?_) | (refine is_b_eql ?_; first | refine es_eq_t ?_ | refine es_eq_f ?_ | refine es_eq ?_ | refine es_seq_t ?_ | refine es_seq_f ?_ | refine es_seq ?_ | refine es_aeq_t ?_ | refine es_aeq ?_ | refine es_beq ?_ | refine es_eqn_ro ?_ | refine es_eqn_nil ?_ | refine es_eqp_ptr ?_ | refine es_eqp_nil ?_) | (refine is_b_neq ?_; first | refine es_ne_t ?_ | refine es_ne_f ?_ | refine es_ne ?_ | refine es_sne_t ?_ | refine es_sne_f ?_ | refine es_sne ?_ | refine es_ane_f ?_ | refine es_ane ?_ | refine es_bne ?_ | refine es_nen_ro ?_ | refine es_nen_nil ?_ | refine es_nep_ptr ?_ | refine es_nep_nil ?_) | (refine is_b_add ?_; first | refine es_add ?_ | refine es_sadd ?_) | (refine is_b_sub ?_; refine es_sub ?_) | (refine is_b_mul ?_; refine es_mul ?_) | (refine is_b_quo ?_; refine es_quo ?_) | (refine is_b_rem ?_; refine es_rem ?_) | (refine is_b_and ?_; first | refine es_andh ?_ | refine es_and ?_) | (refine is_b_or ?_; first | refine es_orh ?_ | refine es_or ?_) | (refine is_b_xor ?_; first | refine es_xorh ?_ | refine es_xor ?_) | (refine is_b_andNot ?_; first | refine es_andnh ?_ | refine es_andn ?_) | (refine is_b_shl ?_; refine es_shl ?_) | (refine is_b_shr ?_; refine es_shr ?_)) | (refine is_ld ?_; first | refine es_ld_rp ?_ | refine es_lda_rp ?_ | refine es_ld_ptr ?_ | refine es_lda_ptr ?_ | refine es_ld_ca ?_ | refine es_ld_ct ?_ | refine es_lda_row ?_) | (refine is_ixa ?_; first | refine es_ix_ro ?_ | refine es_ix_vw ?_ | refine es_ix_arr ?_ | refine es_ix_sub ?_) | (refine is_ix ?_; first | refine es_six ?_ | refine es_aixc ?_ | refine es_aix ?_) | (refine is_fa ?_; first | refine es_fa_ptr ?_ | refine es_fa_rp ?_) | (refine is_ext ?_; refine es_ext ?_) | (refine is_pick ?_; first | refine es_pick_t ?_ | refine es_pick_f ?_ | refine es_pick ?_) | (refine is_call ?_; first | refine es_slen ?_ | refine es_len_ro ?_ | refine es_len_vw ?_ | refine es_len_nil ?_ | refine es_len_sub ?_ | refine es_len_str ?_ | refine es_min ?_ | refine es_max ?_) | (refine is_conv ?_; refine es_conv ?_) | (refine is_un ?_; first | refine es_not_t ?_ | refine es_not_f ?_ | refine es_not ?_ | refine es_neg ?_) | (refine is_fv ?_; first | refine es_fv ?_ | refine es_fva ?_) | (refine is_nil ?_; first | refine es_nil_ptr ?_ | refine es_nil_fn ?_) | (refine is_bld ?_; refine es_bld ?_) | (refine is_mf ?_; refine es_mf ?_) | (refine is_sl ?_; first | refine es_sl_arr ?_ | refine es_sl_h ?_ | refine es_sl_l ?_ | refine es_sl_b ?_ | refine es_ssl_h ?_ | refine es_ssl_l ?_ | refine es_ssl_b ?_ | refine es_vsl_h ?_ | refine es_vsl_l ?_ | refine es_vsl_b ?_ | refine es_vsl_3 ?_ | refine es_sl_3 ?_ | refine es_rsl_h ?_ | refine es_rsl_l ?_ | refine es_rsl_b ?_)) | (refine es_guard ?_; first | (refine is_mv ?_; refine es_mv ?_) | (refine is_as ?_; refine es_as ?_) | (refine is_bin ?_; first | (refine is_b_lss ?_; first | refine es_lt_t ?_ | refine es_lt_f ?_ | refine es_lt ?_) | (refine is_b_leq ?_; first | refine es_le_t ?_ | refine es_le_f ?_ | refine es_le ?_) | (refine is_b_gtr ?_; first | refine es_gt_t ?_ | refine es_gt_f ?_ | refine es_gt ?_) | (refine is_b_geq ?_; first | refine es_ge_t ?_ | refine es_ge_f ?_ | refine es_ge ?_) | (refine is_b_eql ?_; first | refine es_eq_t ?_ | refine es_eq_f ?_ | refine es_eq ?_ | refine es_seq_t ?_ | refine es_seq_f ?_ | refine es_seq ?_ | refine es_aeq_t ?_ | refine es_aeq ?_ | refine es_beq ?_ | refine es_eqn_ro ?_ | refine es_eqn_nil ?_ | refine es_eqp_ptr ?_ | refine es_eqp_nil ?_) | (refine is_b_neq ?_; first | refine es_ne_t ?_ | refine es_ne_f ?_ | refine es_ne ?_ | refine es_sne_t ?_ | refine es_sne_f ?_ | refine es_sne ?_ | refine es_ane_f ?_ | refine es_ane ?_ | refine es_bne ?_ | refine es_nen_ro ?_ | refine es_nen_nil ?_ | refine es_nep_ptr ?_ | refine es_nep_nil ?_) | (refine is_b_add ?_; first | refine es_add ?_ | refine es_sadd ?_) | (refine is_b_sub ?_; refine es_sub ?_) | (refine is_b_mul ?_; refine es_mul ?_) | (refine is_b_quo ?_; refine es_quo ?_) | (refine is_b_rem ?_; refine es_rem ?_) | (refine is_b_and ?_; first | refine es_andh ?_ | refine es_and ?_) | (refine is_b_or ?_; first | refine es_orh ?_ | refine es_or ?_) | (refine is_b_xor ?_; first | refine es_xorh ?_ | refine es_xor ?_) | (refine is_b_andNot ?_; first | refine es_andnh ?_ | refine es_andn ?_) | (refine is_b_shl ?_; refine es_shl ?_) | (refine is_b_shr ?_; refine es_shr ?_)) | (refine is_ld ?_; first | refine es_ld_rp ?_ | refine es_lda_rp ?_ | refine es_ld_ptr ?_ | refine es_lda_ptr ?_ | refine es_ld_ca ?_ | refine es_ld_ct ?_ | refine es_lda_row ?_) | (refine is_ixa ?_; first | refine es_ix_ro ?_ | refine es_ix_vw ?_ | refine es_ix_arr ?_ | refine es_ix_sub ?_) | (refine is_ix ?_; first | refine es_six ?_ | refine es_aixc ?_ | refine es_aix ?_) | (refine is_fa ?_; first | refine es_fa_ptr ?_ | refine es_fa_rp ?_) | (refine is_ext ?_; refine es_ext ?_) | (refine is_pick ?_; first | refine es_pick_t ?_ | refine es_pick_f ?_ | refine es_pick ?_) | (refine is_call ?_; first | refine es_slen ?_ | refine es_len_ro ?_ | refine es_len_vw ?_ | refine es_len_nil ?_ | refine es_len_sub ?_ | refine es_len_str ?_ | refine es_min ?_ | refine es_max ?_) | (refine is_conv ?_; refine es_conv ?_) | (refine is_un ?_; first | refine es_not_t ?_ | refine es_not_f ?_ | refine es_not ?_ | refine es_neg ?_) | (refine is_fv ?_; first | refine es_fv ?_ | refine es_fva ?_) | (refine is_nil ?_; first | refine es_nil_ptr ?_ | refine es_nil_fn ?_) | (refine is_bld ?_; refine es_bld ?_) | (refine is_mf ?_; refine es_mf ?_) | (refine is_sl ?_; first | refine es_sl_arr ?_ | refine es_sl_h ?_ | refine es_sl_l ?_ | refine es_sl_b ?_ | refine es_ssl_h ?_ | refine es_ssl_l ?_ | refine es_ssl_b ?_ | refine es_vsl_h ?_ | refine es_vsl_l ?_ | refine es_vsl_b ?_ | refine es_vsl_3 ?_ | refine es_sl_3 ?_ | refine es_rsl_h ?_ | refine es_rsl_l ?_ | refine es_rsl_b ?_)) | refine es_skip ?_) | exact EvR.stop _ _))
    (hU : ∀ D, D i = false → U (upd D i) = U D := by intro D_ hD_; rfl) : PSUL P ops U Q i (⟨some d, op, ty, pos, af, some (j, w)⟩ :: rest) ⟨n, tm, S⟩ :=
  psul_mk ⟨x, .inl ⟨hg, fun D hD => .ev (evr_one (σ := ⟨n, tm, U D⟩) (he D hD)) (hU D hD)⟩, k⟩
theorem pu_gcall_g {j : Nat} {w : Bool} {f : FuncId} [hf : FnOk P f] {args : Array Operand} {ats : Array TypeId} {ar : List PV} {x : PV} (h : ∀ D, D i = false → GCall P f ar (U D) fun y T => y = x ∧ T = U (upd D i)) (k : PSUL P ops U Q (i + 1) rest ⟨n, (d, x) :: tm, S⟩)
    (hg : guardPV ops ⟨n, tm, S⟩ j w = some w := by ((conv => lhs; whnf) <;> fail "no"))
    (ha : args.toList.map (PS.get ⟨n, tm, S⟩) = ar := by first | rfl | (simp only [List.map_cons, List.map_nil, PS.get, look, ↓reduceIte, Nat.reduceEqDiff, reduceCtorEq]; exact rfl)) :
    PSUL P ops U Q i (⟨some d, .call ⟨.value (.func f), args, ats⟩, ty, pos, af, some (j, w)⟩ :: rest) ⟨n, tm, S⟩ := by
  obtain ⟨fn, h1, h2, h3⟩ := hf.h
  exact psul_mk ⟨x, .inl ⟨hg, fun D hD => .call _ _ f fn [] [] rfl rfl rfl h1 h2 h3 (by simp only [List.nil_append, List.append_nil, ha]; exact h D hD)⟩, k⟩
theorem pu_pcall {f : FuncId} [hf : FnOk P f] {args : Array Operand} {ats : Array TypeId} {ar : List PV} {x : PV} (h : PCall P f ar x) (k : PSUL P ops U Q (i + 1) rest ⟨n, (d, x) :: tm, S⟩) (hU : ∀ D, D i = false → U (upd D i) = U D := by intro D_ hD_; rfl)
    (ha : args.toList.map (PS.get ⟨n, tm, S⟩) = ar := by first | rfl | (simp only [List.map_cons, List.map_nil, PS.get, look, ↓reduceIte, Nat.reduceEqDiff, reduceCtorEq]; exact rfl)) :
    PSUL P ops U Q i (⟨some d, .call ⟨.value (.func f), args, ats⟩, ty, pos, af, none⟩ :: rest) ⟨n, tm, S⟩ :=
  pu_gcall (fun D hD => by rw [hU D hD]; exact h.any (U D)) k ha
theorem pu_end (h : Q ⟨n, tm, U fun _ => true⟩) : PSUL P ops U Q i [] ⟨n, tm, S⟩ := .nil h
end
/-- A contract that knows of some blocks alone. -/
theorem gcall_at {P : Program} {f : FuncId} {ar0 ar : List PV} {S0 S : List Blk} {R R' : PV → List Blk → Prop} (e : List Nat) (h : GCall P f ar0 S0 R) (k : ∀ x S', R x S' → R' (ren (sg e S.length) x) (putB e (S'.map (renB (sg e S.length))) S))
    (hR : ∀ x S', R x S' → S0.length ≤ S'.length)
    (ha : ar = renL (sg e S.length) ar0 := by rfl)
    (hS : (e.map fun a => S[a]?) = S0.map fun b => some (renB (sg e S.length) b) := by first | rfl | (simp only [List.map_cons, List.map_nil, renB, ren_ints]; rfl))
    (hn : e.Nodup := by decide) (hb : ∀ a ∈ e, a < S.length := by first | decide | (simp only [List.length_cons, List.length_nil]; decide)) : GCall P f ar S R' := by
  have hl : e.length = S0.length := by simpa using congrArg List.length hS
  have hS' : ∀ (i a : Nat), e[i]? = some a → S[a]? = (S0[i]?).map (renB (sg e S.length)) := by
    intro i a hi
    have := congrArg (fun l => l[i]?) hS
    simp only [List.getElem?_map, hi, Option.map_some] at this
    cases h0 : S0[i]? with
    | none => rw [h0] at this; cases this
    | some b => rw [h0] at this; simpa using this
  rw [ha]
  refine (gcall_frame h e hn hl hb hS' hR).mono ?_
  rintro x S' ⟨x0, S0', h1, rfl, rfl⟩
  exact k x0 S0' h1
end Go.Proofs.YtenoecffjfcifaaDoor.Pv

-- Thirty-third text: empty slices as views of blocks without memory; regions that draw their order and end in operations that are in order; rows that begin with an array.
namespace Go.Proofs.YtenoecffjfcifaaDoor.Pv
set_option linter.all false
open Go.RowKit
set_option linter.unusedVariables false
variable {ro : Option Nat} {mm : Nat}
/-- What is known of a block's cells is told in another way. -/
theorem alterBlk {c : Cx} (hi : Inv c) {τ : Nat} {blk : Blk} (hb : c.S[τ]? = some blk) (rows' : List (List PV)) (hlen : rows'.length = blk.rows.length) (hl : ∀ (i : Nat) (row' : List PV), rows'[i]? = some row' → ∃ row, blk.rows[i]? = some row ∧ row'.length = row.length) (hnm : ∀ w r, ¬ ObjOk w r blk.rows)
    (hrel : ∀ (i : Nat) (row' : List PV) (j : Nat) (y : PV), rows'[i]? = some row' → row'[j]? = some y → ∃ row x, blk.rows[i]? = some row ∧ row[j]? = some x ∧ ∀ v, RelV c x v → RelV c y v) :
    Inv { c with S := c.S.set τ { blk with rows := rows' } } ∧ Step c { c with S := c.S.set τ { blk with rows := rows' } } := by
  have hτ : τ < c.S.length := (List.getElem?_eq_some_iff.1 hb).1
  have get : ∀ {t : Nat} {b : Blk}, (c.S.set τ { blk with rows := rows' })[t]? = some b → (t = τ ∧ b = { blk with rows := rows' }) ∨ (t ≠ τ ∧ c.S[t]? = some b) := by
    intro t b h
    rw [List.getElem?_set] at h
    split at h
    · rename_i e
      cases h
      exact .inl ⟨e.symm, rfl⟩
    · rename_i e
      exact .inr ⟨fun f => e f.symm, h⟩
  have hst : Step c { c with S := c.S.set τ { blk with rows := rows' } } := by
    refine ⟨rfl, rfl, rfl, rfl, Nat.le_refl _, Nat.le_refl _, fun _ _ _ => rfl, fun t b h1 _ => ?_, fun b hb' => ?_, fun b cs e fz h => ⟨cs, fz, h, rfl⟩⟩
    · rcases get h1 with ⟨rfl, rfl⟩ | ⟨h3, h4⟩
      · exact ⟨blk, hb, rfl, rfl, rfl, hlen⟩
      · exact ⟨b, h4, rfl, rfl, rfl, rfl⟩
    · obtain ⟨t, b1, q, h1, h2, h3, rfl⟩ := hb'
      rcases get h1 with ⟨rfl, rfl⟩ | ⟨h4, h5⟩
      · exact .inl ⟨t, blk, q, hb, h2, h3, rfl⟩
      · exact .inl ⟨t, b1, q, h5, h2, h3, rfl⟩
  refine ⟨⟨fun t b h1 => ?_, fun t b q h1 h2 => ?_, fun t t' b1 b2 q q' h1 h2 h3 h4 h5 h6 => ?_, hi.gLt, hi.wi.step hst⟩, hst⟩
  · rcases get h1 with ⟨rfl, rfl⟩ | ⟨h3, h4⟩
    · have hB := hi.blk t blk hb
      refine ⟨hB.gen, fun h => List.eq_nil_of_length_eq_zero (by rw [hlen, hB.void h]; rfl), fun q hq => ?_⟩
      obtain ⟨hB1, cs, e, fz, k1, k2, k3, k4⟩ := (hB.heap q hq).resolve_right (fun ⟨_, ho⟩ => hnm _ _ ho)
      refine .inl ⟨fun i row' hr' => ?_, cs, e, fz, k1, by simp only [hlen]; exact k2, fun i row' j y r1 r2 => ?_, k4⟩
      · obtain ⟨row, g1, g2⟩ := hl i row' hr'
        exact g2.trans (hB1 i row g1)
      obtain ⟨row, x, g1, g2, g3⟩ := hrel i row' j y r1 r2
      obtain ⟨v, v1, v2, v3⟩ := k3 i row j x g1 g2
      exact ⟨v, v1, v2, (g3 v v3).step hst⟩
    · have hB := hi.blk t b h4
      exact ⟨hB.gen, hB.void, fun q hq => (hB.heap q hq).move (fun x v h => h.step hst) rfl⟩
  · rcases get h1 with ⟨rfl, rfl⟩ | ⟨h3, h4⟩
    · exact hi.notG t blk q hb h2
    · exact hi.notG t b q h4 h2
  · rcases get h1 with ⟨rfl, rfl⟩ | ⟨g1, g2⟩
    · rcases get h2 with ⟨rfl, rfl⟩ | ⟨g3, g4⟩
      · rfl
      · exact hi.inj t t' blk b2 q q' hb g4 h3 h4 h5 h6
    · rcases get h2 with ⟨rfl, rfl⟩ | ⟨g3, g4⟩
      · exact hi.inj t t' b1 blk q q' g2 hb h3 h4 h5 h6
      · exact hi.inj t t' b1 b2 q q' g2 g4 h3 h4 h5 h6
/-- A block without memory. -/
theorem Rel.voidB {c : Cx} {σ : PS} {a : Act} (r : Rel c σ a) (sz : Nat) : ∃ c', Step c c' ∧ c'.w = c.w ∧ Rel c' ⟨σ.n, σ.tm, σ.S ++ [⟨c.N, true, sz, []⟩]⟩ a ∧ ∀ v, RelV c' (.v (.slice none 0 0)) v → RelV c' (.vw σ.S.length c.N 0 0) v := by
  obtain ⟨h1, h2⟩ := pushBlk r.inv c.w ⟨c.N, true, sz, []⟩ none rfl rfl rfl (Nat.le_refl _) (fun _ _ => rfl) rfl (fun i row h => by simp at h) (fun _ => rfl) (fun q h => by cases h)
  refine ⟨_, h2, rfl, ⟨by simp only [r.S], h1, r.n, r.defers, fun t => (r.tm t).step h2⟩, fun v hv => ?_⟩
  cases hv
  refine .vw _ _ _ _ _ ⟨_, _, rfl⟩ (Nat.lt_succ_self _) (fun blk hb hg => ⟨?_, none, 0, rfl, Nat.le_refl _, Nat.zero_le _, .inr ⟨rfl, rfl⟩⟩)
  simp only [← r.S] at hb
  rw [List.getElem?_append_right (Nat.le_refl _), Nat.sub_self] at hb
  cases hb
  exact Nat.le_refl _
/-- An empty slice in a slot is a view of a block without memory. -/
theorem Rel.voidT {c : Cx} {σ : PS} {a : Act} (r : Rel c σ a) (sz t : Nat) (ht : look t σ.tm = .v (.slice none 0 0)) : ∃ c', Step c c' ∧ c'.w = c.w ∧ Rel c' ⟨σ.n, (t, .vw σ.S.length c.N 0 0) :: σ.tm, σ.S ++ [⟨c.N, true, sz, []⟩]⟩ a := by
  obtain ⟨c', h1, h2, h3, h4⟩ := r.voidB sz
  refine ⟨c', h1, h2, h3.S, h3.inv, h3.n, h3.defers, fun s => ?_⟩
  simp only [look]
  split
  · rename_i e
    subst e
    have := h3.tm s
    simp only [ht] at this
    exact h4 _ this
  · exact h3.tm s
/-- The same, in a cell of a block of one's own. -/
theorem Rel.voidC {c : Cx} {σ : PS} {a : Act} (r : Rel c σ a) (sz : Nat) {τ i j : Nat} {blk : Blk} {row : List PV} (hb : σ.S[τ]? = some blk) (hrow : blk.rows[i]? = some row) (hx : row[j]? = some (.v (.slice none 0 0))) :
    ∃ c', Step c c' ∧ c'.w = c.w ∧ Rel c' ⟨σ.n, σ.tm, (σ.S.set τ { blk with rows := blk.rows.set i (row.set j (.vw σ.S.length c.N 0 0)) }) ++ [⟨c.N, true, sz, []⟩]⟩ a := by
  obtain ⟨c', h1, h2, h3, h4⟩ := r.voidB sz
  have hτ : τ < σ.S.length := (List.getElem?_eq_some_iff.1 hb).1
  have hb' : c'.S[τ]? = some blk := by rw [h3.S]; simp only; rw [List.getElem?_append_left hτ]; exact hb
  have hB := h3.inv.blk τ blk hb'
  obtain ⟨k1, k2⟩ := alterBlk h3.inv hb' (blk.rows.set i (row.set j (.vw σ.S.length c.N 0 0))) (by simp) (fun k row' hr => by
    rw [List.getElem?_set] at hr
    split at hr
    · rename_i e
      subst e
      split at hr
      · cases hr; exact ⟨row, hrow, by rw [List.length_set]⟩
      · cases hr
    · exact ⟨row', hr, rfl⟩) (fun w r ho => by
    have : ∃ es : List PV, blk.rows = [es] ∧ ∀ x ∈ es, x ≠ .v (.slice none 0 0) := by
      rcases ho with ⟨es, _, _, h, _⟩ | ⟨s, pos, h, _⟩
      · exact ⟨_, h, by simp⟩
      · exact ⟨_, h, by simp⟩
    obtain ⟨es, h, hne⟩ := this
    rw [h] at hrow
    match i, hrow with
    | 0, hrow =>
      simp at hrow
      subst hrow
      exact hne _ (List.mem_of_getElem? hx) rfl
    | i + 1, hrow => simp at hrow) (fun k row' l y hr hy => by
    rw [List.getElem?_set] at hr
    split at hr
    · rename_i e
      subst e
      split at hr
      · cases hr
        rw [List.getElem?_set] at hy
        split at hy
        · rename_i e
          subst e
          split at hy
          · cases hy
            exact ⟨row, _, hrow, hx, h4⟩
          · cases hy
        · exact ⟨row, y, hrow, hy, fun v h => h⟩
      · cases hr
    · exact ⟨row', y, hr, hy, fun v h => h⟩)
  refine ⟨_, h1.trans k2, h2, ?_, k1, h3.n, h3.defers, fun t => (h3.tm t).step k2⟩
  simp only [h3.S]
  rw [List.set_append_left _ _ hτ]
theorem popSem_rel {P : Program} {o : Oper} {σ : PS} {K : PV → List Blk → Prop} {T : Nat → PS} (hr : ∀ c a, Rel c σ a → ∃ c', Step c c' ∧ c'.w = c.w ∧ Rel c' (T c.N) a) (h : ∀ g, PopSem P (T g) o K) : PopSem P σ o K := by
  intro c a r next Q hn
  obtain ⟨c', h1, h2, h3⟩ := hr c a r
  rw [← h2]
  exact h c.N c' a h3 next Q fun x c'' v hK hi hs hv => hn x c'' v hK hi (h1.trans hs) hv
section
variable {P : Program} {ops : List Oper} {Q : PS → Prop} {rest : List Oper} {n : Nat} {tm : List (Nat × PV)} {S S' : List Blk} {d : Tmp} {ty : TypeId} {pos : String} {af : Array Edge} {t tx e : TypeId} {x y s : Operand}
theorem tr_rel {code : Code} {σ : PS} {Q : Exit → PS → Prop} {T : Nat → PS} (hr : ∀ c a, Rel c σ a → ∃ c', Step c c' ∧ c'.w = c.w ∧ Rel c' (T c.N) a) (h : ∀ g, Tr P code (T g) Q) : Tr P code σ Q := by
  intro ro mm c a r hro
  obtain ⟨c', h1, h2, h3⟩ := hr c a r
  rw [← h2]
  exact wpIn_mono (h c.N ro mm c' a h3 (hro.step r.inv h1)) fun e a w hp => hp.step h1
/-- A slot's empty slice is a view from here on. -/
theorem kvoid {c : Code} {l : List Code} {Q : Exit → PS → Prop} (t sz : Nat) {m : Nat} {S' : Nat → List Blk} (h : ∀ g, Tk P (c :: l) ⟨n, (t, .vw m g 0 0) :: tm, S' g⟩ Q) (ht : look t tm = .v (.slice none 0 0) := by ((conv => lhs; whnf) <;> fail "no"))
    (hm : S.length = m := by first | (simp only [List.length_cons, List.length_nil, Nat.reduceAdd, Nat.zero_add]; exact rfl) | exact rfl) (hS : ∀ g, S ++ [⟨g, true, sz, []⟩] = S' g := by intro g_; first | (simp only [List.cons_append, List.nil_append]; exact rfl) | exact rfl) : Tk P (c :: l) ⟨n, tm, S⟩ Q := by
  subst hm
  refine tr_rel (T := fun g => ⟨n, (t, .vw S.length g 0 0) :: tm, S ++ [⟨g, true, sz, []⟩]⟩) (fun c a r => r.voidT sz t ht) (fun g => ?_)
  rw [hS g]
  exact h g
/-- An operation that reads, by hand. -/
theorem ps_ev {op : Op} {p : PV} (k : Pops P ops Q rest ⟨n, (d, p) :: tm, S⟩) (h : ev P ⟨n, tm, S⟩ op = some p) : Pops P ops Q (⟨some d, op, ty, pos, af, none⟩ :: rest) ⟨n, tm, S⟩ :=
  pops_one rfl (pop_ev h k)
theorem pd_ev {op : Op} {p : PV} (k : PStL P ops Q rest ⟨n, (d, p) :: tm, S⟩) (h : ev P ⟨n, tm, S⟩ op = some p) : PStL P ops Q (⟨some d, op, ty, pos, af, none⟩ :: rest) ⟨n, tm, S⟩ := by
  refine ⟨p, ?_, k⟩
  unfold GSt
  exact .ev h
/-- A cell's empty slice. -/
theorem kvoidc {c : Code} {l : List Code} {Q : Exit → PS → Prop} (τ j sz : Nat) {i : Nat} {m : Nat} {blk : Blk} {row : List PV} {S' : Nat → List Blk} (h : ∀ g, Tk P (c :: l) ⟨n, tm, S' g⟩ Q) (hb : S[τ]? = some blk := by first | ((conv => lhs; whnf) <;> fail "no") | exact rfl | assumption) (hrow : blk.rows[i]? = some row := by exact rfl) (hx : row[j]? = some (.v (.slice none 0 0)) := by first | exact rfl | assumption)
    (hm : S.length = m := by first | (simp only [List.length_cons, List.length_nil, Nat.reduceAdd, Nat.zero_add]; exact rfl) | exact rfl) (hS : ∀ g, (S.set τ { blk with rows := blk.rows.set i (row.set j (.vw m g 0 0)) }) ++ [⟨g, true, sz, []⟩] = S' g := by intro g_; first | (simp only [List.set_cons_zero, List.set_cons_succ, List.cons_append, List.nil_append]; exact rfl) | exact rfl) : Tk P (c :: l) ⟨n, tm, S⟩ Q := by
  subst hm
  refine tr_rel (T := fun g => ⟨n, tm, (S.set τ { blk with rows := blk.rows.set i (row.set j (.vw S.length g 0 0)) }) ++ [⟨g, true, sz, []⟩]⟩) (fun c a r => r.voidC sz hb hrow hx) (fun g => ?_)
  rw [hS g]
  exact h g
/-- The same, inside a region. -/
theorem ps_voidc {o : Oper} (τ j sz : Nat) {i : Nat} {m : Nat} {blk : Blk} {row : List PV} {S' : Nat → List Blk} (h : ∀ g, Pops P ops Q (o :: rest) ⟨n, tm, S' g⟩) (hb : S[τ]? = some blk := by first | ((conv => lhs; whnf) <;> fail "no") | exact rfl | assumption) (hrow : blk.rows[i]? = some row := by exact rfl) (hx : row[j]? = some (.v (.slice none 0 0)) := by first | exact rfl | assumption)
    (hm : S.length = m := by first | (simp only [List.length_cons, List.length_nil, Nat.reduceAdd, Nat.zero_add]; exact rfl) | exact rfl) (hS : ∀ g, (S.set τ { blk with rows := blk.rows.set i (row.set j (.vw m g 0 0)) }) ++ [⟨g, true, sz, []⟩] = S' g := by intro g_; first | (simp only [List.set_cons_zero, List.set_cons_succ, List.cons_append, List.nil_append]; exact rfl) | exact rfl) (hg : o.guard = none := by rfl) : Pops P ops Q (o :: rest) ⟨n, tm, S⟩ := by
  subst hm
  refine pops_one hg (popSem_rel (T := fun g => ⟨n, tm, (S.set τ { blk with rows := blk.rows.set i (row.set j (.vw S.length g 0 0)) }) ++ [⟨g, true, sz, []⟩]⟩) (fun c a r => r.voidC sz hb hrow hx) (fun g => ?_))
  have := h g
  rw [← hS g] at this
  unfold Pops at this
  rw [hg] at this
  exact this
/-- Rows that begin with an array: stores. -/
theorem ca_over {kk : IntKind} {l : List Int} {tl : List PV} {j : Nat} {b : Int} (h : j < l.length) : over (ci kk l ++ tl) j [.v (.int kk b)] = ci kk (l.set j b) ++ tl := by
  have h1 : (ci kk l).length = l.length := ci_length _ _
  unfold over
  rw [List.take_append_of_le_length (by omega), List.drop_append_of_le_length (by simp only [List.length_cons, List.length_nil]; omega)]
  have h2 : l.set j b = l.take j ++ b :: l.drop (j + 1) := by rw [List.set_eq_take_append_cons_drop, if_pos h]
  rw [h2]
  simp only [ci, List.length_cons, List.length_nil, Nat.zero_add, List.map_take, List.map_drop, List.map_append, List.map_cons, List.append_assoc, List.cons_append, List.nil_append]
theorem ct_over {kk : IntKind} {l : List Int} {tl cs : List PV} {m off : Nat} (hl : l.length = m) (hm : m ≤ off) : over (ci kk l ++ tl) off cs = ci kk l ++ over tl (off - m) cs := by
  have h1 : (ci kk l).length = m := by rw [ci_length, hl]
  unfold over
  rw [List.take_append, List.drop_append, h1, List.take_of_length_le (by omega), List.drop_eq_nil_of_le (by omega)]
  simp only [List.nil_append, List.append_assoc]
  rw [show off + cs.length - m = off - m + cs.length by omega]
theorem ps_st_ca {kk : IntKind} {l : List Int} {tl : List PV} {b : Int} {sz : Nat} [hc : Cel P t 1] {bb : Bool} [ha : AggT P t bb] {τ g off gg : Nat} (j : Nat) (k : Pops P ops Q rest ⟨n, tm, S'⟩) (hx : PS.get ⟨n, tm, S⟩ x = .ptr τ g 0 off := by ((conv => lhs; whnf) <;> fail "no")) (hb : S[τ]? = some ⟨gg, true, sz, [ci kk l ++ tl]⟩ := by first | ((conv => lhs; whnf) <;> fail "no") | exact rfl | assumption) (hg : gg = g := by rfl)
    (hj : off = j := by first | omega | (simp only [Int.toNat_natCast, Nat.zero_add, Nat.mul_one, Nat.add_zero] <;> exact rfl) | exact rfl) (hlt : j < l.length := by first | omega | (simp only [List.length_append, List.length_replicate, List.length_set]; omega)) (hv : PS.get ⟨n, tm, S⟩ y = .v (.int kk b) := by ((conv => lhs; whnf) <;> fail "no")) (hS : S.set τ ⟨gg, true, sz, [ci kk (l.set j b) ++ tl]⟩ = S' := by first | (simp only [List.set_cons_zero, List.set_cons_succ]; exact rfl) | exact rfl) :
    Pops P ops Q (⟨none, .store t x y, ty, pos, af, none⟩ :: rest) ⟨n, tm, S⟩ := by
  subst hj
  refine pops_one rfl (pop_store (i := 0) (cs := [.v (.int kk b)]) rfl rfl ha.h.2 hx hb hg rfl rfl (by rw [hv]; rfl) (by rw [hc.h]; rfl) (by simp only [List.length_append, ci_length, List.length_cons, List.length_nil, List.length_replicate] <;> first | rfl | omega) ?_)
  simp only [ca_over hlt, List.set_cons_zero]
  rw [hS]
  exact k
theorem ps_st_ct {kk : IntKind} {l : List Int} {tl tl' cs : List PV} {py : PV} {sz m zz : Nat} [hc : Cel P t zz] {bb : Bool} [ha : AggT P t bb] {τ g off gg : Nat} (k : Pops P ops Q rest ⟨n, tm, S'⟩) (hx : PS.get ⟨n, tm, S⟩ x = .ptr τ g 0 off := by ((conv => lhs; whnf) <;> fail "no")) (hb : S[τ]? = some ⟨gg, true, sz, [ci kk l ++ tl]⟩ := by first | ((conv => lhs; whnf) <;> fail "no") | exact rfl | assumption) (hg : gg = g := by rfl)
    (hl : l.length = m := by assumption) (hm : m ≤ off := by decide) (hy : PS.get ⟨n, tm, S⟩ y = py := by ((conv => lhs; whnf) <;> fail "no")) (hv : cellsPV py = some cs := by ((conv => lhs; whnf) <;> fail "no")) (hn : zz = cs.length := by rfl) (hle : off - m + cs.length ≤ tl.length := by first | decide | (simp only [List.length_cons, List.length_nil]; omega))
    (hov : over tl (off - m) cs = tl' := by first | (simp only [over, Nat.reduceSub, List.take_zero, List.take_succ_cons, List.drop_succ_cons, List.drop_zero, List.nil_append, List.cons_append, List.length_cons, List.length_nil, Nat.reduceAdd, Nat.zero_add, List.drop_nil, List.append_nil]; exact rfl) | exact rfl) (hS : S.set τ ⟨gg, true, sz, [ci kk l ++ tl']⟩ = S' := by first | (simp only [List.set_cons_zero, List.set_cons_succ]; exact rfl) | exact rfl) :
    Pops P ops Q (⟨none, .store t x y, ty, pos, af, none⟩ :: rest) ⟨n, tm, S⟩ := by
  refine pops_one rfl (pop_store (i := 0) (cs := cs) rfl rfl ha.h.2 hx hb hg rfl rfl (by rw [hy]; exact hv) (by rw [hc.h, hn]) (by simp only [List.length_append, ci_length]; omega) ?_)
  simp only [ct_over hl hm, hov, List.set_cons_zero]
  rw [hS]
  exact k
/-- A whole row. -/
theorem ps_st_row {row cs : List PV} {py : PV} {sz zz : Nat} [hc : Cel P t zz] {bb : Bool} [ha : AggT P t bb] {τ g gg : Nat} (k : Pops P ops Q rest ⟨n, tm, S'⟩) (hx : PS.get ⟨n, tm, S⟩ x = .ptr τ g 0 0 := by ((conv => lhs; whnf) <;> fail "no")) (hb : S[τ]? = some ⟨gg, true, sz, [row]⟩ := by first | ((conv => lhs; whnf) <;> fail "no") | exact rfl | assumption) (hg : gg = g := by rfl)
    (hy : PS.get ⟨n, tm, S⟩ y = py := by ((conv => lhs; whnf) <;> fail "no")) (hv : cellsPV py = some cs := by ((conv => lhs; whnf) <;> fail "no")) (hn : cs.length = zz := by first | rfl | (simp only [List.length_append, ci_length, List.length_cons, List.length_nil, List.length_replicate, List.length_set]; first | rfl | omega)) (hr : row.length = zz := by first | rfl | (simp only [List.length_append, ci_length, List.length_cons, List.length_nil, List.length_replicate, List.length_set]; first | rfl | omega)) (hS : S.set τ ⟨gg, true, sz, [cs]⟩ = S' := by first | (simp only [List.set_cons_zero, List.set_cons_succ]; exact rfl) | exact rfl) :
    Pops P ops Q (⟨none, .store t x y, ty, pos, af, none⟩ :: rest) ⟨n, tm, S⟩ := by
  refine pops_one rfl (pop_store (i := 0) (cs := cs) rfl rfl ha.h.2 hx hb hg rfl rfl (by rw [hy]; exact hv) (by rw [hc.h, hn]) (by omega) ?_)
  have : over row 0 cs = cs := by unfold over; rw [List.take_zero, List.nil_append, Nat.zero_add, List.drop_eq_nil_of_le (by omega), List.append_nil]
  simp only [this, List.set_cons_zero]
  rw [hS]
  exact k
end
/-- A result that is a whole row. -/
theorem res_row {P : Program} {n : Nat} {tm : List (Nat × PV)} {S : List Blk} {a : Tmp} {t : TypeId} {m : Nat} [ha : AggT P t true] [hc : Cel P t m] {row : List PV} {τ g gg sz : Nat} {o : Bool} (hx : look a tm = .ptr τ g 0 0 := by ((conv => lhs; whnf) <;> fail "no")) (hb : S[τ]? = some ⟨gg, o, sz, [row]⟩ := by first | ((conv => lhs; whnf) <;> fail "no") | exact rfl | assumption) (hg : gg = g := by rfl)
    (hm : row.length = m := by first | rfl | (simp only [List.length_append, ci_length, List.length_cons, List.length_nil, List.length_replicate, List.length_set]; first | rfl | omega)) : resPV P ⟨n, tm, S⟩ (.cell a t) = some (.agg row) := by
  subst hg
  have hr : rowAt? S τ gg 0 = some row := by simp [rowAt?, hb]
  simp only [resPV, hx, loadPV, hr, loadRow_agg ha.h hc.h (show 0 + m ≤ row.length by omega) (show (row.drop 0).take m = row by rw [List.drop_zero, ← hm, List.take_length])]
/-- In whatever order operations are done: what is done has all done that it waits for. -/
def Closed (ops : Array Oper) (listed : Array Bool) : Prop := ∀ j o, ops[j]? = some o → listed.getD j false = true → ∀ e ∈ o.after, Region.binds .any e = true → listed.getD e.on false = true
def waits (ops : Array Oper) : Nat → Nat → Nat → Bool
  | 0, _, _ => false
  | f + 1, i, k => match ops[i]? with
    | some o => o.after.any fun e => Region.binds .any e && (e.on == k || waits ops f e.on k)
    | none => false
theorem getD_set_true {l : Array Bool} {i j : Nat} (h : l.getD j false = true) : (l.setIfInBounds i true).getD j false = true := by
  rw [Array.getD_eq_getD_getElem?] at h ⊢
  rw [Array.getElem?_setIfInBounds]
  split
  · rename_i e; subst e
    split
    · rfl
    · rename_i hn
      rw [Array.getElem?_eq_none (by omega)] at h
      exact h
  · exact h
theorem getD_set_ne {l : Array Bool} {i j : Nat} (hne : j ≠ i) (h : (l.setIfInBounds i true).getD j false = true) : l.getD j false = true := by
  rw [Array.getD_eq_getD_getElem?] at h ⊢
  rw [Array.getElem?_setIfInBounds_ne (fun e => hne e.symm)] at h
  exact h
theorem Closed.take {ops : Array Oper} {listed : Array Bool} {i : Nat} {o : Oper} (h : Closed ops listed) (ho : ops[i]? = some o) (hp : ∀ e ∈ o.after, Region.binds .any e = true → listed.getD e.on false = true) : Closed ops (listed.setIfInBounds i true) := by
  intro j o' ho' hj e he hb
  by_cases hji : j = i
  · subst hji
    rw [ho] at ho'
    cases ho'
    exact getD_set_true (hp e he hb)
  · exact getD_set_true (h j o' ho' (getD_set_ne hji hj) e he hb)
theorem Closed.waits {ops : Array Oper} {listed : Array Bool} (h : Closed ops listed) : ∀ (f i k : Nat) (o : Oper), ops[i]? = some o → (∀ e ∈ o.after, Region.binds .any e = true → listed.getD e.on false = true) → waits ops f i k = true → listed.getD k false = true
  | 0, i, k, o, ho, hp, hw => by cases hw
  | f + 1, i, k, o, ho, hp, hw => by
    unfold Pv.waits at hw
    simp only [ho] at hw
    obtain ⟨e, he, hx⟩ := Array.any_eq_true'.1 hw
    simp only [Bool.and_eq_true, Bool.or_eq_true, beq_iff_eq] at hx
    obtain ⟨h1, h2 | h2⟩ := hx
    · rw [← h2]; exact hp e he h1
    · have hl := hp e he h1
      cases hq : ops[e.on]? with
      | none => cases f with
        | zero => cases h2
        | succ f => unfold Pv.waits at h2; simp [hq] at h2
      | some o' => exact Closed.waits h f e.on k o' hq (fun e' he' hb' => h e.on o' hq hl e' he' hb') h2
/-- From number m on all are in order. -/
def tailB (ops : Array Oper) (m : Nat) : Bool := decide (m ≤ ops.size) && (List.range' m (ops.size - m)).all fun i => (match ops[i]? with | some o => o.guard.isNone | none => false) && (List.range i).all fun k => waits ops 24 i k
theorem any_seq {P : Program} {ops : Array Oper} {Q : Exit → PS → Prop} (hok : drawOk ops = true) {m : Nat} (hw : ∀ i, m ≤ i → i < ops.size → (∃ o, ops[i]? = some o ∧ o.guard = none) ∧ ∀ k, k < i → waits ops 24 i k = true) :
    ∀ (fuel : Nat) (listed : Array Bool) (i0 : Nat) (c0 c : Cx) (σ : PS) (a : Act), m ≤ i0 → i0 + fuel = ops.size → Left ops listed (List.range' i0 fuel) → Closed ops listed → Step c0 c → Rel c σ a → (∀ o ∈ ops.toList, dstOk σ.n o = true) → Pops P ops.toList (Q .normal) (ops.toList.drop i0) σ → wpAnyIn (FR ro) mm P .any ops (Post c0 Q) fuel listed a c.w := by
  intro fuel
  induction fuel with
  | zero =>
    intro listed i0 c0 c σ a hm hsz hl hcl hs r hd h
    refine ⟨?_, ?_⟩
    · rw [List.eq_nil_iff_forall_not_mem]
      intro i hi
      obtain ⟨h1, h2, _⟩ := ready_spec hi
      have := (hl.mem i).2 ⟨h1, h2⟩
      simp at this
    · rw [List.drop_eq_nil_of_le (by simp; omega)] at h
      exact ⟨c, σ, hs, rfl, r, h⟩
  | succ fuel ih =>
    intro listed i0 c0 c σ a hm hsz hl hcl hs r hd h
    have hlt : i0 < ops.size := by omega
    rw [List.range'_succ] at hl
    refine ⟨fun h0 => ?_, fun i hi => ?_⟩
    · rw [List.eq_nil_iff_forall_not_mem] at h0; exact absurd (head_ready hok hl) (h0 i0)
    · obtain ⟨h1, h2, o, ho, hp⟩ := ready_spec hi
      have him := (hl.mem i).2 ⟨h1, h2⟩
      have hi0 : i = i0 := by
        rcases List.mem_cons.1 him with him | him
        · exact him
        · obtain ⟨k1, k2⟩ := List.mem_range'_1.1 him
          have := hcl.waits 24 i i0 o ho hp ((hw i (by omega) h1).2 i0 (by omega))
          exact absurd (List.mem_cons_self) (hl.pred this)
      subst hi0
      obtain ⟨⟨o', ho', hg⟩, _⟩ := hw i hm h1
      rw [ho] at ho'
      cases ho'
      have hdrop : ops.toList.drop i = o :: ops.toList.drop (i + 1) := by
        rw [List.drop_eq_getElem_cons (by simpa using h1)]
        congr 1
        have := ho
        rw [Array.getElem?_eq_getElem h1] at this
        simpa using this
      rw [hdrop] at h
      unfold Pops at h
      rw [hg] at h
      have hdo : ∀ t, o.dst = some t → t < σ.n := dstOk_lt (hd o (by rw [← Array.getElem?_toList] at ho; exact List.mem_of_getElem? ho))
      have hnd : notDefer o = true := dstOk_nd (hd o (by rw [← Array.getElem?_toList] at ho; exact List.mem_of_getElem? ho))
      unfold wpOpIn
      simp only [ho]
      rw [if_pos (by simp [Region.wanted, hg])]
      refine wpIn_of_wp hnd (h c a r _ _ (fun x c' v hK hi' hst hv => ?_))
      have rr := r.put hst hi' hv hdo
      refine ih _ (i + 1) c0 c' _ _ (by omega) (by omega) (hl.take (l1 := [])) (hcl.take ho hp) (hs.trans hst) rr ?_ hK
      intro o' ho'
      have : (σ.put o.dst x c'.S).n = σ.n := by cases o.dst <;> rfl
      rw [this]
      exact hd o' ho'
theorem Pops.leqS {P : Program} {ops : Array Oper} {Q : Exit → PS → Prop} : True := trivial
theorem any_tail {P : Program} {ops : Array Oper} {Q : Exit → PS → Prop} (hok : drawOk ops = true) {m : Nat} (hm : m ≤ ops.size) (hw : ∀ i, m ≤ i → i < ops.size → (∃ o, ops[i]? = some o ∧ o.guard = none) ∧ ∀ k, k < i → waits ops 24 i k = true) :
    ∀ (fuel : Nat) (listed : Array Bool) (l : List Nat) (c0 c : Cx) (σ : PS) (a : Act), l.length = fuel → (∀ k ∈ l, k < m) → Left ops listed (l ++ List.range' m (ops.size - m)) → Closed ops listed → Step c0 c → Rel c σ a → (∀ o ∈ ops.toList, dstOk σ.n o = true) →
    PSt P ops (fun σ' => ∃ σ'', LEq σ' σ'' ∧ Pops P ops.toList (Q .normal) (ops.toList.drop m) σ'') l σ → wpAnyIn (FR ro) mm P .any ops (Post c0 Q) (fuel + (ops.size - m)) listed a c.w := by
  have hQ : ∀ σ σ', LEq σ σ' → (∃ σ'', LEq σ σ'' ∧ Pops P ops.toList (Q .normal) (ops.toList.drop m) σ'') → ∃ σ'', LEq σ' σ'' ∧ Pops P ops.toList (Q .normal) (ops.toList.drop m) σ'' := fun σ σ' h ⟨σ'', h1, h2⟩ => ⟨σ'', h.symm.trans h1, h2⟩
  intro fuel
  induction fuel with
  | zero =>
    intro listed l c0 c σ a hlen hkm hl hcl hs r hd h
    obtain rfl := List.eq_nil_of_length_eq_zero hlen
    obtain ⟨σ'', g1, g2⟩ := h
    rw [Nat.zero_add]
    exact any_seq hok hw _ listed m c0 c σ'' a (Nat.le_refl _) (by omega) hl hcl hs (r.leq g1) (by rw [← g1.1]; exact hd) g2
  | succ fuel ih =>
    intro listed l c0 c σ a hlen hkm hl hcl hs r hd h
    rw [Nat.succ_add]
    refine ⟨fun h0 => ?_, fun i hi => ?_⟩
    · cases l with
      | nil => simp at hlen
      | cons i l => rw [List.eq_nil_iff_forall_not_mem] at h0; exact absurd (head_ready hok hl) (h0 i)
    · obtain ⟨h1, h2, o, ho, hp⟩ := ready_spec hi
      have him := (hl.mem i).2 ⟨h1, h2⟩
      rcases List.mem_append.1 him with him | him
      · obtain ⟨l1, l2, rfl⟩ := List.append_of_mem him
        rw [List.append_assoc, List.cons_append] at hl
        have hf := PSt.front hQ ho l1 l2 σ (left_apart hok hl ho hp) h
        unfold PSt at hf
        simp only [ho] at hf
        obtain ⟨x, g1, g2⟩ := hf
        refine wpOp_of_gst ho hd r g1 (fun c' a' hst hr => ?_)
        have hl' := hl.take
        rw [← List.append_assoc] at hl'
        refine ih _ (l1 ++ l2) c0 c' _ a' (by simp at hlen ⊢; omega) (fun k hk => hkm k (by simp at hk ⊢; rcases hk with hk | hk <;> simp [hk])) hl' (hcl.take ho hp) (hs.trans hst) hr ?_ g2
        intro o' ho'
        have : (σ.put o.dst x σ.S).n = σ.n := by cases o.dst <;> rfl
        rw [this]
        exact hd o' ho'
      · obtain ⟨k1, k2⟩ := List.mem_range'_1.1 him
        cases l with
        | nil => simp at hlen
        | cons k l =>
          have hk : k < m := hkm k (by simp)
          have := hcl.waits 24 i k o ho hp ((hw i k1 h1).2 k (by omega))
          exact absurd (by simp) (hl.pred this)
/-- A region that draws its order, of which all from number m on are in order. -/
theorem kdt {P : Program} {id : Nat} {ops : Array Oper} {l : List Code} {σ : PS} {Q : Exit → PS → Prop} (m : Nat) (k : PStL P ops.toList (fun σ1 => Pops P ops.toList (fun σ' => Tk P l σ' Q) (ops.toList.drop m) σ1) (ops.toList.take m) σ) [hm : Mixed P] (hd : ops.toList.all (fun o => dstOk σ.n o) = true := by kernel_rfl) (hok : drawOk ops = true := by kernel_rfl) (ht : tailB ops m = true := by kernel_rfl) : Tk P (.region id ops true :: l) σ Q := by
  intro ro mm c a r hro
  have hd' := List.all_eq_true.1 hd
  unfold tailB at ht
  simp only [Bool.and_eq_true, decide_eq_true_eq, List.all_eq_true] at ht
  obtain ⟨hms, hall⟩ := ht
  have pst := pst_of_pre (ops.toList.take m) 0 σ (fun j hj => by
    rw [List.length_take] at hj
    rw [List.getElem?_take, if_pos (by omega), Nat.zero_add, Array.getElem?_toList]) k
  rw [show (ops.toList.take m).length = m by rw [List.length_take, Array.length_toList]; omega] at pst
  refine wpIn_region_any hm.h ?_
  obtain ⟨c', h1, h2, h3⟩ := r.drew (c.w.drawn + 1)
  rw [← h2]
  have hleft := left_all ops
  rw [show List.range ops.size = List.range' 0 m ++ List.range' m (ops.size - m) by
    rw [List.range_eq_range', show ops.size = m + (ops.size - m) by omega, Nat.add_sub_cancel_left]
    have := List.range'_append_1 (s := 0) (m := m) (n := ops.size - m)
    rw [Nat.zero_add] at this
    exact this.symm] at hleft
  have key := any_tail (ro := ro) (mm := mm) (P := P) (ops := ops) (Q := behind (fun σ' => Tk P l σ' Q) Q) hok hms (fun i hi1 hi2 => by
    have := hall i (List.mem_range'_1.2 ⟨hi1, by omega⟩)
    obtain ⟨g1, g2⟩ := this
    refine ⟨?_, fun k hk => g2 k (by simpa using hk)⟩
    split at g1
    · rename_i o ho
      exact ⟨o, ho, by simpa using g1⟩
    · cases g1) m _ (List.range' 0 m) c c' σ a (by simp) (fun k hk => by have := List.mem_range'_1.1 hk; omega) hleft (fun j o ho hj => by
      rw [Array.getD_eq_getD_getElem?, Array.getElem?_replicate] at hj
      split at hj <;> simp at hj) h1 h3 hd' (pst_mono (fun σ' h => ⟨σ', .rfl' σ', h⟩) _ _ pst)
  rw [show m + (ops.size - m) = ops.size by omega] at key
  exact key
end Go.Proofs.YtenoecffjfcifaaDoor.Pv

-- Thirty-fourth text: regions that draw their order, some of whose readings may wait while what writes goes on.
namespace Go.Proofs.YtenoecffjfcifaaDoor.Pv
set_option linter.all false
open Go.RowKit
set_option linter.unusedVariables false
variable {ro : Option Nat} {mm : Nat}
abbrev RX := List (Nat × PV)
/-- Readings that are left, with what they answer. -/
def PX (P : Program) (ops : Array Oper) : RX → PS → Prop
  | [], _ => True
  | (i, x) :: l, σ => ∃ o, ops[i]? = some o ∧ GSt P ops.toList σ o x ∧ PX P ops l (σ.put o.dst x σ.S)
def putX (ops : Array Oper) : RX → PS → PS
  | [], σ => σ
  | (i, x) :: l, σ => match ops[i]? with
    | some o => putX ops l (σ.put o.dst x σ.S)
    | none => putX ops l σ
theorem PX.leq {P : Program} {ops : Array Oper} : ∀ (l : RX) {σ σ' : PS}, LEq σ σ' → PX P ops l σ → PX P ops l σ'
  | [], _, _, _, _ => trivial
  | (i, x) :: l, σ, σ', h, ⟨o, h1, h2, h3⟩ => ⟨o, h1, h2.leq h, PX.leq l (by rw [← h.2.1]; exact h.put _ _ _) h3⟩
theorem putX_leq {ops : Array Oper} : ∀ (l : RX) {σ σ' : PS}, LEq σ σ' → LEq (putX ops l σ) (putX ops l σ')
  | [], _, _, h => h
  | (i, x) :: l, σ, σ', h => by
    unfold putX
    split
    · exact putX_leq l (by rw [← h.2.1]; exact h.put _ _ _)
    · exact putX_leq l h
theorem put_comm {σ : PS} {d e : Option Tmp} {x y : PV} (h : ∀ t, d = some t → e ≠ some t) : LEq ((σ.put d x σ.S).put e y σ.S) ((σ.put e y σ.S).put d x σ.S) := by
  refine ⟨by cases d <;> cases e <;> rfl, by rw [put_S, put_S], fun t => ?_⟩
  cases d with
  | none => cases e <;> rfl
  | some d =>
    cases e with
    | none => rfl
    | some e =>
      have hne : d ≠ e := fun q => h d rfl (by rw [q])
      simp only [PS.put, look]
      split
      · rename_i q; subst q; rw [if_neg (fun q => hne q.symm)]
      · rfl
theorem PX.front {P : Program} {ops : Array Oper} {r : Nat} {x : PV} {or : Oper} (hr : ops[r]? = some or) : ∀ (l1 l2 : RX) (σ : PS), (∀ p ∈ l1, ∀ ok, ops[p.1]? = some ok → ok.apart ops or = true) → PX P ops (l1 ++ (r, x) :: l2) σ →
    GSt P ops.toList σ or x ∧ PX P ops (l1 ++ l2) (σ.put or.dst x σ.S) ∧ LEq (putX ops (l1 ++ (r, x) :: l2) σ) (putX ops (l1 ++ l2) (σ.put or.dst x σ.S))
  | [], l2, σ, _, h => by
    obtain ⟨o, h1, h2, h3⟩ := h
    rw [hr] at h1
    cases h1
    refine ⟨h2, h3, ?_⟩
    simp only [List.nil_append, putX, hr]
    exact .rfl' _
  | (k, y) :: l1, l2, σ, ha, h => by
    obtain ⟨ok, h1, h2, h3⟩ := h
    obtain ⟨a1, a2, a3⟩ := Oper.apart_spec (ha (k, y) (by simp) ok h1)
    obtain ⟨g1, g2, g3⟩ := PX.front hr l1 l2 _ (fun p hp => ha p (by simp [hp])) h3
    rw [put_S] at g2 g3
    have hc := put_comm (σ := σ) (d := ok.dst) (e := or.dst) (x := y) (y := x) (fun t ht he => a2 t ht (by rw [he]))
    refine ⟨(GSt.put (d := ok.dst) (y := y) a1).2 g1, ⟨ok, h1, (GSt.put (d := or.dst) (y := x) a3).1 h2, ?_⟩, ?_⟩
    · rw [put_S]
      exact PX.leq _ hc g2
    · simp only [List.cons_append, putX, h1]
      refine g3.trans ?_
      rw [put_S]
      exact putX_leq _ hc
/-- Less is known. -/
def Sub (σ σ' : PS) : Prop := σ.n = σ'.n ∧ σ.S = σ'.S ∧ ∀ t, look t σ.tm = .undef ∨ look t σ.tm = look t σ'.tm
theorem Rel.sub {c : Cx} {σ σ' : PS} {a : Act} (h : Sub σ σ') (r : Rel c σ' a) : Rel c σ a := by
  refine ⟨r.S.trans h.2.1.symm, r.inv, r.n.trans h.1.symm, r.defers, fun t => ?_⟩
  rcases h.2.2 t with h1 | h1
  · rw [h1]; exact .undef _
  · rw [h1]; exact r.tm t
theorem Sub.put {σ σ' : PS} (h : Sub σ σ') (d : Option Tmp) (x : PV) (S : List Blk) : Sub (σ.put d x S) (σ'.put d x S) := by
  cases d with
  | none => exact ⟨h.1, rfl, h.2.2⟩
  | some d =>
    refine ⟨h.1, rfl, fun t => ?_⟩
    simp only [PS.put, look]
    split
    · exact .inr rfl
    · exact h.2.2 t
theorem Sub.putX {ops : Array Oper} : ∀ (l : RX) {σ σ' : PS}, Sub σ σ' → Sub (Pv.putX ops l σ) (Pv.putX ops l σ')
  | [], _, _, h => h
  | (i, x) :: l, σ, σ', h => by
    unfold Pv.putX
    split
    · exact Sub.putX l (by rw [← h.2.1]; exact h.put _ _ _)
    · exact Sub.putX l h
theorem popSem_sub {P : Program} {σ σ' : PS} {o : Oper} {K : PV → List Blk → Prop} (h : Sub σ σ') (k : PopSem P σ o K) : PopSem P σ' o K := fun c a r next Q hn => k c a (r.sub h) next Q hn
theorem popSem_leq {P : Program} {σ σ' : PS} {o : Oper} {K : PV → List Blk → Prop} (h : LEq σ σ') (k : PopSem P σ o K) : PopSem P σ' o K := fun c a r next Q hn => k c a (r.leq h.symm) next Q hn
def need (ops : Array Oper) (w : Nat) (p : Nat × PV) : Bool := waits ops 24 w p.1
/-- What writes, in order; what reads and is left. -/
def Hs (P : Program) (ops : Array Oper) (Q : PS → Prop) : List Nat → RX → PS → Prop
  | [], lx, σ => PX P ops lx σ ∧ ∃ σ', LEq (putX ops lx σ) σ' ∧ Q σ'
  | w :: T, lx, σ => PX P ops lx σ ∧ ∃ o, ops[w]? = some o ∧ o.guard = none ∧ PopSem P (putX ops (lx.filter (need ops w)) σ) o (fun x S' => Hs P ops Q T (lx.filter fun p => !need ops w p) ((putX ops (lx.filter (need ops w)) σ).put o.dst x S'))
theorem Hs.px {P : Program} {ops : Array Oper} {Q : PS → Prop} {T : List Nat} {lx : RX} {σ : PS} (h : Hs P ops Q T lx σ) : PX P ops lx σ := by
  cases T <;> exact h.1
theorem Hs.leq {P : Program} {ops : Array Oper} {Q : PS → Prop} : ∀ (T : List Nat) (lx : RX) {σ σ' : PS}, LEq σ σ' → Hs P ops Q T lx σ → Hs P ops Q T lx σ'
  | [], lx, σ, σ', h, ⟨h1, s, h2, h3⟩ => ⟨PX.leq lx h h1, s, (putX_leq lx h).symm.trans h2, h3⟩
  | w :: T, lx, σ, σ', h, ⟨h1, o, h2, h3, h4⟩ => by
    have hl := putX_leq (ops := ops) (lx.filter (need ops w)) h
    exact ⟨PX.leq lx h h1, o, h2, h3, popSem_mono (popSem_leq hl h4) fun x S' hk => Hs.leq T _ (hl.put _ _ _) hk⟩
def DD (ops : Array Oper) : Prop := ∀ (i k : Nat) (oi ok : Oper), i ≠ k → ops[i]? = some oi → ops[k]? = some ok → ∀ t, oi.dst = some t → ok.dst ≠ some t
theorem putX_look {ops : Array Oper} {t : Nat} : ∀ (l : RX) (σ : PS), (∀ p ∈ l, ∀ o, ops[p.1]? = some o → o.dst ≠ some t) → look t (putX ops l σ).tm = look t σ.tm
  | [], _, _ => rfl
  | (i, x) :: l, σ, h => by
    unfold putX
    split
    · rename_i o ho
      rw [putX_look l _ (fun p hp => h p (by simp [hp]))]
      have := h (i, x) (by simp) o ho
      cases hd : o.dst with
      | none => rfl
      | some d => simp only [PS.put, look]; rw [if_neg (fun e => this (by rw [hd, e]))]
    · exact putX_look l _ (fun p hp => h p (by simp [hp]))
theorem putX_nS {ops : Array Oper} : ∀ (l : RX) (σ : PS), (putX ops l σ).n = σ.n ∧ (putX ops l σ).S = σ.S
  | [], _ => ⟨rfl, rfl⟩
  | (i, x) :: l, σ => by
    unfold putX
    split
    · rename_i o ho
      have := putX_nS (ops := ops) l (σ.put o.dst x σ.S)
      rw [put_S] at this
      exact ⟨this.1.trans (by cases o.dst <;> rfl), this.2⟩
    · exact putX_nS l σ
theorem Hs.take {P : Program} {ops : Array Oper} {Q : PS → Prop} (hdd : DD ops) {r : Nat} {x : PV} {or : Oper} (hr : ops[r]? = some or) : ∀ (T : List Nat) (l1 l2 : RX) (σ : PS), r ∉ T → (∀ p ∈ l1 ++ l2, p.1 ≠ r) → (∀ t, or.dst = some t → look t σ.tm = .undef) →
    (∀ p ∈ l1, ∀ ok, ops[p.1]? = some ok → ok.apart ops or = true) → Hs P ops Q T (l1 ++ (r, x) :: l2) σ → Hs P ops Q T (l1 ++ l2) (σ.put or.dst x σ.S)
  | [], l1, l2, σ, _, _, _, ha, ⟨h1, s, h2, h3⟩ => by
    obtain ⟨_, g2, g3⟩ := PX.front hr l1 l2 σ ha h1
    exact ⟨g2, s, g3.symm.trans h2, h3⟩
  | w :: T, l1, l2, σ, hrT, hne, hfr, ha, ⟨h1, o, h2, h3, h4⟩ => by
    obtain ⟨_, g2, _⟩ := PX.front hr l1 l2 σ ha h1
    have hrw : r ≠ w := fun e => hrT (by simp [e])
    have hdw : ∀ t, or.dst = some t → o.dst ≠ some t := hdd r w or o hrw hr h2
    refine ⟨g2, o, h2, h3, ?_⟩
    have hne2 : ∀ p ∈ (l1 ++ l2).filter (need ops w), ∀ o', ops[p.1]? = some o' → ∀ t, or.dst = some t → o'.dst ≠ some t := fun p hp o' ho' => hdd r p.1 or o' (fun e => hne p ((List.mem_filter.1 hp).1) e.symm) hr ho'
    by_cases hn : need ops w (r, x) = true
    · have hpx : PX P ops ((l1 ++ (r, x) :: l2).filter (need ops w)) σ ∨ True := .inr trivial
      have e1 : (l1 ++ (r, x) :: l2).filter (need ops w) = l1.filter (need ops w) ++ (r, x) :: l2.filter (need ops w) := by rw [List.filter_append, List.filter_cons, if_pos hn]
      have e2 : (l1 ++ (r, x) :: l2).filter (fun p => !need ops w p) = (l1 ++ l2).filter (fun p => !need ops w p) := by rw [List.filter_append, List.filter_append, List.filter_cons, if_neg (by simp [hn])]
      have hl : LEq (putX ops ((l1 ++ (r, x) :: l2).filter (need ops w)) σ) (putX ops ((l1 ++ l2).filter (need ops w)) (σ.put or.dst x σ.S)) := by
        rw [e1, List.filter_append]
        have key : ∀ (m1 m2 : RX) (σ : PS), (∀ p ∈ m1, ∀ o', ops[p.1]? = some o' → ∀ t, or.dst = some t → o'.dst ≠ some t) → LEq (putX ops (m1 ++ (r, x) :: m2) σ) (putX ops (m1 ++ m2) (σ.put or.dst x σ.S)) := by
          intro m1
          induction m1 with
          | nil => intro m2 σ _; simp only [List.nil_append, putX, hr]; exact .rfl' _
          | cons p m1 ih =>
            intro m2 σ hm
            obtain ⟨k, y⟩ := p
            simp only [List.cons_append, putX]
            cases hk : ops[k]? with
            | none => exact ih m2 σ (fun p hp => hm p (by simp [hp]))
            | some ok =>
              simp only
              refine (ih m2 _ (fun p hp => hm p (by simp [hp]))).trans ?_
              rw [put_S, put_S]
              exact putX_leq _ (put_comm (fun t ht he => hm (k, y) (by simp) ok hk t he ht))
        exact key _ _ σ (fun p hp => hne2 p (by rw [List.filter_append]; exact List.mem_append_left _ hp))
      rw [e2] at h4
      exact popSem_mono (popSem_leq hl h4) fun y S' hk => Hs.leq T _ (hl.put _ _ _) hk
    · have e1 : (l1 ++ (r, x) :: l2).filter (need ops w) = (l1 ++ l2).filter (need ops w) := by rw [List.filter_append, List.filter_append, List.filter_cons, if_neg hn]
      have e2 : (l1 ++ (r, x) :: l2).filter (fun p => !need ops w p) = l1.filter (fun p => !need ops w p) ++ (r, x) :: l2.filter (fun p => !need ops w p) := by rw [List.filter_append, List.filter_cons, if_pos (by simp [hn])]
      rw [e1, e2] at h4
      have hsub : Sub σ (σ.put or.dst x σ.S) := by
        refine ⟨by cases or.dst <;> rfl, by rw [put_S], fun t => ?_⟩
        cases hd : or.dst with
        | none => exact .inr rfl
        | some d =>
          simp only [PS.put, look]
          by_cases e : t = d
          · left; rw [e]; exact hfr d hd
          · right; rw [if_neg e]
      have hs2 := Sub.putX (ops := ops) ((l1 ++ l2).filter (need ops w)) hsub
      rw [List.filter_append (p := fun p => !need ops w p)]
      refine popSem_mono (popSem_sub hs2 h4) fun y S' hk => ?_
      have hlook : ∀ t, or.dst = some t → look t (putX ops ((l1 ++ l2).filter (need ops w)) σ).tm = .undef := fun t ht => by
        rw [putX_look _ _ (fun p hp o' ho' => hne2 p hp o' ho' t ht)]; exact hfr t ht
      have ih := Hs.take hdd hr T _ _ _ (fun h => hrT (by simp [h])) (fun p hp => hne p (by
        rw [← List.filter_append] at hp; exact (List.mem_filter.1 hp).1)) (fun t ht => by
          cases hd : o.dst with
          | none => exact hlook t ht
          | some d =>
            simp only [PS.put, look]
            rw [if_neg (fun e => hdw t ht (by rw [hd, e]))]
            exact hlook t ht) (fun p hp => ha p ((List.mem_filter.1 hp).1)) hk
      refine Hs.leq T _ ?_ ih
      rw [put_S]
      have q1 := putX_nS (ops := ops) ((l1 ++ l2).filter (need ops w)) σ
      have q2 := putX_nS (ops := ops) ((l1 ++ l2).filter (need ops w)) (σ.put or.dst x σ.S)
      refine ⟨?_, by rw [put_S, put_S], fun t => ?_⟩
      · have : ∀ (s : PS) (d : Option Tmp) (z : PV) (S : List Blk), (s.put d z S).n = s.n := fun s d z S => by cases d <;> rfl
        rw [this, this, this, q1.1, q2.1, this]
      · have hk2 : ∀ t, or.dst ≠ some t → look t (putX ops ((l1 ++ l2).filter (need ops w)) (σ.put or.dst x σ.S)).tm = look t (putX ops ((l1 ++ l2).filter (need ops w)) σ).tm := by
          intro t ht
          have : ∀ (m : RX) (s s' : PS), look t s.tm = look t s'.tm → look t (putX ops m s).tm = look t (putX ops m s').tm := by
            intro m
            induction m with
            | nil => intro s s' h; exact h
            | cons p m ih =>
              intro s s' h
              obtain ⟨k, y⟩ := p
              unfold putX
              split
              · rename_i ok _
                refine ih _ _ ?_
                cases ok.dst with
                | none => exact h
                | some d => simp only [PS.put, look]; split <;> first | rfl | exact h
              · exact ih _ _ h
          refine this _ _ _ ?_
          cases hd : or.dst with
          | none => rfl
          | some d => simp only [PS.put, look]; rw [if_neg (fun e => ht (by rw [hd, e]))]
        have hk3 : ∀ d, or.dst = some d → look d (putX ops ((l1 ++ l2).filter (need ops w)) (σ.put or.dst x σ.S)).tm = x := fun d hd => by
          rw [putX_look _ _ (fun p hp o' ho' => hne2 p hp o' ho' d hd), hd]
          simp [PS.put, look]
        cases hd : or.dst with
        | none =>
          have := hk2 t (by rw [hd]; simp)
          rw [hd] at this
          cases hod : o.dst with
          | none => exact this.symm
          | some e => (show look t ((e, _) :: _) = look t ((e, _) :: _)); unfold look; split <;> first | rfl | exact this.symm
        | some d =>
          have hde : o.dst ≠ some d := hdw d hd
          by_cases e : t = d
          · subst e
            have h3 := hk3 t hd
            rw [hd] at h3
            cases hod : o.dst with
            | none => (simp only [PS.put, look, if_true] <;> exact h3.symm)
            | some e =>
              have : ¬ t = e := fun q => hde (by rw [hod, q])
              simp only [PS.put, look, if_true, if_neg this]
              exact h3.symm
          · have h3 := hk2 t (by rw [hd]; intro q; exact e (Option.some.inj q).symm)
            rw [hd] at h3
            cases hod : o.dst with
            | none => (simp only [PS.put, look, if_neg e] <;> exact h3.symm)
            | some e' => (simp only [PS.put, look, if_neg e] <;> split <;> first | rfl | exact h3.symm)
theorem ready_apart {ops : Array Oper} {listed : Array Bool} {rem : List Nat} {i k : Nat} {oi ok : Oper} (hok : drawOk ops = true) (hl : Left ops listed rem) (hk : k ∈ rem) (hlt : k < i) (hi : ops[i]? = some oi) (hp : ∀ e ∈ oi.after, Region.binds .any e = true → listed.getD e.on false = true) (hok' : ops[k]? = some ok) : ok.apart ops oi = true := by
  have h1 := (List.all_eq_true.1 hok) i (by simpa using (Array.getElem?_eq_some_iff.1 hi).1)
  simp only [Bool.and_eq_true] at h1
  have h2 := (List.all_eq_true.1 h1.2) k (by simpa using hlt)
  simp only [pairOk, hi, hok', Bool.or_eq_true] at h2
  rcases h2 with h2 | h2
  · obtain ⟨e, he, hb⟩ := Array.any_eq_true'.1 h2
    simp only [Bool.and_eq_true, beq_iff_eq] at hb
    have := hl.pred (hp e he hb.2)
    rw [hb.1] at this
    exact absurd hk this
  · exact h2
theorem any_strag {P : Program} {ops : Array Oper} {Q : Exit → PS → Prop} (hok : drawOk ops = true) (hdd : DD ops) : ∀ (fuel : Nat) (listed : Array Bool) (rem : List Nat) (lx : RX) (T : List Nat) (c0 c : Cx) (σ : PS) (a : Act), lx.length + T.length = fuel → Left ops listed rem → (∀ i, i ∈ rem ↔ i ∈ lx.map (·.1) ∨ i ∈ T) →
    (lx.map (·.1)).Pairwise (· < ·) → T.Pairwise (fun a b => waits ops 24 b a = true) → T.Nodup → (∀ i ∈ lx.map (·.1), i ∉ T) → Closed ops listed → (∀ p ∈ lx, ∀ o, ops[p.1]? = some o → ∀ t, o.dst = some t → look t σ.tm = .undef) → Step c0 c → Rel c σ a → (∀ o ∈ ops.toList, dstOk σ.n o = true) →
    Hs P ops (Q .normal) T lx σ → wpAnyIn (FR ro) mm P .any ops (Post c0 Q) fuel listed a c.w := by
  intro fuel
  induction fuel with
  | zero =>
    intro listed rem lx T c0 c σ a hlen hl hm hp ht htn hd hcl hfr hs r hdo h
    have e1 : lx = [] := List.eq_nil_of_length_eq_zero (by omega)
    have e2 : T = [] := List.eq_nil_of_length_eq_zero (by omega)
    subst e1 e2
    refine ⟨?_, ?_⟩
    · rw [List.eq_nil_iff_forall_not_mem]
      intro i hi
      obtain ⟨h1, h2, _⟩ := ready_spec hi
      have := (hm i).1 ((hl.mem i).2 ⟨h1, h2⟩)
      simp at this
    · obtain ⟨_, s, h2, h3⟩ := h
      exact ⟨c, s, hs, rfl, r.leq h2, h3⟩
  | succ fuel ih =>
    intro listed rem lx T c0 c σ a hlen hl hm hp ht htn hd hcl hfr hs r hdo h
    refine ⟨fun h0 => ?_, fun i hi => ?_⟩
    · cases rem with
      | nil =>
        exfalso
        cases lx with
        | nil =>
          cases T with
          | nil => simp at hlen
          | cons w T => have := (hm w).2 (.inr (by simp)); simp at this
        | cons p lx => have := (hm p.1).2 (.inl (by simp)); simp at this
      | cons i rem => rw [List.eq_nil_iff_forall_not_mem] at h0; exact absurd (head_ready hok hl) (h0 i)
    · obtain ⟨h1, h2, o, ho, hpp⟩ := ready_spec hi
      have him := (hl.mem i).2 ⟨h1, h2⟩
      obtain ⟨r1, r2, rfl⟩ := List.append_of_mem him
      have hrn : (r1 ++ i :: r2).Nodup := hl.sorted.imp (fun h => Nat.ne_of_lt h)
      have hri : ∀ k, k ∈ r1 ++ r2 ↔ k ∈ r1 ++ i :: r2 ∧ k ≠ i := by
        intro k
        have h3 := hrn
        rw [List.nodup_append] at h3
        obtain ⟨_, h4, h5⟩ := h3
        rw [List.nodup_cons] at h4
        constructor
        · intro hk
          refine ⟨by rcases List.mem_append.1 hk with hk | hk <;> simp [hk], fun e => ?_⟩
          subst e
          rcases List.mem_append.1 hk with hk | hk
          · exact h5 k hk k (by simp) rfl
          · exact h4.1 hk
        · rintro ⟨hk, hne⟩
          rcases List.mem_append.1 hk with hk | hk
          · simp [hk]
          · rcases List.mem_cons.1 hk with hk | hk
            · exact absurd hk hne
            · simp [hk]
      rcases (hm i).1 him with hix | hiT
      · obtain ⟨p, hpm, hpe⟩ := List.mem_map.1 hix
        obtain ⟨l1, l2, rfl⟩ := List.append_of_mem hpm
        obtain ⟨i', x⟩ := p
        simp only at hpe
        subst hpe
        have hp' := hp
        rw [List.map_append, List.map_cons, List.pairwise_append] at hp'
        obtain ⟨hp1, hp2, hp3⟩ := hp'
        rw [List.pairwise_cons] at hp2
        have hne : ∀ q ∈ l1 ++ l2, q.1 ≠ i' := by
          intro q hq
          rcases List.mem_append.1 hq with hq | hq
          · have := hp3 q.1 (List.mem_map_of_mem hq) i' (by simp); omega
          · have := hp2.1 q.1 (List.mem_map_of_mem hq); omega
        have hap : ∀ q ∈ l1, ∀ ok, ops[q.1]? = some ok → ok.apart ops o = true := fun q hq ok hok' => ready_apart hok hl ((hm q.1).2 (.inl (by simp only [List.map_append, List.mem_append]; exact .inl (List.mem_map_of_mem hq)))) (hp3 q.1 (List.mem_map_of_mem hq) i' (by simp)) ho hpp hok'
        obtain ⟨g1, _, _⟩ := PX.front ho l1 l2 σ hap h.px
        have hfi := hfr (i', x) (by simp) o ho
        refine wpOp_of_gst ho hdo r g1 (fun c' a' hst hr => ?_)
        refine ih _ (r1 ++ r2) (l1 ++ l2) T c0 c' _ a' (by simp at hlen ⊢; omega) hl.take (fun k => ?_) ?_ ht htn (fun k hk => hd k (by simp only [List.map_append, List.map_cons, List.mem_append, List.mem_cons] at hk ⊢; rcases hk with hk | hk <;> simp [hk])) (hcl.take ho hpp) (fun q hq oq hoq t ht => ?_) (hs.trans hst) hr ?_ (Hs.take hdd ho T l1 l2 σ (hd i' hix) hne hfi hap h)
        · rw [hri k, hm k]
          simp only [List.map_append, List.map_cons, List.mem_append, List.mem_cons]
          constructor
          · rintro ⟨(h | h | h) | h, h'⟩
            · exact .inl (.inl h)
            · exact absurd h h'
            · exact .inl (.inr h)
            · exact .inr h
          · rintro ((h | h) | h)
            · obtain ⟨q, hq, rfl⟩ := List.mem_map.1 h
              exact ⟨.inl (.inl h), hne q (by simp [hq])⟩
            · obtain ⟨q, hq, rfl⟩ := List.mem_map.1 h
              exact ⟨.inl (.inr (.inr h)), hne q (by simp [hq])⟩
            · exact ⟨.inr h, fun e => hd i' hix (e ▸ h)⟩
        · rw [List.map_append, List.pairwise_append]
          exact ⟨hp1, hp2.2, fun x hx y hy => hp3 x hx y (by simp [hy])⟩
        · have hq1 : look t σ.tm = .undef := hfr q (by rcases List.mem_append.1 hq with h | h <;> simp [h]) oq hoq t ht
          have hdt := hdd i' q.1 o oq (fun e => hne q hq e.symm) ho hoq
          cases hdo' : o.dst with
          | none => exact hq1
          | some d =>
            simp only [PS.put, look]
            rw [if_neg (fun e => hdt d hdo' (by rw [ht, e]))]
            exact hq1
        · intro o' ho'
          have : (σ.put o.dst x σ.S).n = σ.n := by cases o.dst <;> rfl
          rw [this]
          exact hdo o' ho'
      · cases T with
        | nil => cases hiT
        | cons w T =>
          have hiw : i = w := by
            rcases List.mem_cons.1 hiT with hh | hh
            · exact hh
            · have hw := hcl.waits 24 i w o ho hpp ((List.pairwise_cons.1 ht).1 i hh)
              exact absurd ((hm w).2 (.inr (by simp))) (hl.pred hw)
          subst hiw
          have hneed : ∀ p ∈ lx, need ops i p = false := by
            intro p hp'
            cases hn : need ops i p with
            | false => rfl
            | true =>
              have hw := hcl.waits 24 i p.1 o ho hpp hn
              exact absurd ((hm p.1).2 (.inl (List.mem_map_of_mem hp'))) (hl.pred hw)
          have f1 : lx.filter (need ops i) = [] := by
            rw [List.filter_eq_nil_iff]
            intro p hp'
            rw [hneed p hp']
            decide
          have f2 : lx.filter (fun p => !need ops i p) = lx := by
            rw [List.filter_eq_self]
            intro p hp'
            rw [hneed p hp']
            rfl
          obtain ⟨_, o', ho', hg, h4⟩ := h
          rw [ho] at ho'
          cases ho'
          rw [f1, f2] at h4
          have hdw : ∀ t, o.dst = some t → t < σ.n := dstOk_lt (hdo o (by rw [← Array.getElem?_toList] at ho; exact List.mem_of_getElem? ho))
          have hnd : notDefer o = true := dstOk_nd (hdo o (by rw [← Array.getElem?_toList] at ho; exact List.mem_of_getElem? ho))
          unfold wpOpIn
          simp only [ho]
          rw [if_pos (by simp [Region.wanted, hg])]
          refine wpIn_of_wp hnd (h4 c a r _ _ (fun x c' v hK hi' hst hv => ?_))
          have rr := Rel.put (d := o.dst) r hst hi' hv hdw
          refine ih _ (r1 ++ r2) lx T c0 c' _ _ (by simp at hlen ⊢; omega) hl.take (fun k => ?_) hp (List.pairwise_cons.1 ht).2 (List.nodup_cons.1 htn).2 (fun k hk hkT => hd k hk (by simp [hkT])) (hcl.take ho hpp) (fun q hq oq hoq t ht => ?_) (hs.trans hst) rr ?_ hK
          · rw [hri k, hm k]
            constructor
            · rintro ⟨h | h, h'⟩
              · exact .inl h
              · rcases List.mem_cons.1 h with h | h
                · exact absurd h h'
                · exact .inr h
            · rintro (h | h)
              · exact ⟨.inl h, fun e => hd k h (by simp [e])⟩
              · exact ⟨.inr (by simp [h]), fun e => (List.nodup_cons.1 htn).1 (e ▸ h)⟩
          · have hq1 := hfr q hq oq hoq t ht
            have hne : i ≠ q.1 := fun e => hd q.1 (List.mem_map_of_mem hq) (by simp [e])
            have hdt := hdd i q.1 o oq hne ho hoq
            cases hdo' : o.dst with
            | none => exact hq1
            | some d =>
              simp only [PS.put, look]
              rw [if_neg (fun e => hdt d hdo' (by rw [ht, e]))]
              exact hq1
          · intro o' ho'
            have : (σ.put o.dst x c'.S).n = σ.n := by cases o.dst <;> rfl
            rw [this]
            exact hdo o' ho'
def pick (ops : Array Oper) : List Nat → List Oper
  | [] => []
  | i :: l => match ops[i]? with
    | some o => o :: pick ops l
    | none => pick ops l
def lxOf (ops : Array Oper) (l : List Nat) (tm : List (Nat × PV)) : RX := l.map fun i => (i, match ops[i]? with | some o => (match o.dst with | some d => look d tm | none => .undef) | none => .undef)
theorem px_of_pstl {P : Program} {ops : Array Oper} (hdd : DD ops) : ∀ (A : List Nat) (σ : PS) (R : PS → Prop), A.Nodup → (∀ i ∈ A, ∃ o d, ops[i]? = some o ∧ o.dst = some d) → PStL P ops.toList R (pick ops A) σ →
    ∃ σF, PX P ops (lxOf ops A σF.tm) σ ∧ putX ops (lxOf ops A σF.tm) σ = σF ∧ R σF
  | [], σ, R, _, _, h => ⟨σ, trivial, rfl, h⟩
  | i :: A, σ, R, hn, hd, h => by
    obtain ⟨o, d, ho, hod⟩ := hd i (by simp)
    unfold pick at h
    rw [ho] at h
    simp only at h
    obtain ⟨x, h1, h2⟩ := h
    obtain ⟨hni, hnA⟩ := List.nodup_cons.1 hn
    obtain ⟨σF, k1, k2, k3⟩ := px_of_pstl hdd A _ R hnA (fun k hk => hd k (by simp [hk])) h2
    have hx : look d σF.tm = x := by
      rw [← k2, putX_look _ _ (fun p hp o' ho' => by
        obtain ⟨k, hk, rfl⟩ := List.mem_map.1 hp
        exact hdd i k o o' (fun e => hni (e ▸ hk)) ho ho' d hod), hod]
      simp [PS.put, look]
    have e : lxOf ops (i :: A) σF.tm = (i, x) :: lxOf ops A σF.tm := by
      simp only [lxOf, List.map_cons, ho, hod, hx]
    refine ⟨σF, ?_, ?_, k3⟩
    · rw [e]; exact ⟨o, ho, h1, k1⟩
    · rw [e]; simp only [putX, ho]; exact k2
/-- The same, its values told by what is known once all is read. -/
def HsT (P : Program) (ops : Array Oper) (Q : PS → Prop) (T A : List Nat) (tmF : List (Nat × PV)) (σ : PS) : Prop := Hs P ops Q T (lxOf ops A tmF) σ
def dsts (ops : Array Oper) : List Nat := ops.toList.filterMap (·.dst)
def nodupB : List Nat → Bool
  | [] => true
  | x :: l => !l.contains x && nodupB l
theorem nodupB_spec : ∀ {l : List Nat}, nodupB l = true → l.Nodup
  | [], _ => .nil
  | x :: l, h => by
    simp only [nodupB, Bool.and_eq_true, Bool.not_eq_true'] at h
    rw [List.nodup_cons]
    exact ⟨by have := h.1; simpa using this, nodupB_spec h.2⟩
theorem dd_of {ops : Array Oper} (h : nodupB (dsts ops) = true) : DD ops := by
  have hn := nodupB_spec h
  intro i k oi ok hik hi hk t hti htk
  unfold dsts at hn
  rw [← Array.getElem?_toList] at hi hk
  have key : ∀ (l : List Oper) (i k : Nat), i < k → l[i]? = some oi → l[k]? = some ok → (l.filterMap (·.dst)).Nodup → False := by
    intro l
    induction l with
    | nil => intro i k _ h; simp at h
    | cons o l ih =>
      intro i k hlt h1 h2 h3
      obtain ⟨k, rfl⟩ : ∃ k', k = k' + 1 := ⟨k - 1, by omega⟩
      rw [List.getElem?_cons_succ] at h2
      cases i with
      | zero =>
        simp only [List.getElem?_cons_zero, Option.some.injEq] at h1
        subst h1
        rw [List.filterMap_cons, hti, List.nodup_cons] at h3
        exact h3.1 (List.mem_filterMap.2 ⟨ok, List.mem_of_getElem? h2, htk⟩)
      | succ i =>
        rw [List.getElem?_cons_succ] at h1
        refine ih i k (by omega) h1 h2 ?_
        rw [List.filterMap_cons] at h3
        split at h3
        · exact h3
        · exact (List.nodup_cons.1 h3).2
  rcases Nat.lt_or_gt_of_ne hik with hlt | hlt
  · exact key _ i k hlt hi hk hn
  · have key2 : ∀ (l : List Oper) (i k : Nat), k < i → l[i]? = some oi → l[k]? = some ok → (l.filterMap (·.dst)).Nodup → False := by
      intro l
      induction l with
      | nil => intro i k _ h; simp at h
      | cons o l ih =>
        intro i k hlt h1 h2 h3
        obtain ⟨i, rfl⟩ : ∃ i', i = i' + 1 := ⟨i - 1, by omega⟩
        rw [List.getElem?_cons_succ] at h1
        cases k with
        | zero =>
          simp only [List.getElem?_cons_zero, Option.some.injEq] at h2
          subst h2
          rw [List.filterMap_cons, htk, List.nodup_cons] at h3
          exact h3.1 (List.mem_filterMap.2 ⟨oi, List.mem_of_getElem? h1, hti⟩)
        | succ k =>
          rw [List.getElem?_cons_succ] at h2
          refine ih i k (by omega) h1 h2 ?_
          rw [List.filterMap_cons] at h3
          split at h3
          · exact h3
          · exact (List.nodup_cons.1 h3).2
    exact key2 _ i k hlt hi hk hn
def haveDst (ops : Array Oper) (A : List Nat) : Bool := A.all fun i => match ops[i]? with | some o => o.dst.isSome | none => false
theorem haveDst_spec {ops : Array Oper} {A : List Nat} (h : haveDst ops A = true) : ∀ i ∈ A, ∃ o d, ops[i]? = some o ∧ o.dst = some d := by
  intro i hi
  have := (List.all_eq_true.1 h) i hi
  split at this
  · rename_i o ho
    obtain ⟨d, hd⟩ := Option.isSome_iff_exists.1 this
    exact ⟨o, d, ho, hd⟩
  · cases this
theorem lxOf_filter {ops : Array Oper} {w : Nat} (A : List Nat) (tm : List (Nat × PV)) : (lxOf ops A tm).filter (need ops w) = lxOf ops (A.filter (waits ops 24 w)) tm ∧ (lxOf ops A tm).filter (fun p => !need ops w p) = lxOf ops (A.filter fun i => !waits ops 24 w i) tm := by
  unfold lxOf
  exact ⟨List.filter_map, List.filter_map⟩
/-- What writes next. -/
def stB (ops : Array Oper) (w : Nat) (A N Pn : List Nat) : Bool := nodupB (dsts ops) && nodupB A && nodupB N && haveDst ops A && haveDst ops N && (A.filter (waits ops 24 w) == N) && ((A.filter fun i => !waits ops 24 w i) == Pn)
theorem hs_w {P : Program} {ops : Array Oper} {Q : PS → Prop} {w : Nat} {T A : List Nat} {tmF : List (Nat × PV)} {σ : PS} {o : Oper} (N Pn : List Nat) (h2 : PStL P ops.toList (fun σN => lxOf ops N σN.tm = lxOf ops N tmF ∧ Pops P ops.toList (fun σ' => HsT P ops Q T Pn tmF σ') [o] σN) (pick ops N) σ)
    (h1 : PStL P ops.toList (fun σF => lxOf ops A σF.tm = lxOf ops A tmF) (pick ops A) σ) (ho : ops[w]? = some o := by rfl) (hg : o.guard = none := by rfl) (hc : stB ops w A N Pn = true := by kernel_rfl) : HsT P ops Q (w :: T) A tmF σ := by
  simp only [stB, Bool.and_eq_true, beq_iff_eq] at hc
  obtain ⟨⟨⟨⟨⟨⟨c1, c2⟩, c3⟩, c4⟩, c5⟩, c6⟩, c7⟩ := hc
  have hdd := dd_of c1
  obtain ⟨σF, k1, _, k3⟩ := px_of_pstl hdd A σ _ (nodupB_spec c2) (haveDst_spec c4) h1
  obtain ⟨σN, _, m2, m3, m4⟩ := px_of_pstl hdd N σ _ (nodupB_spec c3) (haveDst_spec c5) h2
  rw [k3] at k1
  rw [m3] at m2
  refine ⟨k1, o, ho, hg, ?_⟩
  rw [(lxOf_filter A tmF).1, (lxOf_filter A tmF).2, c6, c7, m2]
  unfold Pops at m4
  rw [hg] at m4
  exact m4
theorem hs_end {P : Program} {ops : Array Oper} {Q : PS → Prop} {A : List Nat} {tmF : List (Nat × PV)} {σ : PS} (h : PStL P ops.toList (fun σF => lxOf ops A σF.tm = lxOf ops A tmF ∧ Q σF) (pick ops A) σ) (hc : (nodupB (dsts ops) && nodupB A && haveDst ops A) = true := by kernel_rfl) : HsT P ops Q [] A tmF σ := by
  simp only [Bool.and_eq_true] at hc
  obtain ⟨⟨c1, c2⟩, c3⟩ := hc
  obtain ⟨σF, k1, k2, k3, k4⟩ := px_of_pstl (dd_of c1) A σ _ (nodupB_spec c2) (haveDst_spec c3) h
  rw [k3] at k1 k2
  exact ⟨k1, σF, by rw [k2]; exact .rfl' _, k4⟩
def sortB : List Nat → Bool
  | [] => true
  | x :: l => l.all (fun y => decide (x < y)) && sortB l
theorem sortB_spec : ∀ {l : List Nat}, sortB l = true → l.Pairwise (· < ·)
  | [], _ => .nil
  | x :: l, h => by
    simp only [sortB, Bool.and_eq_true, List.all_eq_true, decide_eq_true_eq] at h
    rw [List.pairwise_cons]
    exact ⟨h.1, sortB_spec h.2⟩
def chainB (ops : Array Oper) : List Nat → Bool
  | [] => true
  | x :: l => l.all (fun y => waits ops 24 y x) && chainB ops l
theorem chainB_spec {ops : Array Oper} : ∀ {l : List Nat}, chainB ops l = true → l.Pairwise (fun a b => waits ops 24 b a = true)
  | [], _ => .nil
  | x :: l, h => by
    simp only [chainB, Bool.and_eq_true, List.all_eq_true] at h
    rw [List.pairwise_cons]
    exact ⟨h.1, chainB_spec h.2⟩
def kdsB (ops : Array Oper) (A T : List Nat) (keys : List Nat) : Bool := nodupB (dsts ops) && sortB A && haveDst ops A && chainB ops T && nodupB T && (A.all fun i => !T.contains i && decide (i < ops.size)) && (T.all fun i => decide (i < ops.size)) && ((List.range ops.size).all fun i => A.contains i || T.contains i) &&
  (A.all fun i => match ops[i]? with | some o => (match o.dst with | some d => !keys.contains d | none => true) | none => true)
theorem look_none {t : Nat} : ∀ {tm : List (Nat × PV)}, (tm.map (·.1)).contains t = false → look t tm = .undef
  | [], _ => rfl
  | (s, x) :: tm, h => by
    simp only [List.map_cons, List.contains_cons, Bool.or_eq_false_iff, beq_eq_false_iff_ne] at h
    simp only [look]
    rw [if_neg h.1]
    exact look_none h.2
/-- Such a region: A reads, T writes, in order. -/
theorem kds {P : Program} {id : Nat} {ops : Array Oper} {l : List Code} {n : Nat} {tm : List (Nat × PV)} {S : List Blk} {Q : Exit → PS → Prop} (A T : List Nat) (k : PStL P ops.toList (fun σF => HsT P ops (fun σ' => Tk P l σ' Q) T A σF.tm ⟨n, tm, S⟩) (pick ops A) ⟨n, tm, S⟩) [hm : Mixed P] (hd : ops.toList.all (fun o => dstOk n o) = true := by kernel_rfl) (hok : drawOk ops = true := by kernel_rfl)
    (hc : kdsB ops A T (tm.map (·.1)) = true := by kernel_rfl) : Tk P (.region id ops true :: l) ⟨n, tm, S⟩ Q := by
  intro ro mm c a r hro
  simp only [kdsB, Bool.and_eq_true] at hc
  obtain ⟨⟨⟨⟨⟨⟨⟨⟨c1, c2⟩, c3⟩, c4⟩, c5⟩, c6⟩, c7⟩, c8⟩, c9⟩ := hc
  have hdd := dd_of c1
  have hs := sortB_spec c2
  have hAn : A.Nodup := hs.imp (fun h => Nat.ne_of_lt h)
  have hT := nodupB_spec c5
  have hA6 : ∀ i ∈ A, i ∉ T ∧ i < ops.size := fun i hi => by
    have := (List.all_eq_true.1 c6) i hi
    simpa using this
  have hT7 : ∀ i ∈ T, i < ops.size := fun i hi => by
    have := (List.all_eq_true.1 c7) i hi
    simpa using this
  have h8 : ∀ i, i < ops.size → i ∈ A ∨ i ∈ T := fun i hi => by
    have := (List.all_eq_true.1 c8) i (by simpa using hi)
    simpa using this
  obtain ⟨σF, _, _, k3⟩ := px_of_pstl hdd A ⟨n, tm, S⟩ _ hAn (haveDst_spec c3) k
  refine wpIn_region_any hm.h ?_
  obtain ⟨c', h1, h2, h3⟩ := r.drew (c.w.drawn + 1)
  rw [← h2]
  have hmap : (lxOf ops A σF.tm).map (·.1) = A := by
    unfold lxOf
    rw [List.map_map]
    exact List.map_id' A
  have hlen : (lxOf ops A σF.tm).length + T.length = ops.size := by
    have e1 : (lxOf ops A σF.tm).length = A.length := by unfold lxOf; simp
    rw [e1]
    have hperm : (A ++ T).Perm (List.range ops.size) := by
      refine (List.perm_ext_iff_of_nodup ?_ List.nodup_range).2 fun i => ?_
      · rw [List.nodup_append]
        exact ⟨hAn, hT, fun x hx y hy e => (hA6 x hx).1 (e ▸ hy)⟩
      · rw [List.mem_append, List.mem_range]
        exact ⟨fun h => by rcases h with h | h; exact (hA6 i h).2; exact hT7 i h, h8 i⟩
    have := hperm.length_eq
    simpa using this
  have key := any_strag (ro := ro) (mm := mm) (P := P) (ops := ops) (Q := behind (fun σ' => Tk P l σ' Q) Q) hok hdd ops.size _ (List.range ops.size) (lxOf ops A σF.tm) T c c' ⟨n, tm, S⟩ a hlen (left_all ops) (fun i => by
    rw [hmap, List.mem_range]
    exact ⟨h8 i, fun h => by rcases h with h | h; exact (hA6 i h).2; exact hT7 i h⟩) (by rw [hmap]; exact hs) (chainB_spec c4) hT (by rw [hmap]; exact fun i hi => (hA6 i hi).1) (fun j o ho hj => by
      rw [Array.getD_eq_getD_getElem?, Array.getElem?_replicate] at hj
      split at hj <;> simp at hj) (fun p hp o ho t ht => by
      obtain ⟨i, hi, rfl⟩ := List.mem_map.1 hp
      have := (List.all_eq_true.1 c9) i hi
      simp only at ho
      simp only [ho, ht, Bool.not_eq_true'] at this
      exact look_none this) h1 h3 (List.all_eq_true.1 hd) k3
  exact key
end Go.Proofs.YtenoecffjfcifaaDoor.Pv

