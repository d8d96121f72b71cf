-- A scope without gotos; a range over a map of one's own that is no longer written.
import Derived.Test.YtenoecffjfcifaaDoorRgD
import Derived.Maps.RangeRun
namespace Go.Proofs.YtenoecffjfcifaaDoor.Pv
set_option linter.all false
set_option linter.unusedVariables false
open Go.RowKit Go.Proofs
open Go.ChangeMaps (setBlock)
theorem stepR_scope {P : Program} {b : Frame} {a : Act} {k : List Item} {cs : List Frame} {w : World} {c : Code} : step P (lone (b.atR a (.code (.scope c) :: k)) cs w) = .next (lone (b.atR a (.code c :: .inScope c :: k)) cs w) :=
  step_lone_go (by simp [stepG, stepG.exec, Frame.atR])
theorem stepR_inScope {P : Program} {b : Frame} {a : Act} {k : List Item} {cs : List Frame} {w : World} {c : Code} : step P (lone (b.atR a (.inScope c :: k)) cs w) = .next (lone (b.atR a k) cs w) :=
  step_lone_go (by simp [stepG, stepG.exec, Frame.atR])
theorem wpIn_scope {F : Fence} {n : Nat} {P : Program} {Q : Exit → Act → World → Prop} {a : Act} {w : World} {c : Code} (hg : ∀ l a w, ¬ Q (.goto l) a w) (h : c.wpIn F n P Q a w) : (Code.scope c).wpIn F n P Q a w := by
  intro b k cs hro hb hr
  have h0 : (lone (b.atR a (.code (.scope c) :: k)) cs w).fenced P F := fenced_calm hb hr rfl
  obtain ⟨e, a₁, w₁, hq, harr⟩ := h b (.inScope c :: k) cs hro hb hr
  cases e with
  | normal => exact ⟨.normal, a₁, w₁, hq, .head h0 stepR_scope (StepsIn.trans harr (.one (fenced_calm hb hr rfl) stepR_inScope))⟩
  | exit id =>
    have hx : exitTo id (.inScope c :: k) = exitTo id k := by simp [exitTo]
    exact ⟨.exit id, a₁, w₁, hq, fun k' hk => .head h0 stepR_scope (harr.1 k' (by rw [hx]; exact hk)), fun hr' hk => let ⟨k₁, h1, h2⟩ := harr.2 hr' (by rw [hx]; exact hk); ⟨k₁, h1, .head h0 stepR_scope h2⟩⟩
  | goto l => exact absurd hq (hg l _ _)
  | ret => exact ⟨_, a₁, w₁, hq, .of_steps (.one h0 stepR_scope) harr⟩
  | panic ch => exact ⟨_, a₁, w₁, hq, .of_steps (.one h0 stepR_scope) harr⟩
  | outgrown => exact ⟨_, a₁, w₁, hq, .of_steps (.one h0 stepR_scope) harr⟩
theorem ksc {P : Program} {body : Code} {l : List Code} {σ : PS} {Q : Exit → PS → Prop} (h : Tk P (body :: l) σ Q) (hg : ∀ l σ, ¬ Q (.goto l) σ := by intro l σ h; exact h) : Tk P (.scope body :: l) σ Q :=
  fun ro mm c a r hro => wpIn_scope (fun l a w ⟨c', σ', _, _, _, hq⟩ => hg l σ' hq) (h ro mm c a r hro)
theorem bwp_of_run {P : Program} {ro : Option Nat} {mm : Nat} {o : Oper} {a : Act} {w w' : World} {v : Value} {ops : Array Oper} {rest : List Oper} {Q : Exit → Act → World → Prop} (hgu : o.guard = none) (hnd : notDefer o = true) (hrun : (execOp a.eval o).run P w = .ok (.value v) w') (k : wpListIn (FR ro) mm P ops Q rest (a.put o.dst v) w') : wpListIn (FR ro) mm P ops Q (o :: rest) a w := by
  unfold wpListIn
  rw [if_pos (by simp [Region.wanted, hgu])]
  refine wpIn_of_wp hnd ?_
  unfold Oper.wp
  rw [hrun, Oper.upon_value]
  exact k
/-- Where a walk over a map stands: the iterator, which stamps it has handed out. -/
structure MapJ (c0 : Cx) (r bm : Nat) (arr : Array MapEntry) (ck : Nat) (seen : Array Nat) (c : Cx) : Prop where
  st : Step c0 c
  r0 : c0.w.heap.size ≤ r
  it : c.w.heap[r]? = some (.mapIter (some bm) ck seen ck)
  mp : c.w.heap[bm]? = some (.map arr ck)
  no : ¬ c.Own bm
theorem MapJ.step {c0 c c' : Cx} {r bm ck : Nat} {arr : Array MapEntry} {seen : Array Nat} (h : MapJ c0 r bm arr ck seen c) (hi : Inv c) (hs : Step c c') : MapJ c0 r bm arr ck seen c' :=
  ⟨h.st.trans hs, h.r0, (hs.blocks r (Array.getElem?_eq_some_iff.1 h.it).1 (notOwn_of hi h.it rfl)).trans h.it, (hs.blocks bm (Array.getElem?_eq_some_iff.1 h.mp).1 h.no).trans h.mp, fun ho => by
    rcases hs.own bm ho with h1 | h1
    · exact h.no h1
    · have := (Array.getElem?_eq_some_iff.1 h.mp).1
      omega⟩
theorem setBlock_put (w : World) (r : Nat) (o : Obj) : setBlock w r o = w.putObj r o := rfl
def bornAt (arr : Array MapEntry) (i : Nat) : Nat := ((arr[i]?).map (·.born)).getD 0
def seenOf (arr : Array MapEntry) (I : List Nat) : Array Nat := (I.map (bornAt arr)).toArray
theorem bornAt_get {arr : Array MapEntry} {i : Nat} {e : MapEntry} (h : arr[i]? = some e) : bornAt arr i = e.born := by simp [bornAt, h]
theorem seenOf_push (arr : Array MapEntry) (I : List Nat) {i : Nat} {e : MapEntry} (h : arr[i]? = some e) : seenOf arr (I ++ [i]) = (seenOf arr I).push e.born := by
  simp [seenOf, bornAt_get h]
/-- Slots that are known, and the blocks that there were: the rest is forgotten. -/
theorem holds_rel {c : Cx} {σ : PS} {a : Act} {n : Nat} {T : List (Nat × PV)} {S : List Blk} (h : Holds σ n T S) (r : Rel c σ a) : ∃ c', Step c c' ∧ c'.w = c.w ∧ Rel c' ⟨n, T, S⟩ a := by
  obtain ⟨h1, h2, k, h3⟩ := h
  obtain ⟨i', st⟩ := dropBlk r.inv k
  refine ⟨_, st, rfl, ⟨by show c.S.take k = S; rw [r.S]; exact h3, i', r.n.trans h1, r.defers.step r.inv st, fun t => ?_⟩⟩
  rcases bhas_look h2.all t with h | h
  · simp only [h]; exact .undef _
  · simp only [h]; exact (r.tm t).step st
theorem relV_tupv {c : Cx} (l : List Value) : RelV c (.tup (l.map .v)) (.tuple l.toArray) :=
  .tup _ _ (by simp) fun i x v hx hv => by
    rw [List.getElem?_map] at hx
    have hv' : l[i]? = some v := by simpa using hv
    rw [hv'] at hx
    cases hx
    exact .v v
/-- The iterator goes on. -/
theorem iter_put {c0 c : Cx} {σ : PS} {a : Act} {ro : Option Nat} {rr bm ck : Nat} {arr : Array MapEntry} {seen : Array Nat} (seen' : Array Nat) (r : Rel c σ a) (hro : RoOk c ro) (J : MapJ c0 rr bm arr ck seen c) :
    Rel { c with w := c.w.putObj rr (.mapIter (some bm) ck seen' ck) } σ a ∧ RoOk { c with w := c.w.putObj rr (.mapIter (some bm) ck seen' ck) } ro ∧ MapJ c0 rr bm arr ck seen' { c with w := c.w.putObj rr (.mapIter (some bm) ck seen' ck) } := by
  have ht := bturn_put (c := c) (.mapIter (some bm) ck seen' ck) J.it rfl
  have other : ∀ (l : Nat) (o : Obj), c.w.heap[l]? = some o → (∀ m s se la, o ≠ .mapIter m s se la) → (c.w.putObj rr (.mapIter (some bm) ck seen' ck)).heap[l]? = some o := by
    intro l o hl hne
    refine (World.putObj_heap_other ?_).trans hl
    rintro rfl
    rw [J.it] at hl
    cases hl
    exact hne _ _ _ _ rfl
  refine ⟨⟨r.S, binv_put r.inv _ J.it rfl, r.n, ?_, fun t => (r.tm t).turn ht⟩, ?_, ?_⟩
  · obtain ⟨Ds, h1, h2, h3⟩ := r.defers
    refine ⟨Ds, h1, h2, fun D hD => ?_⟩
    obtain ⟨k1, k2⟩ := h3 D hD
    exact ⟨other _ _ k1 (by intro m s se la h; cases h), k2⟩
  · intro l hl
    obtain ⟨lr, h1, h2⟩ := hro l hl
    exact ⟨lr, other _ _ h1 (by intro m s se la h; cases h), other _ _ h2 (by intro m s se la h; cases h)⟩
  · exact ⟨stepF (stepH_put J.st.toH _ J.r0), J.r0, World.putObj_heap_same (Array.getElem?_eq_some_iff.1 J.it).1, other _ _ J.mp (by intro m s se la h; cases h), J.no⟩
theorem tr_mapRange {P : Program} {i1 i2 i3 b1 b2 : Nat} {ops1 ops2 ops3 : Array Oper} {rest : Code} {cnd : Operand} {n : Nat} {tm : List (Nat × PV)} {S : List Blk} {Q : Exit → PS → Prop}
    (m1 : Nat) {d1 d2 d3 : Tmp} {x1 x2 x3 : Operand} {t1 ty1 ty2 ty3 : TypeId} {p1 p2 p3 : String} {f1 f2 f3 : Array Edge} {rest2 rest3 : List Oper} {kt et : TypeId} {τ g : Nat} {es : List (ByteArray × Int)} (T : Nat → List (Nat × PV)) (T3 : Nat → ByteArray → List (Nat × PV)) (V : List Nat → Prop)
    (hd1 : ops1.toList.all (dstOk n) = true) (hd2 : ops2.toList.all (dstOk n) = true) (hd3 : ops3.toList.all (dstOk n) = true)
    (ho1 : ops1.toList = ops1.toList.take m1 ++ [⟨some d1, .range t1 x1, ty1, p1, f1, none⟩]) (ho2 : ops2.toList = ⟨some d2, .next x2 false, ty2, p2, f2, none⟩ :: rest2) (ho3 : ops3.toList = ⟨some d3, .entry x3, ty3, p3, f3, none⟩ :: rest3)
    (ht : P.underlying t1 = some (.map kt et)) (hb : S[τ]? = some ⟨g, false, 0, [[.rmp es]]⟩)
    (h1 : Pops P ops1.toList (fun σ1 => σ1.n = n ∧ σ1.S = S ∧ σ1.get x1 = .mp τ g ∧ ∀ r, Has ((d1, .v (.pointer (some ⟨r, 0, none⟩))) :: σ1.tm) (T r)) (ops1.toList.take m1) ⟨n, tm, S⟩)
    (hx2 : ∀ r, PS.get ⟨n, T r, S⟩ x2 = .v (.pointer (some ⟨r, 0, none⟩)))
    (hx3 : ∀ r, PS.get ⟨n, T r, S⟩ x3 = .v (.pointer (some ⟨r, 0, none⟩)))
    (h2 : ∀ r x b, (∃ y, x = .tup (.v (.bool b) :: y)) → Pops P ops2.toList (fun σ' => σ'.get cnd = .v (.bool b) ∧ HoldsB σ' n (T r) S) rest2 ⟨n, (d2, x) :: T r, S⟩)
    (h3 : ∀ r s z, Pops P ops3.toList (fun σ' => HoldsB σ' n (T3 r s) S) rest3 ⟨n, (d3, .tup [.v (.string s), .v (.int .i64 z)]) :: T r, S⟩)
    (hV : V [])
    (hrest : ∀ r I i s z, es[i]? = some (s, z) → i ∉ I → V I → Tr P rest ⟨n, T3 r s, S⟩ (inBlk b2 (behind (fun σ' => V (I ++ [i]) ∧ Holds σ' n (T r) S) (inBlk b1 Q))))
    (hdone : ∀ r I, V I → (∀ i, i < es.length → i ∈ I) → Q .normal ⟨n, T r, S⟩) :
    Tr P (.seq (.region i1 ops1 false) (.block b1 (.loop (.seq (.region i2 ops2 false) (.seq (.cond cnd .skip (.exit b1)) (.block b2 (.seq (.region i3 ops3 false) rest))))))) ⟨n, tm, S⟩ Q := by
  intro ro mm c a r hro
  have e1 := List.all_eq_true.1 hd1
  have e2 := List.all_eq_true.1 hd2
  have e3 := List.all_eq_true.1 hd3
  refine wpIn_seq (wpIn_region_list ?_)
  have pre := bpops_pre (ro := ro) (mm := mm) (Q := Exit.then (Code.wpIn (FR ro) mm P (.block b1 (.loop (.seq (.region i2 ops2 false) (.seq (.cond cnd .skip (.exit b1)) (.block b2 (.seq (.region i3 ops3 false) rest)))))) (Post c Q)) (Post c Q)) (l2 := [⟨some d1, .range t1 x1, ty1, p1, f1, none⟩]) (ops1.toList.take m1) ⟨n, tm, S⟩ c a e1 (fun o' ho' => e1 o' (List.mem_of_mem_take ho')) h1 r ?_
  · rw [← ho1] at pre
    exact pre
  rintro c1 σ1 a1 st1 r1 hdf1 ⟨hn1, hS1, hx1, hT1⟩
  -- the map, where it lies
  have hrm := r1.get x1
  rw [hx1] at hrm
  generalize ham : a1.eval x1 = vm at hrm
  cases hrm with
  | mp _ _ _ hy hN hv =>
  have hb1 : c1.S[τ]? = some ⟨g, false, 0, [[.rmp es]]⟩ := by rw [r1.S, hS1]; exact hb
  obtain ⟨p, hp, rfl⟩ := hv _ hb1 rfl
  have hB := r1.inv.blk τ _ hb1
  rcases hB.heap p hp with ⟨hl, _⟩ | ⟨_, ho⟩
  · have := hl 0 _ rfl
    simp at this
  obtain ⟨es2, arr, ck, hes, hmp, hent⟩ := ObjOk.asMap ho
  simp only [List.cons.injEq, PV.rmp.injEq, and_true] at hes
  subst hes
  obtain ⟨hstm, hmap⟩ := hent
  have hno1 : ¬ c1.Own p.1 := by
    rintro ⟨τ', blk', q, k1, k2, k3, k4⟩
    have := r1.inv.inj τ' τ _ _ q p k1 hb1 k2 k3 hp k4
    subst this
    rw [hb1] at k1
    cases k1
    cases k2
  have hlen : arr.size = es.length := by
    have := congrArg List.length hmap
    simpa using this
  have entry : ∀ {i : Nat} {e : MapEntry}, arr[i]? = some e → ∃ s z, es[i]? = some (s, z) ∧ e.key = .string s ∧ e.val = .int .i64 z := by
    intro i e he
    have := congrArg (fun l => l[i]?) hmap
    simp only [List.getElem?_map, Array.getElem?_toList, he, Option.map_some] at this
    cases hs : es[i]? with
    | none => rw [hs] at this; cases this
    | some q =>
      rw [hs] at this
      simp only [Option.map_some, Option.some.injEq, Prod.mk.injEq] at this
      exact ⟨q.1, q.2, rfl, this.1, this.2⟩
  have hdo1 : dstOk n ⟨some d1, .range t1 x1, ty1, p1, f1, none⟩ = true := e1 _ (by rw [ho1]; simp)
  refine bwp_of_run rfl (by simp [notDefer]) (w' := c1.w.alloc (.mapIter (some p.1) ck #[] ck)) (v := .pointer (some ⟨c1.w.heap.size, 0, none⟩)) (by
    simp only [execOp, ham]
    exact mk_run (run_range_map c1.w t1 kt et p.1 arr ck ht hmp)) ?_
  show Code.wpIn _ _ _ _ _ _ _
  generalize hr0 : c1.w.heap.size = rr at *
  obtain ⟨st2, iv2⟩ := bstep_alloc c1 r1.inv (.mapIter (some p.1) ck #[] ck)
  have J2 : MapJ c rr p.1 arr ck (seenOf arr []) { c1 with w := c1.w.alloc (.mapIter (some p.1) ck #[] ck) } := by
    refine ⟨st1.trans st2, by rw [← hr0]; exact st1.size, by rw [← hr0]; exact World.alloc_heap_new _ _, (Below.heap_alloc _ _ _ (Array.getElem?_eq_some_iff.1 hmp).1).trans hmp, hno1⟩
  have r2 : Rel { c1 with w := c1.w.alloc (.mapIter (some p.1) ck #[] ck) } ⟨n, T rr, S⟩ (a1.put (some d1) (.pointer (some ⟨rr, 0, none⟩))) := by
    have := r1.put (d := some d1) (x := .v (.pointer (some ⟨rr, 0, none⟩))) st2 iv2 (.v _) (fun t h => by rw [hn1]; exact dstOk_lt hdo1 t h)
    refine HoldsB.rel ⟨?_, ?_, ?_⟩ this
    · exact hn1
    · exact hT1 rr
    · show c1.S = S
      rw [r1.S, hS1]
  generalize hc2 : ({ c1 with w := c1.w.alloc (.mapIter (some p.1) ck #[] ck) } : Cx) = c2 at *
  have hw2 : c1.w.alloc (.mapIter (some p.1) ck #[] ck) = c2.w := by rw [← hc2]
  rw [hw2]
  refine wpIn_block ?_
  -- the rounds
  have key : ∀ N I c2 a2, V I → I.Nodup → (∀ i ∈ I, i < es.length) → es.length < N + I.length → MapJ c rr p.1 arr ck (seenOf arr I) c2 → Rel c2 ⟨n, T rr, S⟩ a2 → RoOk c2 ro → Code.roundsIn (FR ro) mm P (.seq (.region i2 ops2 false) (.seq (.cond cnd .skip (.exit b1)) (.block b2 (.seq (.region i3 ops3 false) rest)))) (Exit.inBlock b1 (Post c Q)) N a2 c2.w := by
    intro N
    induction N with
    | zero =>
      intro I c2 a2 hI hnd hlt hN
      exfalso
      have : I.length ≤ es.length := by
        have := List.Nodup.length_le_of_subset (l₁ := I) (l₂ := List.range es.length) hnd (fun i hi => List.mem_range.2 (hlt i hi))
        simpa using this
      omega
    | succ N ih =>
      intro I c2 a2 hI hnd hlt hN J r2 hro2
      rw [roundsIn_succ]
      refine wpIn_seq (wpIn_region_list ?_)
      rw [ho2]
      have hv2 : a2.eval x2 = .pointer (some ⟨rr, 0, none⟩) := by
        have := r2.get x2
        rw [hx2] at this
        generalize a2.eval x2 = v at this
        cases this
        rfl
      have hdo2 : dstOk n ⟨some d2, .next x2 false, ty2, p2, f2, none⟩ = true := e2 _ (by rw [ho2]; simp)
      have nohold : ∀ x ∈ arr.toList, x.born < ck := hstm.1
      have put2 : ∀ (c' : Cx) (x : PV) (v : Value), Rel c' ⟨n, T rr, S⟩ a2 → RelV c' x v → Rel c' ⟨n, (d2, x) :: T rr, S⟩ (a2.put (some d2) v) := by
        intro c' x v r' hx
        have := r'.put (d := some d2) (Step.refl c') r'.inv hx (fun t h => dstOk_lt hdo2 t h)
        rw [r'.S] at this
        exact this
      rcases run_next_at (P := P) c2.w ty2 rr p.1 ck ck (seenOf arr I) arr ck J.it J.mp nohold (Nat.le_refl _) with ⟨hleft, hrun⟩ | ⟨e, he, w1, hw1, hrun⟩
      · refine bwp_of_run rfl (by simp [notDefer]) (w' := c2.w) (v := .tuple #[.bool false]) (by
          simp only [execOp, hv2]
          exact mk_run hrun) ?_
        have r3 := put2 c2 (.tup [.v (.bool false)]) (.tuple #[.bool false]) r2 (relV_tupv [.bool false])
        rw [← List.append_nil rest2]
        refine bpops_pre (l2 := []) rest2 _ c2 _ e2 (fun o' ho' => e2 o' (by rw [ho2]; simp [ho'])) (h2 rr _ false ⟨_, rfl⟩) r3 (fun c4 σ4 a4 st4 r4 hdf4 hk => ?_)
        obtain ⟨hg4, hh4⟩ := hk
        have hr4 := r4.get cnd
        rw [hg4] at hr4
        have hc4 : a4.eval cnd = .bool false := by
          generalize a4.eval cnd = v at hr4
          cases hr4
          rfl
        show Code.wpIn _ _ _ _ _ _ _
        refine wpIn_seq (wpIn_cond_split hc4 (fun h => by cases h) (fun _ => wpIn_exit ?_))
        simp only [Exit.then, Exit.inBlock, if_true]
        have J4 := J.step r2.inv st4
        refine ⟨c4, ⟨n, T rr, S⟩, J4.st, rfl, hh4.rel r4, hdone rr I hI (fun i hi => ?_)⟩
        have hi' : i < arr.size := by rw [hlen]; exact hi
        have hge : arr[i]? = some arr[i] := Array.getElem?_eq_getElem hi'
        have hin : (seenOf arr I).contains arr[i].born = true := by
          cases hcn : (seenOf arr I).contains arr[i].born with
          | true => rfl
          | false =>
            have : arr[i] ∈ leftOf arr (seenOf arr I) := by
              unfold leftOf
              rw [Array.mem_filter]
              exact ⟨Array.getElem_mem hi', by rw [hcn]; rfl⟩
            have hz : leftOf arr (seenOf arr I) = #[] := Array.eq_empty_of_size_eq_zero hleft
            rw [hz] at this
            simp at this
        rw [Array.contains_iff_mem] at hin
        have hin : arr[i].born ∈ I.map (bornAt arr) := by simpa [seenOf] using hin
        obtain ⟨j, hj, hjb⟩ := List.mem_map.1 hin
        have hj' : j < arr.size := by rw [hlen]; exact hlt j hj
        rw [bornAt_get (Array.getElem?_eq_getElem hj')] at hjb
        have : j = i := by
          have hnb := hstm.2.1
          refine (List.getElem?_inj (by simpa using hj') hnb).1 ?_
          simp [hj', hi', hjb]
        rw [← this]
        exact hj
      · -- an entry that is left
        have hem : e ∈ arr ∧ ¬ (seenOf arr I).contains e.born = true := by
          have : e ∈ leftOf arr (seenOf arr I) := by simpa using he
          unfold leftOf at this
          rw [Array.mem_filter] at this
          exact ⟨this.1, by simpa using this.2⟩
        obtain ⟨i, hi, hie⟩ := Array.getElem_of_mem hem.1
        have hge : arr[i]? = some e := by rw [Array.getElem?_eq_getElem hi, hie]
        have hiI : i ∉ I := fun hiI => hem.2 (by
          rw [Array.contains_iff_mem]
          have : e.born ∈ I.map (bornAt arr) := List.mem_map.2 ⟨i, hiI, bornAt_get hge⟩
          simpa [seenOf] using this)
        obtain ⟨s, z, hsz, hks, hvz⟩ := entry hge
        have hpush := seenOf_push arr I hge
        -- the world that is drawn from
        obtain ⟨c3, st3, hw3, r3, hro3⟩ : ∃ c3, Step c2 c3 ∧ c3.w = w1 ∧ Rel c3 ⟨n, T rr, S⟩ a2 ∧ RoOk c3 ro := by
          rcases hw1 with rfl | rfl
          · exact ⟨c2, .refl _, rfl, r2, hro2⟩
          · obtain ⟨c', k1, k2, k3⟩ := r2.drew (c2.w.drawn + 1)
            exact ⟨c', k1, k2, k3, hro2.step r2.inv k1⟩
        have J3 := J.step r2.inv st3
        obtain ⟨r4, hro4, J4⟩ := iter_put (seenOf arr (I ++ [i])) r3 hro3 J3
        refine bwp_of_run rfl (by simp [notDefer]) (w' := setBlock w1 rr (.mapIter (some p.1) ck ((seenOf arr I).push e.born) ck)) (v := .tuple #[.bool true, e.key, e.val]) (by
          simp only [execOp, hv2]
          exact mk_run hrun) ?_
        rw [setBlock_put, ← hpush, ← hw3, hks, hvz]
        generalize hc4 : ({ c3 with w := c3.w.putObj rr (.mapIter (some p.1) ck (seenOf arr (I ++ [i])) ck) } : Cx) = c4 at *
        have hw4 : c3.w.putObj rr (.mapIter (some p.1) ck (seenOf arr (I ++ [i])) ck) = c4.w := by rw [← hc4]
        rw [hw4]
        have r5 := put2 c4 (.tup [.v (.bool true), .v (.string s), .v (.int .i64 z)]) (.tuple #[.bool true, .string s, .int .i64 z]) r4 (relV_tupv [.bool true, .string s, .int .i64 z])
        rw [← List.append_nil rest2]
        refine bpops_pre (l2 := []) rest2 _ c4 _ e2 (fun o' ho' => e2 o' (by rw [ho2]; simp [ho'])) (h2 rr _ true ⟨_, rfl⟩) r5 (fun c5 σ5 a5 st5 r5 hdf5 hk => ?_)
        obtain ⟨hg5, hh5⟩ := hk
        have hr5 := r5.get cnd
        rw [hg5] at hr5
        have hc5 : a5.eval cnd = .bool true := by
          generalize a5.eval cnd = v at hr5
          cases hr5
          rfl
        show Code.wpIn _ _ _ _ _ _ _
        refine wpIn_seq (wpIn_cond_split hc5 (fun _ => wpIn_skip ?_) (fun h => by cases h))
        show Code.wpIn _ _ _ _ _ _ _
        have J5 := J4.step r4.inv st5
        have hro5 := hro4.step r4.inv st5
        have r6 := hh5.rel r5
        refine wpIn_block (wpIn_seq (wpIn_region_list ?_))
        rw [ho3]
        have hv3 : a5.eval x3 = .pointer (some ⟨rr, 0, none⟩) := by
          have := r6.get x3
          rw [hx3] at this
          generalize a5.eval x3 = v at this
          cases this
          rfl
        have hdo3 : dstOk n ⟨some d3, .entry x3, ty3, p3, f3, none⟩ = true := e3 _ (by rw [ho3]; simp)
        have hent := run_entry_at (P := P) c5.w rr p.1 ck (seenOf arr I) arr ck e (by rw [← hpush]; exact J5.it) J5.mp (by simpa using hem.1) hstm.2.1
        refine bwp_of_run rfl (by simp [notDefer]) (w' := c5.w) (v := .tuple #[e.key, e.val]) (by
          simp only [execOp, hv3]
          exact mk_run hent) ?_
        rw [hks, hvz]
        have r7 : Rel c5 ⟨n, (d3, .tup [.v (.string s), .v (.int .i64 z)]) :: T rr, S⟩ (a5.put (some d3) (.tuple #[.string s, .int .i64 z])) := by
          have := r6.put (d := some d3) (Step.refl c5) r6.inv (relV_tupv [.string s, .int .i64 z]) (fun t h => dstOk_lt hdo3 t h)
          rw [r6.S] at this
          exact this
        rw [← List.append_nil rest3]
        refine bpops_pre (l2 := []) rest3 _ c5 _ e3 (fun o' ho' => e3 o' (by rw [ho3]; simp [ho'])) (h3 rr s z) r7 (fun c6 σ6 a6 st6 r6' hdf6 hk => ?_)
        show Code.wpIn _ _ _ _ _ _ _
        have J6 := J5.step r6.inv st6
        have hro6 := hro5.step r6.inv st6
        have r8 := hk.rel r6'
        refine wpIn_mono (hrest rr I i s z hsz hiI hI ro mm c6 a6 r8 hro6) ?_
        rintro ex a7 w7 ⟨c7, σ7, st7, rfl, r9, hq⟩
        have J7 := J6.step r8.inv st7
        have hro7 := hro6.step r8.inv st7
        have goOn : V (I ++ [i]) ∧ Holds σ7 n (T rr) S → Code.roundsIn (FR ro) mm P (.seq (.region i2 ops2 false) (.seq (.cond cnd .skip (.exit b1)) (.block b2 (.seq (.region i3 ops3 false) rest)))) (Exit.inBlock b1 (Post c Q)) N a7 c7.w := by
          rintro ⟨hV7, hH7⟩
          obtain ⟨c8, st8, hw8, r10⟩ := holds_rel hH7 r9
          rw [← hw8]
          refine ih (I ++ [i]) c8 a7 hV7 ?_ ?_ (by rw [List.length_append, List.length_singleton]; omega) (J7.step r9.inv st8) r10 (hro7.step r9.inv st8)
          · rw [List.nodup_append]
            exact ⟨hnd, by simp, by intro x hx y hy h; simp at hy; subst hy; subst h; exact hiI hx⟩
          · intro j hj
            rcases List.mem_append.1 hj with hj | hj
            · exact hlt j hj
            · simp at hj
              subst hj
              rw [← hlen]
              exact hi
        cases ex with
        | normal => exact goOn hq
        | exit id =>
          by_cases hid : id = b2
          · subst hid
            simp only [inBlk, if_true, behind] at hq
            simp only [Exit.then, Exit.inBlock, if_true]
            exact goOn hq
          · simp only [inBlk, if_neg hid, behind] at hq
            simp only [Exit.then, Exit.inBlock, if_neg hid]
            by_cases hid2 : id = b1
            · subst hid2
              simp only [if_true] at hq ⊢
              exact ⟨c7, σ7, J7.st, rfl, r9, hq⟩
            · simp only [if_neg hid2] at hq ⊢
              exact ⟨c7, σ7, J7.st, rfl, r9, hq⟩
        | goto l => exact ⟨c7, σ7, J7.st, rfl, r9, hq⟩
        | ret => exact ⟨c7, σ7, J7.st, rfl, r9, hq⟩
        | panic ch => exact ⟨c7, σ7, J7.st, rfl, r9, hq⟩
        | outgrown => exact ⟨c7, σ7, J7.st, rfl, r9, hq⟩
  exact wpIn_loop_rounds (es.length + 1) (key (es.length + 1) [] c2 _ hV List.nodup_nil (by simp) (by simp) J2 r2 (hro.step r.inv J2.st))
theorem kmr {P : Program} {i1 i2 i3 b1 b2 : Nat} {ops1 ops2 ops3 : Array Oper} {rest : Code} {cnd : Operand} {n : Nat} {tm : List (Nat × PV)} {S : List Blk} {l : List Code} {Q : Exit → PS → Prop}
    (m1 : Nat) {d1 d2 d3 : Tmp} {x1 x2 x3 : Operand} {t1 ty1 ty2 ty3 : TypeId} {p1 p2 p3 : String} {f1 f2 f3 : Array Edge} {rest2 rest3 : List Oper} {kt et : TypeId} {τ g : Nat} {es : List (ByteArray × Int)} (T : Nat → List (Nat × PV)) (T3 : Nat → ByteArray → List (Nat × PV)) (V : List Nat → Prop) [ht : Und P t1 (.map kt et)]
    (h1 : Pops P ops1.toList (fun σ1 => σ1.n = n ∧ σ1.S = S ∧ σ1.get x1 = .mp τ g ∧ ∀ r, Has ((d1, .v (.pointer (some ⟨r, 0, none⟩))) :: σ1.tm) (T r)) (ops1.toList.take m1) ⟨n, tm, S⟩)
    (h2 : ∀ r x b, (∃ y, x = .tup (.v (.bool b) :: y)) → Pops P ops2.toList (fun σ' => σ'.get cnd = .v (.bool b) ∧ HoldsB σ' n (T r) S) rest2 ⟨n, (d2, x) :: T r, S⟩)
    (h3 : ∀ r s z, Pops P ops3.toList (fun σ' => HoldsB σ' n (T3 r s) S) rest3 ⟨n, (d3, .tup [.v (.string s), .v (.int .i64 z)]) :: T r, S⟩)
    (hV : V [])
    (hrest : ∀ r I i s z, es[i]? = some (s, z) → i ∉ I → V I → Tk P [rest] ⟨n, T3 r s, S⟩ (inBlk b2 (behind (fun σ' => V (I ++ [i]) ∧ Holds σ' n (T r) S) (inBlk b1 (behind (fun σ' => Tk P l σ' Q) Q)))))
    (hdone : ∀ r I, V I → (∀ i, i < es.length → i ∈ I) → Tk P l ⟨n, T r, S⟩ Q)
    (ho1 : ops1.toList = ops1.toList.take m1 ++ [⟨some d1, .range t1 x1, ty1, p1, f1, none⟩] := by rfl) (ho2 : ops2.toList = ⟨some d2, .next x2 false, ty2, p2, f2, none⟩ :: rest2 := by rfl) (ho3 : ops3.toList = ⟨some d3, .entry x3, ty3, p3, f3, none⟩ :: rest3 := by rfl)
    (hb : S[τ]? = some ⟨g, false, 0, [[.rmp es]]⟩ := by rfl)
    (hx2 : ∀ r, PS.get ⟨n, T r, S⟩ x2 = .v (.pointer (some ⟨r, 0, none⟩)) := by intro r; rfl) (hx3 : ∀ r, PS.get ⟨n, T r, S⟩ x3 = .v (.pointer (some ⟨r, 0, none⟩)) := by intro r; rfl)
    (hd1 : ops1.toList.all (dstOk n) = true := by kernel_rfl) (hd2 : ops2.toList.all (dstOk n) = true := by kernel_rfl) (hd3 : ops3.toList.all (dstOk n) = true := by kernel_rfl) :
    Tk P (.seq (.region i1 ops1 false) (.block b1 (.loop (.seq (.region i2 ops2 false) (.seq (.cond cnd .skip (.exit b1)) (.block b2 (.seq (.region i3 ops3 false) rest)))))) :: l) ⟨n, tm, S⟩ Q :=
  tr_mapRange m1 T T3 V hd1 hd2 hd3 ho1 ho2 ho3 ht.h hb h1 hx2 hx3 h2 h3 hV (fun r I i s z a b c => tk_start (hrest r I i s z a b c)) hdone
end Go.Proofs.YtenoecffjfcifaaDoor.Pv
