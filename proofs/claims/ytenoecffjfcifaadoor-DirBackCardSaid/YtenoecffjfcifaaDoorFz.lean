-- Slices of one's own that are no longer written, read as slices that are only read.
import Derived.Test.YtenoecffjfcifaaDoorPvT
namespace Go.Proofs.YtenoecffjfcifaaDoor.Pv
set_option linter.all false
open Go.RowKit Go.Proofs
theorem Lend.frel {c : Cx} (hi : Inv c) {T : List Nat} {x y : PV} (h : Lend c.S T x y) (hT : ∀ τ ∈ T, ∀ blk, c.S[τ]? = some blk → blk.own = false) {v : Value} (hr : RelV c x v) : RelV c y v := by
  refine (h.rel hi hr).pure h.pure (fun b hb hX => ?_) (fun _ _ _ h => h) (fun _ _ _ _ h => h)
  refine hb (.inl ⟨hX, ?_⟩)
  rintro ⟨τ, p, blk, h1, h2, h3, h4⟩
  rcases hX with hg | ⟨τ', blk', p', g1, g2, g3, g4⟩
  · exact hi.notG τ blk p h2 h3 (h4 ▸ hg)
  · have e := hi.inj τ' τ blk' blk p' p g1 h2 g2 g3 h3 (g4.trans h4.symm)
    subst e
    rw [g1] at h2
    cases h2
    rw [hT τ' h1 _ g1] at g2
    cases g2
theorem Rel.fzT {c : Cx} {n : Nat} {tm : List (Nat × PV)} {S : List Blk} {a : Act} (r : Rel c ⟨n, tm, S⟩ a) (t : Nat) {x y : PV} (T : List Nat) (ht : look t tm = x) (h : Lend S T x y) (hT : ∀ τ ∈ T, ∀ blk, S[τ]? = some blk → blk.own = false) : Rel c ⟨n, (t, y) :: tm, S⟩ a := by
  have hS : c.S = S := r.S
  refine ⟨r.S, r.inv, r.n, r.defers, fun s => ?_⟩
  simp only [look]
  split
  · rename_i e
    subst e
    have := r.tm s
    simp only [ht] at this
    exact (hS ▸ h : Lend c.S T x y).frel r.inv (by rw [hS]; exact hT) this
  · exact r.tm s
theorem Rel.freeze {c : Cx} {n : Nat} {tm : List (Nat × PV)} {S : List Blk} {a : Act} (r : Rel c ⟨n, tm, S⟩ a) {τ : Nat} {blk : Blk} (hb : S[τ]? = some blk) : ∃ c', Step c c' ∧ c'.w = c.w ∧ Rel c' ⟨n, tm, S.set τ { blk with own := false }⟩ a := by
  have hb' : c.S[τ]? = some blk := by rw [r.S]; exact hb
  obtain ⟨h1, h2⟩ := freezeBlk r.inv hb'
  exact ⟨{ c with S := c.S.set τ { blk with own := false } }, h2, rfl, by simp only [r.S], h1, r.n, r.defers, fun t => (r.tm t).step h2⟩
section
variable {P : Program} {ops : List Oper} {Q : PS → Prop} {rest : List Oper} {n : Nat} {tm : List (Nat × PV)} {S S' : List Blk} {d : Option Tmp} {ty : TypeId} {pos : String} {af : Array Edge}
theorem pop_fz {o : Oper} {σ : PS} {K : PV → List Blk → Prop} {x y : PV} (T : List Nat) (hp : PopSem P σ o fun x' S' => x' = x ∧ S' = σ.S) (h : Lend σ.S T x y) (hT : ∀ τ ∈ T, ∀ blk, σ.S[τ]? = some blk → blk.own = false) (hK : K y σ.S) : PopSem P σ o K := by
  intro c a r next Q hn
  refine hp c a r next Q fun x' c' v k hi hs hv => ?_
  obtain ⟨rfl, k2⟩ := k
  exact hn y c' v (by rw [k2]; exact hK) hi hs ((k2 ▸ h : Lend c'.S T x' y).frel hi (by rw [k2]; exact hT) hv)
/-- What is built of slices that are frozen or empty: told as read-only ones. -/
theorem ps_evf {op : Op} {d : Tmp} {x y : PV} (T : List Nat) (k : Pops P ops Q rest ⟨n, (d, y) :: tm, S⟩) (h : Lend S T x y) (hT : ∀ τ ∈ T, ∀ blk, S[τ]? = some blk → blk.own = false) (he : ev P ⟨n, tm, S⟩ op = some x) : Pops P ops Q (⟨some d, op, ty, pos, af, none⟩ :: rest) ⟨n, tm, S⟩ :=
  pops_one rfl (pop_fz T (pop_ev he ⟨rfl, rfl⟩) h hT k)
/-- What is built of slices that are frozen or empty: told as read-only ones. -/
theorem ps_bldf {d : Tmp} {t : TypeId} {l : List (Nat × Nat)} {zr cs ds : List PV} {parts : Array (Nat × Operand)} {ps : List (Nat × PV)} [hl : Lay P t l] [hz : Zer P t zr] (T : List Nat) (k : Pops P ops Q rest ⟨n, (d, .agg ds) :: tm, S⟩) (h : Lends S T cs ds) (hT : ∀ τ ∈ T, ∀ blk, S[τ]? = some blk → blk.own = false := by simp)
    (hp : (parts.toList.map fun p => (p.1, PS.get ⟨n, tm, S⟩ p.2)) = ps := by first | (simp only [List.map_cons, List.map_nil, PS.get, look, ofValue, ↓reduceIte, Nat.reduceEqDiff, reduceCtorEq]; exact rfl) | rfl) (hb : fillPV (fun i => l[i]?) zr ps = some cs := by rfl) : Pops P ops Q (⟨some d, .build t parts, ty, pos, af, none⟩ :: rest) ⟨n, tm, S⟩ := by
  refine ps_evf T k (.agg h.get.1 h.get.2) hT ?_
  simp only [ev, hp]
  exact build_lay hl.h hz.h hb
/-- A literal slice that is never written: a read-only one at once. -/
theorem pop_litf {o : Oper} {σ : PS} {K : PV → List Blk → Prop} {sz len : Nat} {rows : List (List PV)} (hp : PopSem P σ o fun x' S' => ∃ g, x' = .vw σ.S.length g 0 len ∧ S' = σ.S ++ [⟨g, true, sz, rows⟩]) (hl : rows.length = len) (hpure : ∀ row ∈ rows, ∀ x ∈ row, PV.Pure x) (hK : ∀ g, K (.ro sz false rows) (σ.S ++ [⟨g, false, sz, rows⟩])) : PopSem P σ o K := by
  intro c a r next Q hn
  refine hp c a r next Q fun x' c' v k hi hs hv => ?_
  obtain ⟨g, rfl, k2⟩ := k
  have hb : c'.S[σ.S.length]? = some ⟨g, true, sz, rows⟩ := by rw [k2, List.getElem?_append_right (Nat.le_refl _), Nat.sub_self]; rfl
  obtain ⟨h1, h2⟩ := freezeBlk hi hb
  have e : c'.S.set σ.S.length ⟨g, false, sz, rows⟩ = σ.S ++ [⟨g, false, sz, rows⟩] := by
    rw [k2, List.set_append_right _ _ (Nat.le_refl _), Nat.sub_self]; rfl
  have hb2 : (c'.S.set σ.S.length ⟨g, false, sz, rows⟩)[σ.S.length]? = some ⟨g, false, sz, rows⟩ := by
    rw [e, List.getElem?_append_right (Nat.le_refl _), Nat.sub_self]; rfl
  refine hn (.ro sz false rows) { c' with S := c'.S.set σ.S.length ⟨g, false, sz, rows⟩ } v (by show K _ (c'.S.set σ.S.length _); rw [e]; exact hK g) h1 (hs.trans h2) ?_
  refine Lend.frel h1 (T := [σ.S.length]) (.vw (by simp) hb2 rfl (by rw [List.drop_zero, ← hl, List.take_length]) hpure) ?_ (hv.step h2)
  intro t ht b hb'
  simp only [List.mem_singleton] at ht
  subst ht
  have := hb2.symm.trans hb'
  cases this
  rfl
theorem ps_litf {d : Tmp} {t e : TypeId} {len sz : Nat} {parts : Array (Nat × Operand)} {ps : List (Nat × PV)} {zr : List PV} {bb : Bool} {rows : List (List PV)} {S' : Nat → List Blk} [ht : Und P t (.slice e)] [hz : Zer P e zr] [hk : AggT P e bb] [hc : Cel P e sz] (k : ∀ g, Pops P ops Q rest ⟨n, (d, .ro sz false rows) :: tm, S' g⟩)
    (hpure : ∀ row ∈ rows, ∀ x ∈ row, PV.Pure x) (hsz : sz = zr.length := by rfl) (hpos : 0 < zr.length := by decide) (hb : len * zr.length ≤ 16777216 := by decide) (hl : rows.length = len := by rfl) (hp : (parts.toList.map fun p => (p.1, PS.get ⟨n, tm, S⟩ p.2)) = ps := by first | (simp only [List.map_cons, List.map_nil, PS.get, look, ofValue, ↓reduceIte, Nat.reduceEqDiff, reduceCtorEq]; exact rfl) | rfl) (hf : fillRows sz (List.replicate len zr) ps = some rows := by exact rfl) (hS : ∀ g, S ++ [⟨g, false, sz, rows⟩] = S' g := by intro g_; first | (simp only [List.cons_append, List.nil_append]; exact rfl) | exact rfl) :
    Pops P ops Q (⟨some d, .buildSlice t len parts, ty, pos, af, none⟩ :: rest) ⟨n, tm, S⟩ := by
  subst hp hsz
  exact pops_one rfl (pop_litf (pop_lit rfl ht.h hz.h hk.h.2 hc.h hpos hb hf fun g => ⟨g, rfl, rfl⟩) hl hpure fun g => by rw [hS g]; exact k g)
theorem lit_run {o : Oper} {σ : PS} {t e : TypeId} {len : Nat} {parts : Array (Nat × Operand)} {zr : List PV} {rows : List (List PV)} (ho : o.op = .buildSlice t len parts) (ht : P.underlying t = some (.slice e)) (hz : zeroRow P e = some zr) (hk : known P e = true) (hsz : P.cellsOf e = zr.length) (hpos : 0 < zr.length)
    (hb : len * zr.length ≤ 16777216) (hf : fillRows zr.length (List.replicate len zr) (parts.toList.map fun p => (p.1, σ.get p.2)) = some rows) (c : Cx) (a : Act) (r : Rel c σ a) : ∃ c', (execOp a.eval o).run P c.w = .ok (.value (.slice (some ⟨c.w.heap.size, 0, none⟩) len len)) c'.w ∧ c'.S = c.S ++ [⟨c.N, true, zr.length, rows⟩] ∧ Inv c' ∧ Step c c' ∧ RelV c' (.vw c.S.length c.N 0 len) (.slice (some ⟨c.w.heap.size, 0, none⟩) len len) := by
  obtain ⟨z, h1, h2, _⟩ := zeroRow_run hz c
  obtain ⟨d, hd⟩ := Option.isSome_iff_exists.1 hk
  have hrl : ∀ (i : Nat) (row : List PV), (List.replicate len zr)[i]? = some row → row.length = zr.length := by
    intro i row hr
    rw [List.getElem?_replicate] at hr
    split at hr
    · cases hr; rfl
    · cases hr
  obtain ⟨f1, f2, f3⟩ := fillRows_flat _ _ _ hrl hf
  rw [List.length_replicate] at f3
  have hzc : (if len * zr.length = 0 then #[] else z.cells).size = (if len * zr.length = 0 then 0 else zr.length) := by split <;> simp [h2.1]
  obtain ⟨out, g1, g2⟩ := fillPV_rel (c := c) (place := fun i => some (i * zr.length, zr.length)) (parts.toList.map fun p => (p.1, σ.get p.2)) (parts.toList.map fun p => (p.1, a.eval p.2)) _ (madeCells z.cells (len * zr.length)) _ f1 (madeCells_rel h2 len hpos) (by simp) (fun j p v hp hv => by
    rw [List.getElem?_map] at hp hv
    obtain ⟨q, hq, rfl⟩ := Option.map_eq_some_iff.1 hp
    rw [hq] at hv
    cases hv
    exact ⟨rfl, r.get q.2⟩)
  have hos : out.size = len * zr.length := by rw [g2.1, flatten_length rows f2, f3]
  have hbig : len ≤ maxLen := by
    have : len * 1 ≤ len * zr.length := Nat.mul_le_mul_left _ hpos
    simp only [maxLen]
    omega
  obtain ⟨c', e1, e2, e3, e4, e5⟩ := newRows r.inv e f2 g2 len (by rw [hos]; exact Nat.le_refl _) (by omega) hbig
  refine ⟨c', ?_, e2, e3, e4, by rw [f3] at e5; exact e5⟩
  simp only [execOp, ho]
  refine mk_run ?_
  unfold Instr.buildSlice
  have hnb : ¬ len * zr.length > 2 ^ 24 := by omega
  simp only [Sem.run_bind, run_underlying ht, Result.andThen_ok, sizeOf_run hd, hsz]
  rw [if_neg hnb]
  have hcells : ((Array.range (len * zr.length)).map (fun x => (if len * zr.length = 0 then #[] else z.cells)[x % (if len * zr.length = 0 then #[] else z.cells).size]!)) = madeCells z.cells (len * zr.length) := by
    unfold madeCells
    split
    · rename_i h0; rw [h0]; simp
    · rfl
  have hparts : parts.map (fun (x : Nat × Operand) => (x.1, a.eval x.2)) = (parts.toList.map fun p => (p.1, a.eval p.2)).toArray := by
    apply Array.ext'
    simp
  by_cases h0 : len * zr.length = 0
  · rw [if_pos h0] at hcells ⊢
    simp only [Sem.run_bind, Sem.run_pure, Result.andThen_ok]
    have : Instr.fill (fun i => some (i * zr.length, zr.length)) ((Array.range (len * zr.length)).map (fun x => (#[] : Array Value)[x % (#[] : Array Value).size]!)) (parts.map (fun (x : Nat × Operand) => (x.1, a.eval x.2))).toList = some out := by
      rw [hcells, hparts]; exact g1
    rw [this]
    simp only [newRow, Sem.run_bind, run_newObj, Result.andThen_ok, Sem.run_pure, e1]
    rfl
  · rw [if_neg h0] at hcells ⊢
    simp only [Sem.run_bind, Sem.run_pure, Result.andThen_ok, h1]
    have : Instr.fill (fun i => some (i * zr.length, zr.length)) ((Array.range (len * zr.length)).map (fun x => z.cells[x % z.cells.size]!)) (parts.map (fun (x : Nat × Operand) => (x.1, a.eval x.2))).toList = some out := by
      rw [hcells, hparts]; exact g1
    rw [this]
    simp only [newRow, Sem.run_bind, run_newObj, Result.andThen_ok, Sem.run_pure, e1]
    rfl
theorem ro_full {c : Cx} {sz : Nat} {rows : List (List PV)} {a : Option Addr} {len : Nat} (h : RelV c (.ro sz false rows) (.slice a len len)) : RelV c (.ro sz true rows) (.slice a len len) := by
  cases h with
  | ro _ _ _ _ _ vals hcap hmax hfull hnone hlen hcell hpure hrel => exact .ro sz true rows a _ vals hcap hmax (fun _ => rfl) hnone hlen hcell hpure hrel
theorem pop_litff {o : Oper} {σ : PS} {K : PV → List Blk → Prop} {t e : TypeId} {len : Nat} {parts : Array (Nat × Operand)} {zr : List PV} {rows : List (List PV)} (ho : o.op = .buildSlice t len parts) (ht : P.underlying t = some (.slice e)) (hz : zeroRow P e = some zr) (hk : known P e = true) (hsz : P.cellsOf e = zr.length) (hpos : 0 < zr.length)
    (hb : len * zr.length ≤ 16777216) (hf : fillRows zr.length (List.replicate len zr) (parts.toList.map fun p => (p.1, σ.get p.2)) = some rows) (hl : rows.length = len) (hpure : ∀ row ∈ rows, ∀ x ∈ row, PV.Pure x) (hK : ∀ g, K (.ro zr.length true rows) (σ.S ++ [⟨g, false, zr.length, rows⟩])) : PopSem P σ o K :=
  pop_of_run fun c a r => by
    obtain ⟨c', h0, k2, hi, hs, hv⟩ := lit_run ho ht hz hk hsz hpos hb hf c a r
    rw [r.S] at k2 hv
    have hb : c'.S[σ.S.length]? = some ⟨c.N, true, zr.length, rows⟩ := by rw [k2, List.getElem?_append_right (Nat.le_refl _), Nat.sub_self]; rfl
    obtain ⟨h1, h2⟩ := freezeBlk hi hb
    have e : c'.S.set σ.S.length ⟨c.N, false, zr.length, rows⟩ = σ.S ++ [⟨c.N, false, zr.length, rows⟩] := by
      rw [k2, List.set_append_right _ _ (Nat.le_refl _), Nat.sub_self]; rfl
    have hb2 : (c'.S.set σ.S.length ⟨c.N, false, zr.length, rows⟩)[σ.S.length]? = some ⟨c.N, false, zr.length, rows⟩ := by
      rw [e, List.getElem?_append_right (Nat.le_refl _), Nat.sub_self]; rfl
    refine ⟨.ro zr.length true rows, { c' with S := c'.S.set σ.S.length ⟨c.N, false, zr.length, rows⟩ }, _, h0, by show K _ (c'.S.set σ.S.length _); rw [e]; exact hK _, h1, hs.trans h2, ?_⟩
    have key : RelV { c' with S := c'.S.set σ.S.length ⟨c.N, false, zr.length, rows⟩ } (.ro zr.length false rows) (.slice (some ⟨c.w.heap.size, 0, none⟩) len len) := by
      refine Lend.frel h1 (T := [σ.S.length]) (.vw (by simp) hb2 rfl (by rw [List.drop_zero, ← hl, List.take_length]) hpure) ?_ (hv.step h2)
      intro t ht b hb'
      simp only [List.mem_singleton] at ht
      subst ht
      have := hb2.symm.trans hb'
      cases this
      rfl
    exact ro_full key
theorem ps_litff {d : Tmp} {t e : TypeId} {len sz : Nat} {parts : Array (Nat × Operand)} {ps : List (Nat × PV)} {zr : List PV} {bb : Bool} {rows : List (List PV)} {S' : Nat → List Blk} [ht : Und P t (.slice e)] [hz : Zer P e zr] [hk : AggT P e bb] [hc : Cel P e sz] (k : ∀ g, Pops P ops Q rest ⟨n, (d, .ro sz true rows) :: tm, S' g⟩)
    (hpure : ∀ row ∈ rows, ∀ x ∈ row, PV.Pure x) (hsz : sz = zr.length := by rfl) (hpos : 0 < zr.length := by decide) (hb : len * zr.length ≤ 16777216 := by decide) (hl : rows.length = len := by rfl) (hp : (parts.toList.map fun p => (p.1, PS.get ⟨n, tm, S⟩ p.2)) = ps := by first | (simp only [List.map_cons, List.map_nil, PS.get, look, ofValue, ↓reduceIte, Nat.reduceEqDiff, reduceCtorEq]; exact rfl) | rfl) (hf : fillRows sz (List.replicate len zr) ps = some rows := by exact rfl) (hS : ∀ g, S ++ [⟨g, false, sz, rows⟩] = S' g := by intro g_; first | (simp only [List.cons_append, List.nil_append]; exact rfl) | exact rfl) :
    Pops P ops Q (⟨some d, .buildSlice t len parts, ty, pos, af, none⟩ :: rest) ⟨n, tm, S⟩ := by
  subst hp hsz
  exact pops_one rfl (pop_litff rfl ht.h hz.h hk.h.2 hc.h hpos hb hf hl hpure fun g => by rw [hS g]; exact k g)
theorem kfzT {c : Code} {l : List Code} {Q : Exit → PS → Prop} (t : Nat) (T : List Nat) {x y : PV} (k : Tk P (c :: l) ⟨n, (t, y) :: tm, S⟩ Q) (h : Lend S T x y) (hT : ∀ τ ∈ T, ∀ blk, S[τ]? = some blk → blk.own = false) (ht : look t tm = x := by ((conv => lhs; whnf) <;> exact rfl)) : Tk P (c :: l) ⟨n, tm, S⟩ Q :=
  tr_rel (T := fun g => ⟨n, (t, y) :: tm, S⟩) (fun c a r => ⟨c, Step.refl c, rfl, r.fzT t T ht h hT⟩) (fun g => k)
theorem kfreeze {c : Code} {l : List Code} {Q : Exit → PS → Prop} (τ : Nat) {blk : Blk} (k : Tk P (c :: l) ⟨n, tm, S'⟩ Q) (hb : S[τ]? = some blk := by ((conv => lhs; whnf) <;> fail "no")) (hS : S.set τ { blk with own := false } = S' := by first | (simp only [List.set_cons_zero, List.set_cons_succ]; exact rfl) | exact rfl) : Tk P (c :: l) ⟨n, tm, S⟩ Q := by
  subst hS
  exact tr_rel (T := fun g => ⟨n, tm, S.set τ { blk with own := false }⟩) (fun c a r => r.freeze hb) (fun g => k)
/-- A guarded operation that is done, walked as one without a guard. -/
theorem ps_ug {op : Op} {j : Nat} {w : Bool} {σ : PS} (k : Pops P ops Q (⟨d, op, ty, pos, af, none⟩ :: rest) σ) (hg : guardPV ops σ j w = some w := by ((conv => lhs; whnf) <;> fail "no")) : Pops P ops Q (⟨d, op, ty, pos, af, some (j, w)⟩ :: rest) σ := by
  refine ps_guard rfl hg ?_
  intro c a r next Q' hn
  exact k c a r next Q' hn
end
end Go.Proofs.YtenoecffjfcifaaDoor.Pv
