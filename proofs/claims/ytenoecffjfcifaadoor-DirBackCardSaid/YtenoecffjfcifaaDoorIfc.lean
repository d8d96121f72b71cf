-- Interface values; the mark that a conversion leaves; append of zeros; a slice's block cut.
import Derived.Test.YtenoecffjfcifaaDoorFz
import Derived.Lib.AppendZeros
namespace Go.Proofs.YtenoecffjfcifaaDoor.Pv
set_option linter.all false
open Go.RowKit Go.Proofs
set_option maxRecDepth 100000
def noIface (P : Program) (t : TypeId) : Bool := match P.underlying t with
  | some (.interface _) => false
  | some _ => true
  | none => false
theorem mkIface_run {P : Program} {t : TypeId} {v : Value} (h : noIface P t = true) (w : World) : (Instr.makeInterface t v).run P w = .ok (.iface t v) w := by
  unfold noIface at h
  cases hu : P.underlying t with
  | none => rw [hu] at h; cases h
  | some d =>
    rw [hu] at h
    unfold Instr.makeInterface
    rw [Sem.run_bind, run_underlying hu]
    cases d <;> first | (cases h; done) | rfl
theorem pop_mki {P : Program} {σ : PS} {o : Oper} {K : PV → List Blk → Prop} {t : TypeId} {x : Operand} (ho : o.op = .makeInterface t x) (h : noIface P t = true) (hK : K (.iface t (σ.get x)) σ.S) : PopSem P σ o K :=
  pop_of_run fun c a r => by
    refine ⟨_, c, .iface t (a.eval x), ?_, by rw [r.S]; exact hK, r.inv, .refl c, .iface _ _ _ (r.get x)⟩
    simp only [execOp, ho]
    exact mk_run (mkIface_run h c.w)
theorem ifnil_run {P : Program} {t : TypeId} {op : BinOp} {x : Value} {b : Bool} {v : Value} {ms : Array (String × TypeId)} (w : World) (ht : P.underlying t = some (.interface ms)) (X : Operand)
    (hx : (x = .nilIface ∧ b = true) ∨ ∃ u y, x = .iface u y ∧ b = false) (hv : nilBin op b = some v) :
    (do eqGuard op t X (.const .nilIface) x .nilIface; binOp op t x .nilIface : Sem Value).run P w = .ok v w := by
  rcases hx with ⟨rfl, rfl⟩ | ⟨u, y, rfl, rfl⟩
  · have hg : ((eqGuard op t X (.const .nilIface) .nilIface .nilIface).run P w) = .ok () w := by unfold eqGuard; cases op <;> first | rfl | (cases X <;> rfl)
    rw [Sem.run_bind, hg]
    show (binOp op t .nilIface .nilIface).run P w = .ok v w
    cases op <;> simp [nilBin] at hv <;> subst hv <;> (first | refine eql_run (b := _) rfl ?_ | refine neq_run' (b := true) rfl ?_ rfl) <;> refine equal_run fun d => ?_ <;> unfold Op.equalIn <;> rw [Sem.run_bind, run_underlying ht] <;> rfl
  · have hg : ((eqGuard op t X (.const .nilIface) (.iface u y) .nilIface).run P w) = .ok () w := by unfold eqGuard; cases op <;> rfl
    rw [Sem.run_bind, hg]
    show (binOp op t (.iface u y) .nilIface).run P w = .ok v w
    cases op <;> simp [nilBin] at hv <;> subst hv <;> (first | refine eql_run (b := _) rfl ?_ | refine neq_run' (b := false) rfl ?_ rfl) <;> refine equal_run fun d => ?_ <;> unfold Op.equalIn <;> rw [Sem.run_bind, run_underlying ht] <;> rfl
def ifNil : PV → Option Bool
  | .v .nilIface => some true
  | .iface _ _ => some false
  | _ => none
theorem ifNil_rel {c : Cx} {x : PV} {b : Bool} {v : Value} (h : ifNil x = some b) (hr : RelV c x v) : (v = .nilIface ∧ b = true) ∨ ∃ u y, v = .iface u y ∧ b = false := by
  unfold ifNil at h
  split at h
  · cases h; cases hr; exact .inl ⟨rfl, rfl⟩
  · cases h; cases hr; exact .inr ⟨_, _, rfl, rfl⟩
  · cases h
theorem pop_ifn {P : Program} {σ : PS} {o : Oper} {K : PV → List Blk → Prop} {t t' : TypeId} {op : BinOp} {x : Operand} {b : Bool} {v : Value} {ms : Array (String × TypeId)} (ho : o.op = .binOp op t x (.const .nilIface) t') (ht : P.underlying t = some (.interface ms))
    (hx : ifNil (σ.get x) = some b) (hv : nilBin op b = some v) (hK : K (.v v) σ.S) : PopSem P σ o K :=
  pop_of_run fun c a r => by
    refine ⟨.v v, c, v, ?_, by rw [r.S]; exact hK, r.inv, .refl c, .v _⟩
    simp only [execOp, ho]
    exact mk_run (ifnil_run c.w ht x (ifNil_rel hx (r.get x)) hv)
class IfaceT (P : Program) (t : TypeId) : Prop where
  h : ∃ ms, P.underlying t = some (.interface ms)
theorem ifaceT {P : Program} {t : TypeId} (h : (match P.underlying t with | some (.interface _) => true | _ => false) = true) : IfaceT P t := ⟨by
  split at h
  · rename_i ms e; exact ⟨ms, e⟩
  · cases h⟩
/-- A conversion of a slice to its own type leaves a mark behind its block's cells. -/
theorem pop_cvs {P : Program} {σ : PS} {o : Oper} {K : PV → List Blk → Prop} {t e : TypeId} {x : Operand} {τ g off len : Nat} {blk : Blk} (ho : o.op = .convert t t x) (ht : P.underlying t = some (.slice e)) (he : P.underlying e = some (.int .u8))
    (hx : σ.get x = .vw τ g off len) (hb : σ.S[τ]? = some blk) (hg : blk.gen = g) (hown : blk.own = true) (hpos : 0 < len) (hK : K (.vw τ g off len) σ.S) : PopSem P σ o K :=
  pop_of_run fun c a r => by
    have h1 := r.get x
    rw [hx] at h1
    generalize hax : a.eval x = vx at h1
    rw [← r.S] at hb hK
    have hB := r.inv.blk τ blk hb
    cases h1 with
    | vw _ _ _ _ _ hy hN hv =>
      have hvo := hv blk hb hg
      obtain ⟨q1, ad, cap, rfl, q2, q3, q4⟩ := hv blk hb hg
      rcases q4 with ⟨p, hp, rfl, cs, e0, fz, hc, hsz⟩ | ⟨h0, _⟩
      · obtain ⟨hBl, cs', e', fz', k1, k2, k3, k4⟩ := (hB.heap p hp).cells ⟨cs, e0, fz, hc⟩
        rw [hc] at k1
        cases k1
        have hlt : p.1 < c.w.heap.size := (Array.getElem?_eq_some_iff.1 hc).1
        have hshape : c.w.shape? p.1 = some (e0, cs.size) := by simp [World.shape?, hc]
        let w' : World := c.w.freeze ⟨p.1, cs.size, none⟩ 1
        have hw'sz : w'.heap.size = c.w.heap.size := by simp [w', World.freeze]
        obtain ⟨fz2, hnew, hfz2⟩ : ∃ fz2, w'.heap[p.1]? = some (.cells cs e0 fz2) ∧ FzFree fz2 cs.size := by
          obtain ⟨lo, hi⟩ := fz
          refine ⟨if lo == hi then (cs.size, cs.size + 1) else (min lo cs.size, max hi (cs.size + 1)), ?_, ?_⟩
          · simp only [w', World.freeze, Nat.one_ne_zero, if_false]
            rw [Array.getElem?_modify, if_pos rfl, hc]
            rfl
          · have h4 := k4 hown
            split
            · exact .inr (Nat.le_refl _)
            · rename_i hne
              rcases h4 with h4 | h4
              · exact absurd (by simpa using h4) hne
              · exact .inr (by simp only at h4 ⊢; omega)
        have hold : ∀ b, b ≠ p.1 → w'.heap[b]? = c.w.heap[b]? := by
          intro b hne
          simp only [w', World.freeze, Nat.one_ne_zero, if_false]
          rw [Array.getElem?_modify, if_neg (fun h => hne h.symm)]
        obtain ⟨i1, i2⟩ := updBlk r.inv hb hown w' p blk c.N rfl rfl rfl (by rw [hw'sz]; exact Nat.le_refl _) (fun b _ hne => hold b (hne p hp))
          (fun p2 cs2 e2 fz2 hp2 hc2 => by
            rw [hp] at hp2; cases hp2
            rw [hc] at hc2; cases hc2
            exact ⟨_, _, hnew, rfl⟩) (.inl ⟨p, hp, rfl⟩) (Nat.le_refl _) hB.gen (fun _ => ⟨rfl, hp, rfl, rfl⟩) hBl
          ⟨cs, e0, _, hnew, k2, k3, hfz2⟩
        have hset : c.S.set τ blk = c.S := by
          apply List.ext_getElem?
          intro i
          rw [List.getElem?_set]
          split
          · rename_i hi
            subst hi
            split
            · rw [hb]
            · rename_i hh
              rw [List.getElem?_eq_none (by omega)]
          · rfl
        refine ⟨.vw τ g off len, _, .slice (some ⟨p.1, p.2 + off * blk.sz, none⟩) len cap, ?_, by show K _ (c.S.set τ blk); rw [hset]; exact hK, i1, i2, ?_⟩
        · simp only [execOp, ho, hax]
          refine mk_run ?_
          show (convert t t _).run P c.w = .ok _ w'
          simp [convert, run_underlying ht, run_underlying he, markStringish, hshape, w']
        · exact (RelV.vw _ _ _ _ _ hy hN hv).step i2
      · omega
theorem newRowsX {c : Cx} (hi : Inv c) {sz : Nat} {rows : List (List PV)} {vs : Array Value} (e : TypeId) (hl : ∀ (i : Nat) (row : List PV), rows[i]? = some row → row.length = sz) (h : RelCells c rows.flatten vs) (us : Array Value) (cap : Nat) (hcap : cap * sz ≤ vs.size + us.size) (hc2 : rows.length ≤ cap) (hm : cap ≤ maxLen) :
    ∃ c', c'.w = c.w.alloc (.cells (vs ++ us) e) ∧ c'.S = c.S ++ [⟨c.N, true, sz, rows⟩] ∧ Inv c' ∧ Step c c' ∧ RelV c' (.vw c.S.length c.N 0 rows.length) (.slice (some ⟨c.w.heap.size, 0, none⟩) rows.length cap) := by
  obtain ⟨h1, h2⟩ := pushBlk hi (c.w.alloc (.cells (vs ++ us) e)) ⟨c.N, true, sz, rows⟩ (some (c.w.heap.size, 0)) rfl rfl rfl (by simp) (fun b hb => heap_alloc_old c.w _ b hb) rfl hl (fun h => by cases h)
    (fun q hq => by
      cases hq
      refine ⟨Nat.le_refl _, vs ++ us, e, (0, 0), heap_alloc_new c.w _, ?_, fun i row j x hr hx => ?_, fun _ => .inl rfl⟩
      · simp only [Nat.zero_add, Array.size_append]
        exact Nat.le_trans (Nat.mul_le_mul_right _ hc2) hcap
      · obtain ⟨v, v1, v2⟩ := rowsIn_flat hl h i row j x hr hx
        refine ⟨v, ?_, v2⟩
        rw [Array.getElem?_append_left (Array.getElem?_eq_some_iff.1 v1).1]
        exact v1)
  refine ⟨_, rfl, rfl, h1, h2, .vw _ _ _ _ _ ⟨_, _, rfl⟩ (Nat.lt_succ_self _) (fun blk hb _ => ?_)⟩
  simp at hb
  subst hb
  exact ⟨by simp, some ⟨c.w.heap.size, 0, none⟩, cap, rfl, hc2, hm, .inl ⟨(c.w.heap.size, 0), by simp, by simp, vs ++ us, e, (0, 0), heap_alloc_new c.w _, by simpa using hcap⟩⟩
/-- append(nil, make([]T, n)...). -/
theorem pop_appz {P : Program} {σ : PS} {o : Oper} {K : PV → List Blk → Prop} {t tn e : TypeId} {s x : Operand} {zr : List PV} {k1 : IntKind} {m : Nat} (ho : o.op = .call { callee := .builtin .append, args := #[s, x], argTypes := #[t, tn] })
    (ht : P.underlying t = some (.slice e)) (htn : P.underlying tn = some (.int k1)) (hz : zeroRow P e = some zr) (hsz : P.cellsOf e = zr.length) (hpos : 0 < zr.length)
    (hs : σ.get s = .v (.slice none 0 0)) (hx : σ.get x = .v (.int k1 m)) (h0 : 0 < m) (hb : m * P.bytesOf e ≤ 281474976710656) (hm : m ≤ maxLen) (hK : ∀ g, K (.vw σ.S.length g 0 m) (σ.S ++ [⟨g, true, zr.length, List.replicate m zr⟩])) : PopSem P σ o K :=
  pop_of_run fun c a r => by
    obtain ⟨z, h1, h2, i, hi, hzi⟩ := zeroRow_run hz c
    have hsz' : i.size = zr.length := by rw [← hsz]; simp [Program.cellsOf, hi]
    have hbi : i.bytes = P.bytesOf e := by simp [Program.bytesOf, hi]
    have g1 := r.get s
    have g2 := r.get x
    rw [hs] at g1
    rw [hx] at g2
    generalize hv1 : a.eval s = v1 at g1
    generalize hv2 : a.eval x = v2 at g2
    cases g1
    cases g2
    have hrun := Go.Lib.run_append_nil_zeros (P := P) c.w t tn o.type e i z k1 k1 ht htn hi hzi m h0 (by omega) (by simp only [maxLen] at hm; omega) (by rw [hbi]; exact hb)
    have hrl : ∀ (j : Nat) (row : List PV), (List.replicate m zr)[j]? = some row → row.length = zr.length := by
      intro j row hr
      rw [List.getElem?_replicate] at hr
      split at hr
      · cases hr; rfl
      · cases hr
    obtain ⟨c1, d1, d2, d3⟩ := r.drew (c.w.drawn + 1)
    have hzz : zr.length = z.cells.size := h2.1.symm
    have hcap := grownCap_ge c.w m 0 e
    have hcells : ∀ q : Nat, Builtin.zeroCells z.cells q = madeCells z.cells (q * zr.length) := by
      intro q
      simp only [Builtin.zeroCells, madeCells, hzz]
    have h2' : RelCells c1 zr z.cells := ⟨h2.1, h2.2.1, fun j u v q1 q2 => (h2.2.2 j u v q1 q2).step d1⟩
    have hA := madeCells_rel h2' m hpos
    have hrc : RelCells c1 (List.replicate m zr).flatten (madeCells z.cells (m * zr.length)) := hA
    obtain ⟨c', e1, e2, e3, e4, e5⟩ := newRowsX d3.inv e hrl hrc (Builtin.zeroCells z.cells (grownCap c.w m 0 e - m)) (grownCap c.w m 0 e) (by
      rw [size_madeCells, hcells, size_madeCells, ← Nat.add_mul]
      exact Nat.mul_le_mul_right _ (by omega)) (by simp; omega) (grownCap_le_maxLen c.w m 0 e hm)
    rw [List.length_replicate] at e5
    refine ⟨_, c', _, ?_, by rw [e2, d3.S]; exact hK _, e3, d1.trans e4, e5⟩
    simp only [execOp, ho, resolve, invoke, builtin, List.map_toArray, List.map_cons, List.map_nil, hv1, hv2]
    rw [e1, d2]
    refine mk_run ?_
    rw [hrun, hcells m]
    rfl
section
variable {P : Program} {ops : List Oper} {Q : PS → Prop} {rest : List Oper} {n : Nat} {tm : List (Nat × PV)} {S S' : List Blk} {d : Tmp} {ty : TypeId} {pos : String} {af : Array Edge} {t t' e : TypeId} {x y s : Operand}
theorem ps_cpl {k0 : IntKind} {a c : Int} (k : Pops P ops Q rest ⟨n, (d, .v (.int k0 c)) :: tm, S⟩) (hc : Go.bits .xor k0 (if k0.signed then -1 else k0.max) a = c := by assumption) (hx : PS.get ⟨n, tm, S⟩ x = .v (.int k0 a) := by ((conv => lhs; whnf) <;> fail "no")) : Pops P ops Q (⟨some d, .unOp .xor t x, ty, pos, af, none⟩ :: rest) ⟨n, tm, S⟩ :=
  ps_ev k (by subst hc; simp only [ev, hx, unPV])
theorem ps_mki {p : PV} (k : Pops P ops Q rest ⟨n, (d, .iface t p) :: tm, S⟩) (hx : PS.get ⟨n, tm, S⟩ x = p := by ((conv => lhs; whnf) <;> fail "no")) (hn : noIface P t = true := by kernel_rfl) : Pops P ops Q (⟨some d, .makeInterface t x, ty, pos, af, none⟩ :: rest) ⟨n, tm, S⟩ :=
  pops_one rfl (pop_mki rfl hn (by rw [hx]; exact k))
theorem ps_ifn {op : BinOp} {p : PV} {b : Bool} {v : Value} [hi : IfaceT P t] (k : Pops P ops Q rest ⟨n, (d, .v v) :: tm, S⟩) (hx : PS.get ⟨n, tm, S⟩ x = p := by ((conv => lhs; whnf) <;> fail "no")) (hb : ifNil p = some b := by rfl) (hv : nilBin op b = some v := by rfl) : Pops P ops Q (⟨some d, .binOp op t x (.const .nilIface) t', ty, pos, af, none⟩ :: rest) ⟨n, tm, S⟩ := by
  obtain ⟨ms, hm⟩ := hi.h
  exact pops_one rfl (pop_ifn rfl hm (by rw [hx]; exact hb) hv k)
theorem ps_cvs {τ g off len : Nat} {blk : Blk} [ht : Und P t (.slice e)] [he : Und P e (.int .u8)] (k : Pops P ops Q rest ⟨n, (d, .vw τ g off len) :: tm, S⟩) (hx : PS.get ⟨n, tm, S⟩ x = .vw τ g off len := by ((conv => lhs; whnf) <;> fail "no")) (hb : S[τ]? = some blk := by first | ((conv => lhs; whnf) <;> fail "no") | exact rfl) (hg : blk.gen = g := by rfl) (hown : blk.own = true := by rfl) (hpos : 0 < len := by omega) : Pops P ops Q (⟨some d, .convert t t x, ty, pos, af, none⟩ :: rest) ⟨n, tm, S⟩ :=
  pops_one rfl (pop_cvs rfl ht.h he.h hx hb hg hown hpos k)
theorem ps_appz {tn : TypeId} {k1 : IntKind} {sz by_ τ : Nat} {l : Int} {zr : List PV} {S' : Nat → List Blk} [ht : Und P t (.slice e)] [htn : Und P tn (.int k1)] [hz : Zer P e zr] [hc : Cel P e sz] [hby : Byt P e by_] (m : Nat) (k : ∀ g, Pops P ops Q rest ⟨n, (d, .vw τ g 0 m) :: tm, S' g⟩) (hl : l = (m : Int)) (h0 : 0 < m)
    (hs : PS.get ⟨n, tm, S⟩ s = .v (.slice none 0 0) := by ((conv => lhs; whnf) <;> fail "no")) (hx : PS.get ⟨n, tm, S⟩ x = .v (.int k1 l) := by ((conv => lhs; whnf) <;> fail "no")) (hsz : sz = zr.length := by rfl) (hpos : 0 < sz := by decide) (hb : m * by_ ≤ 281474976710656 := by omega) (hm : m ≤ maxLen := by (simp only [maxLen]; omega)) (hτ : S.length = τ := by first | (simp only [List.length_cons, List.length_nil, Nat.reduceAdd, Nat.zero_add]; exact rfl) | exact rfl) (hS : ∀ g, S ++ [⟨g, true, sz, List.replicate m zr⟩] = S' g := by intro g_; first | (simp only [List.cons_append, List.nil_append]; exact rfl) | exact rfl) :
    Pops P ops Q (⟨some d, .call { callee := .builtin .append, args := #[s, x], argTypes := #[t, tn] }, ty, pos, af, none⟩ :: rest) ⟨n, tm, S⟩ := by
  subst hτ hsz hl
  exact pops_one rfl (pop_appz rfl ht.h htn.h hz.h hc.h hpos hs hx h0 (by rw [hby.h]; exact hb) hm fun g => by rw [hS g]; exact k g)
/-- A slot's slice is all that its block holds from here on. -/
theorem Rel.shrink {c : Cx} {a : Act} (r : Rel c ⟨n, tm, S⟩ a) (q : Nat) {τ g len : Nat} {blk : Blk} (hq : look q tm = .vw τ g 0 len) (hb : S[τ]? = some blk) (hg : blk.gen = g) (hown : blk.own = true) (hsz : blk.sz ≠ 0) (hne : 0 < blk.rows.length) : ∃ c', Step c c' ∧ c'.w = c.w ∧ Rel c' ⟨n, (q, .vw τ c.N 0 len) :: tm, S.set τ ⟨c.N, true, blk.sz, blk.rows.take len⟩⟩ a := by
  have hb' : c.S[τ]? = some blk := by rw [r.S]; exact hb
  have hB := r.inv.blk τ blk hb'
  have hv := r.tm q
  simp only [hq] at hv
  generalize hy0 : a.tmps.getD q Go.undef = y at hv
  cases hβ : c.β τ with
  | none => rw [hB.void hβ] at hne; simp at hne
  | some p =>
    cases hv with
    | vw _ _ _ _ _ hy hN hvv =>
      obtain ⟨q1, ad, cap, rfl, q2, q3, q4⟩ := hvv blk hb' hg
      obtain ⟨hBl, cs, e, fz, k1, k2, k3, k4⟩ := (hB.heap p hβ).resolve_right (fun hm => hsz hm.1)
      obtain ⟨i1, i2⟩ := updBlk r.inv hb' hown c.w p ⟨c.N, true, blk.sz, blk.rows.take len⟩ (c.N + 1) rfl rfl rfl (Nat.le_refl _) (fun _ _ _ => rfl)
        (fun p2 cs2 e2 fz2 hp2 hc2 => ⟨_, _, hc2, rfl⟩) (.inl ⟨p, hβ, rfl⟩) (Nat.le_succ _) (Nat.lt_succ_self _) (fun h => absurd h (Nat.lt_irrefl _))
        (fun i row hr => hBl i row (by rw [List.getElem?_take] at hr; split at hr; exact hr; cases hr))
        ⟨cs, e, fz, k1, Nat.le_trans (Nat.add_le_add_left (Nat.mul_le_mul_right _ (by simp only [List.length_take]; exact Nat.min_le_right _ _)) _) k2, fun i row j x hr hx => k3 i row j x (by rw [List.getElem?_take] at hr; split at hr; exact hr; cases hr) hx, k4 hown⟩
      have hlt : τ < c.S.length := (List.getElem?_eq_some_iff.1 hb').1
      refine ⟨_, i2, rfl, by show c.S.set τ _ = S.set τ _; rw [r.S], i1, r.n, r.defers.step r.inv i2, fun s => ?_⟩
      simp only [look]
      split
      · rename_i hs
        subst hs
        rw [hy0]
        refine .vw _ _ _ _ _ hy (Nat.lt_succ_self _) (fun blk2 h2 _ => ?_)
        have h2' : (c.S.set τ ⟨c.N, true, blk.sz, blk.rows.take len⟩)[τ]? = some blk2 := h2
        rw [List.getElem?_set_self hlt] at h2'
        cases h2'
        refine ⟨by simp only [List.length_take]; omega, ad, cap, rfl, q2, q3, ?_⟩
        rcases q4 with ⟨p2, hp2, rfl, rest⟩ | h0
        · rw [hβ] at hp2
          cases hp2
          exact .inl ⟨p, by simp, by simp, by simpa using rest⟩
        · exact .inr h0
      · exact (r.tm s).step i2
theorem kshrink {c : Code} {l : List Code} {Q : Exit → PS → Prop} (q : Nat) {τ g len sz : Nat} {rows rows' : List (List PV)} {S' : Nat → List Blk} (h : ∀ g', Tk P (c :: l) ⟨n, (q, .vw τ g' 0 len) :: tm, S' g'⟩ Q) (hq : look q tm = .vw τ g 0 len := by ((conv => lhs; whnf) <;> exact rfl))
    (hne : 0 < rows.length := by simp) (hr : rows.take len = rows' := by rfl) (hb : S[τ]? = some ⟨g, true, sz, rows⟩ := by ((conv => lhs; whnf) <;> fail "no")) (hsz : sz ≠ 0 := by decide) (hS : ∀ g', S.set τ ⟨g', true, sz, rows'⟩ = S' g' := by intro g_; first | (simp only [List.set_cons_zero, List.set_cons_succ]; exact rfl) | exact rfl) : Tk P (c :: l) ⟨n, tm, S⟩ Q := by
  subst hr
  refine tr_rel (T := fun g' => ⟨n, (q, .vw τ g' 0 len) :: tm, S.set τ ⟨g', true, sz, rows.take len⟩⟩) (fun c a r => r.shrink q hq hb rfl rfl hsz hne) (fun g' => ?_)
  rw [hS g']
  exact h g'
theorem pop_capn {o : Oper} {σ : PS} {K : PV → List Blk → Prop} (ho : o.op = .call { callee := .builtin .cap, args := #[x], argTypes := #[t] }) (ht : P.underlying t = some (.slice e)) (hx : σ.get x = .v (.slice none 0 0)) (hK : K (.v (.int .i64 0)) σ.S) : PopSem P σ o K :=
  pop_of_run fun c a r => by
    have h1 := r.get x
    rw [hx] at h1
    generalize hax : a.eval x = vx at h1
    cases h1
    refine ⟨_, c, .int .i64 0, ?_, by rw [r.S]; exact hK, r.inv, .refl c, .v _⟩
    simp only [execOp, ho, resolve, invoke, builtin, List.map_toArray, List.map_cons, List.map_nil, hax]
    refine mk_run ?_
    simp [Builtin.cap_, run_underlying ht]
    rfl
theorem ps_capn [ht : Und P t (.slice e)] (k : Pops P ops Q rest ⟨n, (d, .v (.int .i64 0)) :: tm, S⟩) (hx : PS.get ⟨n, tm, S⟩ x = .v (.slice none 0 0) := by ((conv => lhs; whnf) <;> fail "no")) : Pops P ops Q (⟨some d, .call { callee := .builtin .cap, args := #[x], argTypes := #[t] }, ty, pos, af, none⟩ :: rest) ⟨n, tm, S⟩ :=
  pops_one rfl (pop_capn rfl ht.h hx k)
theorem ps_sln {de : TypeDesc} {k0 : IntKind} [ht : Und P t (.slice e)] [hd : Und P e de] (k : Pops P ops Q rest ⟨n, (d, .v (.slice none 0 0)) :: tm, S⟩) (hx : PS.get ⟨n, tm, S⟩ x = .v (.slice none 0 0) := by ((conv => lhs; whnf) <;> fail "no")) (hy : PS.get ⟨n, tm, S⟩ y = .v (.int k0 0) := by ((conv => lhs; whnf) <;> fail "no")) : Pops P ops Q (⟨some d, .slice t x none (some y) none, ty, pos, af, none⟩ :: rest) ⟨n, tm, S⟩ :=
  ps_ev k (by
    have hk : known P e = true := by simp [known, hd.h]
    simp [ev, slicePV, ht.h, hx, hy, boundPV, intPV, hk])
/-- A literal slice that is never written, its block not told. -/
theorem pop_litg {o : Oper} {σ : PS} {K : PV → List Blk → Prop} {sz len : Nat} {rows : List (List PV)} (hp : PopSem P σ o fun x' S' => ∃ g, x' = .vw σ.S.length g 0 len ∧ S' = σ.S ++ [⟨g, true, sz, rows⟩]) (hl : rows.length = len) (hpure : ∀ row ∈ rows, ∀ x ∈ row, PV.Pure x) (hK : K (.ro sz false rows) σ.S) : PopSem P σ o K := by
  intro c a r next Q hn
  refine pop_litf (K := fun x S' => x = .ro sz false rows ∧ ∃ g, S' = σ.S ++ [⟨g, false, sz, rows⟩]) hp hl hpure (fun g => ⟨rfl, g, rfl⟩) c a r next Q fun x c' v k hi hs hv => ?_
  obtain ⟨e, g, eS⟩ := k
  subst e
  obtain ⟨h1, h2⟩ := dropBlk hi σ.S.length
  refine hn _ { c' with S := c'.S.take σ.S.length } v ?_ h1 (hs.trans h2) (hv.step h2)
  show K _ (c'.S.take σ.S.length)
  rw [eS, List.take_append_of_le_length (Nat.le_refl _), List.take_length]
  exact hK
theorem pd_litg {len sz : Nat} {parts : Array (Nat × Operand)} {ps : List (Nat × PV)} {zr : List PV} {bb : Bool} {rows : List (List PV)} [ht : Und P t (.slice e)] [hz : Zer P e zr] [hk : AggT P e bb] [hc : Cel P e sz] (k : PStL P ops Q rest ⟨n, (d, .ro sz false rows) :: tm, S⟩)
    (hpure : ∀ row ∈ rows, ∀ x ∈ row, PV.Pure x) (hsz : sz = zr.length := by rfl) (hpos : 0 < zr.length := by decide) (hb : len * zr.length ≤ 16777216 := by decide) (hl : rows.length = len := by rfl) (hp : (parts.toList.map fun p => (p.1, PS.get ⟨n, tm, S⟩ p.2)) = ps := by first | (simp only [List.map_cons, List.map_nil, PS.get, look, ofValue, ↓reduceIte, Nat.reduceEqDiff, reduceCtorEq]; exact rfl) | rfl) (hf : fillRows sz (List.replicate len zr) ps = some rows := by first | (simp only [List.replicate_succ, List.replicate_zero, fillRows, cellsPV, Value.oneCell', List.length_cons, List.length_nil, List.set_cons_zero, List.set_cons_succ, Nat.reduceAdd, Nat.zero_add, Nat.reduceLT, Nat.reduceSub, Bool.and_self, decide_true, if_true, ↓reduceIte]; exact rfl) | rfl) :
    PStL P ops Q (⟨some d, .buildSlice t len parts, ty, pos, af, none⟩ :: rest) ⟨n, tm, S⟩ := by
  subst hp hsz
  refine ⟨.ro zr.length false rows, ?_, k⟩
  unfold GSt
  refine .sem fun σ' hg hS => pop_litg (pop_lit rfl ht.h hz.h hk.h.2 hc.h hpos hb ?_ fun g => ⟨g, rfl, rfl⟩) hl hpure ⟨rfl, rfl⟩
  have : (parts.toList.map fun p => (p.1, σ'.get p.2)) = parts.toList.map fun p => (p.1, PS.get ⟨n, tm, S⟩ p.2) := List.map_congr_left fun p hp => by
    rw [hg p.2 (by simp only [Op.operands, List.mem_toArray]; exact List.mem_map.2 ⟨p, hp, rfl⟩)]
  rw [this]
  exact hf
/-- The length of a slice of memory that has turned since. -/
theorem pop_lens {o : Oper} {σ : PS} {K : PV → List Blk → Prop} {τ g off len : Nat} (ho : o.op = .call { callee := .builtin .len, args := #[x], argTypes := #[t] }) (ht : P.underlying t = some (.slice e)) (hx : σ.get x = .vw τ g off len) (hK : K (.v (.int .i64 len)) σ.S) : PopSem P σ o K :=
  pop_of_run fun c a r => by
    have h1 := r.get x
    rw [hx] at h1
    generalize hax : a.eval x = vx at h1
    cases h1 with
    | vw _ _ _ _ _ hy hN hv =>
      obtain ⟨ad, cap, rfl⟩ := hy
      refine ⟨_, c, .int .i64 len, ?_, by rw [r.S]; exact hK, r.inv, .refl c, .v _⟩
      simp only [execOp, ho, resolve, invoke, builtin, List.map_toArray, List.map_cons, List.map_nil, hax]
      refine mk_run ?_
      simp [Builtin.len_, run_underlying ht]
      rfl
theorem ps_lens {τ g off len : Nat} [ht : Und P t (.slice e)] (k : Pops P ops Q rest ⟨n, (d, .v (.int .i64 len)) :: tm, S⟩) (hx : PS.get ⟨n, tm, S⟩ x = .vw τ g off len := by ((conv => lhs; whnf) <;> fail "no")) : Pops P ops Q (⟨some d, .call { callee := .builtin .len, args := #[x], argTypes := #[t] }, ty, pos, af, none⟩ :: rest) ⟨n, tm, S⟩ :=
  pops_one rfl (pop_lens rfl ht.h hx k)
end
end Go.Proofs.YtenoecffjfcifaaDoor.Pv
