-- Nineteenth text: slices of given elements, and made ones.
import Derived.Test.YtaaealngifkaeaaPvR
namespace Go.Proofs.Ytaaealngifkaeaa.Pv
set_option linter.all false
open Go.RowKit
set_option linter.unusedVariables false

/-- Elements laid into rows. -/
def fillRows (sz : Nat) : List (List PV) → List (Nat × PV) → Option (List (List PV))
  | rows, [] => some rows
  | rows, (i, x) :: ps => match cellsPV x with
    | some cs => if cs.length = sz ∧ i < rows.length then fillRows sz (rows.set i cs) ps else none
    | none => none

theorem flatten_length {sz : Nat} : ∀ (rows : List (List PV)), (∀ (i : Nat) (row : List PV), rows[i]? = some row → row.length = sz) → rows.flatten.length = rows.length * sz
  | [], _ => by simp
  | row :: rows, h => by
    rw [List.flatten_cons, List.length_append, flatten_length rows (fun i r hr => h (i + 1) r (by simpa using hr)), h 0 row rfl, List.length_cons, Nat.succ_mul]
    omega

theorem flatten_get {sz : Nat} : ∀ (rows : List (List PV)) (i j : Nat), (∀ (i : Nat) (row : List PV), rows[i]? = some row → row.length = sz) → ∀ row, rows[i]? = some row → j < sz → rows.flatten[i * sz + j]? = row[j]?
  | [], i, j, _, row, h, _ => by simp at h
  | r :: rows, 0, j, hl, row, h, hj => by
    simp at h
    subst h
    rw [List.flatten_cons, Nat.zero_mul, Nat.zero_add, List.getElem?_append_left (by rw [hl 0 r rfl]; exact hj)]
  | r :: rows, i + 1, j, hl, row, h, hj => by
    have hr := hl 0 r rfl
    rw [List.flatten_cons, List.getElem?_append_right (by rw [hr, Nat.succ_mul]; omega), hr, Nat.succ_mul, show i * sz + sz + j - sz = i * sz + j by omega]
    exact flatten_get rows i j (fun i row h => hl (i + 1) row (by simpa using h)) row (by simpa using h) hj

theorem set_len {sz : Nat} {rows : List (List PV)} (h : ∀ (i : Nat) (row : List PV), rows[i]? = some row → row.length = sz) {k : Nat} {cs : List PV} (hc : cs.length = sz) : ∀ (i : Nat) (row : List PV), (rows.set k cs)[i]? = some row → row.length = sz := by
  intro i row hr
  rw [List.getElem?_set] at hr
  split at hr
  · split at hr
    · cases hr; exact hc
    · cases hr
  · exact h i row hr

theorem flatten_set {sz : Nat} : ∀ (rows : List (List PV)) (i : Nat) (cs : List PV), (∀ (i : Nat) (row : List PV), rows[i]? = some row → row.length = sz) → cs.length = sz → i < rows.length → (rows.set i cs).flatten = rows.flatten.take (i * sz) ++ cs ++ rows.flatten.drop (i * sz + sz)
  | [], i, cs, _, _, h => by simp at h
  | r :: rows, 0, cs, hl, hc, _ => by
    have hr := hl 0 r rfl
    simp only [List.set_cons_zero, List.flatten_cons, Nat.zero_mul, List.take_zero, List.nil_append, Nat.zero_add]
    rw [List.drop_append, ← hr]
    simp
  | r :: rows, i + 1, cs, hl, hc, h => by
    have hr := hl 0 r rfl
    simp only [List.set_cons_succ, List.flatten_cons]
    rw [flatten_set rows i cs (fun i row h => hl (i + 1) row (by simpa using h)) hc (by simpa using h), List.take_append, List.drop_append, hr, Nat.succ_mul]
    rw [List.take_of_length_le (l := r) (by omega), List.drop_eq_nil_of_le (as := r) (by omega), show i * sz + sz - sz = i * sz by omega, show i * sz + sz + sz - sz = i * sz + sz by omega]
    simp

theorem fillRows_flat {sz : Nat} : ∀ (ps : List (Nat × PV)) (rows out : List (List PV)), (∀ (i : Nat) (row : List PV), rows[i]? = some row → row.length = sz) → fillRows sz rows ps = some out →
    fillPV (fun i => some (i * sz, sz)) rows.flatten ps = some out.flatten ∧ (∀ (i : Nat) (row : List PV), out[i]? = some row → row.length = sz) ∧ out.length = rows.length
  | [], rows, out, hl, h => by cases h; exact ⟨rfl, hl, rfl⟩
  | (i, x) :: ps, rows, out, hl, h => by
    simp only [fillRows] at h
    split at h
    · rename_i cs hc
      split at h
      · rename_i hh
        obtain ⟨h1, h2, h3⟩ := fillRows_flat ps (rows.set i cs) out (set_len hl hh.1) h
        refine ⟨?_, h2, by rw [h3]; simp⟩
        simp only [fillPV, hc]
        have hle : i * sz + sz ≤ rows.flatten.length := by
          rw [flatten_length rows hl]
          have : (i + 1) * sz ≤ rows.length * sz := Nat.mul_le_mul_right _ hh.2
          rw [Nat.succ_mul] at this
          exact this
        rw [if_pos ⟨hh.1, hle⟩, ← h1, flatten_set rows i cs hl hh.1 hh.2]
      · cases h
    · cases h

theorem madeCells_rel {c : Cx} {z : Array Value} {zr : List PV} (h : RelCells c zr z) (n : Nat) (hpos : 0 < zr.length) : RelCells c (List.replicate n zr).flatten (madeCells z (n * zr.length)) := by
  have hlen : ∀ (i : Nat) (row : List PV), (List.replicate n zr)[i]? = some row → row.length = zr.length := by
    intro i row hr
    rw [List.getElem?_replicate] at hr
    split at hr
    · cases hr; rfl
    · cases hr
  have hget : ∀ (i : Nat) (v : Value), (madeCells z (n * zr.length))[i]? = some v → z[i % zr.length]? = some v ∧ i < n * zr.length := by
    intro i v hv
    have hi : i < n * zr.length := by have := (Array.getElem?_eq_some_iff.1 hv).1; rwa [size_madeCells] at this
    unfold madeCells at hv
    have hm : i % zr.length < z.size := by rw [h.1]; exact Nat.mod_lt _ hpos
    simp [hi, h.1] at hv
    refine ⟨?_, hi⟩
    rw [Array.getElem?_eq_getElem hm]
    rw [← hv]
    simp [hm]
  refine ⟨by rw [size_madeCells, flatten_length _ hlen, List.length_replicate], fun i v hv => h.2.1 _ _ (hget i v hv).1, fun i x v hx hv => ?_⟩
  obtain ⟨h1, h2⟩ := hget i v hv
  refine h.2.2 _ x v ?_ h1
  have hdm : i / zr.length * zr.length + i % zr.length = i := by have := Nat.div_add_mod i zr.length; rw [Nat.mul_comm] at this; exact this
  have hd : i / zr.length < n := Nat.div_lt_of_lt_mul (by rw [Nat.mul_comm]; exact h2)
  have := flatten_get (sz := zr.length) (List.replicate n zr) (i / zr.length) (i % zr.length) hlen zr (by rw [List.getElem?_replicate, if_pos hd]) (Nat.mod_lt _ hpos)
  rw [hdm, hx] at this
  exact this.symm

theorem rowsIn_flat {c : Cx} {sz : Nat} {rows : List (List PV)} {vs : Array Value} (hl : ∀ (i : Nat) (row : List PV), rows[i]? = some row → row.length = sz) (h : RelCells c rows.flatten vs) : RowsIn c sz rows 0 vs := by
  intro i row j x hr hx
  have hj : j < sz := by rw [← hl i row hr]; exact (List.getElem?_eq_some_iff.1 hx).1
  have hg := flatten_get rows i j hl row hr hj
  rw [hx] at hg
  have hlt : i * sz + j < vs.size := by rw [h.1]; exact (List.getElem?_eq_some_iff.1 hg).1
  have hv := Array.getElem?_eq_getElem hlt
  exact ⟨_, by rw [Nat.zero_add]; exact hv, h.2.1 _ _ hv, h.2.2 _ _ _ hg hv⟩

/-- A new block of rows, and the slice of all of it. -/
theorem newRows {c : Cx} (hi : Inv c) {sz : Nat} {rows : List (List PV)} {vs : Array Value} (e : TypeId) (hl : ∀ (i : Nat) (row : List PV), rows[i]? = some row → row.length = sz) (h : RelCells c rows.flatten vs) (cap : Nat) (hcap : cap * sz ≤ vs.size) (hc2 : rows.length ≤ cap) (hm : cap ≤ maxLen) :
    ∃ c', c'.w = c.w.alloc (.cells vs e) ∧ c'.S = c.S ++ [⟨c.N, true, sz, rows⟩] ∧ Inv c' ∧ Step c c' ∧ RelV c' (.vw c.S.length c.N 0 rows.length) (.slice (some ⟨c.w.heap.size, 0, none⟩) rows.length cap) := by
  obtain ⟨h1, h2⟩ := pushBlk hi (c.w.alloc (.cells vs e)) ⟨c.N, true, sz, rows⟩ (some (c.w.heap.size, 0)) rfl rfl rfl (by simp) (fun b hb => heap_alloc_old c.w _ b hb) rfl hl (fun h => by cases h)
    (fun q hq => by
      cases hq
      refine ⟨Nat.le_refl _, vs, e, (0, 0), heap_alloc_new c.w _, ?_, rowsIn_flat hl h, fun _ k _ hk => by omega⟩
      simp only [Nat.zero_add]
      exact Nat.le_trans (Nat.mul_le_mul_right _ hc2) hcap)
  refine ⟨_, rfl, rfl, h1, h2, .vw _ _ _ _ _ rfl (Nat.lt_succ_self _) (fun blk hb _ => ?_)⟩
  simp at hb
  subst hb
  exact ⟨by simp, some ⟨c.w.heap.size, 0, none⟩, cap, rfl, hc2, hm, .inl ⟨(c.w.heap.size, 0), by simp, by simp, vs, e, (0, 0), heap_alloc_new c.w _, by simpa using hcap⟩⟩

theorem pop_lit {P : Program} {σ : PS} {o : Oper} {K : PV → List Blk → Prop} {t e : TypeId} {len : Nat} {parts : Array (Nat × Operand)} {zr : List PV} {rows : List (List PV)} (ho : o.op = .buildSlice t len parts) (ht : P.underlying t = some (.slice e)) (hz : zeroRow P e = some zr) (hk : known P e = true) (hsz : P.cellsOf e = zr.length) (hpos : 0 < zr.length)
    (hb : len * zr.length ≤ 16777216) (hf : fillRows zr.length (List.replicate len zr) (parts.toList.map fun p => (p.1, σ.get p.2)) = some rows) (hK : ∀ g, K (.vw σ.S.length g 0 len) (σ.S ++ [⟨g, true, zr.length, rows⟩])) : PopSem P σ o K :=
  pop_of_run fun c a r => by
    obtain ⟨z, h1, h2, _⟩ := zeroRow_run hz c
    obtain ⟨d, hd⟩ := Option.isSome_iff_exists.1 hk
    have hrl : ∀ (i : Nat) (row : List PV), (List.replicate len zr)[i]? = some row → row.length = zr.length := by
      intro i row hr
      rw [List.getElem?_replicate] at hr
      split at hr
      · cases hr; rfl
      · cases hr
    obtain ⟨f1, f2, f3⟩ := fillRows_flat _ _ _ hrl hf
    rw [List.length_replicate] at f3
    have hzc : (if len * zr.length = 0 then #[] else z.cells).size = (if len * zr.length = 0 then 0 else zr.length) := by split <;> simp [h2.1]
    obtain ⟨out, g1, g2⟩ := fillPV_rel (c := c) (place := fun i => some (i * zr.length, zr.length)) (parts.toList.map fun p => (p.1, σ.get p.2)) (parts.toList.map fun p => (p.1, a.eval p.2)) _ (madeCells z.cells (len * zr.length)) _ f1 (madeCells_rel h2 len hpos) (by simp) (fun j p v hp hv => by
      rw [List.getElem?_map] at hp hv
      obtain ⟨q, hq, rfl⟩ := Option.map_eq_some_iff.1 hp
      rw [hq] at hv
      cases hv
      exact ⟨rfl, r.get q.2⟩)
    have hos : out.size = len * zr.length := by rw [g2.1, flatten_length rows f2, f3]
    have hbig : len ≤ maxLen := by
      have : len * 1 ≤ len * zr.length := Nat.mul_le_mul_left _ hpos
      simp only [maxLen]
      omega
    obtain ⟨c', e1, e2, e3, e4, e5⟩ := newRows r.inv e f2 g2 len (by rw [hos]; exact Nat.le_refl _) (by omega) hbig
    refine ⟨.vw c.S.length c.N 0 len, c', .slice (some ⟨c.w.heap.size, 0, none⟩) len len, ?_, by rw [e2, r.S]; exact hK _, e3, e4, by rw [f3] at e5; exact e5⟩
    simp only [execOp, ho]
    refine mk_run ?_
    unfold Instr.buildSlice
    have hnb : ¬ len * zr.length > 2 ^ 24 := by omega
    simp only [Sem.run_bind, run_underlying ht, Result.andThen_ok, sizeOf_run hd, hsz]
    rw [if_neg hnb]
    have hcells : ((Array.range (len * zr.length)).map (fun x => (if len * zr.length = 0 then #[] else z.cells)[x % (if len * zr.length = 0 then #[] else z.cells).size]!)) = madeCells z.cells (len * zr.length) := by
      unfold madeCells
      split
      · rename_i h0; rw [h0]; simp
      · rfl
    have hparts : parts.map (fun (x : Nat × Operand) => (x.1, a.eval x.2)) = (parts.toList.map fun p => (p.1, a.eval p.2)).toArray := by
      apply Array.ext'
      simp
    by_cases h0 : len * zr.length = 0
    · rw [if_pos h0] at hcells ⊢
      simp only [Sem.run_bind, Sem.run_pure, Result.andThen_ok]
      have : Instr.fill (fun i => some (i * zr.length, zr.length)) ((Array.range (len * zr.length)).map (fun x => (#[] : Array Value)[x % (#[] : Array Value).size]!)) (parts.map (fun (x : Nat × Operand) => (x.1, a.eval x.2))).toList = some out := by
        rw [hcells, hparts]; exact g1
      rw [this]
      simp only [newRow, Sem.run_bind, run_newObj, Result.andThen_ok, Sem.run_pure, e1]
      rfl
    · rw [if_neg h0] at hcells ⊢
      simp only [Sem.run_bind, Sem.run_pure, Result.andThen_ok, h1]
      have : Instr.fill (fun i => some (i * zr.length, zr.length)) ((Array.range (len * zr.length)).map (fun x => z.cells[x % z.cells.size]!)) (parts.map (fun (x : Nat × Operand) => (x.1, a.eval x.2))).toList = some out := by
        rw [hcells, hparts]; exact g1
      rw [this]
      simp only [newRow, Sem.run_bind, run_newObj, Result.andThen_ok, Sem.run_pure, e1]
      rfl

theorem pop_make {P : Program} {σ : PS} {o : Oper} {K : PV → List Blk → Prop} {t e : TypeId} {x y : Operand} {zr : List PV} {k1 k2 : IntKind} {m : Nat} {l : Int} (ho : o.op = .makeSlice t x y) (ht : P.underlying t = some (.slice e)) (hz : zeroRow P e = some zr) (hsz : P.cellsOf e = zr.length) (hpos : 0 < zr.length)
    (hx : σ.get x = .v (.int k1 l)) (hy : σ.get y = .v (.int k2 l)) (hl : l = m) (hb : P.bytesOf e * m ≤ 281474976710656) (hm : m ≤ maxLen) (hK : ∀ g, K (.vw σ.S.length g 0 m) (σ.S ++ [⟨g, true, zr.length, List.replicate m zr⟩])) : PopSem P σ o K :=
  pop_of_run fun c a r => by
    obtain ⟨z, h1, h2, i, hi, hzi⟩ := zeroRow_run hz c
    have hsz' : i.size = zr.length := by rw [← hsz]; simp [Program.cellsOf, hi]
    have hbi : i.bytes = P.bytesOf e := by simp [Program.bytesOf, hi]
    subst hl
    have g1 := r.get x
    have g2 := r.get y
    rw [hx] at g1
    rw [hy] at g2
    generalize hv1 : a.eval x = v1 at g1
    generalize hv2 : a.eval y = v2 at g2
    cases g1
    cases g2
    have hb' : (i.bytes : Int) * (m : Int) ≤ 281474976710656 := by
      rw [hbi, ← Int.natCast_mul]
      omega
    have hrun := run_make (P := P) c.w t e i z ht hi hzi k1 k2 (m : Int) (m : Int) (by omega) (Int.le_refl _) hb' (by simp only [maxLen] at hm; omega)
    simp only [Int.toNat_natCast, hsz'] at hrun
    have hrl : ∀ (j : Nat) (row : List PV), (List.replicate m zr)[j]? = some row → row.length = zr.length := by
      intro j row hr
      rw [List.getElem?_replicate] at hr
      split at hr
      · cases hr; rfl
      · cases hr
    obtain ⟨c', e1, e2, e3, e4, e5⟩ := newRows r.inv e hrl (madeCells_rel h2 m hpos) m (by rw [size_madeCells]; exact Nat.le_refl _) (by simp) hm
    rw [List.length_replicate] at e5
    refine ⟨_, c', _, ?_, by rw [e2, r.S]; exact hK _, e3, e4, e5⟩
    simp only [execOp, ho, hv1, hv2]
    rw [e1]
    exact mk_run hrun

section
variable {P : Program} {ops : List Oper} {Q : PS → Prop} {rest : List Oper} {n : Nat} {tm : List (Nat × PV)} {S S' : List Blk} {d : Tmp} {ty : TypeId} {pos : String} {af : Array Edge} {t e : TypeId} {x y : Operand}

theorem ps_lit {len τ sz : Nat} {parts : Array (Nat × Operand)} {ps : List (Nat × PV)} {zr : List PV} {bb : Bool} {rows : List (List PV)} {S' : Nat → List Blk} [ht : Und P t (.slice e)] [hz : Zer P e zr] [hk : AggT P e bb] [hc : Cel P e sz] (k : ∀ g, Pops P ops Q rest ⟨n, (d, .vw τ g 0 len) :: tm, S' g⟩)
    (hp : (parts.toList.map fun p => (p.1, PS.get ⟨n, tm, S⟩ p.2)) = ps := by first | (simp only [List.map_cons, List.map_nil, PS.get, look, ofValue, ↓reduceIte, Nat.reduceEqDiff, reduceCtorEq]; exact rfl) | rfl) (hf : fillRows sz (List.replicate len zr) ps = some rows := by first | (simp only [List.replicate_succ, List.replicate_zero, fillRows, cellsPV, Value.oneCell', List.length_cons, List.length_nil, List.set_cons_zero, List.set_cons_succ, Nat.reduceAdd, Nat.zero_add, Nat.reduceLT, Nat.lt_add_one, and_self, if_true, ↓reduceIte]; exact rfl) | exact rfl) (hsz : sz = zr.length := by rfl) (hpos : 0 < sz := by decide) (hb : len * sz ≤ 16777216 := by decide) (hτ : S.length = τ := by first | (simp only [List.length_cons, List.length_nil, Nat.reduceAdd, Nat.zero_add]; exact rfl) | exact rfl) (hS : ∀ g, S ++ [⟨g, true, sz, rows⟩] = S' g := by intro g_; first | (simp only [List.cons_append, List.nil_append]; exact rfl) | exact rfl) :
    Pops P ops Q (⟨some d, .buildSlice t len parts, ty, pos, af, none⟩ :: rest) ⟨n, tm, S⟩ := by
  subst hp hτ hsz
  exact pops_one rfl (pop_lit rfl ht.h hz.h hk.h.2 hc.h hpos hb hf fun g => by rw [hS g]; exact k g)

theorem ps_make {τ sz by_ : Nat} {zr : List PV} {k1 k2 : IntKind} {l : Int} {rows : List (List PV)} {S' : Nat → List Blk} [ht : Und P t (.slice e)] [hz : Zer P e zr] [hc : Cel P e sz] [hby : Byt P e by_] (m : Nat) (k : ∀ g, Pops P ops Q rest ⟨n, (d, .vw τ g 0 m) :: tm, S' g⟩) (hl : l = (m : Int)) 
    (hx : PS.get ⟨n, tm, S⟩ x = .v (.int k1 l) := by ((conv => lhs; whnf) <;> fail "no")) (hy : PS.get ⟨n, tm, S⟩ y = .v (.int k2 l) := by ((conv => lhs; whnf) <;> fail "no")) (hsz : sz = zr.length := by rfl) (hpos : 0 < sz := by decide) (hb : by_ * m ≤ 281474976710656 := by omega) (hm : m ≤ maxLen := by (simp only [maxLen]; omega)) (hr : List.replicate m zr = rows := by rfl) (hτ : S.length = τ := by first | (simp only [List.length_cons, List.length_nil, Nat.reduceAdd, Nat.zero_add]; exact rfl) | exact rfl) (hS : ∀ g, S ++ [⟨g, true, sz, rows⟩] = S' g := by intro g_; first | (simp only [List.cons_append, List.nil_append]; exact rfl) | exact rfl) :
    Pops P ops Q (⟨some d, .makeSlice t x y, ty, pos, af, none⟩ :: rest) ⟨n, tm, S⟩ := by
  subst hτ hsz hr
  exact pops_one rfl (pop_make rfl ht.h hz.h hc.h hpos hx hy hl (by rw [hby.h]; exact hb) hm fun g => by rw [hS g]; exact k g)
end
end Go.Proofs.Ytaaealngifkaeaa.Pv
