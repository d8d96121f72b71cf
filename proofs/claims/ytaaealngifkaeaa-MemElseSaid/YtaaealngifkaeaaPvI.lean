-- Ninth text: operations that make or change memory of one's own.
import Derived.Test.YtaaealngifkaeaaPvH
import Derived.Deep.AppendSrc
import Derived.Laws.MakeOwn
namespace Go.Proofs.Ytaaealngifkaeaa.Pv
set_option linter.all false
open Go.RowKit
set_option linter.unusedVariables false

/-- An operation does, from what is known, what K asks of its answer and the blocks behind it. -/
def PopSem (P : Program) (σ : PS) (o : Oper) (K : PV → List Blk → Prop) : Prop :=
  ∀ (c : Cx) (a : Act), Rel c σ a → ∀ (next : Act → World → Prop) (Q : Exit → Act → World → Prop),
    (∀ x c' v, K x c'.S → Inv c' → Step c c' → RelV c' x v → next (a.put o.dst v) c'.w) → o.wp P a c.w next Q

theorem pop_of_run {P : Program} {σ : PS} {o : Oper} {K : PV → List Blk → Prop}
    (h : ∀ (c : Cx) (a : Act), Rel c σ a → ∃ x c' v, (execOp a.eval o).run P c.w = .ok (.value v) c'.w ∧ K x c'.S ∧ Inv c' ∧ Step c c' ∧ RelV c' x v) : PopSem P σ o K := by
  intro c a r next Q hn
  obtain ⟨x, c', v, h1, h2, h3, h4, h5⟩ := h c a r
  unfold Oper.wp
  rw [h1, Oper.upon_value]
  exact hn x c' v h2 h3 h4 h5

theorem pop_ev {P : Program} {σ : PS} {o : Oper} {K : PV → List Blk → Prop} {x : PV} (h : ev P σ o.op = some x) (hK : K x σ.S) : PopSem P σ o K :=
  pop_of_run fun c a r => by
    obtain ⟨v, h1, h2⟩ := ev_sound r h
    exact ⟨x, c, v, h1, by rw [r.S]; exact hK, r.inv, .refl c, h2⟩

theorem mk_run {P : Program} {s : Sem Value} {w w' : World} {v : Value} (h : s.run P w = .ok v w') : (do pure (.value (← s)) : Sem Next).run P w = .ok (.value v) w' := by
  rw [Sem.run_bind, h]; rfl

/-- One element's cells, as rows. -/
theorem rowsIn_one {c : Cx} {cs : List PV} {vs : Array Value} (h : RelCells c cs vs) : RowsIn c cs.length [cs] 0 vs := by
  intro i row j x hr hx
  cases i with
  | zero =>
    simp at hr
    subst hr
    have hlt : j < vs.size := by rw [h.1]; exact (List.getElem?_eq_some_iff.1 hx).1
    have hv : vs[j]? = some vs[j] := Array.getElem?_eq_getElem hlt
    exact ⟨vs[j], by simpa using hv, h.2.1 _ _ hv, h.2.2 _ _ _ hx hv⟩
  | succ i => simp at hr

/-- A new variable. -/
theorem newVar_rel {P : Program} {c : Cx} (hi : Inv c) (t : TypeId) {cs : List PV} {v : Value} (h : RelCells c cs v.cells) :
    ∃ c', (do pure (.pointer (some (← newVar t v))) : Sem Value).run P c.w = .ok (.pointer (some ⟨c.w.heap.size, 0, none⟩)) c'.w ∧ c'.S = c.S ++ [⟨c.N, true, cs.length, [cs]⟩] ∧ Inv c' ∧ Step c c' ∧ RelV c' (.ptr c.S.length c.N 0 0) (.pointer (some ⟨c.w.heap.size, 0, none⟩)) := by
  obtain ⟨h1, h2⟩ := pushBlk hi (c.w.alloc (.cells v.cells t)) ⟨c.N, true, cs.length, [cs]⟩ (some (c.w.heap.size, 0)) rfl rfl rfl (by simp) (fun b hb => heap_alloc_old c.w _ b hb) rfl
    (fun i row hr => by cases i with | zero => simp at hr; rw [hr] | succ i => simp at hr) (fun h => by cases h)
    (fun q hq => by
      cases hq
      refine ⟨Nat.le_refl _, v.cells, t, (0, 0), heap_alloc_new c.w _, by simp [h.1], rowsIn_one h, fun _ k _ hk => by omega⟩)
  refine ⟨_, ?_, rfl, h1, h2, .ptr _ _ _ _ _ rfl (Nat.lt_succ_self _) (fun blk hb _ => ?_)⟩
  · simp [newVar, newRow]
  · simp at hb
    subst hb
    exact ⟨by simp, (c.w.heap.size, 0), by simp, by simp⟩

theorem pop_alloc {P : Program} {σ : PS} {o : Oper} {K : PV → List Blk → Prop} {t : TypeId} (ho : o.op = .alloc t) {cs : List PV} (hz : zeroRow P t = some cs)
    (hK : ∀ g, K (.ptr σ.S.length g 0 0) (σ.S ++ [⟨g, true, cs.length, [cs]⟩])) : PopSem P σ o K :=
  pop_of_run fun c a r => by
    obtain ⟨z, h1, h2, _⟩ := zeroRow_run hz c
    obtain ⟨c', h3, h4, h5, h6, h7⟩ := newVar_rel (P := P) r.inv t h2
    refine ⟨_, c', _, ?_, ?_, h5, h6, h7⟩
    · simp only [execOp, ho]
      refine mk_run ?_
      simp only [Instr.alloc, Sem.run_bind, h1, Result.andThen_ok]
      exact h3
    · rw [h4, r.S]; exact hK _

theorem relCells_of_cellsPV {c : Cx} {x : PV} {v : Value} {cs : List PV} (h : cellsPV x = some cs) (hr : RelV c x v) : RelCells c cs v.cells := by
  obtain ⟨h1, h2⟩ := cellsPV_rel h hr
  refine ⟨h1, fun i u hu => ?_, fun i p u hp hu => (h2 i p u hp hu).2⟩
  have hlt : i < cs.length := by rw [← h1]; exact (Array.getElem?_eq_some_iff.1 hu).1
  exact (h2 i _ u (List.getElem?_eq_getElem hlt) hu).1

theorem pop_box {P : Program} {σ : PS} {o : Oper} {K : PV → List Blk → Prop} {t : TypeId} {x : Operand} (ho : o.op = .box t x) {cs : List PV} (hz : cellsPV (σ.get x) = some cs)
    (hK : ∀ g, K (.ptr σ.S.length g 0 0) (σ.S ++ [⟨g, true, cs.length, [cs]⟩])) : PopSem P σ o K :=
  pop_of_run fun c a r => by
    obtain ⟨c', h3, h4, h5, h6, h7⟩ := newVar_rel (P := P) r.inv t (relCells_of_cellsPV hz (r.get x))
    refine ⟨_, c', _, ?_, ?_, h5, h6, h7⟩
    · simp only [execOp, ho]
      exact mk_run h3
    · rw [h4, r.S]; exact hK _

/-- Cells laid over a row. -/
def over (row : List PV) (off : Nat) (cs : List PV) : List PV := row.take off ++ cs ++ row.drop (off + cs.length)

theorem over_get {row cs : List PV} {off j : Nat} {x : PV} (hle : off + cs.length ≤ row.length) (h : (over row off cs)[j]? = some x) :
    (off ≤ j ∧ j < off + cs.length ∧ cs[j - off]? = some x) ∨ ((j < off ∨ off + cs.length ≤ j) ∧ row[j]? = some x) := by
  unfold over at h
  rcases Nat.lt_or_ge j off with hj | hj
  · rw [List.append_assoc, List.getElem?_append_left (by simp; omega), List.getElem?_take, if_pos hj] at h
    exact .inr ⟨.inl hj, h⟩
  · rw [List.append_assoc, List.getElem?_append_right (by simp; omega), List.length_take, Nat.min_eq_left (by omega)] at h
    rcases Nat.lt_or_ge (j - off) cs.length with hk | hk
    · rw [List.getElem?_append_left hk] at h
      exact .inl ⟨hj, by omega, h⟩
    · rw [List.getElem?_append_right hk, List.getElem?_drop] at h
      refine .inr ⟨.inr (by omega), ?_⟩
      rw [← h]
      congr 1
      omega

theorem over_length {row cs : List PV} {off : Nat} (hle : off + cs.length ≤ row.length) : (over row off cs).length = row.length := by
  simp [over]; omega

theorem arr_over_get (cs : Array Value) (o : Nat) (vs : List Value) (k : Nat) (h : o + vs.length ≤ cs.size) :
    (cs.toList.take o ++ vs ++ cs.toList.drop (o + vs.length)).toArray[k]? = if o ≤ k ∧ k < o + vs.length then vs[k - o]? else cs[k]? := by
  have ht : (cs.toList.take o).length = o := by rw [List.length_take, Array.length_toList]; omega
  rw [List.getElem?_toArray]
  rcases Nat.lt_or_ge k o with hk | hk
  · rw [List.append_assoc, List.getElem?_append_left (by omega), List.getElem?_take, if_pos hk, Array.getElem?_toList, if_neg (by omega)]
  · rw [List.append_assoc, List.getElem?_append_right (by omega), ht]
    rcases Nat.lt_or_ge (k - o) vs.length with hj | hj
    · rw [List.getElem?_append_left hj, if_pos (by omega)]
    · rw [List.getElem?_append_right hj, List.getElem?_drop, Array.getElem?_toList, if_neg (by omega)]
      congr 1
      omega

theorem mul_lt_of {i k sz j : Nat} (hi : i ≠ k) (hj : j < sz) (o n' : Nat) (ho : o + n' ≤ sz) : ¬ (k * sz + o ≤ i * sz + j ∧ i * sz + j < k * sz + o + n') := by
  rintro ⟨h1, h2⟩
  rcases Nat.lt_or_gt_of_ne hi with h | h
  · have : (i + 1) * sz ≤ k * sz := Nat.mul_le_mul_right _ h
    rw [Nat.succ_mul] at this
    omega
  · have : (k + 1) * sz ≤ i * sz := Nat.mul_le_mul_right _ h
    rw [Nat.succ_mul] at this
    omega

/-- A store into a block of one's own. -/
theorem pop_store {P : Program} {σ : PS} {o : Oper} {K : PV → List Blk → Prop} {t : TypeId} {x y : Operand} (ho : o.op = .store t x y) (hd : o.dst = none) {τ g i off : Nat} {blk : Blk} {row cs : List PV} (hk : known P t = true)
    (hx : σ.get x = .ptr τ g i off) (hb : σ.S[τ]? = some blk) (hg : blk.gen = g) (hown : blk.own = true) (hrow : blk.rows[i]? = some row) (hc : cellsPV (σ.get y) = some cs)
    (hn : P.cellsOf t = cs.length) (hle : off + cs.length ≤ row.length)
    (hK : K .undef (σ.S.set τ { blk with rows := blk.rows.set i (over row off cs) })) : PopSem P σ o K := by
  intro c a r next Q hnx
  have hb' : c.S[τ]? = some blk := by rw [r.S]; exact hb
  have hB := r.inv.blk τ blk hb'
  have hi : i < blk.rows.length := (List.getElem?_eq_some_iff.1 hrow).1
  obtain ⟨p, hp⟩ : ∃ p, c.β τ = some p := by
    cases hp : c.β τ with
    | none => rw [hB.void hp] at hi; simp at hi
    | some p => exact ⟨p, rfl⟩
  obtain ⟨h1, h2⟩ := cellsPV_rel hc (r.get y)
  have hrx := r.get x
  rw [hx] at hrx
  generalize hax : a.eval x = vx at hrx
  cases hrx with
  | ptr _ _ _ _ _ hy hN hv =>
    obtain ⟨_, p', hp', rfl⟩ := hv blk hb' hg
    rw [hp] at hp'
    cases hp'
    obtain ⟨vs, e, fz, k1, k2, k3, k4⟩ := hB.heap p hp
    have hrl : row.length = blk.sz := hB.len i row hrow
    have hsz : (i + 1) * blk.sz ≤ blk.rows.length * blk.sz := Nat.mul_le_mul_right _ hi
    rw [Nat.succ_mul] at hsz
    have h1' : (a.eval y).cells.toList.length = cs.length := by simpa using h1
    have hfit : p.2 + (i * blk.sz + off) + (a.eval y).cells.toList.length ≤ vs.size := by rw [h1']; omega
    have hone : ∀ v ∈ (a.eval y).cells.toList, v.oneCell' = true := by
      intro v hv
      obtain ⟨j, hj⟩ := List.mem_iff_getElem?.1 hv
      rw [Array.getElem?_toList] at hj
      have hlt : j < cs.length := by rw [← h1]; exact (Array.getElem?_eq_some_iff.1 hj).1
      exact (h2 j _ v (List.getElem?_eq_getElem hlt) hj).1
    have hst := storeCells_run (P := P) p.1 (p.2 + (i * blk.sz + off)) e fz (a.eval y).cells.toList 0 vs c.w k1 (by simpa using hfit) (k4 hown) hone
    simp only [Nat.add_zero] at hst
    obtain ⟨d, hd'⟩ := Option.isSome_iff_exists.1 hk
    have hrun : (execOp a.eval o).run P c.w = .ok .skip (c.w.setRow p.1 (vs.toList.take (p.2 + (i * blk.sz + off)) ++ (a.eval y).cells.toList ++ vs.toList.drop (p.2 + (i * blk.sz + off) + (a.eval y).cells.toList.length)).toArray) := by
      simp only [execOp, ho, hax, Instr.storeAt, Instr.sureAddr, storeVar, Sem.run_bind, Sem.run_pure, Result.andThen_ok, sizeOf_run hd']
      rw [hn, if_neg (by simpa using h1), hst]
      rfl
    obtain ⟨u1, u2⟩ := updBlk r.inv hb' hown (c.w.setRow p.1 (vs.toList.take (p.2 + (i * blk.sz + off)) ++ (a.eval y).cells.toList ++ vs.toList.drop (p.2 + (i * blk.sz + off) + (a.eval y).cells.toList.length)).toArray) p { blk with rows := blk.rows.set i (over row off cs) } c.N
      rfl rfl rfl (by simp) (fun b hb hne => setRow_other _ _ _ _ (hne p hp)) (fun q cs' e' fz' hq hh => by
        rw [hp] at hq
        cases hq
        rw [k1] at hh
        cases hh
        exact ⟨_, _, setRow_heap _ _ _ _ _ _ k1, by simp only [List.size_toArray, List.length_append, List.length_take, List.length_drop, Array.length_toList] at hfit ⊢; omega⟩) (.inl ⟨p, hp, rfl⟩) (Nat.le_refl _) hB.gen (fun _ => ⟨rfl, hp, rfl, by simp⟩)
      (fun k row' hr' => by
        rw [List.getElem?_set] at hr'
        split at hr'
        · cases hr'
          rw [over_length hle]
          exact hrl
        · exact hB.len k row' hr')
      ⟨_, e, fz, setRow_heap _ _ _ _ _ _ k1, by simp only [List.size_toArray, List.length_append, List.length_take, List.length_drop, Array.length_toList, List.length_set] at hfit ⊢; omega, fun k row' j z hr' hz' => by
        have hjs : j < blk.sz := by
          have : row'.length = blk.sz := by
            rw [List.getElem?_set] at hr'
            split at hr'
            · cases hr'
              rw [over_length hle]
              exact hrl
            · exact hB.len k row' hr'
          rw [← this]
          exact (List.getElem?_eq_some_iff.1 hz').1
        dsimp only at hr' ⊢
        rw [arr_over_get _ _ _ _ hfit, h1']
        rw [List.getElem?_set] at hr'
        split at hr'
        · rename_i hik
          subst hik
          cases hr'
          rcases over_get hle hz' with ⟨o1, o2, o3⟩ | ⟨o1, o2⟩
          · rw [if_pos (by omega)]
            have hlt : j - off < (a.eval y).cells.size := by rw [h1]; exact (List.getElem?_eq_some_iff.1 o3).1
            have hv := Array.getElem?_eq_getElem hlt
            obtain ⟨q1, q2⟩ := h2 _ _ _ o3 hv
            refine ⟨_, ?_, q1, q2⟩
            rw [Array.getElem?_toList, ← hv]
            congr 1
            omega
          · rw [if_neg (by omega)]
            exact k3 i row j z hrow o2
        · rename_i hik
          have := mul_lt_of (i := k) (k := i) (fun e => hik e.symm) hjs off cs.length (by omega)
          rw [if_neg (by omega)]
          exact k3 k row' j z hr' hz', fun k hk => by
        refine k4 hown k ?_
        simp only [List.size_toArray, List.length_append, List.length_take, List.length_drop, Array.length_toList] at hk hfit
        omega⟩
    have hβ : (fun t => if t = τ then some p else c.β t) = c.β := by
      funext t
      split
      · rename_i e; rw [e]; exact hp.symm
      · rfl
    unfold Oper.wp
    rw [hrun, Oper.upon_skip]
    exact hnx .undef _ Go.undef (by rw [r.S]; exact hK) u1 u2 (.undef _)
end Go.Proofs.Ytaaealngifkaeaa.Pv
