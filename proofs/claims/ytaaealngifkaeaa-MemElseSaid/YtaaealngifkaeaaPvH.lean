-- Eighth text: blocks of one's own come, change and are forgotten.
import Derived.Test.YtaaealngifkaeaaPvG
namespace Go.Proofs.Ytaaealngifkaeaa.Pv
set_option linter.all false
open Go.RowKit
set_option linter.unusedVariables false

/-- Cells in a heap's block that are read as rows. -/
def RowsIn (c : Cx) (sz : Nat) (rows : List (List PV)) (o : Nat) (cs : Array Value) : Prop :=
  ∀ (i : Nat) (row : List PV) (j : Nat) (x : PV), rows[i]? = some row → row[j]? = some x → ∃ v, cs[o + (i * sz + j)]? = some v ∧ v.oneCell' = true ∧ RelV c x v

theorem getElem?_append_one {α : Type} {l : List α} {x y : α} {i : Nat} (h : (l ++ [x])[i]? = some y) : (i < l.length ∧ l[i]? = some y) ∨ (i = l.length ∧ x = y) := by
  rcases Nat.lt_trichotomy i l.length with hi | hi | hi
  · rw [List.getElem?_append_left hi] at h; exact .inl ⟨hi, h⟩
  · subst hi; simp at h; exact .inr ⟨rfl, h⟩
  · rw [List.getElem?_append_right (by omega), List.getElem?_eq_none (by simp; omega)] at h; cases h

/-- A new block. -/
theorem pushBlk {c : Cx} (hi : Inv c) (w' : World) (blk : Blk) (p : Option (Nat × Nat)) (hos : w'.os = c.w.os) (ht : w'.tape = c.w.tape) (ho : w'.output = c.w.output) (hsz : c.w.heap.size ≤ w'.heap.size)
    (hw : ∀ b, b < c.w.heap.size → w'.heap[b]? = c.w.heap[b]?) (hg : blk.gen = c.N) (hlen : ∀ (i : Nat) (row : List PV), blk.rows[i]? = some row → row.length = blk.sz)
    (hvoid : p = none → blk.rows = [])
    (hp : ∀ q, p = some q → c.w.heap.size ≤ q.1 ∧ ∃ cs e fz, w'.heap[q.1]? = some (.cells cs e fz) ∧ q.2 + blk.rows.length * blk.sz ≤ cs.size ∧ RowsIn c blk.sz blk.rows q.2 cs ∧ (blk.own = true → ∀ k, k < cs.size → ¬ (fz.1 ≤ k ∧ k < fz.2))) :
    Inv ⟨w', c.G, fun t => if t = c.S.length then p else c.β t, c.S ++ [blk], c.N + 1⟩ ∧ Step c ⟨w', c.G, fun t => if t = c.S.length then p else c.β t, c.S ++ [blk], c.N + 1⟩ := by
  have hst : Step c ⟨w', c.G, fun t => if t = c.S.length then p else c.β t, c.S ++ [blk], c.N + 1⟩ := by
    refine ⟨rfl, hos, ht, ho, hsz, Nat.le_succ _, fun b hb _ => hw b hb, fun τ blk' h1 h2 => ?_, fun b hb => ?_, fun b cs e fz hb => ⟨cs, fz, by rw [hw b (Array.getElem?_eq_some_iff.1 hb).1]; exact hb, rfl⟩⟩
    · rcases getElem?_append_one h1 with ⟨h3, h4⟩ | ⟨h3, rfl⟩
      · exact ⟨blk', h4, rfl, by simp only; rw [if_neg (by omega)], rfl, rfl⟩
      · omega
    · obtain ⟨τ, blk', q, h1, h2, h3, rfl⟩ := hb
      simp only at h3
      rcases getElem?_append_one h1 with ⟨h4, h5⟩ | ⟨h4, rfl⟩
      · rw [if_neg (by omega)] at h3
        exact .inl ⟨τ, blk', q, h5, h2, h3, rfl⟩
      · rw [if_pos h4] at h3
        exact .inr (hp q h3).1
  refine ⟨⟨fun τ blk' h1 => ?_, fun τ blk' q h1 h2 => ?_, fun τ τ' b1 b2 q q' h1 h2 h3 h4 h5 h6 => ?_, fun b hb => Nat.lt_of_lt_of_le (hi.gLt b hb) hsz⟩, hst⟩
  · rcases getElem?_append_one h1 with ⟨h3, h4⟩ | ⟨h3, rfl⟩
    · have hB := hi.blk τ blk' h4
      refine ⟨Nat.lt_succ_of_lt hB.gen, hB.len, fun h => hB.void (by simpa [show τ ≠ c.S.length by omega] using h), fun q hq => ?_⟩
      have hq' : c.β τ = some q := by simpa [show τ ≠ c.S.length by omega] using hq
      obtain ⟨cs, e, fz, k1, k2, k3, k4⟩ := hB.heap q hq'
      exact ⟨cs, e, fz, by rw [hw _ (Array.getElem?_eq_some_iff.1 k1).1]; exact k1, k2, fun i row j x r1 r2 => by
        obtain ⟨v, v1, v2, v3⟩ := k3 i row j x r1 r2
        exact ⟨v, v1, v2, v3.step hst⟩, k4⟩
    · refine ⟨by rw [hg]; exact Nat.lt_succ_self _, hlen, fun h => hvoid (by simpa [h3] using h), fun q hq => ?_⟩
      have hq' : p = some q := by simpa [h3] using hq
      obtain ⟨_, cs, e, fz, k1, k2, k3, k4⟩ := hp q hq'
      exact ⟨cs, e, fz, k1, k2, fun i row j x r1 r2 => by
        obtain ⟨v, v1, v2, v3⟩ := k3 i row j x r1 r2
        exact ⟨v, v1, v2, v3.step hst⟩, k4⟩
  · simp only at h2
    rcases getElem?_append_one h1 with ⟨h3, h4⟩ | ⟨h3, rfl⟩
    · rw [if_neg (by omega)] at h2
      exact hi.notG τ blk' q h4 h2
    · rw [if_pos h3] at h2
      intro hG
      have := hi.gLt _ hG
      have := (hp q h2).1
      omega
  · simp only at h4 h5
    have lt : ∀ τ blk q, c.S[τ]? = some blk → c.β τ = some q → q.1 < c.w.heap.size := fun τ blk q g1 g2 => by
      obtain ⟨cs, e, fz, k1, _⟩ := (hi.blk τ blk g1).heap q g2
      exact (Array.getElem?_eq_some_iff.1 k1).1
    rcases getElem?_append_one h1 with ⟨e1, e2⟩ | ⟨e1, rfl⟩ <;> rcases getElem?_append_one h2 with ⟨f1, f2⟩ | ⟨f1, rfl⟩
    · rw [if_neg (by omega)] at h4 h5
      exact hi.inj τ τ' b1 b2 q q' e2 f2 h3 h4 h5 h6
    · rw [if_neg (by omega)] at h4
      rw [if_pos f1] at h5
      have := lt _ _ _ e2 h4
      have := (hp q' h5).1
      omega
    · rw [if_pos e1] at h4
      rw [if_neg (by omega)] at h5
      have := lt _ _ _ f2 h5
      have := (hp q h4).1
      omega
    · omega

/-- A block changes. -/
theorem updBlk {c : Cx} (hi : Inv c) {τ : Nat} {blk : Blk} (hb : c.S[τ]? = some blk) (hown : blk.own = true) (w' : World) (p' : Nat × Nat) (blk' : Blk) (N' : Nat)
    (hos : w'.os = c.w.os) (ht : w'.tape = c.w.tape) (ho : w'.output = c.w.output) (hsz : c.w.heap.size ≤ w'.heap.size)
    (hw : ∀ b, b < c.w.heap.size → (∀ p, c.β τ = some p → b ≠ p.1) → w'.heap[b]? = c.w.heap[b]?)
    (hcs : ∀ p cs e fz, c.β τ = some p → c.w.heap[p.1]? = some (.cells cs e fz) → ∃ cs' fz', w'.heap[p.1]? = some (.cells cs' e fz') ∧ cs'.size = cs.size)
    (hp : (∃ p, c.β τ = some p ∧ p'.1 = p.1) ∨ c.w.heap.size ≤ p'.1)
    (hN : c.N ≤ N') (hg : blk'.gen < N')
    (hent : blk'.gen < c.N → blk'.gen = blk.gen ∧ c.β τ = some p' ∧ blk'.sz = blk.sz ∧ blk'.rows.length = blk.rows.length)
    (hlen : ∀ (i : Nat) (row : List PV), blk'.rows[i]? = some row → row.length = blk'.sz)
    (hheap : ∃ cs e fz, w'.heap[p'.1]? = some (.cells cs e fz) ∧ p'.2 + blk'.rows.length * blk'.sz ≤ cs.size ∧ RowsIn c blk'.sz blk'.rows p'.2 cs ∧ (∀ k, k < cs.size → ¬ (fz.1 ≤ k ∧ k < fz.2))) :
    Inv ⟨w', c.G, fun t => if t = τ then some p' else c.β t, c.S.set τ blk', N'⟩ ∧ Step c ⟨w', c.G, fun t => if t = τ then some p' else c.β t, c.S.set τ blk', N'⟩ := by
  have hτ : τ < c.S.length := (List.getElem?_eq_some_iff.1 hb).1
  have get : ∀ {t : Nat} {b : Blk}, (c.S.set τ blk')[t]? = some b → (t = τ ∧ b = blk') ∨ (t ≠ τ ∧ c.S[t]? = some b) := by
    intro t b h
    rw [List.getElem?_set] at h
    split at h
    · rename_i e
      cases h
      exact .inl ⟨e.symm, rfl⟩
    · rename_i e
      exact .inr ⟨fun f => e f.symm, h⟩
  have lt : ∀ τ blk q, c.S[τ]? = some blk → c.β τ = some q → q.1 < c.w.heap.size := fun τ blk q g1 g2 => by
    obtain ⟨cs, e, fz, k1, _⟩ := (hi.blk τ blk g1).heap q g2
    exact (Array.getElem?_eq_some_iff.1 k1).1
  have hst : Step c ⟨w', c.G, fun t => if t = τ then some p' else c.β t, c.S.set τ blk', N'⟩ := by
    refine ⟨rfl, hos, ht, ho, hsz, hN, fun b hb' hno => hw b hb' (fun p hp' e => hno ⟨τ, blk, p, hb, hown, hp', e.symm⟩), fun t b h1 h2 => ?_, fun b hb' => ?_, fun b cs e fz hb' => ?_⟩
    · rcases get h1 with ⟨rfl, rfl⟩ | ⟨h3, h4⟩
      · obtain ⟨e1, e2, e3, e4⟩ := hent h2
        exact ⟨blk, hb, e1.symm, by simp only [if_true]; exact e2.symm, e3, e4⟩
      · exact ⟨b, h4, rfl, by simp only; rw [if_neg h3], rfl, rfl⟩
    · obtain ⟨t, b1, q, h1, h2, h3, rfl⟩ := hb'
      simp only at h3
      rcases get h1 with ⟨rfl, rfl⟩ | ⟨h4, h5⟩
      · rw [if_pos rfl] at h3
        cases h3
        rcases hp with ⟨p, e1, e2⟩ | e1
        · exact .inl ⟨t, blk, p, hb, hown, e1, e2.symm⟩
        · exact .inr e1
      · rw [if_neg h4] at h3
        exact .inl ⟨t, b1, q, h5, h2, h3, rfl⟩
    · by_cases hh : ∃ p, c.β τ = some p ∧ b = p.1
      · obtain ⟨p, e1, rfl⟩ := hh
        exact hcs p cs e fz e1 hb'
      · refine ⟨cs, fz, ?_, rfl⟩
        rw [hw b (Array.getElem?_eq_some_iff.1 hb').1 (fun p e1 e2 => hh ⟨p, e1, e2⟩)]
        exact hb'
  refine ⟨⟨fun t b h1 => ?_, fun t b q h1 h2 => ?_, fun t t' b1 b2 q q' h1 h2 h3 h4 h5 h6 => ?_, fun b hb => Nat.lt_of_lt_of_le (hi.gLt b hb) hsz⟩, hst⟩
  · rcases get h1 with ⟨rfl, rfl⟩ | ⟨h3, h4⟩
    · refine ⟨hg, hlen, fun h => by simp at h, fun q hq => ?_⟩
      simp only [if_true, Option.some.injEq] at hq
      subst hq
      obtain ⟨cs, e, fz, k1, k2, k3, k4⟩ := hheap
      exact ⟨cs, e, fz, k1, k2, fun i row j x r1 r2 => by
        obtain ⟨v, v1, v2, v3⟩ := k3 i row j x r1 r2
        exact ⟨v, v1, v2, v3.step hst⟩, fun _ => k4⟩
    · have hB := hi.blk t b h4
      refine ⟨Nat.lt_of_lt_of_le hB.gen hN, hB.len, fun h => hB.void (by simpa [h3] using h), fun q hq => ?_⟩
      have hq' : c.β t = some q := by simpa [h3] using hq
      obtain ⟨cs, e, fz, k1, k2, k3, k4⟩ := hB.heap q hq'
      refine ⟨cs, e, fz, ?_, k2, fun i row j x r1 r2 => by
        obtain ⟨v, v1, v2, v3⟩ := k3 i row j x r1 r2
        exact ⟨v, v1, v2, v3.step hst⟩, k4⟩
      rw [hw _ (Array.getElem?_eq_some_iff.1 k1).1 (fun p e1 e2 => h3 (hi.inj τ t blk b p q hb h4 hown e1 hq' e2.symm).symm)]
      exact k1
  · simp only at h2
    rcases get h1 with ⟨rfl, rfl⟩ | ⟨h3, h4⟩
    · rw [if_pos rfl] at h2
      cases h2
      rcases hp with ⟨p, e1, e2⟩ | e1
      · rw [e2]; exact hi.notG t blk p hb e1
      · intro hG
        have := hi.gLt _ hG
        omega
    · rw [if_neg h3] at h2
      exact hi.notG t b q h4 h2
  · simp only at h4 h5
    rcases get h1 with ⟨rfl, rfl⟩ | ⟨e1, e2⟩ <;> rcases get h2 with ⟨rfl, rfl⟩ | ⟨f1, f2⟩
    · rfl
    · rw [if_pos rfl] at h4
      rw [if_neg f1] at h5
      cases h4
      rcases hp with ⟨p, g1, g2⟩ | g1
      · exact hi.inj t t' blk b2 p q' hb f2 hown g1 h5 (g2.symm.trans h6)
      · have := lt _ _ _ f2 h5
        omega
    · rw [if_neg e1] at h4
      rw [if_pos rfl] at h5
      cases h5
      rcases hp with ⟨p, g1, g2⟩ | g1
      · exact hi.inj t t' b1 blk q p e2 hb h3 h4 g1 (h6.trans g2)
      · have := lt _ _ _ e2 h4
        omega
    · rw [if_neg e1] at h4
      rw [if_neg f1] at h5
      exact hi.inj t t' b1 b2 q q' e2 f2 h3 h4 h5 h6

/-- A block is no longer written. -/
theorem freezeBlk {c : Cx} (hi : Inv c) {τ : Nat} {blk : Blk} (hb : c.S[τ]? = some blk) :
    Inv { c with S := c.S.set τ { blk with own := false } } ∧ Step c { c with S := c.S.set τ { blk with own := false } } := by
  have hτ : τ < c.S.length := (List.getElem?_eq_some_iff.1 hb).1
  have get : ∀ {t : Nat} {b : Blk}, (c.S.set τ { blk with own := false })[t]? = some b → (t = τ ∧ b = { blk with own := false }) ∨ (t ≠ τ ∧ c.S[t]? = some b) := by
    intro t b h
    rw [List.getElem?_set] at h
    split at h
    · rename_i e
      cases h
      exact .inl ⟨e.symm, rfl⟩
    · rename_i e
      exact .inr ⟨fun f => e f.symm, h⟩
  have hst : Step c { c with S := c.S.set τ { blk with own := false } } := by
    refine ⟨rfl, rfl, rfl, rfl, Nat.le_refl _, Nat.le_refl _, fun _ _ _ => rfl, fun t b h1 _ => ?_, fun b hb' => ?_, fun b cs e fz h => ⟨cs, fz, h, rfl⟩⟩
    · rcases get h1 with ⟨rfl, rfl⟩ | ⟨h3, h4⟩
      · exact ⟨blk, hb, rfl, rfl, rfl, rfl⟩
      · exact ⟨b, h4, rfl, rfl, rfl, rfl⟩
    · obtain ⟨t, b1, q, h1, h2, h3, rfl⟩ := hb'
      rcases get h1 with ⟨rfl, rfl⟩ | ⟨h4, h5⟩
      · cases h2
      · exact .inl ⟨t, b1, q, h5, h2, h3, rfl⟩
  refine ⟨⟨fun t b h1 => ?_, fun t b q h1 h2 => ?_, fun t t' b1 b2 q q' h1 h2 h3 h4 h5 h6 => ?_, hi.gLt⟩, hst⟩
  · rcases get h1 with ⟨rfl, rfl⟩ | ⟨h3, h4⟩
    · have hB := hi.blk t blk hb
      exact ⟨hB.gen, hB.len, hB.void, fun q hq => by
        obtain ⟨cs, e, fz, k1, k2, k3, k4⟩ := hB.heap q hq
        exact ⟨cs, e, fz, k1, k2, fun i row j x r1 r2 => by
          obtain ⟨v, v1, v2, v3⟩ := k3 i row j x r1 r2
          exact ⟨v, v1, v2, v3.step hst⟩, fun h => by cases h⟩⟩
    · have hB := hi.blk t b h4
      exact ⟨hB.gen, hB.len, hB.void, fun q hq => by
        obtain ⟨cs, e, fz, k1, k2, k3, k4⟩ := hB.heap q hq
        exact ⟨cs, e, fz, k1, k2, fun i row j x r1 r2 => by
          obtain ⟨v, v1, v2, v3⟩ := k3 i row j x r1 r2
          exact ⟨v, v1, v2, v3.step hst⟩, k4⟩⟩
  · rcases get h1 with ⟨rfl, rfl⟩ | ⟨h3, h4⟩
    · exact hi.notG t blk q hb h2
    · exact hi.notG t b q h4 h2
  · rcases get h1 with ⟨rfl, rfl⟩ | ⟨e1, e2⟩
    · cases h3
    · rcases get h2 with ⟨rfl, rfl⟩ | ⟨f1, f2⟩
      · exact hi.inj t t' b1 blk q q' e2 hb h3 h4 h5 h6
      · exact hi.inj t t' b1 b2 q q' e2 f2 h3 h4 h5 h6

/-- The last blocks are forgotten. -/
theorem dropBlk {c : Cx} (hi : Inv c) (k : Nat) : Inv { c with S := c.S.take k } ∧ Step c { c with S := c.S.take k } := by
  have get : ∀ {t : Nat} {b : Blk}, (c.S.take k)[t]? = some b → c.S[t]? = some b := by
    intro t b h
    rw [List.getElem?_take] at h
    split at h
    · exact h
    · cases h
  have hst : Step c { c with S := c.S.take k } :=
    ⟨rfl, rfl, rfl, rfl, Nat.le_refl _, Nat.le_refl _, fun _ _ _ => rfl, fun t b h1 _ => ⟨b, get h1, rfl, rfl, rfl, rfl⟩, fun b ⟨t, b1, q, h1, h2, h3, e⟩ => .inl ⟨t, b1, q, get h1, h2, h3, e⟩, fun b cs e fz h => ⟨cs, fz, h, rfl⟩⟩
  refine ⟨⟨fun t b h1 => ?_, fun t b q h1 h2 => hi.notG t b q (get h1) h2, fun t t' b1 b2 q q' h1 h2 => hi.inj t t' b1 b2 q q' (get h1) (get h2), hi.gLt⟩, hst⟩
  have hB := hi.blk t b (get h1)
  exact ⟨hB.gen, hB.len, hB.void, fun q hq => by
    obtain ⟨cs, e, fz, k1, k2, k3, k4⟩ := hB.heap q hq
    exact ⟨cs, e, fz, k1, k2, fun i row j x r1 r2 => by
      obtain ⟨v, v1, v2, v3⟩ := k3 i row j x r1 r2
      exact ⟨v, v1, v2, v3.step hst⟩, k4⟩⟩

theorem storeCells_run {P : Program} (g o : Nat) (e : TypeId) (fz : Nat × Nat) : ∀ (vs : List Value) (i : Nat) (cur : Array Value) (w : World), w.heap[g]? = some (.cells cur e fz) → o + i + vs.length ≤ cur.size →
    (∀ k, k < cur.size → ¬ (fz.1 ≤ k ∧ k < fz.2)) → (∀ v ∈ vs, v.oneCell' = true) →
    (storeCells ⟨g, o, none⟩ vs i).run P w = .ok () (w.setRow g (cur.toList.take (o + i) ++ vs ++ cur.toList.drop (o + i + vs.length)).toArray)
  | [], i, cur, w, hg, _, _, _ => by
    simp only [storeCells, List.append_nil, List.length_nil, Nat.add_zero, List.take_append_drop, Array.toArray_toList]
    rw [setRow_self w g cur e fz hg]
    rfl
  | v :: rest, i, cur, w, hg, hl, hf, h1 => by
    have hi : o + i < cur.size := by simp at hl; omega
    have hcell : w.cell? ⟨g, o + i, none⟩ = some cur[o + i] := by simp [World.cell?, hg, hi]
    have hfro : w.frozen? ⟨g, o + i, none⟩ = false := by
      have := hf (o + i) hi
      simp only [World.frozen?, hg]
      cases fz
      simpa [Bool.and_eq_false_iff, decide_eq_false_iff_not, Nat.not_le, Nat.not_lt] using this
    have hst : (store ((⟨g, o, none⟩ : Addr).add i) v).run P w = .ok () (w.setRow g (cur.setIfInBounds (o + i) v)) := by
      rw [Addr.add_mid, run_store P w _ v _ (h1 v (by simp)), hcell]
      simp [hfro, setCell_eq_setRow w g (o + i) cur e fz v hg]
    have ih := storeCells_run (P := P) g o e fz rest (i + 1) (cur.setIfInBounds (o + i) v) (w.setRow g (cur.setIfInBounds (o + i) v)) (setRow_heap w g cur _ e _ hg) (by simp at hl ⊢; omega) (by simpa using hf) (fun x hx => h1 x (by simp [hx]))
    simp only [storeCells, Sem.run_bind, hst, Result.andThen_ok, ih, setRow_setRow]
    congr 3
    have e := list_seg_step cur.toList (o + i) v rest (by simp at hl ⊢; omega)
    simpa [Array.toList_setIfInBounds, Nat.add_assoc] using e
end Go.Proofs.Ytaaealngifkaeaa.Pv
