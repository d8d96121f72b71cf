-- Twenty-ninth text: a call that knows of some blocks alone, made where there are more.
import Derived.Test.YtaaealngifkaeaaPvc
namespace Go.Proofs.Ytaaealngifkaeaa.Pv
set_option linter.all false
open Go.RowKit
set_option linter.unusedVariables false
def pos : List Nat → Nat → Option Nat
  | [], _ => none
  | x :: e, a => if x = a then some 0 else (pos e a).map (· + 1)
theorem pos_some : ∀ {e : List Nat} {a i : Nat}, pos e a = some i → e[i]? = some a
  | [], a, i, h => by simp [pos] at h
  | x :: e, a, i, h => by
    unfold pos at h
    split at h
    · rename_i h1; cases h; rw [h1]; rfl
    · obtain ⟨j, h2, rfl⟩ := Option.map_eq_some_iff.1 h
      rw [List.getElem?_cons_succ]
      exact pos_some h2
theorem pos_none : ∀ {e : List Nat} {a : Nat}, pos e a = none → a ∉ e
  | [], a, _ => by simp
  | x :: e, a, h => by
    unfold pos at h
    split at h
    · cases h
    · rename_i h1
      have := pos_none (e := e) (a := a) (by simpa using h)
      simp only [List.mem_cons, not_or]
      exact ⟨fun h => h1 h.symm, this⟩
theorem nodup_get {e : List Nat} (hn : e.Nodup) {i j a : Nat} (h : e[i]? = some a) (k : e[j]? = some a) : i = j := by
  exact (List.getElem?_inj (List.getElem?_eq_some_iff.1 h).1 hn).1 (h.trans k.symm)
theorem pos_of {e : List Nat} (hn : e.Nodup) {i a : Nat} (h : e[i]? = some a) : pos e a = some i := by
  cases hp : pos e a with
  | none => exact absurd (List.mem_of_getElem? h) (pos_none hp)
  | some j => rw [nodup_get hn (pos_some hp) h]
theorem sg_at : ∀ {e : List Nat} {m i a : Nat}, e[i]? = some a → sg e m i = a
  | [], m, i, a, h => by simp at h
  | x :: e, m, 0, a, h => by simp at h; subst h; rfl
  | x :: e, m, i + 1, a, h => by rw [sg]; exact sg_at (by simpa using h)
theorem sg_new : ∀ {e : List Nat} {m i : Nat}, e.length ≤ i → sg e m i = m + (i - e.length)
  | [], m, i, h => by rw [sg]; simp
  | x :: e, m, 0, h => by simp at h
  | x :: e, m, i + 1, h => by
    rw [sg, sg_new (by simpa using h), List.length_cons]
    omega
theorem sg_inj {e : List Nat} {m i j : Nat} (hn : e.Nodup) (hb : ∀ a ∈ e, a < m) (h : sg e m i = sg e m j) : i = j := by
  rcases Nat.lt_or_ge i e.length with hi | hi
  · have h1 := List.getElem?_eq_getElem hi
    rcases Nat.lt_or_ge j e.length with hj | hj
    · have h2 := List.getElem?_eq_getElem hj
      rw [sg_at h1, sg_at h2] at h
      rw [h] at h1
      exact nodup_get hn h1 h2
    · rw [sg_at h1, sg_new hj] at h
      have := hb _ (List.getElem_mem hi)
      omega
  · rcases Nat.lt_or_ge j e.length with hj | hj
    · have h2 := List.getElem?_eq_getElem hj
      rw [sg_new hi, sg_at h2] at h
      have := hb _ (List.getElem_mem hj)
      omega
    · rw [sg_new hi, sg_new hj] at h
      omega

theorem gcall_frame {P : Program} {f : FuncId} {args : List PV} {S : List Blk} {R : PV → List Blk → Prop} (h : GCall P f args S R) (e : List Nat) {Sb : List Blk} (hn : e.Nodup) (hl : e.length = S.length) (hb : ∀ a ∈ e, a < Sb.length)
    (hS : ∀ (i a : Nat), e[i]? = some a → Sb[a]? = (S[i]?).map (renB (sg e Sb.length))) (hR : ∀ x S', R x S' → S.length ≤ S'.length) :
    GCall P f (renL (sg e Sb.length) args) Sb (fun x' Sb' => ∃ x S', R x S' ∧ x' = ren (sg e Sb.length) x ∧ Sb' = putB e (S'.map (renB (sg e Sb.length))) Sb) := by
  intro c vals hi hs hlen hv
  subst hs
  generalize hf0 : sg e c.S.length = f0 at *
  have sgE : ∀ {i a : Nat}, e[i]? = some a → f0 i = a := fun h => by rw [← hf0]; exact sg_at h
  let c1 : Cx := { w := c.w, G := fun b => c.X b ∧ ¬ ∃ (i a : Nat) (p : Nat × Nat), e[i]? = some a ∧ c.β a = some p ∧ p.1 = b, β := fun τ => (e[τ]?).bind c.β, S := S, N := c.N }
  have ent1 : ∀ {τ : Nat} {blk : Blk}, S[τ]? = some blk → ∃ a : Nat, e[τ]? = some a ∧ c.S[a]? = some (renB f0 blk) ∧ c1.β τ = c.β a := by
    intro τ blk hb1
    have hlt : τ < e.length := by rw [hl]; exact (List.getElem?_eq_some_iff.1 hb1).1
    have he := List.getElem?_eq_getElem hlt
    refine ⟨e[τ], he, ?_, by simp [c1, he]⟩
    rw [hS τ _ he, hb1]; rfl
  have imgB : ∀ {i a : Nat}, e[i]? = some a → ∃ blk, S[i]? = some blk ∧ c.S[a]? = some (renB f0 blk) := by
    intro i a he
    have hlt : i < S.length := by rw [← hl]; exact (List.getElem?_eq_some_iff.1 he).1
    refine ⟨S[i], List.getElem?_eq_getElem hlt, ?_⟩
    rw [hS i a he, List.getElem?_eq_getElem hlt]; rfl
  have own1 : ∀ {b : Nat}, c1.Own b → ∃ (i a : Nat) (blk : Blk) (p : Nat × Nat), e[i]? = some a ∧ c.S[a]? = some (renB f0 blk) ∧ blk.own = true ∧ c.β a = some p ∧ p.1 = b := by
    rintro b ⟨τ, blk, p, h1, h2, h3, h4⟩
    obtain ⟨a, k1, k2, k3⟩ := ent1 h1
    exact ⟨τ, a, blk, p, k1, k2, h2, by rw [← k3]; exact h3, h4⟩
  have ownc : ∀ {b : Nat}, c1.Own b → c.Own b := fun h => by
    obtain ⟨i, a, blk, p, k1, k2, k3, k4, k5⟩ := own1 h
    exact ⟨a, _, p, k2, k3, k4, k5⟩
  have hX1 : ∀ b, ¬ c.X b → ¬ c1.X b := by
    rintro b hx (h1 | h1)
    · exact hx h1.1
    · exact hx (.inr (ownc h1))
  have hview1 : ∀ (τ : Nat) (blk : Blk), c1.S[τ]? = some blk → ∃ blk', c.S[f0 τ]? = some blk' ∧ blk'.gen = blk.gen ∧ blk'.sz = blk.sz ∧ blk'.rows.length = blk.rows.length ∧ c.β (f0 τ) = c1.β τ := by
    intro τ blk h1
    obtain ⟨a, k1, k2, k3⟩ := ent1 h1
    rw [sgE k1]
    exact ⟨_, k2, rfl, rfl, by simp [renB], k3.symm⟩
  have into : ∀ {x : PV} {v : Value}, RelV c (ren f0 x) v → RelV c1 x v := fun hr => ren_into hX1 rfl rfl hview1 hr _ rfl
  have hi1 : Inv c1 := by
    refine ⟨fun τ blk h1 => ?_, fun τ blk p h1 h2 hg => ?_, fun τ τ' b b' p p' h1 h2 h3 h4 h5 h6 => ?_, fun b hg => ?_⟩
    · obtain ⟨a, k1, k2, k3⟩ := ent1 h1
      have hB := hi.blk a _ k2
      refine ⟨hB.gen, fun i row hr => ?_, fun hv => ?_, fun p hp => ?_⟩
      · have := hB.len i (renL f0 row) (by simp [renB, hr])
        rw [renL_length] at this
        exact this
      · have := hB.void (by rw [← k3]; exact hv)
        simpa [renB] using this
      · obtain ⟨cs, et, fz, g1, g2, g3, g4⟩ := hB.heap p (by rw [← k3]; exact hp)
        refine ⟨cs, et, fz, g1, by simpa [renB] using g2, fun i row j x r1 r2 => ?_, g4⟩
        obtain ⟨v, v1, v2, v3⟩ := g3 i (renL f0 row) j (ren f0 x) (by simp [renB, r1]) (by rw [renL_map, List.getElem?_map, r2]; rfl)
        exact ⟨v, v1, v2, into v3⟩
    · obtain ⟨a, k1, k2, k3⟩ := ent1 h1
      exact hg.2 ⟨τ, a, p, k1, by rw [← k3]; exact h2, rfl⟩
    · obtain ⟨a, k1, k2, k3⟩ := ent1 h1
      obtain ⟨a', k1', k2', k3'⟩ := ent1 h2
      have := hi.inj a a' _ _ p p' k2 k2' h3 (by rw [← k3]; exact h4) (by rw [← k3']; exact h5) h6
      subst this
      exact nodup_get hn k1 k1'
    · rcases hg.1 with h1 | h1
      · exact hi.gLt b h1
      · exact Cx.Own.lt hi h1
  refine (h c1 vals hi1 rfl (by rw [hlen, renL_length]) (fun i x v h1 h2 => into (hv i (ren f0 x) v (by rw [renL_map, List.getElem?_map, h1]; rfl) h2))).mono ?_
  rintro en w' ⟨v, x, c1', rfl, rfl, hRx, hi', hst, hrel⟩
  have hSl := hR x c1'.S hRx
  have hSl' : e.length ≤ (c1'.S.map (renB f0)).length := by rw [List.length_map, hl]; exact hSl
  let c' : Cx := { w := c1'.w, G := c.G, β := fun t => if t < c.S.length then (match pos e t with | some i => c1'.β i | none => c.β t) else c1'.β (e.length + (t - c.S.length)), S := putB e (c1'.S.map (renB f0)) c.S, N := c1'.N }
  have get : ∀ {t : Nat} {blk' : Blk}, c'.S[t]? = some blk' → (∃ (τ : Nat) (b : Blk), f0 τ = t ∧ c1'.S[τ]? = some b ∧ blk' = renB f0 b ∧ c'.β t = c1'.β τ) ∨ (c.S[t]? = some blk' ∧ t ∉ e ∧ t < c.S.length ∧ c'.β t = c.β t) := by
    intro t blk' h1
    rcases Nat.lt_or_ge t c.S.length with ht | ht
    · cases hp : pos e t with
      | some i =>
        have he := pos_some hp
        have h2 : (putB e (c1'.S.map (renB f0)) c.S)[t]? = some blk' := h1
        rw [putB_at e _ _ i t hn hb hSl' he, List.getElem?_map] at h2
        obtain ⟨b, h3, rfl⟩ := Option.map_eq_some_iff.1 h2
        exact .inl ⟨i, b, sgE he, h3, rfl, by simp [c', ht, hp]⟩
      | none =>
        have hne := pos_none hp
        have h2 : (putB e (c1'.S.map (renB f0)) c.S)[t]? = some blk' := h1
        rw [putB_else e _ _ t hSl' hne ht] at h2
        exact .inr ⟨h2, hne, ht, by simp [c', ht, hp]⟩
    · have h2 : (putB e (c1'.S.map (renB f0)) c.S)[t]? = some blk' := h1
      rw [putB_new e _ _ t hSl' ht, List.getElem?_map] at h2
      obtain ⟨b, h3, rfl⟩ := Option.map_eq_some_iff.1 h2
      refine .inl ⟨e.length + (t - c.S.length), b, ?_, h3, rfl, ?_⟩
      · rw [← hf0, sg_new (by omega)]; omega
      · simp [c', show ¬ t < c.S.length by omega]
  have hinj : ∀ {i j : Nat}, f0 i = f0 j → i = j := fun h => by rw [← hf0] at h; exact sg_inj hn hb h
  have notIn : ∀ {τ : Nat}, f0 τ ∉ e → ¬ f0 τ < c.S.length := by
    intro τ h1 h2
    rcases Nat.lt_or_ge τ e.length with h3 | h3
    · have := List.getElem?_eq_getElem h3
      rw [sgE this] at h1
      exact h1 (List.getElem_mem h3)
    · rw [← hf0, sg_new h3] at h2
      omega
  have gG : ∀ {b : Nat}, c.G b → c1'.G b := by
    intro b hg
    rw [hst.G]
    refine ⟨.inl hg, ?_⟩
    rintro ⟨i, a, p, k1, k2, rfl⟩
    obtain ⟨blk, _, k3⟩ := imgB k1
    exact hi.notG a _ p k3 k2 hg
  have oG : ∀ {t : Nat} {blk : Blk} {p : Nat × Nat}, c.S[t]? = some blk → t ∉ e → blk.own = true → c.β t = some p → c1'.G p.1 := by
    intro t blk p h1 h2 h3 h4
    rw [hst.G]
    refine ⟨.inr ⟨t, blk, p, h1, h3, h4, rfl⟩, ?_⟩
    rintro ⟨i, a, q, k1, k2, k3⟩
    obtain ⟨blk', _, k4⟩ := imgB k1
    have := hi.inj t a _ _ p q h1 k4 h3 h4 k2 k3.symm
    subst this
    exact h2 (List.mem_of_getElem? k1)
  have notOwn : ∀ {t : Nat} {blk : Blk} {p : Nat × Nat}, c.S[t]? = some blk → t ∉ e → c.β t = some p → ¬ c1.Own p.1 := by
    intro t blk p h1 h2 h3 h4
    obtain ⟨i, a, blk', q, k1, k2, k3, k4, k5⟩ := own1 h4
    have := hi.inj a t _ _ q p k2 h1 k3 k4 h3 k5
    subst this
    exact h2 (List.mem_of_getElem? k1)
  have hstep : Step c c' := by
    refine ⟨rfl, hst.os, hst.tape, hst.output, hst.size, hst.N, fun b hb1 ho => hst.blocks b hb1 (fun h => ho (ownc h)), fun t blk' h1 hg => ?_, fun b ho => ?_, hst.cells⟩
    · rcases get h1 with ⟨τ, b, rfl, h2, rfl, h3⟩ | ⟨h2, h3, h4, h5⟩
      · obtain ⟨blk, k1, k2, k3, k4, k5⟩ := hst.ent τ b h2 hg
        obtain ⟨a, g1, g2, g3⟩ := ent1 k1
        rw [sgE g1] at h3 ⊢
        exact ⟨_, g2, k2, by rw [h3, k3, g3], k4, by simpa [renB] using k5⟩
      · exact ⟨blk', h2, rfl, h5, rfl, rfl⟩
    · obtain ⟨t, blk', p, h1, h2, h3, rfl⟩ := ho
      rcases get h1 with ⟨τ, b, rfl, k2, rfl, k3⟩ | ⟨k2, k3, k4, k5⟩
      · rcases hst.own p.1 ⟨τ, b, p, k2, h2, by rw [← k3]; exact h3, rfl⟩ with g | g
        · exact .inl (ownc g)
        · exact .inr g
      · exact .inl ⟨t, blk', p, k2, h2, by rw [← k5]; exact h3, rfl⟩
  have hX2 : ∀ b, ¬ c1'.X b → ¬ c'.X b := by
    rintro b hx (h1 | h1)
    · exact hx (.inl (gG h1))
    · obtain ⟨t, blk', p, h1, h2, h3, rfl⟩ := h1
      rcases get h1 with ⟨τ, b, rfl, k2, rfl, k3⟩ | ⟨k2, k3, k4, k5⟩
      · exact hx (.inr ⟨τ, b, p, k2, h2, by rw [← k3]; exact h3, rfl⟩)
      · exact hx (.inl (oG k2 k3 h2 (by rw [← k5]; exact h3)))
  have hview2 : ∀ (τ : Nat) (blk2 : Blk), c'.S[f0 τ]? = some blk2 → ∃ blk, c1'.S[τ]? = some blk ∧ blk.gen = blk2.gen ∧ blk.sz = blk2.sz ∧ blk.rows.length = blk2.rows.length ∧ c1'.β τ = c'.β (f0 τ) := by
    intro τ blk2 h1
    rcases get h1 with ⟨τ', b, h2, h3, rfl, h4⟩ | ⟨h2, h3, h4, h5⟩
    · obtain rfl := hinj h2
      exact ⟨b, h3, rfl, rfl, by simp [renB], h4.symm⟩
    · exact absurd h4 (notIn h3)
  have out : ∀ {x : PV} {v : Value}, RelV c1' x v → RelV c' (ren f0 x) v := fun hr => ren_out hX2 rfl rfl hview2 hr
  refine ⟨v, ren f0 x, c', rfl, rfl, ⟨x, c1'.S, hRx, rfl, rfl⟩, ?_, hstep, out hrel⟩
  refine ⟨fun t blk' h1 => ?_, fun t blk' p h1 h2 hg => ?_, fun t t' b1 b2 p p' h1 h2 h3 h4 h5 h6 => ?_, fun b hg => Nat.lt_of_lt_of_le (hi.gLt b hg) hst.size⟩
  · rcases get h1 with ⟨τ, b, rfl, h2, rfl, h3⟩ | ⟨h2, h3, h4, h5⟩
    · have hB := hi'.blk τ b h2
      refine ⟨hB.gen, fun i row hr => ?_, fun hv => ?_, fun p hp => ?_⟩
      · simp only [renB, List.getElem?_map] at hr
        obtain ⟨row0, k1, rfl⟩ := Option.map_eq_some_iff.1 hr
        rw [renL_length]
        exact hB.len i row0 k1
      · have := hB.void (by rw [← h3]; exact hv)
        simp [renB, this]
      · obtain ⟨cs, et, fz, g1, g2, g3, g4⟩ := hB.heap p (by rw [← h3]; exact hp)
        refine ⟨cs, et, fz, g1, by simpa [renB] using g2, fun i row j x r1 r2 => ?_, g4⟩
        obtain ⟨row0, x0, k1, k2, rfl, rfl⟩ := renB_get r1 r2
        obtain ⟨v, v1, v2, v3⟩ := g3 i row0 j x0 k1 k2
        exact ⟨v, v1, v2, out v3⟩
    · have hB := hi.blk t blk' h2
      refine ⟨Nat.lt_of_lt_of_le hB.gen hst.N, hB.len, fun hv => hB.void (by rw [← h5]; exact hv), fun p hp => ?_⟩
      rw [h5] at hp
      obtain ⟨cs, et, fz, g1, g2, g3, g4⟩ := hB.heap p hp
      refine ⟨cs, et, fz, ?_, g2, fun i row j x r1 r2 => ?_, g4⟩
      · rw [hst.blocks p.1 (Array.getElem?_eq_some_iff.1 g1).1 (notOwn h2 h3 hp)]
        exact g1
      · obtain ⟨v, v1, v2, v3⟩ := g3 i row j x r1 r2
        exact ⟨v, v1, v2, v3.step hstep⟩
  · rcases get h1 with ⟨τ, b, rfl, k2, rfl, k3⟩ | ⟨k2, k3, k4, k5⟩
    · exact hi'.notG τ b p k2 (by rw [← k3]; exact h2) (gG hg)
    · exact hi.notG t blk' p k2 (by rw [← k5]; exact h2) hg
  · rcases get h1 with ⟨τ, b, rfl, k2, rfl, k3⟩ | ⟨k2, k3, k4, k5⟩
    · rcases get h2 with ⟨τ', b', rfl, g2, rfl, g3⟩ | ⟨g2, g3, g4, g5⟩
      · rw [hi'.inj τ τ' b b' p p' k2 g2 h3 (by rw [← k3]; exact h4) (by rw [← g3]; exact h5) h6]
      · rw [g5] at h5
        rcases hst.own p.1 ⟨τ, b, p, k2, h3, by rw [← k3]; exact h4, rfl⟩ with g | g
        · rw [h6] at g
          exact absurd g (notOwn g2 g3 h5)
        · obtain ⟨cs, et, fz, q1, _⟩ := (hi.blk t' b2 g2).heap p' h5
          have := (Array.getElem?_eq_some_iff.1 q1).1
          have hsz : c1.w.heap.size = c.w.heap.size := rfl
          omega
    · rw [k5] at h4
      rcases get h2 with ⟨τ', b', rfl, g2, rfl, g3⟩ | ⟨g2, g3, g4, g5⟩
      · have := oG k2 k3 h3 h4
        rw [h6] at this
        exact absurd this (hi'.notG τ' b' p' g2 (by rw [← g3]; exact h5))
      · rw [g5] at h5
        exact hi.inj t t' b1 b2 p p' k2 g2 h3 h4 h5 h6
end Go.Proofs.Ytaaealngifkaeaa.Pv
