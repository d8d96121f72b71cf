-- Twenty-eighth text: a call that knows of some blocks alone.
import Derived.Test.YtaaealngifkaeaaPvb
namespace Go.Proofs.Ytaaealngifkaeaa.Pv
set_option linter.all false
open Go.RowKit
set_option linter.unusedVariables false

mutual
/-- Other numbers for the blocks. -/
def ren (f : Nat → Nat) : PV → PV
  | .v x => .v x
  | .ro sz full rows => .ro sz full rows
  | .rp row off => .rp row off
  | .vw τ g off len => .vw (f τ) g off len
  | .ptr τ g i off => .ptr (f τ) g i off
  | .agg cs => .agg (renL f cs)
  | .tup cs => .tup (renL f cs)
  | .fn fn a b => .fn fn (renL f a) (renL f b)
  | .iface t x => .iface t (ren f x)
  | .undef => .undef
def renL (f : Nat → Nat) : List PV → List PV
  | [] => []
  | x :: xs => ren f x :: renL f xs
end
theorem renL_map (f : Nat → Nat) : ∀ l, renL f l = l.map (ren f)
  | [] => by rw [renL]; rfl
  | x :: l => by rw [renL, List.map_cons, renL_map f l]
def renB (f : Nat → Nat) (b : Blk) : Blk := { b with rows := b.rows.map (renL f) }
theorem renB_get {f : Nat → Nat} {b : Blk} {i j : Nat} {row : List PV} {x : PV} (h : (renB f b).rows[i]? = some row) (k : row[j]? = some x) : ∃ row0 x0, b.rows[i]? = some row0 ∧ row0[j]? = some x0 ∧ x = ren f x0 ∧ row = renL f row0 := by
  simp only [renB, List.getElem?_map] at h
  obtain ⟨row0, h1, rfl⟩ := Option.map_eq_some_iff.1 h
  rw [renL_map, List.getElem?_map] at k
  obtain ⟨x0, h2, rfl⟩ := Option.map_eq_some_iff.1 k
  exact ⟨row0, x0, h1, h2, rfl, rfl⟩
theorem renL_length (f : Nat → Nat) (l : List PV) : (renL f l).length = l.length := by rw [renL_map, List.length_map]

/-- Known under other numbers, known under these. -/
theorem ren_into {c c1 : Cx} {f : Nat → Nat} (hX : ∀ b, ¬ c.X b → ¬ c1.X b) (hw : c1.w = c.w) (hN : c.N = c1.N)
    (hv : ∀ τ blk, c1.S[τ]? = some blk → ∃ blk', c.S[f τ]? = some blk' ∧ blk'.gen = blk.gen ∧ blk'.sz = blk.sz ∧ blk'.rows.length = blk.rows.length ∧ c.β (f τ) = c1.β τ) {y : PV} {v : Value} (hr : RelV c y v) : ∀ x, y = ren f x → RelV c1 x v := by
  have hc : ∀ a u, ¬ c.X a.block → c.w.cell? a = some u → c1.w.cell? a = some u := fun a u _ h => by rw [hw]; exact h
  induction hr with
  | v u => intro x h; cases x <;> simp only [ren] at h <;> cases h; exact .v _
  | undef u => intro x h; cases x <;> simp only [ren] at h <;> cases h; exact .undef _
  | ro sz full rows a cap vals hcap hmax hfull hnone hlen hcell hpure hrel ih =>
    intro x h
    cases x <;> simp only [ren] at h <;> cases h
    exact (RelV.ro sz full rows a cap vals hcap hmax hfull hnone hlen hcell hpure hrel).pure (.ro fun row hr x hx => by
      obtain ⟨i, hi⟩ := List.getElem?_of_mem hr
      obtain ⟨j, hj⟩ := List.getElem?_of_mem hx
      exact hpure i row j x hi hj) hX hc
  | rp row off b o vals hcell hpure hrel ih =>
    intro x h
    cases x <;> simp only [ren] at h <;> cases h
    exact (RelV.rp row off b o vals hcell hpure hrel).pure (.rp fun x hx => by
      obtain ⟨j, hj⟩ := List.getElem?_of_mem hx
      exact hpure j x hj) hX hc
  | vw τ g off len y hy hNg hvw =>
    intro x h
    cases x <;> simp only [ren] at h <;> cases h
    rename_i τ
    refine .vw _ _ _ _ y hy (by rw [← hN]; exact hNg) (fun blk h1 h2 => ?_)
    obtain ⟨blk', k1, k2, k3, k4, k5⟩ := hv τ blk h1
    obtain ⟨g1, a, cap, g2, g3, g4, g5⟩ := hvw blk' k1 (k2.trans h2)
    refine ⟨by rw [← k4]; exact g1, a, cap, g2, g3, g4, ?_⟩
    rcases g5 with ⟨p, g5, g6, cs, e, fz, g7, g8⟩ | g5
    · exact .inl ⟨p, k5.symm.trans g5, by rw [g6, k3], cs, e, fz, by rw [hw]; exact g7, by rw [← k3]; exact g8⟩
    · exact .inr g5
  | ptr τ g i off y hy hNg hvw =>
    intro x h
    cases x <;> simp only [ren] at h <;> cases h
    rename_i τ
    refine .ptr _ _ _ _ y hy (by rw [← hN]; exact hNg) (fun blk h1 h2 => ?_)
    obtain ⟨blk', k1, k2, k3, k4, k5⟩ := hv τ blk h1
    obtain ⟨g1, p, g2, g3⟩ := hvw blk' k1 (k2.trans h2)
    exact ⟨by rw [← k4]; exact g1, p, k5.symm.trans g2, by rw [g3, k3]⟩
  | agg cs vs hs h1 hr ih =>
    intro x h
    cases x <;> simp only [ren] at h <;> cases h
    rename_i cs
    refine .agg cs vs (by rw [hs, renL_length]) h1 (fun i x v hx hv => ih i (ren f x) v (by rw [renL_map, List.getElem?_map, hx]; rfl) hv x rfl)
  | tup cs vs hs hr ih =>
    intro x h
    cases x <;> simp only [ren] at h <;> cases h
    rename_i cs
    refine .tup cs vs (by rw [hs, renL_length]) (fun i x v hx hv => ih i (ren f x) v (by rw [renL_map, List.getElem?_map, hx]; rfl) hv x rfl)
  | fn fn a b va vb hsa hsb ha hb iha ihb =>
    intro x h
    cases x <;> simp only [ren] at h <;> cases h
    rename_i a b
    exact .fn fn a b va vb (by rw [hsa, renL_length]) (by rw [hsb, renL_length]) (fun i x v hx hv => iha i (ren f x) v (by rw [renL_map, List.getElem?_map, hx]; rfl) hv x rfl) (fun i x v hx hv => ihb i (ren f x) v (by rw [renL_map, List.getElem?_map, hx]; rfl) hv x rfl)
  | iface t x v hr ih =>
    intro y h
    cases y <;> simp only [ren] at h <;> cases h
    exact .iface _ _ _ (ih _ rfl)

theorem ren_out {c1 c2 : Cx} {f : Nat → Nat} (hX : ∀ b, ¬ c1.X b → ¬ c2.X b) (hw : c2.w = c1.w) (hN : c1.N = c2.N)
    (hv : ∀ τ blk2, c2.S[f τ]? = some blk2 → ∃ blk, c1.S[τ]? = some blk ∧ blk.gen = blk2.gen ∧ blk.sz = blk2.sz ∧ blk.rows.length = blk2.rows.length ∧ c1.β τ = c2.β (f τ)) {x : PV} {v : Value} (hr : RelV c1 x v) : RelV c2 (ren f x) v := by
  have hc : ∀ a u, ¬ c1.X a.block → c1.w.cell? a = some u → c2.w.cell? a = some u := fun a u _ h => by rw [hw]; exact h
  induction hr with
  | v u => simp only [ren]; exact .v _
  | undef u => simp only [ren]; exact .undef _
  | ro sz full rows a cap vals hcap hmax hfull hnone hlen hcell hpure hrel ih =>
    simp only [ren]
    exact (RelV.ro sz full rows a cap vals hcap hmax hfull hnone hlen hcell hpure hrel).pure (.ro fun row hr x hx => by
      obtain ⟨i, hi⟩ := List.getElem?_of_mem hr
      obtain ⟨j, hj⟩ := List.getElem?_of_mem hx
      exact hpure i row j x hi hj) hX hc
  | rp row off b o vals hcell hpure hrel ih =>
    simp only [ren]
    exact (RelV.rp row off b o vals hcell hpure hrel).pure (.rp fun x hx => by
      obtain ⟨j, hj⟩ := List.getElem?_of_mem hx
      exact hpure j x hj) hX hc
  | vw τ g off len y hy hNg hvw =>
    simp only [ren]
    refine .vw _ _ _ _ y hy (by rw [← hN]; exact hNg) (fun blk h1 h2 => ?_)
    obtain ⟨blk', k1, k2, k3, k4, k5⟩ := hv τ blk h1
    obtain ⟨g1, a, cap, g2, g3, g4, g5⟩ := hvw blk' k1 (k2.trans h2)
    refine ⟨by rw [← k4]; exact g1, a, cap, g2, g3, g4, ?_⟩
    rcases g5 with ⟨p, g5, g6, cs, e, fz, g7, g8⟩ | g5
    · exact .inl ⟨p, k5.symm.trans g5, by rw [g6, k3], cs, e, fz, by rw [hw]; exact g7, by rw [← k3]; exact g8⟩
    · exact .inr g5
  | ptr τ g i off y hy hNg hvw =>
    simp only [ren]
    refine .ptr _ _ _ _ y hy (by rw [← hN]; exact hNg) (fun blk h1 h2 => ?_)
    obtain ⟨blk', k1, k2, k3, k4, k5⟩ := hv τ blk h1
    obtain ⟨g1, p, g2, g3⟩ := hvw blk' k1 (k2.trans h2)
    exact ⟨by rw [← k4]; exact g1, p, k5.symm.trans g2, by rw [g3, k3]⟩
  | agg cs vs hs h1 hr ih =>
    simp only [ren]
    refine .agg _ vs (by rw [hs, renL_length]) h1 (fun i x v hx hv => ?_)
    rw [renL_map, List.getElem?_map] at hx
    obtain ⟨x0, h2, rfl⟩ := Option.map_eq_some_iff.1 hx
    exact ih i x0 v h2 hv
  | tup cs vs hs hr ih =>
    simp only [ren]
    refine .tup _ vs (by rw [hs, renL_length]) (fun i x v hx hv => ?_)
    rw [renL_map, List.getElem?_map] at hx
    obtain ⟨x0, h2, rfl⟩ := Option.map_eq_some_iff.1 hx
    exact ih i x0 v h2 hv
  | fn fn a b va vb hsa hsb ha hb iha ihb =>
    simp only [ren]
    refine .fn fn _ _ va vb (by rw [hsa, renL_length]) (by rw [hsb, renL_length]) (fun i x v hx hv => ?_) (fun i x v hx hv => ?_)
    · rw [renL_map, List.getElem?_map] at hx
      obtain ⟨x0, h2, rfl⟩ := Option.map_eq_some_iff.1 hx
      exact iha i x0 v h2 hv
    · rw [renL_map, List.getElem?_map] at hx
      obtain ⟨x0, h2, rfl⟩ := Option.map_eq_some_iff.1 hx
      exact ihb i x0 v h2 hv
  | iface t x v hr ih =>
    simp only [ren]
    exact .iface _ _ _ ih

/-- The blocks that a call knows of lie at e; what it makes lies behind all. -/
def sg : List Nat → Nat → Nat → Nat
  | [], m, τ => m + τ
  | a :: _, _, 0 => a
  | _ :: e, m, τ + 1 => sg e m τ
def putB : List Nat → List Blk → List Blk → List Blk
  | [], bs, Sb => Sb ++ bs
  | a :: e, [], Sb => Sb
  | a :: e, b :: bs, Sb => putB e bs (Sb.set a b)
theorem putB_length : ∀ (e : List Nat) (bs Sb : List Blk), e.length ≤ bs.length → (putB e bs Sb).length = Sb.length + (bs.length - e.length)
  | [], bs, Sb, _ => by simp [putB]
  | a :: e, [], Sb, h => by simp at h
  | a :: e, b :: bs, Sb, h => by
    simp only [List.length_cons] at h
    rw [putB, putB_length e bs _ (by omega), List.length_set, List.length_cons, List.length_cons]
    omega
theorem putB_at : ∀ (e : List Nat) (bs Sb : List Blk) (i a : Nat), e.Nodup → (∀ a ∈ e, a < Sb.length) → e.length ≤ bs.length → e[i]? = some a → (putB e bs Sb)[a]? = bs[i]?
  | [], bs, Sb, i, a, _, _, _, h => by simp at h
  | a0 :: e, [], Sb, i, a, _, _, hl, h => by simp at hl
  | a0 :: e, b :: bs, Sb, i, a, hn, hb, hl, h => by
    rw [List.nodup_cons] at hn
    simp only [List.length_cons] at hl
    rw [putB]
    cases i with
    | succ i =>
      rw [List.getElem?_cons_succ] at h ⊢
      exact putB_at e bs _ i a hn.2 (fun x hx => by rw [List.length_set]; exact hb x (by simp [hx])) (by omega) h
    | zero =>
      simp only [List.getElem?_cons_zero, Option.some.injEq] at h ⊢
      subst h
      have key : ∀ (e : List Nat) (bs Sb : List Blk), e.length ≤ bs.length → a0 ∉ e → a0 < Sb.length → (putB e bs Sb)[a0]? = Sb[a0]? := by
        intro e
        induction e with
        | nil => intro bs Sb _ _ h; rw [putB, List.getElem?_append_left h]
        | cons x e ih =>
          intro bs Sb hl hx h
          cases bs with
          | nil => simp at hl
          | cons y bs =>
            simp only [List.length_cons] at hl
            simp only [List.mem_cons, not_or] at hx
            rw [putB, ih bs _ (by omega) hx.2 (by rw [List.length_set]; exact h), List.getElem?_set, if_neg (fun e => hx.1 e.symm)]
      rw [key e bs _ (by omega) hn.1 (by rw [List.length_set]; exact hb _ (by simp)), List.getElem?_set, if_pos rfl, if_pos (hb _ (by simp))]
theorem putB_else : ∀ (e : List Nat) (bs Sb : List Blk) (a : Nat), e.length ≤ bs.length → a ∉ e → a < Sb.length → (putB e bs Sb)[a]? = Sb[a]?
  | [], bs, Sb, a, _, _, h => by rw [putB, List.getElem?_append_left h]
  | x :: e, [], Sb, a, hl, _, _ => by simp at hl
  | x :: e, y :: bs, Sb, a, hl, hx, h => by
    simp only [List.length_cons] at hl
    simp only [List.mem_cons, not_or] at hx
    rw [putB, putB_else e bs _ a (by omega) hx.2 (by rw [List.length_set]; exact h), List.getElem?_set, if_neg (fun e => hx.1 e.symm)]
theorem putB_new : ∀ (e : List Nat) (bs Sb : List Blk) (a : Nat), e.length ≤ bs.length → Sb.length ≤ a → (putB e bs Sb)[a]? = bs[e.length + (a - Sb.length)]?
  | [], bs, Sb, a, _, h => by rw [putB, List.getElem?_append_right h]; simp
  | x :: e, [], Sb, a, hl, _ => by simp at hl
  | x :: e, y :: bs, Sb, a, hl, h => by
    simp only [List.length_cons] at hl
    rw [putB, putB_new e bs _ a (by omega) (by rw [List.length_set]; exact h), List.length_set, List.length_cons, show e.length + 1 + (a - Sb.length) = (e.length + (a - Sb.length)) + 1 by omega, List.getElem?_cons_succ]
end Go.Proofs.Ytaaealngifkaeaa.Pv
