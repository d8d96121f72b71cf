-- Go values read as pure values: slots hold numbers, texts, lists (slices that are only read), and views into memory of the call's own. First text: the words.
import Derived.Tactics
import Derived.Below
import Derived.Orders
import Derived.Laws.AppendOwn
namespace Go.Proofs.Ytaaealngifkaeaa.Pv
set_option linter.all false
open Go.RowKit
set_option linter.unusedVariables false

/-- A value as a walk sees it. ro: a slice that is only read, its elements' cells; rp: a place in such an element; vw: a slice of memory of one's own (block number, its age, the first element, how many); ptr: a place in it (element, cell). -/
inductive PV where
  | v (x : Value)
  | ro (sz : Nat) (full : Bool) (rows : List (List PV))
  | rp (row : List PV) (off : Nat)
  | vw (τ g off len : Nat)
  | ptr (τ g i off : Nat)
  | agg (cs : List PV)
  | tup (cs : List PV)
  | fn (f : Fn) (first captured : List PV)
  | iface (t : TypeId) (x : PV)
  | undef
  deriving Inhabited

/-- A block of one's own: its age, whether it may be written, how many cells an element has, the elements. -/
structure Blk where
  gen : Nat
  own : Bool
  sz : Nat
  rows : List (List PV)
  deriving Inhabited

/-- What holds no memory of one's own. -/
inductive PV.Pure : PV → Prop
  | v (x : Value) : PV.Pure (.v x)
  | ro {sz : Nat} {full : Bool} {rows : List (List PV)} (h : ∀ row ∈ rows, ∀ x ∈ row, PV.Pure x) : PV.Pure (.ro sz full rows)
  | rp {row : List PV} {off : Nat} (h : ∀ x ∈ row, PV.Pure x) : PV.Pure (.rp row off)
  | agg {cs : List PV} (h : ∀ x ∈ cs, PV.Pure x) : PV.Pure (.agg cs)
  | tup {cs : List PV} (h : ∀ x ∈ cs, PV.Pure x) : PV.Pure (.tup cs)
  | fn {f : Fn} {a b : List PV} (ha : ∀ x ∈ a, PV.Pure x) (hb : ∀ x ∈ b, PV.Pure x) : PV.Pure (.fn f a b)
  | iface {t : TypeId} {x : PV} (h : PV.Pure x) : PV.Pure (.iface t x)
  | undef : PV.Pure .undef

/-- Where a walk stands: the world; memory of somebody else's that is not read (G); where each block lies; the blocks; an age that none has yet. -/
structure Cx where
  w : World
  G : Nat → Prop
  β : Nat → Option (Nat × Nat)
  S : List Blk
  N : Nat

def Cx.Own (c : Cx) (b : Nat) : Prop := ∃ τ blk p, c.S[τ]? = some blk ∧ blk.own = true ∧ c.β τ = some p ∧ p.1 = b
def Cx.X (c : Cx) (b : Nat) : Prop := c.G b ∨ c.Own b

/-- What a value's slice is, if its block is still of that age. -/
def ViewOk (c : Cx) (τ : Nat) (blk : Blk) (off len : Nat) (y : Value) : Prop :=
  off + len ≤ blk.rows.length ∧ ∃ a cap, y = .slice a len cap ∧ len ≤ cap ∧ cap ≤ maxLen ∧
    ((∃ p, c.β τ = some p ∧ a = some ⟨p.1, p.2 + off * blk.sz, none⟩ ∧ ∃ cs e fz, c.w.heap[p.1]? = some (.cells cs e fz) ∧ p.2 + (off + cap) * blk.sz ≤ cs.size) ∨ (len = 0 ∧ cap = 0))

inductive RelV (c : Cx) : PV → Value → Prop
  | v (x : Value) : RelV c (.v x) x
  | undef (y : Value) : RelV c .undef y
  | ro (sz : Nat) (full : Bool) (rows : List (List PV)) (a : Option Addr) (cap : Nat) (vals : Nat → Nat → Value)
      (hcap : rows.length ≤ cap) (hmax : cap ≤ maxLen) (hfull : full = true → cap = rows.length) (hnone : a = none → rows = [])
      (hlen : ∀ (i : Nat) (row : List PV), rows[i]? = some row → row.length = sz)
      (hcell : ∀ ad : Addr, a = some ad → ∀ (i : Nat) (row : List PV) (j : Nat) (x : PV), rows[i]? = some row → row[j]? = some x →
        ad.spot = none ∧ ¬ c.X ad.block ∧ c.w.cell? ⟨ad.block, ad.off + (i * sz + j), none⟩ = some (vals i j) ∧ (vals i j).oneCell' = true)
      (hpure : ∀ (i : Nat) (row : List PV) (j : Nat) (x : PV), rows[i]? = some row → row[j]? = some x → x.Pure)
      (hrel : ∀ (i : Nat) (row : List PV) (j : Nat) (x : PV), rows[i]? = some row → row[j]? = some x → RelV c x (vals i j)) :
      RelV c (.ro sz full rows) (.slice a rows.length cap)
  | rp (row : List PV) (off : Nat) (b o : Nat) (vals : Nat → Value)
      (hcell : ∀ (j : Nat) (x : PV), row[j]? = some x → ¬ c.X b ∧ c.w.cell? ⟨b, o + j, none⟩ = some (vals j) ∧ (vals j).oneCell' = true)
      (hpure : ∀ (j : Nat) (x : PV), row[j]? = some x → x.Pure)
      (hrel : ∀ (j : Nat) (x : PV), row[j]? = some x → RelV c x (vals j)) :
      RelV c (.rp row off) (.pointer (some ⟨b, o + off, none⟩))
  | vw (τ g off len : Nat) (y : Value) (hy : y.oneCell' = true) (hN : g < c.N) (h : ∀ blk, c.S[τ]? = some blk → blk.gen = g → ViewOk c τ blk off len y) : RelV c (.vw τ g off len) y
  | ptr (τ g i off : Nat) (y : Value) (hy : y.oneCell' = true) (hN : g < c.N) (h : ∀ blk, c.S[τ]? = some blk → blk.gen = g → i < blk.rows.length ∧ ∃ p, c.β τ = some p ∧ y = .pointer (some ⟨p.1, p.2 + (i * blk.sz + off), none⟩)) : RelV c (.ptr τ g i off) y
  | agg (cs : List PV) (vs : Array Value) (hs : vs.size = cs.length) (h1 : ∀ (i : Nat) (v : Value), vs[i]? = some v → v.oneCell' = true)
      (h : ∀ (i : Nat) (x : PV) (v : Value), cs[i]? = some x → vs[i]? = some v → RelV c x v) : RelV c (.agg cs) (.agg vs)
  | tup (cs : List PV) (vs : Array Value) (hs : vs.size = cs.length)
      (h : ∀ (i : Nat) (x : PV) (v : Value), cs[i]? = some x → vs[i]? = some v → RelV c x v) : RelV c (.tup cs) (.tuple vs)
  | fn (f : Fn) (a b : List PV) (va vb : Array Value) (hsa : va.size = a.length) (hsb : vb.size = b.length)
      (ha : ∀ (i : Nat) (x : PV) (v : Value), a[i]? = some x → va[i]? = some v → RelV c x v)
      (hb : ∀ (i : Nat) (x : PV) (v : Value), b[i]? = some x → vb[i]? = some v → RelV c x v) : RelV c (.fn f a b) (.func f va vb)
  | iface (t : TypeId) (x : PV) (v : Value) (h : RelV c x v) : RelV c (.iface t x) (.iface t v)

/-- A block of one's own lies in the heap. -/
structure BlkOk (c : Cx) (τ : Nat) (blk : Blk) : Prop where
  gen : blk.gen < c.N
  len : ∀ (i : Nat) (row : List PV), blk.rows[i]? = some row → row.length = blk.sz
  void : c.β τ = none → blk.rows = []
  heap : ∀ p, c.β τ = some p → ∃ cs e fz, c.w.heap[p.1]? = some (.cells cs e fz) ∧ p.2 + blk.rows.length * blk.sz ≤ cs.size ∧
    (∀ (i : Nat) (row : List PV) (j : Nat) (x : PV), blk.rows[i]? = some row → row[j]? = some x → ∃ v, cs[p.2 + (i * blk.sz + j)]? = some v ∧ v.oneCell' = true ∧ RelV c x v) ∧
    (blk.own = true → ∀ k, k < cs.size → ¬ (fz.1 ≤ k ∧ k < fz.2))

structure Inv (c : Cx) : Prop where
  blk : ∀ τ blk, c.S[τ]? = some blk → BlkOk c τ blk
  notG : ∀ τ blk p, c.S[τ]? = some blk → c.β τ = some p → ¬ c.G p.1
  inj : ∀ τ τ' blk blk' p p', c.S[τ]? = some blk → c.S[τ']? = some blk' → blk.own = true → c.β τ = some p → c.β τ' = some p' → p.1 = p'.1 → τ = τ'
  gLt : ∀ b, c.G b → b < c.w.heap.size

/-- From c on to c': old memory that is not one's own is as it was. -/
structure Step (c c' : Cx) : Prop where
  G : c'.G = c.G
  os : c'.w.os = c.w.os
  tape : c'.w.tape = c.w.tape
  output : c'.w.output = c.w.output
  size : c.w.heap.size ≤ c'.w.heap.size
  N : c.N ≤ c'.N
  blocks : ∀ b, b < c.w.heap.size → ¬ c.Own b → c'.w.heap[b]? = c.w.heap[b]?
  ent : ∀ τ blk', c'.S[τ]? = some blk' → blk'.gen < c.N → ∃ blk, c.S[τ]? = some blk ∧ blk.gen = blk'.gen ∧ c'.β τ = c.β τ ∧ blk'.sz = blk.sz ∧ blk'.rows.length = blk.rows.length
  own : ∀ b, c'.Own b → c.Own b ∨ c.w.heap.size ≤ b
  cells : ∀ (b : Nat) cs e fz, c.w.heap[b]? = some (.cells cs e fz) → ∃ cs' fz', c'.w.heap[b]? = some (.cells cs' e fz') ∧ cs'.size = cs.size

theorem Step.refl (c : Cx) : Step c c :=
  ⟨rfl, rfl, rfl, rfl, Nat.le_refl _, Nat.le_refl _, fun _ _ _ => rfl, fun τ blk h _ => ⟨blk, h, rfl, rfl, rfl, rfl⟩, fun _ h => .inl h, fun _ cs _ fz h => ⟨cs, fz, h, rfl⟩⟩

theorem Cx.Own.lt {c : Cx} (hi : Inv c) {b : Nat} (h : c.Own b) : b < c.w.heap.size := by
  obtain ⟨τ, blk, p, hs, _, hp, rfl⟩ := h
  obtain ⟨cs, e, fz, hh, _⟩ := (hi.blk τ blk hs).heap p hp
  exact (Array.getElem?_eq_some_iff.1 hh).1

theorem Step.trans {a b c : Cx} (h : Step a b) (k : Step b c) : Step a c where
  G := k.G.trans h.G
  os := k.os.trans h.os
  tape := k.tape.trans h.tape
  output := k.output.trans h.output
  size := Nat.le_trans h.size k.size
  N := Nat.le_trans h.N k.N
  blocks := fun n hn ho => by
    rw [k.blocks n (Nat.lt_of_lt_of_le hn h.size) (fun hb => by rcases h.own n hb with h1 | h1; exact ho h1; omega)]
    exact h.blocks n hn ho
  ent := fun τ blk' hc hg => by
    obtain ⟨b1, h1, h2, h3, h4, h5⟩ := k.ent τ blk' hc (Nat.lt_of_lt_of_le hg h.N)
    obtain ⟨b2, k1, k2, k3, k4, k5⟩ := h.ent τ b1 h1 (by rw [h2]; exact hg)
    exact ⟨b2, k1, k2.trans h2, h3.trans k3, h4.trans k4, h5.trans k5⟩
  own := fun n hn => by
    rcases k.own n hn with h1 | h1
    · exact h.own n h1
    · exact .inr (Nat.le_trans h.size h1)
  cells := fun n cs e fz hn => by
    obtain ⟨cs1, fz1, h1, h2⟩ := h.cells n cs e fz hn
    obtain ⟨cs2, fz2, h3, h4⟩ := k.cells n cs1 e fz1 h1
    exact ⟨cs2, fz2, h3, h4.trans h2⟩

theorem Step.notX {c c' : Cx} (h : Step c c') {b : Nat} (hb : b < c.w.heap.size) (hx : ¬ c.X b) : ¬ c'.X b := by
  rintro (h1 | h1)
  · exact hx (.inl (by rw [← h.G]; exact h1))
  · rcases h.own b h1 with h2 | h2
    · exact hx (.inr h2)
    · omega

theorem cell_block {w : World} {a : Addr} {v : Value} (h : w.cell? a = some v) : a.block < w.heap.size := World.block_lt_of_cell? w a h

theorem Step.cell {c c' : Cx} (h : Step c c') {a : Addr} {v : Value} (hc : c.w.cell? a = some v) (hx : ¬ c.X a.block) : c'.w.cell? a = some v :=
  (World.cell?_of_block (w := c.w) (h.blocks a.block (cell_block hc) (fun ho => hx (.inr ho)))).trans hc

theorem RelV.step {c c' : Cx} (h : Step c c') {x : PV} {v : Value} (hr : RelV c x v) : RelV c' x v := by
  induction hr with
  | v x => exact .v x
  | undef y => exact .undef y
  | ro sz full rows a cap vals hcap hmax hfull hnone hlen hcell hpure hrel ih =>
    exact .ro sz full rows a cap vals hcap hmax hfull hnone hlen (fun ad ha i row j x h1 h2 => by
      obtain ⟨k1, k2, k3, k4⟩ := hcell ad ha i row j x h1 h2
      exact ⟨k1, h.notX (b := ad.block) (by have := cell_block k3; exact this) k2, h.cell k3 k2, k4⟩) hpure ih
  | rp row off b o vals hcell hpure hrel ih =>
    exact .rp row off b o vals (fun j x h1 => by
      obtain ⟨k2, k3, k4⟩ := hcell j x h1
      exact ⟨h.notX (b := b) (by have := cell_block k3; exact this) k2, h.cell k3 k2, k4⟩) hpure ih
  | vw τ g off len y hy hN hv =>
    refine .vw τ g off len y hy (Nat.lt_of_lt_of_le hN h.N) (fun blk' hb hg => ?_)
    obtain ⟨blk, k1, k2, k3, k4, k5⟩ := h.ent τ blk' hb (by rw [hg]; exact hN)
    obtain ⟨h1, a, cap, h2, h3, h4, h5⟩ := hv blk k1 (k2.trans hg)
    refine ⟨by rw [k5]; exact h1, a, cap, h2, h3, h4, ?_⟩
    rcases h5 with ⟨p, h5, rfl, cs, e, fz, h6, h7⟩ | h5
    · obtain ⟨cs', fz', h8, h9⟩ := h.cells _ cs e fz h6
      exact .inl ⟨p, k3.trans h5, by rw [k4], cs', e, fz', h8, by rw [k4, h9]; exact h7⟩
    · exact .inr h5
  | ptr τ g i off y hy hN hv =>
    refine .ptr τ g i off y hy (Nat.lt_of_lt_of_le hN h.N) (fun blk' hb hg => ?_)
    obtain ⟨blk, k1, k2, k3, k4, k5⟩ := h.ent τ blk' hb (by rw [hg]; exact hN)
    obtain ⟨h1, p, h2, h3⟩ := hv blk k1 (k2.trans hg)
    exact ⟨by rw [k5]; exact h1, p, k3.trans h2, by rw [k4]; exact h3⟩
  | agg cs vs hs h1 hr ih => exact .agg cs vs hs h1 ih
  | tup cs vs hs hr ih => exact .tup cs vs hs ih
  | fn f a b va vb hsa hsb ha hb iha ihb => exact .fn f a b va vb hsa hsb iha ihb
  | iface t x v hr ih => exact .iface t x v ih

/-- What is pure reads the same wherever what it reads is not written. -/
theorem RelV.pure {c c' : Cx} {x : PV} {v : Value} (hp : x.Pure) (hr : RelV c x v)
    (hX : ∀ b, ¬ c.X b → ¬ c'.X b) (hw : ∀ a u, ¬ c.X a.block → c.w.cell? a = some u → c'.w.cell? a = some u) : RelV c' x v := by
  induction hr with
  | v x => exact .v x
  | undef y => exact .undef y
  | ro sz full rows a cap vals hcap hmax hfull hnone hlen hcell hpure hrel ih =>
    exact .ro sz full rows a cap vals hcap hmax hfull hnone hlen (fun ad ha i row j x h1 h2 => by
      obtain ⟨k1, k2, k3, k4⟩ := hcell ad ha i row j x h1 h2
      exact ⟨k1, hX _ k2, hw _ _ (by exact k2) k3, k4⟩) hpure (fun i row j x h1 h2 => ih i row j x h1 h2 (hpure i row j x h1 h2))
  | rp row off b o vals hcell hpure hrel ih =>
    exact .rp row off b o vals (fun j x h1 => by
      obtain ⟨k2, k3, k4⟩ := hcell j x h1
      exact ⟨hX _ k2, hw _ _ (by exact k2) k3, k4⟩) hpure (fun j x h1 => ih j x h1 (hpure j x h1))
  | vw τ g off len y hy hN hv => cases hp
  | ptr τ g i off y hy hN hv => cases hp
  | agg cs vs hs h1 hr ih => cases hp with | agg hp => exact .agg cs vs hs h1 (fun i x v k1 k2 => ih i x v k1 k2 (hp x (List.mem_of_getElem? k1)))
  | tup cs vs hs hr ih => cases hp with | tup hp => exact .tup cs vs hs (fun i x v k1 k2 => ih i x v k1 k2 (hp x (List.mem_of_getElem? k1)))
  | fn f a b va vb hsa hsb ha hb iha ihb =>
    cases hp with
    | fn hpa hpb => exact .fn f a b va vb hsa hsb (fun i x v k1 k2 => iha i x v k1 k2 (hpa x (List.mem_of_getElem? k1))) (fun i x v k1 k2 => ihb i x v k1 k2 (hpb x (List.mem_of_getElem? k1)))
  | iface t x v hr ih => cases hp with | iface hp => exact .iface t x v (ih hp)
end Go.Proofs.Ytaaealngifkaeaa.Pv
