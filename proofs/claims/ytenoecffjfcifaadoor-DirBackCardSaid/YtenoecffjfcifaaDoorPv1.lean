/- Go values read as pure values: generic laws of walks (text written by a program of this session out of its parts). -/
import Derived.RangeFuncNested
import Derived.RangeFuncCalls
import Derived.Tactics
import Derived.Below
import Derived.Orders
import Derived.Laws.AppendOwn
import Derived.MapKept
import Derived.Laws.Small
import Derived.Laws.Strings
import Derived.ChangeKeysEq
import Derived.Laws.StructEq
import Derived.Laws.Slices
import Derived.Deep.MidRow
import Derived.Laws.BytesArg
import Derived.Deep.AppendSrc
import Derived.Laws.MakeOwn
-- Go values read as pure values: slots hold numbers, texts, lists (slices that are only read), and views into memory of the call's own. First text: the words.
namespace Go.Proofs.YtenoecffjfcifaaDoor.Pv
set_option linter.all false
open Go.RowKit
set_option linter.unusedVariables false

/-- A value as a walk sees it. ro: a slice that is only read, its elements' cells; rp: a place in such an element; vw: a slice of memory of one's own (block number, its age, the first element, how many); ptr: a place in it (element, cell); mp: a map of one's own; rmp: a map that is only read, its entries. -/
inductive PV where
  | v (x : Value)
  | ro (sz : Nat) (full : Bool) (rows : List (List PV))
  | rp (row : List PV) (off : Nat)
  | vw (τ g off len : Nat)
  | ptr (τ g i off : Nat)
  | sub (τ g i off len : Nat)
  | agg (cs : List PV)
  | tup (cs : List PV)
  | fn (f : Fn) (first captured : List PV)
  | iface (t : TypeId) (x : PV)
  | mp (τ g : Nat)
  | it (τ g : Nat)
  | rmp (es : List (ByteArray × Int))
  | undef
  deriving Inhabited

/-- A block of one's own: its age, whether it may be written, how many cells an element has, the elements. -/
structure Blk where
  gen : Nat
  own : Bool
  sz : Nat
  rows : List (List PV)
  deriving Inhabited

/-- What holds no memory of one's own. -/
inductive PV.Pure : PV → Prop
  | v (x : Value) : PV.Pure (.v x)
  | ro {sz : Nat} {full : Bool} {rows : List (List PV)} (h : ∀ row ∈ rows, ∀ x ∈ row, PV.Pure x) : PV.Pure (.ro sz full rows)
  | rp {row : List PV} {off : Nat} (h : ∀ x ∈ row, PV.Pure x) : PV.Pure (.rp row off)
  | agg {cs : List PV} (h : ∀ x ∈ cs, PV.Pure x) : PV.Pure (.agg cs)
  | tup {cs : List PV} (h : ∀ x ∈ cs, PV.Pure x) : PV.Pure (.tup cs)
  | fn {f : Fn} {a b : List PV} (ha : ∀ x ∈ a, PV.Pure x) (hb : ∀ x ∈ b, PV.Pure x) : PV.Pure (.fn f a b)
  | iface {t : TypeId} {x : PV} (h : PV.Pure x) : PV.Pure (.iface t x)
  | rmp {es : List (ByteArray × Int)} : PV.Pure (.rmp es)
  | undef : PV.Pure .undef

/-- Where a walk stands: the world; memory of somebody else's that is not read (G); where each block lies; the blocks; an age that none has yet. -/
structure Cx where
  w : World
  G : Nat → Prop
  β : Nat → Option (Nat × Nat)
  S : List Blk
  N : Nat

def memObj : Obj → Bool
  | .cells .. => true
  | .map .. => true
  | .stringIter .. => true
  | _ => false
def TabsOk (w : World) : Prop := True
def tabB : List Nat := []
theorem tabs_keep {w w' : World} (h : TabsOk w) (hk : ∀ b ∈ tabB, w'.heap[b]? = w.heap[b]?) : TabsOk w' := trivial
def Cx.Own (c : Cx) (b : Nat) : Prop := ∃ τ blk p, c.S[τ]? = some blk ∧ blk.own = true ∧ c.β τ = some p ∧ p.1 = b
def Cx.X (c : Cx) (b : Nat) : Prop := c.G b ∨ c.Own b

/-- A map's entries, as pairs, in order. -/
def EntOk (arr : Array MapEntry) (ck : Nat) (es : List (ByteArray × Int)) : Prop := Go.MapKept.Stamped arr ck ∧ arr.toList.map (fun e => (e.key, e.val)) = es.map (fun p => (Value.string p.1, Value.int .i64 p.2))

/-- A slice of so many elements. -/
def SlV (y : Value) (len : Nat) : Prop := ∃ a cap, y = .slice a len cap
theorem SlV.one {y : Value} {len : Nat} (h : SlV y len) : y.oneCell' = true := by
  obtain ⟨a, cap, rfl⟩ := h
  rfl
/-- What a value's slice is, if its block is still of that age. -/
def ViewOk (c : Cx) (τ : Nat) (blk : Blk) (off len : Nat) (y : Value) : Prop :=
  off + len ≤ blk.rows.length ∧ ∃ a cap, y = .slice a len cap ∧ len ≤ cap ∧ cap ≤ maxLen ∧
    ((∃ p, c.β τ = some p ∧ a = some ⟨p.1, p.2 + off * blk.sz, none⟩ ∧ ∃ cs e fz, c.w.heap[p.1]? = some (.cells cs e fz) ∧ p.2 + (off + cap) * blk.sz ≤ cs.size) ∨ (len = 0 ∧ cap = 0))

inductive RelV (c : Cx) : PV → Value → Prop
  | v (x : Value) : RelV c (.v x) x
  | undef (y : Value) : RelV c .undef y
  | ro (sz : Nat) (full : Bool) (rows : List (List PV)) (a : Option Addr) (cap : Nat) (vals : Nat → Nat → Value)
      (hcap : rows.length ≤ cap) (hmax : cap ≤ maxLen) (hfull : full = true → cap = rows.length) (hnone : a = none → rows = [])
      (hlen : ∀ (i : Nat) (row : List PV), rows[i]? = some row → row.length = sz)
      (hcell : ∀ ad : Addr, a = some ad → ∀ (i : Nat) (row : List PV) (j : Nat) (x : PV), rows[i]? = some row → row[j]? = some x →
        ad.spot = none ∧ ¬ c.X ad.block ∧ c.w.cell? ⟨ad.block, ad.off + (i * sz + j), none⟩ = some (vals i j) ∧ (vals i j).oneCell' = true)
      (hpure : ∀ (i : Nat) (row : List PV) (j : Nat) (x : PV), rows[i]? = some row → row[j]? = some x → x.Pure)
      (hrel : ∀ (i : Nat) (row : List PV) (j : Nat) (x : PV), rows[i]? = some row → row[j]? = some x → RelV c x (vals i j)) :
      RelV c (.ro sz full rows) (.slice a rows.length cap)
  | rp (row : List PV) (off : Nat) (b o : Nat) (vals : Nat → Value)
      (hcell : ∀ (j : Nat) (x : PV), row[j]? = some x → ¬ c.X b ∧ c.w.cell? ⟨b, o + j, none⟩ = some (vals j) ∧ (vals j).oneCell' = true)
      (hpure : ∀ (j : Nat) (x : PV), row[j]? = some x → x.Pure)
      (hrel : ∀ (j : Nat) (x : PV), row[j]? = some x → RelV c x (vals j)) :
      RelV c (.rp row off) (.pointer (some ⟨b, o + off, none⟩))
  | vw (τ g off len : Nat) (y : Value) (hy : SlV y len) (hN : g < c.N) (h : ∀ blk, c.S[τ]? = some blk → blk.gen = g → ViewOk c τ blk off len y) : RelV c (.vw τ g off len) y
  | ptr (τ g i off : Nat) (y : Value) (hy : y.oneCell' = true) (hN : g < c.N) (h : ∀ blk, c.S[τ]? = some blk → blk.gen = g → i < blk.rows.length ∧ ∃ p, c.β τ = some p ∧ y = .pointer (some ⟨p.1, p.2 + (i * blk.sz + off), none⟩) ∧ ∃ cs e fz, c.w.heap[p.1]? = some (.cells cs e fz)) : RelV c (.ptr τ g i off) y
  | sub (τ g i off len : Nat) (y : Value) (hy : SlV y len) (hN : g < c.N) (h : ∀ blk, c.S[τ]? = some blk → blk.gen = g → i < blk.rows.length ∧ ∃ p cap, c.β τ = some p ∧ y = .slice (some ⟨p.1, p.2 + (i * blk.sz + off), none⟩) len cap ∧ ∃ cs e fz, c.w.heap[p.1]? = some (.cells cs e fz)) : RelV c (.sub τ g i off len) y
  | agg (cs : List PV) (vs : Array Value) (hs : vs.size = cs.length) (h1 : ∀ (i : Nat) (v : Value), vs[i]? = some v → v.oneCell' = true)
      (h : ∀ (i : Nat) (x : PV) (v : Value), cs[i]? = some x → vs[i]? = some v → RelV c x v) : RelV c (.agg cs) (.agg vs)
  | tup (cs : List PV) (vs : Array Value) (hs : vs.size = cs.length)
      (h : ∀ (i : Nat) (x : PV) (v : Value), cs[i]? = some x → vs[i]? = some v → RelV c x v) : RelV c (.tup cs) (.tuple vs)
  | fn (f : Fn) (a b : List PV) (va vb : Array Value) (hsa : va.size = a.length) (hsb : vb.size = b.length)
      (ha : ∀ (i : Nat) (x : PV) (v : Value), a[i]? = some x → va[i]? = some v → RelV c x v)
      (hb : ∀ (i : Nat) (x : PV) (v : Value), b[i]? = some x → vb[i]? = some v → RelV c x v) : RelV c (.fn f a b) (.func f va vb)
  | iface (t : TypeId) (x : PV) (v : Value) (h : RelV c x v) : RelV c (.iface t x) (.iface t v)
  | mp (τ g : Nat) (y : Value) (hy : y.oneCell' = true) (hN : g < c.N) (h : ∀ blk, c.S[τ]? = some blk → blk.gen = g → ∃ p, c.β τ = some p ∧ y = .map (some p.1)) : RelV c (.mp τ g) y
  | it (τ g : Nat) (y : Value) (hy : y.oneCell' = true) (hN : g < c.N) (h : ∀ blk, c.S[τ]? = some blk → blk.gen = g → ∃ p, c.β τ = some p ∧ y = .pointer (some ⟨p.1, 0, none⟩)) : RelV c (.it τ g) y
  | rmp (es : List (ByteArray × Int)) (r : Nat) (arr : Array MapEntry) (ck : Nat) (hx : ¬ c.X r) (hh : c.w.heap[r]? = some (.map arr ck)) (he : EntOk arr ck es) : RelV c (.rmp es) (.map (some r))
  | rnil : RelV c (.rmp []) (.map none)

/-- No cell of so many is marked as one that may not be written. -/
def FzFree (fz : Nat × Nat) (n : Nat) : Prop := fz.1 = fz.2 ∨ n ≤ fz.1
theorem FzFree.get {fz : Nat × Nat} {n : Nat} (h : FzFree fz n) : ∀ k, k < n → ¬ (fz.1 ≤ k ∧ k < fz.2) := by
  intro k hk
  rcases h with h | h <;> omega
theorem FzFree.to {fz : Nat × Nat} {n m : Nat} (h : FzFree fz n) (e : m ≤ n) : FzFree fz m := h.imp id fun h => Nat.le_trans e h
/-- What else a block of one's own may be: a map, a text's iterator. -/
def ObjOk (w : World) (r : Nat) (rows : List (List PV)) : Prop :=
  (∃ es arr ck, rows = [[.rmp es]] ∧ w.heap[r]? = some (.map arr ck) ∧ EntOk arr ck es) ∨
  (∃ (s : ByteArray) (pos : Nat), rows = [[.v (.string s), .v (.int .i64 pos)]] ∧ w.heap[r]? = some (.stringIter s pos))
theorem ObjOk.mem {w : World} {r : Nat} {rows : List (List PV)} (h : ObjOk w r rows) : ∃ o : Obj, w.heap[r]? = some o ∧ memObj o = true ∧ ∀ cs e fz, o ≠ .cells cs e fz := by
  rcases h with ⟨es, arr, ck, _, h, _⟩ | ⟨s, pos, _, h⟩
  · exact ⟨_, h, rfl, fun cs e fz h => by cases h⟩
  · exact ⟨_, h, rfl, fun cs e fz h => by cases h⟩
theorem ObjOk.asMap {w : World} {r : Nat} {es : List (ByteArray × Int)} (h : ObjOk w r [[.rmp es]]) : ∃ es2 arr ck, ([[.rmp es]] : List (List PV)) = [[.rmp es2]] ∧ w.heap[r]? = some (.map arr ck) ∧ EntOk arr ck es2 := by
  rcases h with h | ⟨s, pos, h1, _⟩
  · exact h
  · simp at h1
theorem ObjOk.asIter {w : World} {r : Nat} {s : ByteArray} {pos : Nat} (h : ObjOk w r [[.v (.string s), .v (.int .i64 pos)]]) : w.heap[r]? = some (.stringIter s pos) := by
  rcases h with ⟨es, arr, ck, h1, _⟩ | ⟨s', pos', h1, h2⟩
  · simp at h1
  · simp at h1
    obtain ⟨rfl, h1⟩ := h1
    obtain rfl : pos' = pos := by omega
    exact h2
theorem ObjOk.move {w w' : World} {r : Nat} {rows : List (List PV)} (h : ObjOk w r rows) (hw : w'.heap[r]? = w.heap[r]?) : ObjOk w' r rows := by
  rcases h with ⟨es, arr, ck, h1, h2, h3⟩ | ⟨s, pos, h1, h2⟩
  · exact .inl ⟨es, arr, ck, h1, hw.trans h2, h3⟩
  · exact .inr ⟨s, pos, h1, hw.trans h2⟩
/-- A block's object in the heap: cells, or a map (its block has one row, which tells the entries). -/
def HeapOk (c : Cx) (w : World) (p : Nat × Nat) (blk : Blk) : Prop :=
  ((∀ (i : Nat) (row : List PV), blk.rows[i]? = some row → row.length = blk.sz) ∧ ∃ cs e fz, w.heap[p.1]? = some (.cells cs e fz) ∧ p.2 + blk.rows.length * blk.sz ≤ cs.size ∧
    (∀ (i : Nat) (row : List PV) (j : Nat) (x : PV), blk.rows[i]? = some row → row[j]? = some x → ∃ v, cs[p.2 + (i * blk.sz + j)]? = some v ∧ v.oneCell' = true ∧ RelV c x v) ∧
    (blk.own = true → FzFree fz cs.size)) ∨
  (blk.sz = 0 ∧ ObjOk w p.1 blk.rows)

theorem HeapOk.lt {c : Cx} {w : World} {p : Nat × Nat} {blk : Blk} (h : HeapOk c w p blk) : p.1 < w.heap.size := by
  rcases h with ⟨_, cs, e, fz, h, _⟩ | ⟨_, ho⟩
  · exact (Array.getElem?_eq_some_iff.1 h).1
  · obtain ⟨o, h, _⟩ := ho.mem
    exact (Array.getElem?_eq_some_iff.1 h).1

theorem HeapOk.move {c c' : Cx} {w w' : World} {p : Nat × Nat} {blk : Blk} (h : HeapOk c w p blk) (hr : ∀ x v, RelV c x v → RelV c' x v) (hw : w'.heap[p.1]? = w.heap[p.1]?) : HeapOk c' w' p blk := by
  rcases h with ⟨hl, cs, e, fz, h1, h2, h3, h4⟩ | ⟨hz, ho⟩
  · refine .inl ⟨hl, cs, e, fz, hw.trans h1, h2, fun i row j x r1 r2 => ?_, h4⟩
    obtain ⟨v, v1, v2, v3⟩ := h3 i row j x r1 r2
    exact ⟨v, v1, v2, hr x v v3⟩
  · exact .inr ⟨hz, ho.move hw⟩

/-- Where cells are. -/
theorem HeapOk.cells {c : Cx} {w : World} {p : Nat × Nat} {blk : Blk} (h : HeapOk c w p blk) (hc : ∃ cs e fz, w.heap[p.1]? = some (.cells cs e fz)) : (∀ (i : Nat) (row : List PV), blk.rows[i]? = some row → row.length = blk.sz) ∧ ∃ cs e fz, w.heap[p.1]? = some (.cells cs e fz) ∧ p.2 + blk.rows.length * blk.sz ≤ cs.size ∧
    (∀ (i : Nat) (row : List PV) (j : Nat) (x : PV), blk.rows[i]? = some row → row[j]? = some x → ∃ v, cs[p.2 + (i * blk.sz + j)]? = some v ∧ v.oneCell' = true ∧ RelV c x v) ∧
    (blk.own = true → FzFree fz cs.size) := by
  rcases h with h | ⟨hz, ho⟩
  · exact h
  · obtain ⟨cs, e, fz, hc⟩ := hc
    obtain ⟨o, h2, _, h3⟩ := ho.mem
    rw [h2] at hc
    cases hc
    exact absurd rfl (h3 _ _ _)

/-- A block of one's own lies in the heap. -/
structure BlkOk (c : Cx) (τ : Nat) (blk : Blk) : Prop where
  gen : blk.gen < c.N
  void : c.β τ = none → blk.rows = []
  heap : ∀ p, c.β τ = some p → HeapOk c c.w p blk

/-- Tables of the library, if any, that are laid, and their blocks: nobody's own. -/
def WI (c : Cx) : Prop := TabsOk c.w ∧ ∀ b ∈ tabB, (∃ o : Obj, c.w.heap[b]? = some o ∧ memObj o = true) ∧ ¬ c.Own b

structure Inv (c : Cx) : Prop where
  blk : ∀ τ blk, c.S[τ]? = some blk → BlkOk c τ blk
  notG : ∀ τ blk p, c.S[τ]? = some blk → c.β τ = some p → ¬ c.G p.1
  inj : ∀ τ τ' blk blk' p p', c.S[τ]? = some blk → c.S[τ']? = some blk' → blk.own = true → c.β τ = some p → c.β τ' = some p' → p.1 = p'.1 → τ = τ'
  gLt : ∀ b, c.G b → b < c.w.heap.size
  wi : WI c

/-- From c on to c': old memory that is not one's own is as it was. -/
structure Step (c c' : Cx) : Prop where
  G : c'.G = c.G
  os : c'.w.os = c.w.os
  tape : c'.w.tape = c.w.tape
  output : c'.w.output = c.w.output
  size : c.w.heap.size ≤ c'.w.heap.size
  N : c.N ≤ c'.N
  blocks : ∀ b, b < c.w.heap.size → ¬ c.Own b → c'.w.heap[b]? = c.w.heap[b]?
  ent : ∀ τ blk', c'.S[τ]? = some blk' → blk'.gen < c.N → ∃ blk, c.S[τ]? = some blk ∧ blk.gen = blk'.gen ∧ c'.β τ = c.β τ ∧ blk'.sz = blk.sz ∧ blk'.rows.length = blk.rows.length
  own : ∀ b, c'.Own b → c.Own b ∨ c.w.heap.size ≤ b
  cells : ∀ (b : Nat) cs e fz, c.w.heap[b]? = some (.cells cs e fz) → ∃ cs' fz', c'.w.heap[b]? = some (.cells cs' e fz') ∧ cs'.size = cs.size

theorem WI.sub {c c1 : Cx} (h : WI c) (hw : c1.w = c.w) (ho : ∀ b, c1.Own b → c.Own b) : WI c1 :=
  ⟨by rw [hw]; exact h.1, fun b hb => ⟨by rw [hw]; exact (h.2 b hb).1, fun hx => (h.2 b hb).2 (ho b hx)⟩⟩
theorem WI.none {c c1 : Cx} (h : WI c) (hw : c1.w = c.w) (hS : c1.S = []) : WI c1 :=
  h.sub hw fun b ⟨τ, blk, p, h1, _⟩ => by rw [hS] at h1; simp at h1
theorem WI.step {c c' : Cx} (h : WI c) (st : Step c c') : WI c' := by
  have lt : ∀ b ∈ tabB, b < c.w.heap.size := fun b hb => by
    obtain ⟨⟨o, h1, _⟩, _⟩ := h.2 b hb
    exact (Array.getElem?_eq_some_iff.1 h1).1
  refine ⟨tabs_keep h.1 fun b hb => st.blocks b (lt b hb) (h.2 b hb).2, fun b hb => ?_⟩
  obtain ⟨⟨o, h1, h2⟩, h3⟩ := h.2 b hb
  refine ⟨⟨o, (st.blocks b (lt b hb) h3).trans h1, h2⟩, fun ho => ?_⟩
  rcases st.own b ho with h' | h'
  · exact h3 h'
  · have := lt b hb
    omega
theorem Step.refl (c : Cx) : Step c c :=
  ⟨rfl, rfl, rfl, rfl, Nat.le_refl _, Nat.le_refl _, fun _ _ _ => rfl, fun τ blk h _ => ⟨blk, h, rfl, rfl, rfl, rfl⟩, fun _ h => .inl h, fun _ cs _ fz h => ⟨cs, fz, h, rfl⟩⟩

theorem Cx.Own.lt {c : Cx} (hi : Inv c) {b : Nat} (h : c.Own b) : b < c.w.heap.size := by
  obtain ⟨τ, blk, p, hs, _, hp, rfl⟩ := h
  exact ((hi.blk τ blk hs).heap p hp).lt

theorem Step.trans {a b c : Cx} (h : Step a b) (k : Step b c) : Step a c where
  G := k.G.trans h.G
  os := k.os.trans h.os
  tape := k.tape.trans h.tape
  output := k.output.trans h.output
  size := Nat.le_trans h.size k.size
  N := Nat.le_trans h.N k.N
  blocks := fun n hn ho => by
    rw [k.blocks n (Nat.lt_of_lt_of_le hn h.size) (fun hb => by rcases h.own n hb with h1 | h1; exact ho h1; omega)]
    exact h.blocks n hn ho
  ent := fun τ blk' hc hg => by
    obtain ⟨b1, h1, h2, h3, h4, h5⟩ := k.ent τ blk' hc (Nat.lt_of_lt_of_le hg h.N)
    obtain ⟨b2, k1, k2, k3, k4, k5⟩ := h.ent τ b1 h1 (by rw [h2]; exact hg)
    exact ⟨b2, k1, k2.trans h2, h3.trans k3, h4.trans k4, h5.trans k5⟩
  own := fun n hn => by
    rcases k.own n hn with h1 | h1
    · exact h.own n h1
    · exact .inr (Nat.le_trans h.size h1)
  cells := fun n cs e fz hn => by
    obtain ⟨cs1, fz1, h1, h2⟩ := h.cells n cs e fz hn
    obtain ⟨cs2, fz2, h3, h4⟩ := k.cells n cs1 e fz1 h1
    exact ⟨cs2, fz2, h3, h4.trans h2⟩

theorem Step.notX {c c' : Cx} (h : Step c c') {b : Nat} (hb : b < c.w.heap.size) (hx : ¬ c.X b) : ¬ c'.X b := by
  rintro (h1 | h1)
  · exact hx (.inl (by rw [← h.G]; exact h1))
  · rcases h.own b h1 with h2 | h2
    · exact hx (.inr h2)
    · omega

theorem cell_block {w : World} {a : Addr} {v : Value} (h : w.cell? a = some v) : a.block < w.heap.size := World.block_lt_of_cell? w a h

theorem Step.cell {c c' : Cx} (h : Step c c') {a : Addr} {v : Value} (hc : c.w.cell? a = some v) (hx : ¬ c.X a.block) : c'.w.cell? a = some v :=
  (World.cell?_of_block (w := c.w) (h.blocks a.block (cell_block hc) (fun ho => hx (.inr ho)))).trans hc

theorem RelV.step {c c' : Cx} (h : Step c c') {x : PV} {v : Value} (hr : RelV c x v) : RelV c' x v := by
  induction hr with
  | v x => exact .v x
  | undef y => exact .undef y
  | ro sz full rows a cap vals hcap hmax hfull hnone hlen hcell hpure hrel ih =>
    exact .ro sz full rows a cap vals hcap hmax hfull hnone hlen (fun ad ha i row j x h1 h2 => by
      obtain ⟨k1, k2, k3, k4⟩ := hcell ad ha i row j x h1 h2
      exact ⟨k1, h.notX (b := ad.block) (by have := cell_block k3; exact this) k2, h.cell k3 k2, k4⟩) hpure ih
  | rp row off b o vals hcell hpure hrel ih =>
    exact .rp row off b o vals (fun j x h1 => by
      obtain ⟨k2, k3, k4⟩ := hcell j x h1
      exact ⟨h.notX (b := b) (by have := cell_block k3; exact this) k2, h.cell k3 k2, k4⟩) hpure ih
  | vw τ g off len y hy hN hv =>
    refine .vw τ g off len y hy (Nat.lt_of_lt_of_le hN h.N) (fun blk' hb hg => ?_)
    obtain ⟨blk, k1, k2, k3, k4, k5⟩ := h.ent τ blk' hb (by rw [hg]; exact hN)
    obtain ⟨h1, a, cap, h2, h3, h4, h5⟩ := hv blk k1 (k2.trans hg)
    refine ⟨by rw [k5]; exact h1, a, cap, h2, h3, h4, ?_⟩
    rcases h5 with ⟨p, h5, rfl, cs, e, fz, h6, h7⟩ | h5
    · obtain ⟨cs', fz', h8, h9⟩ := h.cells _ cs e fz h6
      exact .inl ⟨p, k3.trans h5, by rw [k4], cs', e, fz', h8, by rw [k4, h9]; exact h7⟩
    · exact .inr h5
  | ptr τ g i off y hy hN hv =>
    refine .ptr τ g i off y hy (Nat.lt_of_lt_of_le hN h.N) (fun blk' hb hg => ?_)
    obtain ⟨blk, k1, k2, k3, k4, k5⟩ := h.ent τ blk' hb (by rw [hg]; exact hN)
    obtain ⟨h1, p, h2, h3, cs, e, fz, h4⟩ := hv blk k1 (k2.trans hg)
    obtain ⟨cs', fz', h5, _⟩ := h.cells _ cs e fz h4
    exact ⟨by rw [k5]; exact h1, p, k3.trans h2, by rw [k4]; exact h3, cs', e, fz', h5⟩
  | sub τ g i off len y hy hN hv =>
    refine .sub τ g i off len y hy (Nat.lt_of_lt_of_le hN h.N) (fun blk' hb hg => ?_)
    obtain ⟨blk, k1, k2, k3, k4, k5⟩ := h.ent τ blk' hb (by rw [hg]; exact hN)
    obtain ⟨h1, p, cap, h2, h3, cs, e, fz, h4⟩ := hv blk k1 (k2.trans hg)
    obtain ⟨cs', fz', h5, _⟩ := h.cells _ cs e fz h4
    exact ⟨by rw [k5]; exact h1, p, cap, k3.trans h2, by rw [k4]; exact h3, cs', e, fz', h5⟩
  | agg cs vs hs h1 hr ih => exact .agg cs vs hs h1 ih
  | tup cs vs hs hr ih => exact .tup cs vs hs ih
  | fn f a b va vb hsa hsb ha hb iha ihb => exact .fn f a b va vb hsa hsb iha ihb
  | iface t x v hr ih => exact .iface t x v ih
  | mp τ g y hy hN hv =>
    refine .mp τ g y hy (Nat.lt_of_lt_of_le hN h.N) (fun blk' hb hg => ?_)
    obtain ⟨blk, k1, k2, k3, k4, k5⟩ := h.ent τ blk' hb (by rw [hg]; exact hN)
    obtain ⟨p, h2, h3⟩ := hv blk k1 (k2.trans hg)
    exact ⟨p, k3.trans h2, h3⟩
  | it τ g y hy hN hv =>
    refine .it τ g y hy (Nat.lt_of_lt_of_le hN h.N) (fun blk' hb hg => ?_)
    obtain ⟨blk, k1, k2, k3, k4, k5⟩ := h.ent τ blk' hb (by rw [hg]; exact hN)
    obtain ⟨p, h2, h3⟩ := hv blk k1 (k2.trans hg)
    exact ⟨p, k3.trans h2, h3⟩
  | rmp es r arr ck hx hh he =>
    have hlt := (Array.getElem?_eq_some_iff.1 hh).1
    exact .rmp es r arr ck (h.notX hlt hx) ((h.blocks r hlt (fun ho => hx (.inr ho))).trans hh) he
  | rnil => exact .rnil

/-- What is pure reads the same wherever what it reads is not written. -/
theorem RelV.pure {c c' : Cx} {x : PV} {v : Value} (hp : x.Pure) (hr : RelV c x v)
    (hX : ∀ b, ¬ c.X b → ¬ c'.X b) (hw : ∀ a u, ¬ c.X a.block → c.w.cell? a = some u → c'.w.cell? a = some u) (hm : ∀ r arr ck, ¬ c.X r → c.w.heap[r]? = some (.map arr ck) → c'.w.heap[r]? = some (.map arr ck)) : RelV c' x v := by
  induction hr with
  | v x => exact .v x
  | undef y => exact .undef y
  | ro sz full rows a cap vals hcap hmax hfull hnone hlen hcell hpure hrel ih =>
    exact .ro sz full rows a cap vals hcap hmax hfull hnone hlen (fun ad ha i row j x h1 h2 => by
      obtain ⟨k1, k2, k3, k4⟩ := hcell ad ha i row j x h1 h2
      exact ⟨k1, hX _ k2, hw _ _ (by exact k2) k3, k4⟩) hpure (fun i row j x h1 h2 => ih i row j x h1 h2 (hpure i row j x h1 h2))
  | rp row off b o vals hcell hpure hrel ih =>
    exact .rp row off b o vals (fun j x h1 => by
      obtain ⟨k2, k3, k4⟩ := hcell j x h1
      exact ⟨hX _ k2, hw _ _ (by exact k2) k3, k4⟩) hpure (fun j x h1 => ih j x h1 (hpure j x h1))
  | vw τ g off len y hy hN hv => cases hp
  | ptr τ g i off y hy hN hv => cases hp
  | agg cs vs hs h1 hr ih => cases hp with | agg hp => exact .agg cs vs hs h1 (fun i x v k1 k2 => ih i x v k1 k2 (hp x (List.mem_of_getElem? k1)))
  | tup cs vs hs hr ih => cases hp with | tup hp => exact .tup cs vs hs (fun i x v k1 k2 => ih i x v k1 k2 (hp x (List.mem_of_getElem? k1)))
  | fn f a b va vb hsa hsb ha hb iha ihb =>
    cases hp with
    | fn hpa hpb => exact .fn f a b va vb hsa hsb (fun i x v k1 k2 => iha i x v k1 k2 (hpa x (List.mem_of_getElem? k1))) (fun i x v k1 k2 => ihb i x v k1 k2 (hpb x (List.mem_of_getElem? k1)))
  | iface t x v hr ih => cases hp with | iface hp => exact .iface t x v (ih hp)
  | sub τ g i off len y hy hN hv => cases hp
  | mp τ g y hy hN hv => cases hp
  | it τ g y hy hN hv => cases hp
  | rmp es r arr ck hx hh he => exact .rmp es r arr ck (hX r hx) (hm r arr ck hx hh) he
  | rnil => exact .rnil
/-- Nothing turns that a walk reads: the blocks are the same ones, and lie as they lay. -/
structure Turn (c c' : Cx) : Prop where
  S : c'.S = c.S
  β : c'.β = c.β
  N : c'.N = c.N
  G : ∀ (b : Nat) (o : Obj), c.w.heap[b]? = some o → memObj o = true → c'.G b → c.G b
  heap : ∀ (b : Nat) (o : Obj), c.w.heap[b]? = some o → memObj o = true → c'.w.heap[b]? = some o
theorem Turn.own {c c' : Cx} (h : Turn c c') (b : Nat) : c'.Own b ↔ c.Own b := by
  unfold Cx.Own
  rw [h.S, h.β]
theorem Turn.notX {c c' : Cx} (h : Turn c c') {b : Nat} {o : Obj} (hb : c.w.heap[b]? = some o) (hm : memObj o = true) (hx : ¬ c.X b) : ¬ c'.X b := by
  rintro (h1 | h1)
  · exact hx (.inl (h.G b o hb hm h1))
  · exact hx (.inr ((h.own b).1 h1))
theorem mem_of_cell {w : World} {a : Addr} {v : Value} (h : w.cell? a = some v) : ∃ o : Obj, w.heap[a.block]? = some o ∧ memObj o = true := by
  obtain ⟨o, h1, h2⟩ := cells_of_cell h
  exact ⟨o, h1, by cases o <;> simp_all [Obj.isCells, memObj]⟩
theorem Turn.cell {c c' : Cx} (h : Turn c c') {a : Addr} {v : Value} (hc : c.w.cell? a = some v) : c'.w.cell? a = some v := by
  obtain ⟨o, h1, h2⟩ := mem_of_cell hc
  exact (World.cell?_of_block (w := c.w) ((h.heap _ o h1 h2).trans h1.symm)).trans hc
theorem RelV.turn {c c' : Cx} (h : Turn c c') {x : PV} {v : Value} (hr : RelV c x v) : RelV c' x v := by
  induction hr with
  | v x => exact .v x
  | undef y => exact .undef y
  | ro sz full rows a cap vals hcap hmax hfull hnone hlen hcell hpure hrel ih =>
    exact .ro sz full rows a cap vals hcap hmax hfull hnone hlen (fun ad ha i row j x h1 h2 => by
      obtain ⟨k1, k2, k3, k4⟩ := hcell ad ha i row j x h1 h2
      obtain ⟨o, m1, m2⟩ := mem_of_cell k3
      exact ⟨k1, h.notX (b := ad.block) m1 m2 k2, h.cell k3, k4⟩) hpure ih
  | rp row off b o vals hcell hpure hrel ih =>
    exact .rp row off b o vals (fun j x h1 => by
      obtain ⟨k2, k3, k4⟩ := hcell j x h1
      obtain ⟨o, m1, m2⟩ := mem_of_cell k3
      exact ⟨h.notX (b := b) m1 m2 k2, h.cell k3, k4⟩) hpure ih
  | vw τ g off len y hy hN hv =>
    refine .vw τ g off len y hy (by rw [h.N]; exact hN) (fun blk hb hg => ?_)
    rw [h.S] at hb
    obtain ⟨h1, a, cap, h2, h3, h4, h5⟩ := hv blk hb hg
    refine ⟨h1, a, cap, h2, h3, h4, ?_⟩
    rcases h5 with ⟨p, h5, rfl, cs, e, fz, h6, h7⟩ | h5
    · exact .inl ⟨p, by rw [h.β]; exact h5, rfl, cs, e, fz, h.heap _ _ h6 rfl, h7⟩
    · exact .inr h5
  | ptr τ g i off y hy hN hv =>
    refine .ptr τ g i off y hy (by rw [h.N]; exact hN) (fun blk hb hg => ?_)
    rw [h.S] at hb
    obtain ⟨h1, p, h2, h3, cs, e, fz, h4⟩ := hv blk hb hg
    exact ⟨h1, p, by rw [h.β]; exact h2, h3, cs, e, fz, h.heap _ _ h4 rfl⟩
  | sub τ g i off len y hy hN hv =>
    refine .sub τ g i off len y hy (by rw [h.N]; exact hN) (fun blk hb hg => ?_)
    rw [h.S] at hb
    obtain ⟨h1, p, cap, h2, h3, cs, e, fz, h4⟩ := hv blk hb hg
    exact ⟨h1, p, cap, by rw [h.β]; exact h2, h3, cs, e, fz, h.heap _ _ h4 rfl⟩
  | agg cs vs hs h1 hr ih => exact .agg cs vs hs h1 ih
  | tup cs vs hs hr ih => exact .tup cs vs hs ih
  | fn f a b va vb hsa hsb ha hb iha ihb => exact .fn f a b va vb hsa hsb iha ihb
  | iface t x v hr ih => exact .iface t x v ih
  | mp τ g y hy hN hv =>
    refine .mp τ g y hy (by rw [h.N]; exact hN) (fun blk hb hg => ?_)
    rw [h.S] at hb
    obtain ⟨p, h2, h3⟩ := hv blk hb hg
    exact ⟨p, by rw [h.β]; exact h2, h3⟩
  | it τ g y hy hN hv =>
    refine .it τ g y hy (by rw [h.N]; exact hN) (fun blk hb hg => ?_)
    rw [h.S] at hb
    obtain ⟨p, h2, h3⟩ := hv blk hb hg
    exact ⟨p, by rw [h.β]; exact h2, h3⟩
  | rmp es r arr ck hx hh he => exact .rmp es r arr ck (h.notX hh rfl hx) (h.heap _ _ hh rfl) he
  | rnil => exact .rnil
theorem HeapOk.mem {c : Cx} {w : World} {p : Nat × Nat} {blk : Blk} (h : HeapOk c w p blk) : ∃ o : Obj, w.heap[p.1]? = some o ∧ memObj o = true := by
  rcases h with ⟨_, cs, e, fz, h, _⟩ | ⟨_, ho⟩
  · exact ⟨_, h, rfl⟩
  · obtain ⟨o, h1, h2, _⟩ := ho.mem
    exact ⟨o, h1, h2⟩
theorem WI.turn {c c' : Cx} (h : WI c) (ht : Turn c c') : WI c' :=
  ⟨tabs_keep h.1 fun b hb => by obtain ⟨⟨o, h1, h2⟩, _⟩ := h.2 b hb; exact (ht.heap b o h1 h2).trans h1.symm, fun b hb => by
    obtain ⟨⟨o, h1, h2⟩, h3⟩ := h.2 b hb
    exact ⟨⟨o, ht.heap b o h1 h2, h2⟩, fun ho => h3 ((ht.own b).1 ho)⟩⟩
theorem Inv.turn {c c' : Cx} (h : Turn c c') (hi : Inv c) (hg : ∀ b, c'.G b → b < c'.w.heap.size) : Inv c' where
  blk := fun τ blk hb => by
    rw [h.S] at hb
    have k := hi.blk τ blk hb
    refine ⟨by rw [h.N]; exact k.gen, fun hv => k.void (by rw [← h.β]; exact hv), fun p hp => ?_⟩
    have hh := k.heap p (by rw [← h.β]; exact hp)
    obtain ⟨o, m1, m2⟩ := hh.mem
    exact hh.move (fun x v hr => hr.turn h) ((h.heap _ o m1 m2).trans m1.symm)
  wi := hi.wi.turn h
  notG := fun τ blk p hb hp hG => by
    rw [h.S] at hb
    rw [h.β] at hp
    obtain ⟨o, m1, m2⟩ := ((hi.blk τ blk hb).heap p hp).mem
    exact hi.notG τ blk p hb hp (h.G _ o m1 m2 hG)
  inj := fun τ τ' blk blk' p p' h1 h2 h3 h4 h5 h6 => by
    rw [h.S] at h1 h2
    rw [h.β] at h4 h5
    exact hi.inj τ τ' blk blk' p p' h1 h2 h3 h4 h5 h6
  gLt := hg
/-- What is neither cells nor a map is no block of one's own. -/
theorem notOwn_of {c : Cx} (hi : Inv c) {b : Nat} {o : Obj} (hb : c.w.heap[b]? = some o) (hm : memObj o = false) : ¬ c.Own b := by
  rintro ⟨τ, blk, p, h1, _, h2, rfl⟩
  obtain ⟨o', m1, m2⟩ := ((hi.blk τ blk h1).heap p h2).mem
  rw [hb] at m1
  cases m1
  rw [hm] at m2
  cases m2
/-- The marks of blocks for deferred calls. -/
def markOf (D : Nat) : Deferred := { target := .collected D, args := #[] }
def DefOk (c : Cx) (ds : List Deferred) : Prop := ∃ Ds : List Nat, Ds.Nodup ∧ ds = Ds.map markOf ∧ ∀ D ∈ Ds, c.w.heap[D]? = some (.deferred (some [])) ∧ ¬ c.G D
theorem DefOk.nil (c : Cx) : DefOk c [] := ⟨[], List.nodup_nil, rfl, fun D h => by cases h⟩
theorem DefOk.step {c c' : Cx} {ds : List Deferred} (k : DefOk c ds) (hi : Inv c) (h : Step c c') : DefOk c' ds := by
  obtain ⟨Ds, h1, h2, h3⟩ := k
  refine ⟨Ds, h1, h2, fun D hD => ?_⟩
  obtain ⟨k1, k2⟩ := h3 D hD
  exact ⟨(h.blocks D (Array.getElem?_eq_some_iff.1 k1).1 (notOwn_of hi k1 rfl)).trans k1, by rw [h.G]; exact k2⟩
/-- In a round: the loop's record lies there, and its block. -/
def RoOk (c : Cx) (ro : Option Nat) : Prop := ∀ l, ro = some l → ∃ r, c.w.heap[l]? = some (.loop r) ∧ c.w.heap[r.defers]? = some (.deferred (some []))
theorem RoOk.none (c : Cx) : RoOk c none := fun l h => by cases h
theorem RoOk.step {c c' : Cx} {ro : Option Nat} (k : RoOk c ro) (hi : Inv c) (h : Step c c') : RoOk c' ro := fun l hl => by
  obtain ⟨r, h1, h2⟩ := k l hl
  exact ⟨r, (h.blocks l (Array.getElem?_eq_some_iff.1 h1).1 (notOwn_of hi h1 rfl)).trans h1, (h.blocks _ (Array.getElem?_eq_some_iff.1 h2).1 (notOwn_of hi h2 rfl)).trans h2⟩
end Go.Proofs.YtenoecffjfcifaaDoor.Pv

-- Second text: what an operation that only reads answers, as a function of what the slots hold; that Go answers so.
namespace Go.Proofs.YtenoecffjfcifaaDoor.Pv
set_option linter.all false
open Go.RowKit
set_option linter.unusedVariables false

/-- What a walk knows: how many slots there are, what stands in some of them, the blocks of one's own. -/
structure PS where
  n : Nat
  tm : List (Nat × PV)
  S : List Blk

def look (t : Nat) : List (Nat × PV) → PV
  | [] => .undef
  | (s, x) :: r => if t = s then x else look t r

def ofValue : Value → PV
  | .agg vs => if vs.all (·.oneCell') then .agg (vs.toList.map .v) else .undef
  | x => .v x

def PS.get (σ : PS) : Operand → PV
  | .tmp t => look t σ.tm
  | .const v => ofValue v
  | .func f => .fn (.func f) [] []
  | .global _ => .undef

def PS.put (σ : PS) (d : Option Tmp) (x : PV) (S : List Blk) : PS :=
  match d with
  | some d => { σ with tm := (d, x) :: σ.tm, S := S }
  | none => { σ with S := S }

/-- A walk's knowledge holds of slots and world. -/
structure Rel (c : Cx) (σ : PS) (a : Act) : Prop where
  S : c.S = σ.S
  inv : Inv c
  n : a.tmps.size = σ.n
  defers : DefOk c a.defers
  tm : ∀ t, RelV c (look t σ.tm) (a.tmps.getD t Go.undef)

theorem ofValue_rel (c : Cx) (v : Value) : RelV c (ofValue v) v := by
  cases v <;> simp only [ofValue] <;> (try exact .v _)
  rename_i vs
  split
  · rename_i h
    refine .agg _ _ (by simp) (fun i v hv => ?_) (fun i x v hx hv => ?_)
    · exact (Array.all_eq_true'.1 h) v (Array.mem_of_getElem? hv)
    · simp only [List.getElem?_map, Array.getElem?_toList, hv, Option.map_some, Option.some.injEq] at hx
      subst hx
      exact .v _
  · exact .undef _

theorem Rel.get {c : Cx} {σ : PS} {a : Act} (r : Rel c σ a) (x : Operand) : RelV c (σ.get x) (a.eval x) := by
  cases x with
  | tmp t => exact r.tm t
  | const v => exact ofValue_rel c v
  | global g => exact .undef _
  | func f => exact .fn _ _ _ _ _ rfl rfl (fun i x v h _ => by simp at h) (fun i x v h _ => by simp at h)

theorem Rel.put {c c' : Cx} {σ : PS} {a : Act} {d : Option Tmp} {x : PV} {v : Value} (r : Rel c σ a) (hs : Step c c') (hi : Inv c') (hv : RelV c' x v) (hd : ∀ t, d = some t → t < σ.n) :
    Rel c' (σ.put d x c'.S) (a.put d v) := by
  cases d with
  | none => exact ⟨rfl, hi, r.n, r.defers.step r.inv hs, fun t => (r.tm t).step hs⟩
  | some t =>
    refine ⟨rfl, hi, by simp [Act.put, PS.put, r.n], r.defers.step r.inv hs, fun s => ?_⟩
    simp only [PS.put, look, Act.put]
    have ht := hd t rfl
    split
    · rename_i h
      subst h
      rw [Array.getD_eq_getD_getElem?, Array.getElem?_setIfInBounds_self_of_lt (by rw [r.n]; exact ht)]
      exact hv
    · rename_i h
      have : (a.tmps.setIfInBounds t v).getD s Go.undef = a.tmps.getD s Go.undef := by
        simp only [Array.getD_eq_getD_getElem?]
        rw [Array.getElem?_setIfInBounds_ne (fun e => h e.symm)]
      rw [this]
      exact (r.tm s).step hs

def intBin (op : BinOp) (k : IntKind) (a b : Int) : Option Value :=
  match op with
  | .add => some (.int k (k.wrap (a + b)))
  | .sub => some (.int k (k.wrap (a - b)))
  | .mul => some (.int k (k.wrap (a * b)))
  | .quo => if b = 0 then none else some (.int k (k.wrap (a.tdiv b)))
  | .rem => if b = 0 then none else some (.int k (a.tmod b))
  | .and => some (.int k (Go.bits .and k a b))
  | .or => some (.int k (Go.bits .or k a b))
  | .xor => some (.int k (Go.bits .xor k a b))
  | .andNot => some (.int k (Go.bits .andNot k a b))
  | .eql => some (.bool (decide (a = b)))
  | .neq => some (.bool (!decide (a = b)))
  | .lss => some (.bool (decide (a < b)))
  | .leq => some (.bool (decide (a ≤ b)))
  | .gtr => some (.bool (decide (a > b)))
  | .geq => some (.bool (decide (a ≥ b)))
  | _ => none

def strBin (op : BinOp) (x y : ByteArray) : Option Value :=
  match op with
  | .add => if ((x.size + y.size : Nat) : Int) > 9223372036854775807 then none else some (.string (x ++ y))
  | .eql => some (.bool (x.toList == y.toList))
  | .neq => some (.bool (!(x.toList == y.toList)))
  | .lss => some (.bool (Op.bytesLess x.toList y.toList))
  | .leq => some (.bool (Op.bytesLess x.toList y.toList || x.toList == y.toList))
  | .gtr => some (.bool (!(Op.bytesLess x.toList y.toList || x.toList == y.toList)))
  | .geq => some (.bool (!Op.bytesLess x.toList y.toList))
  | _ => none

def shiftBin (op : BinOp) (k : IntKind) (a b : Int) : Option Value :=
  if b < 0 then none else
  match op with
  | .shl => some (.int k (k.wrap (a * 2 ^ min b.toNat k.bits)))
  | .shr => some (.int k (a.fdiv (2 ^ min b.toNat k.bits)))
  | _ => none

def boolBin (op : BinOp) (a b : Bool) : Option Value :=
  match op with
  | .eql => some (.bool (a == b))
  | .neq => some (.bool (!(a == b)))
  | _ => none

/-- Is the view's block still there? -/
def alive (S : List Blk) (τ g : Nat) : Bool :=
  match S[τ]? with
  | some blk => blk.gen == g
  | none => false

def nilBin (op : BinOp) (isNil : Bool) : Option Value :=
  match op with
  | .eql => some (.bool isNil)
  | .neq => some (.bool (!isNil))
  | _ => none

def scalarBin (P : Program) (op : BinOp) (t : TypeId) (x y : Value) : Option Value :=
  match x, y with
  | .int k a, .int k' b => match op with
    | .shl | .shr => shiftBin op k a b
    | _ => if k = k' then intBin op k a b else none
  | .string a, .string b => strBin op a b
  | .bool a, .bool b => match P.underlying t with
    | some .bool => boolBin op a b
    | _ => none
  | .pointer none, .pointer none => match P.underlying t with
    | some (.pointer _) => nilBin op true
    | _ => none
  | .slice none _ _, .slice none _ _ => match P.underlying t with
    | some (.slice _) => nilBin op true
    | _ => none
  | .nilFunc, .nilFunc => match P.underlying t with
    | some (.func _ _ _) => nilBin op true
    | _ => none
  | _, _ => none

theorem shiftBin_run {P : Program} {op : BinOp} {k yk : IntKind} {a b : Int} {v : Value} (h : shiftBin op k a b = some v) (t : TypeId) (w : World) (ho : op = .shl ∨ op = .shr) :
    (binOp op t (.int k a) (.int yk b)).run P w = .ok v w := by
  unfold shiftBin at h
  split at h
  · cases h
  · rename_i hb
    rcases ho with rfl | rfl <;> (simp only [Option.some.injEq] at h; subst h; simp [binOp, Op.shift, hb])

theorem intBin_run {P : Program} {op : BinOp} {k : IntKind} {a b : Int} {v : Value} (h : intBin op k a b = some v) (t : TypeId) (w : World) :
    (binOp op t (.int k a) (.int k b)).run P w = .ok v w := by
  cases op <;> simp only [intBin] at h <;> (try cases h) <;> (try (simp [binOp, Op.intArith, Op.intCmp, Op.intBits, Go.bits]; done)) <;> (try (simp [binOp, Op.intCmp, bne, BEq.beq]; done))
  all_goals
    split at h
    · cases h
    · rename_i hb
      simp only [Option.some.injEq] at h
      subst h
      simp [binOp, Op.intDiv, hb]

theorem strBin_run {P : Program} {op : BinOp} {a b : ByteArray} {v : Value} (h : strBin op a b = some v) (t : TypeId) (w : World) :
    (binOp op t (.string a) (.string b)).run P w = .ok v w := by
  cases op <;> simp only [strBin] at h <;> (try cases h) <;> (try (simp [binOp, Op.stringOp]; done))
  split at h
  · cases h
  · rename_i hb
    simp only [Option.some.injEq] at h
    subst h
    have : ¬ (IntKind.i64.max < ((a.size + b.size : Nat) : Int)) := by simpa [IntKind.max, IntKind.signed, IntKind.bits] using hb
    simp only [binOp, Op.stringOp]
    rw [if_neg this]
    rfl
end Go.Proofs.YtenoecffjfcifaaDoor.Pv

-- Third text: the operations that only read, one function; that Go does what it tells.
namespace Go.Proofs.YtenoecffjfcifaaDoor.Pv
set_option linter.all false
open Go.RowKit
set_option linter.unusedVariables false

theorem equal_run {P : Program} {t : TypeId} {x y : Value} {b : Bool} {w : World} (h : ∀ d, (Op.equalIn (d + 1) t x y).run P w = .ok b w) : (Op.equal t x y).run P w = .ok b w := h 9999
theorem eql_run {P : Program} {t : TypeId} {x y : Value} {b : Bool} {w : World} (hb : binOp .eql t x y = (do pure (.bool (← Op.equal t x y)))) (h : (Op.equal t x y).run P w = .ok b w) : (binOp .eql t x y).run P w = .ok (.bool b) w := by
  rw [hb, Sem.run_bind, h]; rfl
theorem neq_run {P : Program} {t : TypeId} {x y : Value} {b : Bool} {w : World} (hb : binOp .neq t x y = (do pure (.bool (!(← Op.equal t x y))))) (h : (Op.equal t x y).run P w = .ok b w) : (binOp .neq t x y).run P w = .ok (.bool (!b)) w := by
  rw [hb, Sem.run_bind, h]; rfl

theorem neq_run' {P : Program} {t : TypeId} {x y : Value} {b b' : Bool} {w : World} (hb : binOp .neq t x y = (do pure (.bool (!(← Op.equal t x y))))) (h : (Op.equal t x y).run P w = .ok b w) (e : b' = !b) : (binOp .neq t x y).run P w = .ok (.bool b') w := by
  rw [hb, Sem.run_bind, h, e]; rfl

theorem scalarBin_run {P : Program} {op : BinOp} {t : TypeId} {x y v : Value} (h : scalarBin P op t x y = some v) (X Y : Operand) (w : World) :
    (do eqGuard op t X Y x y; binOp op t x y : Sem Value).run P w = .ok v w := by
  unfold scalarBin at h
  split at h
  · rename_i k a k' b
    have hg : (eqGuard op t X Y (.int k a) (.int k' b)) = pure () := by unfold eqGuard; split <;> rfl
    rw [hg, pure_bind]
    split at h
    · exact shiftBin_run h t w (.inl rfl)
    · exact shiftBin_run h t w (.inr rfl)
    · split at h
      · rename_i hk
        subst hk
        exact intBin_run h t w
      · cases h
  · rename_i a b
    have hg : (eqGuard op t X Y (.string a) (.string b)) = pure () := by unfold eqGuard; split <;> rfl
    rw [hg, pure_bind]
    exact strBin_run h t w
  · rename_i a b
    have hg : (eqGuard op t X Y (.bool a) (.bool b)) = pure () := by unfold eqGuard; split <;> rfl
    rw [hg, pure_bind]
    split at h
    · rename_i ht
      cases op <;> simp only [boolBin] at h <;> (try cases h)
      · exact run_eql_bool _ t a b ht
      · exact run_neq_bool _ t a b ht
    · cases h
  · have hg : (eqGuard op t X Y (.pointer none) (.pointer none)) = pure () := by unfold eqGuard; split <;> rfl
    rw [hg, pure_bind]
    split at h
    · rename_i e ht
      cases op <;> simp only [nilBin] at h <;> (try cases h) <;> (first | refine eql_run (b := _) rfl ?_ | refine neq_run (b := _) rfl ?_) <;> refine equal_run fun d => ?_ <;> unfold Op.equalIn <;> rw [Sem.run_bind, run_underlying ht] <;> rfl
    · cases h
  · rename_i n c n' c'
    have hg : (eqGuard op t X Y (.slice none n c) (.slice none n' c')) = pure () := by unfold eqGuard; split <;> rfl
    rw [hg, pure_bind]
    split at h
    · rename_i e ht
      cases op <;> simp only [nilBin] at h <;> (try cases h) <;> (first | refine eql_run (b := _) rfl ?_ | refine neq_run (b := _) rfl ?_) <;> refine equal_run fun d => ?_ <;> unfold Op.equalIn <;> rw [Sem.run_bind, run_underlying ht] <;> rfl
    · cases h
  · have hg : (eqGuard op t X Y .nilFunc .nilFunc) = pure () := by unfold eqGuard; split <;> rfl
    rw [hg, pure_bind]
    split at h
    · rename_i a b c ht
      cases op <;> simp only [nilBin] at h <;> (try cases h) <;> (first | refine eql_run (b := _) rfl ?_ | refine neq_run (b := _) rfl ?_) <;> refine equal_run fun d => ?_ <;> unfold Op.equalIn <;> rw [Sem.run_bind, run_underlying ht] <;> rfl
    · cases h
  · cases h

/-- The cells of a part, read as a value of its type. -/
def isAggT (P : Program) (t : TypeId) : Bool :=
  match P.underlying t with
  | some (.struct _) | some (.array _ _) => true
  | _ => false
def partPV (P : Program) (t : TypeId) (cs : List PV) (off : Nat) : Option PV :=
  if isAggT P t then (if off + P.cellsOf t ≤ cs.length then some (.agg ((cs.drop off).take (P.cellsOf t))) else none)
  else cs[off]?

def known (P : Program) (t : TypeId) : Bool := (P.underlying t).isSome

theorem info_of_underlying {P : Program} {t : TypeId} {d : TypeDesc} (h : P.underlying t = some d) : ∃ i, P.info? t = some i := by
  unfold Program.underlying at h
  cases hi : P.info? t with
  | none => rw [hi] at h; cases h
  | some i => exact ⟨i, rfl⟩

theorem isAgg_run {P : Program} {t : TypeId} {d : TypeDesc} (h : P.underlying t = some d) (w : World) : (isAgg t).run P w = .ok (isAggT P t) w := by
  unfold isAgg isAggT
  rw [Sem.run_bind, run_underlying h, h]
  cases d <;> rfl

theorem sizeOf_run {P : Program} {t : TypeId} {d : TypeDesc} (h : P.underlying t = some d) (w : World) : (sizeOf t).run P w = .ok (P.cellsOf t) w := by
  obtain ⟨i, hi⟩ := info_of_underlying h
  simp [sizeOf, typeInfo, hi, Program.cellsOf]

theorem drop_take_get {α : Type} {l : List α} {o n i : Nat} {x : α} (h : ((l.drop o).take n)[i]? = some x) : l[o + i]? = some x ∧ i < n := by
  rw [List.getElem?_take] at h
  split at h
  · rename_i hi
    rw [List.getElem?_drop] at h
    exact ⟨h, hi⟩
  · cases h

theorem partPV_sound {P : Program} {c : Cx} {t : TypeId} {cs : List PV} {vs : Array Value} {off : Nat} {z : PV} (h : partPV P t cs off = some z) (hk : known P t = true) (ha : RelV c (.agg cs) (.agg vs)) :
    ∃ v, (part t vs off).run P c.w = .ok v c.w ∧ RelV c z v := by
  cases ha with
  | agg _ _ hs h1 hr =>
    obtain ⟨d, hd⟩ := Option.isSome_iff_exists.1 hk
    unfold partPV at h
    unfold part
    rw [Sem.run_bind, isAgg_run hd, Result.andThen_ok]
    cases hA : isAggT P t
    · rw [hA] at h
      simp only [Bool.false_eq_true, if_false] at h ⊢
      have hlt : off < vs.size := by rw [hs]; exact (List.getElem?_eq_some_iff.1 h).1
      have hv : vs[off]? = some vs[off] := Array.getElem?_eq_getElem hlt
      rw [hv]
      exact ⟨_, rfl, hr off z _ h hv⟩
    · rw [hA] at h
      simp only [if_true] at h ⊢
      split at h
      · rename_i hle
        cases h
        rw [Sem.run_bind, sizeOf_run hd, Result.andThen_ok]
        refine ⟨_, rfl, .agg _ _ ?_ (fun i v hv => ?_) (fun i x v hx hv => ?_)⟩
        · simp only [Array.size_extract, List.length_take, List.length_drop]; omega
        · rw [Array.getElem?_extract] at hv
          split at hv
          · exact h1 _ _ hv
          · cases hv
        · obtain ⟨k1, k2⟩ := drop_take_get hx
          rw [Array.getElem?_extract] at hv
          split at hv
          · exact hr _ x v k1 hv
          · cases hv
      · cases h
/-- A struct of numbers, truths and texts: where each field lies, of what it is. -/
inductive SK where
  | int
  | bool
  | str
def skOf (P : Program) (t : TypeId) : Option SK :=
  match P.underlying t with
  | some (.int _) => some .int
  | some .bool => some .bool
  | some .string => some .str
  | _ => none
def flatFs (P : Program) : List Field → Option (List (Nat × SK))
  | [] => some []
  | f :: fs => if f.name == "_" then none else
    match skOf P f.type, flatFs P fs with
    | some k, some l => some ((f.offset, k) :: l)
    | _, _ => none
def flatOf (P : Program) (t : TypeId) : Option (List (Nat × SK)) :=
  if P.eqGuardType P.depth t || P.stoodInHeld t then none else
  match P.underlying t with
  | some (.struct fs) => flatFs P fs.toList
  | some (.array n e) => match skOf P e with
    | some k => some ((List.range n).map fun i => (i * P.cellsOf e, k))
    | none => none
  | _ => none
def skEq : SK → PV → PV → Option Bool
  | .int, .v (.int k a), .v (.int k' b) => if k = k' then some (decide (a = b)) else none
  | .bool, .v (.bool a), .v (.bool b) => some (a == b)
  | .str, .v (.string a), .v (.string b) => some (a.toList == b.toList)
  | _, _, _ => none
def eqCells (xs ys : List PV) : List (Nat × SK) → Option Bool
  | [] => some true
  | (o, k) :: l =>
    match xs[o]?, ys[o]? with
    | some x, some y => match skEq k x y, eqCells xs ys l with
      | some r, some q => some (r && q)
      | _, _ => none
    | _, _ => none
def aggBin (P : Program) (op : BinOp) (t : TypeId) (xs ys : List PV) : Option PV :=
  match flatOf P t with
  | some l => match eqCells xs ys l with
    | some r => match op with
      | .eql => some (.v (.bool r))
      | .neq => some (.v (.bool (!r)))
      | _ => none
    | none => none
  | none => none
theorem skEq_run {P : Program} {c : Cx} {t : TypeId} {k : SK} {x y : PV} {a b : Value} {r : Bool} (hk : skOf P t = some k) (h : skEq k x y = some r) (ha : RelV c x a) (hb : RelV c y b) (d : Nat) : (Op.equalIn (d + 1) t a b).run P c.w = .ok r c.w := by
  unfold skOf at hk
  unfold skEq at h
  split at h
  · split at h
    · rename_i e
      subst e
      cases h; cases ha; cases hb
      split at hk <;> cases hk
      rw [run_equalIn_int c.w d t _ _ _ _ (by assumption)]
      congr 1
    · cases h
  · cases h; cases ha; cases hb
    split at hk <;> cases hk
    exact run_equalIn_bool' c.w d t _ _ (by assumption)
  · cases h; cases ha; cases hb
    split at hk <;> cases hk
    exact run_equalIn_string c.w d t _ _ (by assumption)
  · cases h
theorem skOf_part {P : Program} {t : TypeId} {k : SK} (h : skOf P t = some k) (cs : List PV) (o : Nat) : known P t = true ∧ partPV P t cs o = cs[o]? := by
  unfold skOf at h
  unfold known partPV isAggT
  split at h <;> cases h <;> rename_i hu <;> rw [hu] <;> exact ⟨rfl, rfl⟩
theorem eqFields_run {P : Program} {c : Cx} {xs ys : List PV} {asv bs : Array Value} (ha : RelV c (.agg xs) (.agg asv)) (hb : RelV c (.agg ys) (.agg bs)) (d : Nat) : ∀ (fs : List Field) (l : List (Nat × SK)) (r : Bool), flatFs P fs = some l → eqCells xs ys l = some r → (Op.eqFields (d + 1) asv bs fs).run P c.w = .ok r c.w
  | [], l, r, h1, h2 => by
    cases h1
    cases h2
    rfl
  | f :: fs, l, r, h1, h2 => by
    unfold flatFs at h1
    split at h1
    · cases h1
    · rename_i hn
      split at h1
      · rename_i k l' hk hl
        cases h1
        unfold eqCells at h2
        split at h2
        · rename_i x y hx hy
          split at h2
          · rename_i r1 r2 e1 e2
            cases h2
            obtain ⟨g1, g2⟩ := skOf_part hk xs f.offset
            obtain ⟨_, g3⟩ := skOf_part hk ys f.offset
            obtain ⟨a, p1, p2⟩ := partPV_sound (by rw [g2]; exact hx) g1 ha
            obtain ⟨b, p3, p4⟩ := partPV_sound (by rw [g3]; exact hy) g1 hb
            have ih := eqFields_run ha hb d fs l' r2 hl e2
            unfold Op.eqFields
            rw [if_pos (by simpa using hn), Sem.run_bind, p1, Result.andThen_ok, Sem.run_bind, p3, Result.andThen_ok, Sem.run_bind, skEq_run hk e1 p2 p4 d, Result.andThen_ok]
            cases r1 with
            | true => exact ih
            | false => rfl
          · cases h2
        · cases h2
      · cases h1
theorem eqItems_run {P : Program} {c : Cx} {e : TypeId} {k : SK} (hk : skOf P e = some k) {n : Nat} {xs ys : List PV} {asv bs : Array Value} (ha : RelV c (.agg xs) (.agg asv)) (hb : RelV c (.agg ys) (.agg bs)) (d : Nat) : ∀ (is : List Nat) (r : Bool), eqCells xs ys (is.map fun i => (i * n, k)) = some r → (Op.eqItems (d + 1) e n asv bs is).run P c.w = .ok r c.w
  | [], r, h2 => by
    cases h2
    rfl
  | i :: is, r, h2 => by
    rw [List.map_cons] at h2
    unfold eqCells at h2
    split at h2
    · rename_i x y hx hy
      split at h2
      · rename_i r1 r2 e1 e2
        cases h2
        obtain ⟨g1, g2⟩ := skOf_part hk xs (i * n)
        obtain ⟨_, g3⟩ := skOf_part hk ys (i * n)
        obtain ⟨a, p1, p2⟩ := partPV_sound (by rw [g2]; exact hx) g1 ha
        obtain ⟨b, p3, p4⟩ := partPV_sound (by rw [g3]; exact hy) g1 hb
        have ih := eqItems_run hk ha hb d is r2 e2
        unfold Op.eqItems
        rw [Sem.run_bind, p1, Result.andThen_ok, Sem.run_bind, p3, Result.andThen_ok, Sem.run_bind, skEq_run hk e1 p2 p4 d, Result.andThen_ok]
        cases r1 with
        | true => exact ih
        | false => rfl
      · cases h2
    · cases h2
theorem aggBin_sound {P : Program} {c : Cx} {op : BinOp} {t : TypeId} {xs ys : List PV} {z : PV} {a b : Value} (h : aggBin P op t xs ys = some z) (ha : RelV c (.agg xs) a) (hb : RelV c (.agg ys) b) (X Y : Operand) :
    ∃ v, (do eqGuard op t X Y a b; binOp op t a b : Sem Value).run P c.w = .ok v c.w ∧ RelV c z v := by
  unfold aggBin at h
  split at h
  · rename_i l hl
    split at h
    · rename_i r hr
      unfold flatOf at hl
      split at hl
      · cases hl
      · rename_i hg
        simp only [Bool.or_eq_true, not_or, Bool.not_eq_true] at hg
        have hgd : ∀ op asv bs, (eqGuard op t X Y (.agg asv) (.agg bs)).run P c.w = .ok () c.w := by
          intro op asv bs
          unfold eqGuard
          cases op <;> first | rfl | (simp only [Bool.not_true, Bool.false_eq_true, if_false, Sem.run_bind, run_program, Result.andThen_ok, hg.1, Bool.not_false, if_true]; rfl)
        have fin : ∀ asv bs, (Op.equal t (.agg asv) (.agg bs)).run P c.w = .ok r c.w → ∃ v, (do eqGuard op t X Y (.agg asv) (.agg bs); binOp op t (.agg asv) (.agg bs) : Sem Value).run P c.w = .ok v c.w ∧ RelV c z v := by
          intro asv bs he
          split at h <;> cases h
          · exact ⟨_, by rw [Sem.run_bind, hgd, Result.andThen_ok]; exact eql_run rfl he, .v _⟩
          · exact ⟨_, by rw [Sem.run_bind, hgd, Result.andThen_ok]; exact neq_run rfl he, .v _⟩
        split at hl
        · rename_i fs hu
          have hu' : P.underlying t = some (.struct (P.fieldsOf t)) := by rw [hu]; simp [Program.fieldsOf, hu]
          have hfs : P.fieldsOf t = fs := by simp [Program.fieldsOf, hu]
          cases ha with
          | agg _ asv hsa h1a ha' =>
          cases hb with
          | agg _ bs hsb h1b hb' =>
          refine fin asv bs ?_
          unfold Op.equal
          rw [show Op.maxDepth = 9998 + 1 + 1 from rfl, run_equalIn_struct c.w (9998 + 1) t asv bs hu' hg.2, hfs]
          exact eqFields_run (.agg _ asv hsa h1a ha') (.agg _ bs hsb h1b hb') 9998 fs.toList l r hl hr
        · rename_i n e hu
          split at hl
          · rename_i k hk
            cases hl
            cases ha with
            | agg _ asv hsa h1a ha' =>
            cases hb with
            | agg _ bs hsb h1b hb' =>
            refine fin asv bs ?_
            have hke : known P e = true := (skOf_part hk [] 0).1
            obtain ⟨ed, hed⟩ := Option.isSome_iff_exists.1 hke
            obtain ⟨i, hi⟩ := info_of_underlying hed
            unfold Op.equal
            rw [show Op.maxDepth = 9998 + 1 + 1 from rfl, run_equalIn_array c.w (9998 + 1) asv bs hu hi]
            exact eqItems_run hk (.agg _ asv hsa h1a ha') (.agg _ bs hsb h1b hb') 9998 (List.range n) r hr
          · cases hl
        · cases hl
    · cases h
  · cases h

def notNil (S : List Blk) : PV → Bool
  | .ptr τ g _ _ => alive S τ g
  | .rp _ _ => true
  | .vw τ g _ len => alive S τ g && decide (0 < len)
  | .ro _ _ rows => decide (0 < rows.length)
  | .fn _ _ _ => true
  | .iface _ _ => true
  | _ => false
def nilOf : PV → Bool
  | .v (.pointer none) | .v (.slice none _ _) | .v .nilFunc | .v .nilIface => true
  | _ => false

def binPV (P : Program) (S : List Blk) (op : BinOp) (t : TypeId) (x y : PV) : Option PV :=
  match x, y with
  | .v a, .v b => (scalarBin P op t a b).map .v
  | x, .v b => if nilOf (.v b) && notNil S x then (match P.underlying t, b, x with
      | some (.pointer _), .pointer none, .ptr _ _ _ _ | some (.pointer _), .pointer none, .rp _ _ | some (.slice _), .slice none _ _, .vw _ _ _ _ | some (.slice _), .slice none _ _, .ro _ _ _ => (nilBin op false).map .v
      | _, _, _ => none) else none
  | .agg xs, .agg ys => aggBin P op t xs ys
  | _, _ => none

theorem alive_spec {S : List Blk} {τ g : Nat} (h : alive S τ g = true) : ∃ blk, S[τ]? = some blk ∧ blk.gen = g := by
  unfold alive at h
  split at h
  · rename_i blk hb
    exact ⟨blk, hb, by simpa using h⟩
  · cases h

theorem eqNotNil {P : Program} {op : BinOp} {t : TypeId} {a : Value} {b v : Value} (w : World) (h : (nilBin op false).map PV.v = some (.v v))
    (hx : (∃ e ad, P.underlying t = some (.pointer e) ∧ a = .pointer (some ad) ∧ b = .pointer none) ∨ (∃ e ad n c n' c', P.underlying t = some (.slice e) ∧ a = .slice (some ad) n c ∧ b = .slice none n' c')) (X Y : Operand) :
    (do eqGuard op t X Y a b; binOp op t a b : Sem Value).run P w = .ok v w := by
  rcases hx with ⟨e, ad, ht, rfl, rfl⟩ | ⟨e, ad, n, c, n', c', ht, rfl, rfl⟩
  · have hg : (eqGuard op t X Y (.pointer (some ad)) (.pointer none)) = pure () := by unfold eqGuard; split <;> rfl
    rw [hg, pure_bind]
    cases op <;> simp [nilBin] at h <;> subst h <;> (first | refine eql_run (b := _) rfl ?_ | refine neq_run' (b := false) rfl ?_ rfl) <;> refine equal_run fun d => ?_ <;> unfold Op.equalIn <;> rw [Sem.run_bind, run_underlying ht] <;> rfl
  · have hg : (eqGuard op t X Y (.slice (some ad) n c) (.slice none n' c')) = pure () := by unfold eqGuard; split <;> rfl
    rw [hg, pure_bind]
    cases op <;> simp [nilBin] at h <;> subst h <;> (first | refine eql_run (b := _) rfl ?_ | refine neq_run' (b := false) rfl ?_ rfl) <;> refine equal_run fun d => ?_ <;> unfold Op.equalIn <;> rw [Sem.run_bind, run_underlying ht] <;> rfl

theorem binPV_sound {P : Program} {c : Cx} {op : BinOp} {t : TypeId} {x y z : PV} {a b : Value} (h : binPV P c.S op t x y = some z) (ha : RelV c x a) (hb : RelV c y b) (X Y : Operand) :
    ∃ v, (do eqGuard op t X Y a b; binOp op t a b : Sem Value).run P c.w = .ok v c.w ∧ RelV c z v := by
  unfold binPV at h
  split at h
  · cases ha
    cases hb
    obtain ⟨v, h1, rfl⟩ := Option.map_eq_some_iff.1 h
    exact ⟨v, scalarBin_run h1 X Y _, .v v⟩
  · split at h
    · rename_i hn
      simp only [Bool.and_eq_true] at hn
      cases hb
      split at h <;> (try cases h)
      all_goals obtain ⟨v, h1, rfl⟩ := Option.map_eq_some_iff.1 h
      · obtain ⟨e, ht⟩ : ∃ e, P.underlying t = some (.pointer e) := ⟨_, by assumption⟩
        cases ha with
        | ptr τ g i off y hy hN hv =>
          obtain ⟨blk, h2, h3⟩ := alive_spec hn.2
          obtain ⟨_, p, _, rfl, _⟩ := hv blk h2 h3
          exact ⟨v, eqNotNil c.w (by rw [h1]; rfl) (.inl ⟨_, _, ht, rfl, rfl⟩) X Y, .v v⟩
      · obtain ⟨e, ht⟩ : ∃ e, P.underlying t = some (.pointer e) := ⟨_, by assumption⟩
        cases ha with
        | rp row off b o vals hc hp hr => exact ⟨v, eqNotNil c.w (by rw [h1]; rfl) (.inl ⟨_, _, ht, rfl, rfl⟩) X Y, .v v⟩
      · obtain ⟨e, ht⟩ : ∃ e, P.underlying t = some (.slice e) := ⟨_, by assumption⟩
        cases ha with
        | vw τ g off len y hy hN hv =>
          simp only [notNil, Bool.and_eq_true, decide_eq_true_eq] at hn
          obtain ⟨blk, h2, h3⟩ := alive_spec hn.2.1
          obtain ⟨_, a, cap, rfl, _, _, h4⟩ := hv blk h2 h3
          rcases h4 with ⟨_, _, rfl, _⟩ | ⟨h4, _⟩
          · exact ⟨v, eqNotNil c.w (by rw [h1]; rfl) (.inr ⟨_, _, _, _, _, _, ht, rfl, rfl⟩) X Y, .v v⟩
          · omega
      · obtain ⟨e, ht⟩ : ∃ e, P.underlying t = some (.slice e) := ⟨_, by assumption⟩
        cases ha with
        | ro sz full rows a cap vals hcap hmax hfull hnone hlen hcell hpure hrel =>
          simp only [notNil, decide_eq_true_eq] at hn
          cases a with
          | none => rw [hnone rfl] at hn; simp at hn
          | some ad => exact ⟨v, eqNotNil c.w (by rw [h1]; rfl) (.inr ⟨_, _, _, _, _, _, ht, rfl, rfl⟩) X Y, .v v⟩
    · cases h
  · exact aggBin_sound h ha hb X Y
  · cases h

def unPV (op : UnOp) (x : PV) : Option PV :=
  match op, x with
  | .not, .v (.bool b) => some (.v (.bool (!b)))
  | .neg, .v (.int k n) => some (.v (.int k (k.wrap (0 - n))))
  | .xor, .v (.int k n) => some (.v (.int k (Go.bits .xor k (if k.signed then -1 else k.max) n)))
  | _, _ => none

theorem unPV_sound {P : Program} {c : Cx} {op : UnOp} {x z : PV} {a : Value} (h : unPV op x = some z) (ha : RelV c x a) :
    ∃ v, (Op.unary op a).run P c.w = .ok v c.w ∧ RelV c z v := by
  unfold unPV at h
  split at h <;> (try cases h)
  all_goals
    cases ha
    exact ⟨_, rfl, .v _⟩

end Go.Proofs.YtenoecffjfcifaaDoor.Pv

-- Fourth text: places and parts: fields, elements, slices, loads.
namespace Go.Proofs.YtenoecffjfcifaaDoor.Pv
set_option linter.all false
open Go.RowKit
set_option linter.unusedVariables false

def intPV : PV → Option Int
  | .v (.int _ i) => some i
  | _ => none

theorem intPV_rel {c : Cx} {x : PV} {v : Value} {i : Int} (h : intPV x = some i) (hr : RelV c x v) : ∃ k, v = .int k i := by
  unfold intPV at h
  split at h
  · cases h; cases hr; exact ⟨_, rfl⟩
  · cases h

def fieldOf (P : Program) (t : TypeId) (f : Nat) : Option Field :=
  match P.underlying t with
  | some (.struct fs) => fs[f]?
  | _ => none

theorem fieldOf_run {P : Program} {t : TypeId} {f : Nat} {fd : Field} (h : fieldOf P t f = some fd) : ∃ fs, P.underlying t = some (.struct fs) ∧ fs[f]? = some fd := by
  unfold fieldOf at h
  split at h
  · exact ⟨_, by assumption, h⟩
  · cases h

def fieldAddrPV (P : Program) (s : TypeId) (x : PV) (f : Nat) (S : List Blk) : Option PV :=
  match fieldOf P s f with
  | some fd => if P.cellsOf fd.type = 0 || !known P fd.type then none else
    match x with
    | .ptr τ g i off => if alive S τ g then some (.ptr τ g i (off + fd.offset)) else none
    | .rp row off => some (.rp row (off + fd.offset))
    | _ => none
  | none => none

theorem fieldAddrPV_sound {P : Program} {c : Cx} {s : TypeId} {x z : PV} {f : Nat} {a : Value} (h : fieldAddrPV P s x f c.S = some z) (ha : RelV c x a) :
    ∃ v, (Instr.fieldAt s a f).run P c.w = .ok v c.w ∧ RelV c z v := by
  unfold fieldAddrPV at h
  split at h
  · rename_i fd hf
    obtain ⟨fs, hu, hfd⟩ := fieldOf_run hf
    split at h
    · cases h
    · rename_i hz
      simp only [Bool.or_eq_true, decide_eq_true_eq, Bool.not_eq_true', not_or, Bool.not_eq_false] at hz
      obtain ⟨d, hd⟩ := Option.isSome_iff_exists.1 hz.2
      have key : ∀ ad : Addr, (Instr.fieldAt s (.pointer (some ad)) f).run P c.w = .ok (.pointer (some (ad.add fd.offset))) c.w := by
        intro ad
        unfold Instr.fieldAt
        rw [Sem.run_bind, run_underlying hu, Result.andThen_ok]
        simp only [hfd, Instr.sureAddr, Sem.run_bind, Sem.run_pure, Result.andThen_ok, fieldPlace, sizeOf_run hd]
        rw [if_neg hz.1]
        rfl
      split at h
      · rename_i τ g i off
        split at h
        · rename_i hal
          cases h
          obtain ⟨blk, h1, h2⟩ := alive_spec hal
          cases ha with
          | ptr _ _ _ _ y hy hN hv =>
            obtain ⟨h3, p, hp, rfl, hcel⟩ := hv blk h1 h2
            refine ⟨_, key _, .ptr _ _ _ _ _ rfl hN (fun blk' h4 h5 => ?_)⟩
            rw [h1] at h4
            cases h4
            exact ⟨h3, p, hp, by simp [Addr.add_mid, Nat.add_assoc], hcel⟩
        · cases h
      · cases h
        cases ha with
        | rp row off b o vals hc hp hr =>
          refine ⟨_, key _, ?_⟩
          rw [Addr.add_mid, Nat.add_assoc]
          exact .rp _ _ _ _ vals hc hp hr
      · cases h
  · cases h

def fieldPV (P : Program) (t : TypeId) (x : PV) (f : Nat) : Option PV :=
  match fieldOf P t f, x with
  | some fd, .agg cs => if known P fd.type then partPV P fd.type cs fd.offset else none
  | _, _ => none

theorem rel_agg {c : Cx} {cs : List PV} {a : Value} (h : RelV c (.agg cs) a) : ∃ vs, a = .agg vs := by cases h; exact ⟨_, rfl⟩

theorem fieldPV_sound {P : Program} {c : Cx} {t : TypeId} {x z : PV} {f : Nat} {a : Value} (h : fieldPV P t x f = some z) (ha : RelV c x a) :
    ∃ v, (Instr.field t a f).run P c.w = .ok v c.w ∧ RelV c z v := by
  unfold fieldPV at h
  split at h
  · rename_i fd cs hf
    obtain ⟨fs, hu, hfd⟩ := fieldOf_run hf
    split at h
    · rename_i hk
      obtain ⟨vs, rfl⟩ := rel_agg ha
      obtain ⟨v, h1, h2⟩ := partPV_sound h hk ha
      refine ⟨v, ?_, h2⟩
      unfold Instr.field
      rw [Sem.run_bind, run_underlying hu, Result.andThen_ok]
      simp only [hfd, asAgg, Sem.run_bind, Sem.run_pure, Result.andThen_ok]
      exact h1
    · cases h
  · cases h

/-- The row of a block at an element. -/
def rowAt? (S : List Blk) (τ g i : Nat) : Option (List PV) :=
  match S[τ]? with
  | some blk => if blk.gen = g then blk.rows[i]? else none
  | none => none

def loadRow (P : Program) (t : TypeId) (row : List PV) (off : Nat) : Option PV := if known P t then partPV P t row off else none

def loadPV (P : Program) (S : List Blk) (t : TypeId) (x : PV) : Option PV :=
  match x with
  | .ptr τ g i off => match rowAt? S τ g i with
    | some row => loadRow P t row off
    | none => none
  | .rp row off => loadRow P t row off
  | _ => none

theorem cell_of {w : World} {b : Nat} {cs : Array Value} {e : TypeId} {fz : Nat × Nat} (h : w.heap[b]? = some (.cells cs e fz)) (o : Nat) : w.cell? ⟨b, o, none⟩ = cs[o]? := by
  simp [World.cell?, h]

theorem loadRow_sound {P : Program} {c : Cx} {t : TypeId} {row : List PV} {off : Nat} {z : PV} (b o : Nat) (h : loadRow P t row off = some z)
    (hc : ∀ (j : Nat) (x : PV), row[j]? = some x → ∃ v, c.w.cell? ⟨b, o + j, none⟩ = some v ∧ v.oneCell' = true ∧ RelV c x v) :
    ∃ v, (Instr.loadAt t (.pointer (some ⟨b, o + off, none⟩))).run P c.w = .ok v c.w ∧ RelV c z v := by
  unfold loadRow at h
  split at h
  · rename_i hk
    obtain ⟨d, hd⟩ := Option.isSome_iff_exists.1 hk
    unfold partPV at h
    simp only [Instr.loadAt, Instr.sureAddr, Sem.run_bind, Sem.run_pure, Result.andThen_ok, loadVar, isAgg_run hd]
    cases hA : isAggT P t
    · rw [hA] at h
      simp only [Bool.false_eq_true, if_false] at h ⊢
      obtain ⟨v, h1, h2, h3⟩ := hc off z h
      refine ⟨v, ?_, h3⟩
      rw [run_load, h1]
    · rw [hA] at h
      simp only [if_true] at h ⊢
      split at h
      · rename_i hle
        cases h
        have hget : ∀ j, j < P.cellsOf t → ∃ v, c.w.cell? ⟨b, o + (off + j), none⟩ = some v ∧ v.oneCell' = true ∧ RelV c (row.getD (off + j) .undef) v := by
          intro j hj
          refine hc (off + j) _ ?_
          rw [List.getD_eq_getElem?_getD, List.getElem?_eq_getElem (by omega)]
          rfl
        obtain ⟨V, hV⟩ : ∃ V : Nat → Value, ∀ j, j < P.cellsOf t → c.w.cell? ⟨b, o + (off + j), none⟩ = some (V j) ∧ (V j).oneCell' = true ∧ RelV c (row.getD (off + j) .undef) (V j) :=
          ⟨fun j => if hj : j < P.cellsOf t then (hget j hj).choose else default, fun j hj => by simp only [dif_pos hj]; exact (hget j hj).choose_spec⟩
        have hl := run_loadCells (P := P) c.w ⟨b, o + off, none⟩ (P.cellsOf t) V (fun j hj => by rw [Addr.add_mid, Nat.add_assoc]; exact (hV j hj).1)
        refine ⟨.agg ((List.range (P.cellsOf t)).map V).toArray, by simp [sizeOf_run hd, hl], .agg _ _ ?_ (fun i v hv => ?_) (fun i x v hx hv => ?_)⟩
        · simp only [List.size_toArray, List.length_map, List.length_range, List.length_take, List.length_drop]; omega
        · simp only [List.getElem?_toArray, List.getElem?_map] at hv
          obtain ⟨j, hj, rfl⟩ := Option.map_eq_some_iff.1 hv
          have : j < P.cellsOf t := by have := List.mem_of_getElem? hj; simpa using this
          exact (hV j this).2.1
        · simp only [List.getElem?_toArray, List.getElem?_map] at hv
          obtain ⟨j, hj, rfl⟩ := Option.map_eq_some_iff.1 hv
          obtain ⟨k1, k2⟩ := drop_take_get hx
          rw [List.getElem?_range k2] at hj
          cases hj
          have := (hV i k2).2.2
          rw [List.getD_eq_getElem?_getD, k1] at this
          exact this
      · cases h
  · cases h

theorem rowAt?_spec {S : List Blk} {τ g i : Nat} {row : List PV} (h : rowAt? S τ g i = some row) : ∃ blk, S[τ]? = some blk ∧ blk.gen = g ∧ blk.rows[i]? = some row := by
  unfold rowAt? at h
  split at h
  · rename_i blk hb
    split at h
    · exact ⟨blk, hb, by assumption, h⟩
    · cases h
  · cases h

theorem loadPV_sound {P : Program} {c : Cx} {t : TypeId} {x z : PV} {a : Value} (hi : Inv c) (h : loadPV P c.S t x = some z) (ha : RelV c x a) :
    ∃ v, (Instr.loadAt t a).run P c.w = .ok v c.w ∧ RelV c z v := by
  unfold loadPV at h
  split at h
  · rename_i τ g i off
    split at h
    · rename_i row hrow
      obtain ⟨blk, h1, h2, h3⟩ := rowAt?_spec hrow
      cases ha with
      | ptr _ _ _ _ y hy hN hv =>
        obtain ⟨_, p, hp, rfl, hcel⟩ := hv blk h1 h2
        obtain ⟨_, cs, e, fz, k1, k2, k3, k4⟩ := ((hi.blk τ blk h1).heap p hp).cells hcel
        have := loadRow_sound (P := P) (c := c) p.1 (p.2 + i * blk.sz) h (fun j x hx => by
          obtain ⟨v, h4, h5, h6⟩ := k3 i row j x h3 hx
          exact ⟨v, by rw [cell_of k1, Nat.add_assoc]; exact h4, h5, h6⟩)
        rw [Nat.add_assoc] at this
        exact this
    · cases h
  · cases ha with
    | rp row off b o vals hc hp hr => exact loadRow_sound b o h (fun j x hx => ⟨vals j, (hc j x hx).2.1, (hc j x hx).2.2, hr j x hx⟩)
  · cases h

def indexAddrPV (P : Program) (S : List Blk) (t : TypeId) (x ix : PV) : Option PV :=
  match intPV ix with
  | some i => if i < 0 then none else
    match P.underlying t, x with
    | some (.slice e), .vw τ g off len => if alive S τ g && known P e && (S[τ]?.map (·.sz) == some (P.cellsOf e)) && decide (i < (len : Int)) then some (.ptr τ g (off + i.toNat) 0) else none
    | some (.slice e), .ro sz _ rows => if known P e && decide (sz = P.cellsOf e) && decide (0 < sz) then (rows[i.toNat]?).map (.rp · 0) else none
    | some (.array n e), .ptr τ g r off => if alive S τ g && known P e && decide (i < (n : Int)) then some (.ptr τ g r (off + i.toNat * P.cellsOf e)) else none
    | some (.slice e), .sub τ g r off len => if alive S τ g && known P e && decide (i < (len : Int)) then some (.ptr τ g r (off + i.toNat * P.cellsOf e)) else none
    | some (.array n e), .rp row off => if known P e && decide (i < (n : Int)) then some (.rp row (off + i.toNat * P.cellsOf e)) else none
    | _, _ => none
  | none => none

theorem indexAddrPV_sound {P : Program} {c : Cx} {t : TypeId} {x ix z : PV} {a b : Value} (hi : Inv c) (h : indexAddrPV P c.S t x ix = some z) (ha : RelV c x a) (hb : RelV c ix b) :
    ∃ v, (Instr.indexAt t a b).run P c.w = .ok v c.w ∧ RelV c z v := by
  unfold indexAddrPV at h
  split at h
  · rename_i i hix
    obtain ⟨k, rfl⟩ := intPV_rel hix hb
    split at h
    · cases h
    · rename_i h0
      have h0' : 0 ≤ i := by omega
      split at h
      · rename_i e τ g off len hu
        split at h
        · rename_i hh
          simp only [Bool.and_eq_true, beq_iff_eq, decide_eq_true_eq] at hh
          obtain ⟨⟨⟨h1, h2⟩, h3⟩, h4⟩ := hh
          cases h
          obtain ⟨d, hd⟩ := Option.isSome_iff_exists.1 h2
          obtain ⟨blk, h5, h6⟩ := alive_spec h1
          rw [h5] at h3
          simp only [Option.map_some, Option.some.injEq] at h3
          cases ha with
          | vw _ _ _ _ y hy hN hv =>
            obtain ⟨h7, ad, cap, rfl, h8, h9, h10⟩ := hv blk h5 h6
            rcases h10 with ⟨p, hp, rfl, cs0, e0, fz0, hc0, _⟩ | ⟨h10, _⟩
            · refine ⟨.pointer (some (Addr.add ⟨p.1, p.2 + off * blk.sz, none⟩ (i.toNat * P.cellsOf e))), ?_, ?_⟩
              · simp only [Instr.indexAt, asIntOf, Sem.run_bind, Sem.run_pure, Result.andThen_ok, run_underlying hu, if_pos (And.intro h0' h4), sizeOf_run hd]
              · refine .ptr _ _ _ _ _ rfl hN (fun blk' k1 k2 => ?_)
                rw [h5] at k1
                cases k1
                refine ⟨by omega, p, hp, ?_, cs0, e0, fz0, hc0⟩
                rw [← h3]
                simp only [Addr.add_mid, Nat.add_zero, Nat.add_mul, Nat.add_assoc]
            · omega
        · cases h
      · rename_i e sz full rows hu
        split at h
        · rename_i hh
          simp only [Bool.and_eq_true, decide_eq_true_eq] at hh
          obtain ⟨⟨h2, rfl⟩, hpos⟩ := hh
          obtain ⟨d, hd⟩ := Option.isSome_iff_exists.1 h2
          obtain ⟨row, hrow, rfl⟩ := Option.map_eq_some_iff.1 h
          cases ha with
          | ro _ _ _ ad cap vals hcap hmax hfull hnone hlen hcell hpure hrel =>
            have hlt : i.toNat < rows.length := (List.getElem?_eq_some_iff.1 hrow).1
            cases ad with
            | none => rw [hnone rfl] at hlt; simp at hlt
            | some ad =>
              by_cases hz : row = []
              · subst hz
                have hsz := hlen _ _ hrow
                simp only [List.length_nil] at hsz
                omega
              · obtain ⟨x0, rest, rfl⟩ : ∃ x0 rest, row = x0 :: rest := by cases row with | nil => exact absurd rfl hz | cons a l => exact ⟨a, l, rfl⟩
                have hsp := (hcell ad rfl i.toNat _ 0 x0 hrow rfl).1
                have hadd : ad.add (i.toNat * P.cellsOf e) = ⟨ad.block, ad.off + i.toNat * P.cellsOf e + 0, none⟩ := by
                  cases ad with | mk b o s => simp only at hsp; subst hsp; rw [Addr.add_mid]; rfl
                refine ⟨.pointer (some (ad.add (i.toNat * P.cellsOf e))), ?_, ?_⟩
                · simp only [Instr.indexAt, asIntOf, Sem.run_bind, Sem.run_pure, Result.andThen_ok, run_underlying hu, if_pos (And.intro h0' (show i < (rows.length : Int) by omega)), sizeOf_run hd]
                · rw [hadd]
                  exact .rp _ 0 ad.block _ (vals i.toNat) (fun j x hx => by
                    obtain ⟨k1, k2, k3, k4⟩ := hcell ad rfl i.toNat _ j x hrow hx
                    exact ⟨k2, by rw [Nat.add_assoc]; exact k3, k4⟩) (fun j x hx => hpure _ _ j x hrow hx) (fun j x hx => hrel _ _ j x hrow hx)
        · cases h
      · rename_i n e τ g r off hu
        split at h
        · rename_i hh
          simp only [Bool.and_eq_true, decide_eq_true_eq] at hh
          obtain ⟨⟨h1, h2⟩, h4⟩ := hh
          cases h
          obtain ⟨d, hd⟩ := Option.isSome_iff_exists.1 h2
          obtain ⟨blk, h5, h6⟩ := alive_spec h1
          cases ha with
          | ptr _ _ _ _ y hy hN hv =>
            obtain ⟨h7, p, hp, rfl, hcel⟩ := hv blk h5 h6
            refine ⟨.pointer (some (Addr.add ⟨p.1, p.2 + (r * blk.sz + off), none⟩ (i.toNat * P.cellsOf e))), ?_, ?_⟩
            · simp only [Instr.indexAt, asIntOf, Sem.run_bind, Sem.run_pure, Result.andThen_ok, run_underlying hu, Instr.sureAddr, if_pos (And.intro h0' h4), sizeOf_run hd]
            · refine .ptr _ _ _ _ _ rfl hN (fun blk' k1 k2 => ?_)
              rw [h5] at k1
              cases k1
              exact ⟨h7, p, hp, by simp only [Addr.add_mid, Nat.add_assoc], hcel⟩
        · cases h
      · rename_i e τ g r off len hu
        split at h
        · rename_i hh
          simp only [Bool.and_eq_true, decide_eq_true_eq] at hh
          obtain ⟨⟨h1, h2⟩, h4⟩ := hh
          cases h
          obtain ⟨d, hd⟩ := Option.isSome_iff_exists.1 h2
          obtain ⟨blk, h5, h6⟩ := alive_spec h1
          cases ha with
          | sub _ _ _ _ _ y hy hN hv =>
            obtain ⟨h7, p, cap, hp, rfl, hcel⟩ := hv blk h5 h6
            refine ⟨.pointer (some (Addr.add ⟨p.1, p.2 + (r * blk.sz + off), none⟩ (i.toNat * P.cellsOf e))), ?_, ?_⟩
            · simp only [Instr.indexAt, asIntOf, Sem.run_bind, Sem.run_pure, Result.andThen_ok, run_underlying hu, if_pos (And.intro h0' h4), sizeOf_run hd]
            · refine .ptr _ _ _ _ _ rfl hN (fun blk' k1 k2 => ?_)
              rw [h5] at k1
              cases k1
              exact ⟨h7, p, hp, by simp only [Addr.add_mid, Nat.add_assoc], hcel⟩
        · cases h
      · rename_i n e row off hu
        split at h
        · rename_i hh
          simp only [Bool.and_eq_true, decide_eq_true_eq] at hh
          obtain ⟨h2, h4⟩ := hh
          cases h
          obtain ⟨d, hd⟩ := Option.isSome_iff_exists.1 h2
          cases ha with
          | rp row off b o vals hc hp hr =>
            refine ⟨.pointer (some (Addr.add ⟨b, o + off, none⟩ (i.toNat * P.cellsOf e))), ?_, ?_⟩
            · simp only [Instr.indexAt, asIntOf, Sem.run_bind, Sem.run_pure, Result.andThen_ok, run_underlying hu, Instr.sureAddr, if_pos (And.intro h0' h4), sizeOf_run hd]
            · rw [Addr.add_mid, Nat.add_assoc]
              exact .rp _ _ b o vals hc hp hr
        · cases h
      · cases h
  · cases h
end Go.Proofs.YtenoecffjfcifaaDoor.Pv

-- Fifth text: indexes of values, slices, lengths, conversions, what is built.
namespace Go.Proofs.YtenoecffjfcifaaDoor.Pv
set_option linter.all false
open Go.RowKit
set_option linter.unusedVariables false

theorem bytes_get? (s : ByteArray) (i : Nat) : s[i]? = s.data.toList[i]? := by
  rcases Nat.lt_or_ge i s.size with h | h
  · rw [getElem?_pos s i h, List.getElem?_eq_getElem (by rw [Array.length_toList]; exact h)]
    rfl
  · rw [getElem?_neg s i (by omega), List.getElem?_eq_none (by rw [Array.length_toList]; exact h)]

def indexPV (P : Program) (t : TypeId) (x ix : PV) : Option PV :=
  match intPV ix with
  | some i => if i < 0 then none else
    match P.underlying t, x with
    | some (.array n e), .agg cs => if known P e && decide (i < (n : Int)) then partPV P e cs (i.toNat * P.cellsOf e) else none
    | some .string, .v (.string s) => (s.data.toList[i.toNat]?).map fun b => .v (.int .u8 b.toNat)
    | _, _ => none
  | none => none

theorem indexPV_sound {P : Program} {c : Cx} {t : TypeId} {x ix z : PV} {a b : Value} (h : indexPV P t x ix = some z) (ha : RelV c x a) (hb : RelV c ix b) :
    ∃ v, (Instr.index t a b).run P c.w = .ok v c.w ∧ RelV c z v := by
  unfold indexPV at h
  split at h
  · rename_i i hix
    obtain ⟨k, rfl⟩ := intPV_rel hix hb
    split at h
    · cases h
    · rename_i h0
      have h0' : 0 ≤ i := by omega
      split at h
      · rename_i n e cs hu
        split at h
        · rename_i hh
          simp only [Bool.and_eq_true, decide_eq_true_eq] at hh
          obtain ⟨vs, rfl⟩ := rel_agg ha
          obtain ⟨v, h1, h2⟩ := partPV_sound h hh.1 ha
          obtain ⟨d, hd⟩ := Option.isSome_iff_exists.1 hh.1
          refine ⟨v, ?_, h2⟩
          simp only [Instr.index, asIntOf, Sem.run_bind, Sem.run_pure, Result.andThen_ok, run_underlying hu, if_pos (And.intro h0' hh.2), sizeOf_run hd]
          exact h1
        · cases h
      · rename_i s hu
        obtain ⟨u, h1, rfl⟩ := Option.map_eq_some_iff.1 h
        cases ha
        refine ⟨.int .u8 u.toNat, ?_, .v _⟩
        simp only [Instr.index, asIntOf, Sem.run_bind, Sem.run_pure, Result.andThen_ok, run_underlying hu, if_pos h0', bytes_get?, h1]
      · cases h
  · cases h

def lenPV (P : Program) (S : List Blk) (t : TypeId) (x : PV) : Option PV :=
  match P.underlying t, x with
  | some .string, .v (.string s) => some (.v (.int .i64 s.size))
  | some (.slice _), .vw τ g _ len => if alive S τ g then some (.v (.int .i64 len)) else none
  | some (.slice _), .ro _ _ rows => some (.v (.int .i64 rows.length))
  | some (.slice _), .sub τ g _ _ len => if alive S τ g then some (.v (.int .i64 len)) else none
  | some (.slice _), .v (.slice _ n _) => some (.v (.int .i64 n))
  | some (.array n _), _ => some (.v (.int .i64 n))
  | some (.map _ _), .rmp es => some (.v (.int .i64 es.length))
  | _, _ => none

theorem entOk_length {arr : Array MapEntry} {ck : Nat} {es : List (ByteArray × Int)} (h : EntOk arr ck es) : arr.size = es.length := by
  have := congrArg List.length h.2
  simpa using this

theorem lenPV_sound {P : Program} {c : Cx} {t ty : TypeId} {x z : PV} {a : Value} (h : lenPV P c.S t x = some z) (ha : RelV c x a) :
    ∃ v, (Builtin.len_ #[t] ty #[a]).run P c.w = .ok v c.w ∧ RelV c z v := by
  unfold lenPV at h
  split at h
  · rename_i s hu
    cases h; cases ha
    exact ⟨_, by simp [Builtin.len_, run_underlying hu, goInt], .v _⟩
  · rename_i hu
    split at h
    · rename_i hal
      obtain ⟨blk, h1, h2⟩ := alive_spec hal
      cases h
      cases ha with
      | vw _ _ _ _ y hy hN hv =>
        obtain ⟨_, ad, cap, rfl, _⟩ := hv blk h1 h2
        exact ⟨_, by simp [Builtin.len_, run_underlying hu, goInt], .v _⟩
    · cases h
  · rename_i hu
    cases h
    cases ha with
    | ro _ _ _ ad cap vals hcap hmax hfull hnone hlen hcell hpure hrel => exact ⟨_, by simp [Builtin.len_, run_underlying hu, goInt], .v _⟩
  · rename_i hu
    split at h
    · cases h
      cases ha with
      | sub _ _ _ _ _ y hy hN hv =>
        obtain ⟨ad, cap, rfl⟩ := hy
        exact ⟨_, by simp [Builtin.len_, run_underlying hu, goInt], .v _⟩
    · cases h
  · rename_i hu
    cases h; cases ha
    exact ⟨_, by simp [Builtin.len_, run_underlying hu, goInt], .v _⟩
  · rename_i n e hu
    cases h
    exact ⟨.int .i64 n, by simp [Builtin.len_, run_underlying hu, goInt], .v _⟩
  · rename_i kt et es hu
    cases h
    cases ha with
    | rmp _ r arr ck hx hh he => exact ⟨.int .i64 es.length, by simp [Builtin.len_, run_underlying hu, goInt, Go.MapKept.run_getObj_map hh, entOk_length he], .v _⟩
    | rnil => exact ⟨.int .i64 0, by simp [Builtin.len_, run_underlying hu, goInt], .v _⟩
  · cases h

/-- A bound of a slice expression. -/
def boundPV (d : Nat) : Option PV → Option Nat
  | none => some d
  | some x => match intPV x with
    | some i => if i < 0 then none else some i.toNat
    | none => none

theorem boundPV_run {P : Program} {c : Cx} {d y n : Nat} {o : Option PV} {v : Option Value} {code : BoundsCode} (h : boundPV d o = some n) (hr : ∀ x, o = some x → ∃ u, v = some u ∧ RelV c x u) (hn : o = none → v = none) (hy : n ≤ y) (w : World) :
    (o = none ∧ v = none ∧ n = d) ∨ ∃ u, v = some u ∧ (Instr.sliceBound u y code).run P w = .ok n w := by
  cases o with
  | none => cases h; exact .inl ⟨rfl, hn rfl, rfl⟩
  | some x =>
    obtain ⟨u, rfl, hru⟩ := hr x rfl
    simp only [boundPV] at h
    split at h
    · rename_i i hi
      obtain ⟨k, rfl⟩ := intPV_rel hi hru
      split at h
      · cases h
      · cases h
        exact .inr ⟨_, rfl, run_sliceBound w k i y code (by omega) (by omega)⟩
    · cases h

def slicePV (P : Program) (S : List Blk) (t : TypeId) (x : PV) (lo hi mx : Option PV) : Option PV :=
  match P.underlying t, x with
  | some .string, .v (.string s) =>
    match mx, boundPV s.size hi, boundPV 0 lo with
    | none, some h, some l => if l ≤ h ∧ h ≤ s.size then some (.v (.string (s.extract l h))) else none
    | _, _, _ => none
  | some (.slice e), .vw τ g off len =>
    match boundPV len hi, boundPV 0 lo, boundPV len mx with
    | some h, some l, some m => if l ≤ h ∧ h ≤ m ∧ m ≤ len ∧ alive S τ g ∧ known P e ∧ S[τ]?.map (·.sz) = some (P.cellsOf e) ∧ (hi = none → mx = none) then some (.vw τ g (off + l) (h - l)) else none
    | _, _, _ => none
  | some (.slice e), .ro sz full rows =>
    match boundPV rows.length hi, boundPV 0 lo, boundPV rows.length mx with
    | some h, some l, some m => if l ≤ h ∧ h ≤ m ∧ m ≤ rows.length ∧ known P e ∧ sz = P.cellsOf e ∧ (hi = none → mx = none) then
        some (.ro sz (if mx.isSome then decide (h = m) else full && decide (h = rows.length)) ((rows.drop l).take (h - l))) else none
    | _, _, _ => none
  | some (.array n e), .ptr τ g i off =>
    match lo, hi, mx with
    | none, none, none => if alive S τ g && known P e then some (.sub τ g i off n) else none
    | _, _, _ => none
  | some (.slice e), .v (.slice none 0 0) =>
    match boundPV 0 hi, boundPV 0 lo, boundPV 0 mx with
    | some 0, some 0, some 0 => if known P e && (hi.isSome || mx.isNone) then some (.v (.slice none 0 0)) else none
    | _, _, _ => none
  | _, _ => none

/-- What the slice's bounds come to. -/
theorem sliceBounds_run {P : Program} {c : Cx} {is : Bool} {len cap l h m : Nat} {lo hi mx : Option PV} {vl vh vm : Option Value} (w : World)
    (hh : boundPV len hi = some h) (hl : boundPV 0 lo = some l) (hm : boundPV len mx = some m) (h1 : l ≤ h) (h2 : h ≤ m) (h3 : m ≤ len) (h4 : len ≤ cap) (hx : hi = none → mx = none)
    (rl : ∀ x, lo = some x → ∃ u, vl = some u ∧ RelV c x u) (nl : lo = none → vl = none) (rh : ∀ x, hi = some x → ∃ u, vh = some u ∧ RelV c x u) (nh : hi = none → vh = none)
    (rm : ∀ x, mx = some x → ∃ u, vm = some u ∧ RelV c x u) (nm : mx = none → vm = none) :
    ∃ m', (mx = none → m' = cap) ∧ (mx ≠ none → m' = m) ∧ h ≤ m' ∧ m' ≤ cap ∧ (Instr.sliceBounds is len cap vl vh vm).run P w = .ok (l, h, m') w := by
  rcases boundPV_run (P := P) (y := cap) (code := if is then .slice3Acap else .slice3Alen) hm rm nm (by omega) w with ⟨e1, e2, e3⟩ | ⟨um, e2, e3⟩
  · subst e1 e2 e3
    refine ⟨cap, fun _ => rfl, fun h => absurd rfl h, by omega, Nat.le_refl _, ?_⟩
    rcases boundPV_run (P := P) (y := cap) (code := if is then .sliceAcap else .sliceAlen) hh rh nh (by omega) w with ⟨g1, g2, g3⟩ | ⟨uh, g2, g3⟩
    · subst g1 g2 g3
      rcases boundPV_run (P := P) (y := h) (code := .sliceB) hl rl nl (by omega) w with ⟨f1, f2, f3⟩ | ⟨ul, f2, f3⟩
      · subst f1 f2 f3; simp [Instr.sliceBounds]
      · subst f2; simp [Instr.sliceBounds, f3]
    · subst g2
      rcases boundPV_run (P := P) (y := h) (code := .sliceB) hl rl nl (by omega) w with ⟨f1, f2, f3⟩ | ⟨ul, f2, f3⟩
      · subst f1 f2 f3; cases is <;> simp at g3 <;> simp [Instr.sliceBounds, g3]
      · subst f2; cases is <;> simp at g3 <;> simp [Instr.sliceBounds, g3, f3]
  · have hmx : mx ≠ none := by
      intro e
      have := nm e
      rw [this] at e2
      cases e2
    subst e2
    refine ⟨m, fun e => absurd e hmx, fun _ => rfl, h2, by omega, ?_⟩
    rcases boundPV_run (P := P) (y := m) (code := .slice3B) hh rh nh (by omega) w with ⟨g1, g2, g3⟩ | ⟨uh, g2, g3⟩
    · exact absurd (hx g1) hmx
    · subst g2
      rcases boundPV_run (P := P) (y := h) (code := .slice3C) hl rl nl (by omega) w with ⟨f1, f2, f3⟩ | ⟨ul, f2, f3⟩
      · subst f1 f2 f3; cases is <;> simp at e3 <;> simp [Instr.sliceBounds, e3, g3]
      · subst f2; cases is <;> simp at e3 <;> simp [Instr.sliceBounds, e3, g3, f3]
end Go.Proofs.YtenoecffjfcifaaDoor.Pv

-- Sixth text: slices of slices, conversions, what is built.
namespace Go.Proofs.YtenoecffjfcifaaDoor.Pv
set_option linter.all false
open Go.RowKit
set_option linter.unusedVariables false

theorem slicePV_sound {P : Program} {c : Cx} {t : TypeId} {x z : PV} {lo hi mx : Option PV} {a : Value} {vl vh vm : Option Value} (h : slicePV P c.S t x lo hi mx = some z) (ha : RelV c x a)
    (rl : ∀ x, lo = some x → ∃ u, vl = some u ∧ RelV c x u) (nl : lo = none → vl = none) (rh : ∀ x, hi = some x → ∃ u, vh = some u ∧ RelV c x u) (nh : hi = none → vh = none)
    (rm : ∀ x, mx = some x → ∃ u, vm = some u ∧ RelV c x u) (nm : mx = none → vm = none) :
    ∃ v, (Instr.sliceAt t a vl vh vm).run P c.w = .ok v c.w ∧ RelV c z v := by
  unfold slicePV at h
  split at h
  · rename_i s hu
    cases ha
    split at h
    · rename_i h1 l1 hh hl
      split at h
      · rename_i hb
        cases h
        have nm' := nm rfl
        subst nm'
        obtain ⟨m', e1, e2, e3, e4, e5⟩ := sliceBounds_run (P := P) (c := c) (is := false) (len := s.size) (cap := s.size) (mx := none) (m := s.size) c.w hh hl rfl hb.1 hb.2 (Nat.le_refl _) (Nat.le_refl _) (fun _ => rfl) rl nl rh nh (fun _ e => by cases e) (fun _ => rfl)
        refine ⟨.string (s.extract l1 h1), ?_, .v _⟩
        simp [Instr.sliceAt, Instr.slice, run_underlying hu, e5]
      · cases h
    · cases h
  · rename_i e τ g off len hu
    split at h
    · rename_i h1 l1 m1 hh hl hm
      split at h
      · rename_i hb
        obtain ⟨b1, b2, b3, b4, b5, b6, b7⟩ := hb
        cases h
        obtain ⟨blk, k1, k2⟩ := alive_spec b4
        obtain ⟨d, hd⟩ := Option.isSome_iff_exists.1 b5
        rw [k1] at b6
        simp only [Option.map_some, Option.some.injEq] at b6
        cases ha with
        | vw _ _ _ _ y hy hN hv =>
          obtain ⟨k3, ad, cap, rfl, k4, k5, k6⟩ := hv blk k1 k2
          obtain ⟨m', e1, e2, e3, e4, e5⟩ := sliceBounds_run (P := P) (c := c) (is := true) (cap := cap) c.w hh hl hm b1 b2 b3 k4 b7 rl nl rh nh rm nm
          refine ⟨.slice (if m' = l1 then ad else ad.map (·.add (l1 * P.cellsOf e))) (h1 - l1) (m' - l1), ?_, ?_⟩
          · simp [Instr.sliceAt, Instr.slice, run_underlying hu, e5, sizeOf_run hd]
          · refine .vw _ _ _ _ _ ⟨_, _, rfl⟩ hN (fun blk' q1 q2 => ?_)
            rw [k1] at q1
            cases q1
            refine ⟨by omega, _, m' - l1, rfl, by omega, by omega, ?_⟩
            by_cases hml : m' = l1
            · exact .inr ⟨by omega, by omega⟩
            · rw [if_neg hml]
              rcases k6 with ⟨p, hp, rfl, cs, ee, fz, k7, k8⟩ | k6
              · refine .inl ⟨p, hp, ?_, cs, ee, fz, k7, ?_⟩
                · simp only [Option.map_some, Addr.add_mid, ← b6, Nat.add_mul, Nat.add_assoc]
                · have : (off + l1 + (m' - l1)) * blk.sz ≤ (off + cap) * blk.sz := Nat.mul_le_mul_right _ (by omega)
                  omega
              · exact .inr ⟨by omega, by omega⟩
      · cases h
    · cases h
  · rename_i e sz full rows hu
    split at h
    · rename_i h1 l1 m1 hh hl hm
      split at h
      · rename_i hb
        obtain ⟨b1, b2, b3, b5, b6, b7⟩ := hb
        cases h
        obtain ⟨d, hd⟩ := Option.isSome_iff_exists.1 b5
        cases ha with
        | ro _ _ _ ad cap vals hcap hmax hfull hnone hlen hcell hpure hrel =>
          obtain ⟨m', e1, e2, e3, e4, e5⟩ := sliceBounds_run (P := P) (c := c) (is := true) (cap := cap) c.w hh hl hm b1 b2 b3 hcap b7 rl nl rh nh rm nm
          have hlen' : h1 - l1 = ((rows.drop l1).take (h1 - l1)).length := by simp only [List.length_take, List.length_drop]; omega
          refine ⟨.slice (if m' = l1 then ad else ad.map (·.add (l1 * P.cellsOf e))) (h1 - l1) (m' - l1), ?_, ?_⟩
          · simp [Instr.sliceAt, Instr.slice, run_underlying hu, e5, sizeOf_run hd]
          · have key := RelV.ro (c := c) sz (if mx.isSome then decide (h1 = m1) else full && decide (h1 = rows.length)) ((rows.drop l1).take (h1 - l1)) (if m' = l1 then ad else ad.map (·.add (l1 * P.cellsOf e))) (m' - l1) (fun i j => vals (l1 + i) j)
              (by rw [← hlen']; omega) (by omega) (fun hf => by
                rw [← hlen']
                cases mx with
                | none =>
                  simp only [Option.isSome_none, Bool.false_eq_true, if_false, Bool.and_eq_true, decide_eq_true_eq] at hf
                  have := hfull hf.1
                  have := e1 rfl
                  omega
                | some mv =>
                  simp only [Option.isSome_some, if_true, decide_eq_true_eq] at hf
                  have := e2 (by simp)
                  omega) (fun hn => by
                have : ad = none := by
                  split at hn
                  · exact hn
                  · simpa using hn
                rw [hnone this]; simp) (fun i row hr => hlen _ row (drop_take_get hr).1) (fun ad' ha' i row j x hr hx => by
                obtain ⟨r1, r2⟩ := drop_take_get hr
                have hml : m' ≠ l1 := by omega
                rw [if_neg hml] at ha'
                obtain ⟨a0, rfl, rfl⟩ := Option.map_eq_some_iff.1 ha'
                obtain ⟨c1, c2, c3, c4⟩ := hcell a0 rfl _ row j x r1 hx
                have hadd : a0.add (l1 * P.cellsOf e) = ⟨a0.block, a0.off + l1 * P.cellsOf e, none⟩ := by
                  cases a0 with | mk b o s => simp only at c1; subst c1; rw [Addr.add_mid]
                rw [hadd]
                refine ⟨rfl, c2, ?_, c4⟩
                rw [← c3, b6, Nat.add_mul]
                congr 2
                simp only [Nat.add_assoc]) (fun i row j x hr hx => hpure _ row j x (drop_take_get hr).1 hx) (fun i row j x hr hx => hrel _ row j x (drop_take_get hr).1 hx)
            rw [← hlen'] at key
            exact key
      · cases h
    · cases h
  · rename_i n e τ g i off hu
    split at h
    · split at h
      · rename_i hb
        simp only [Bool.and_eq_true] at hb
        cases h
        have := nl rfl
        have := nh rfl
        have := nm rfl
        subst vl vh vm
        obtain ⟨d, hd⟩ := Option.isSome_iff_exists.1 hb.2
        obtain ⟨blk, h5, h6⟩ := alive_spec hb.1
        cases ha with
        | ptr _ _ _ _ y hy hN hv =>
          obtain ⟨h7, p, hp, rfl, hcel⟩ := hv blk h5 h6
          refine ⟨.slice (some ⟨p.1, p.2 + (i * blk.sz + off), none⟩) n n, ?_, ?_⟩
          · have hz : (if n = 0 then (⟨p.1, p.2 + (i * blk.sz + off), none⟩ : Addr) else (⟨p.1, p.2 + (i * blk.sz + off), none⟩ : Addr).add (0 * P.cellsOf e)) = ⟨p.1, p.2 + (i * blk.sz + off), none⟩ := by
              split
              · rfl
              · rw [Nat.zero_mul, Addr.add_mid]; rfl
            simp only [Instr.sliceAt, Instr.sureAddr, Instr.sliceBounds, Sem.run_bind, Sem.run_pure, Result.andThen_ok, run_underlying hu, sizeOf_run hd, Nat.sub_zero, hz]
          · refine .sub _ _ _ _ _ _ ⟨_, _, rfl⟩ hN (fun blk' k1 k2 => ?_)
            rw [h5] at k1
            cases k1
            exact ⟨h7, p, n, hp, rfl, hcel⟩
      · cases h
    · cases h
  · rename_i e hu
    cases ha
    split at h
    · rename_i hh hl hm
      split at h
      · rename_i hb
        simp only [Bool.and_eq_true, Bool.or_eq_true] at hb
        cases h
        obtain ⟨d, hd⟩ := Option.isSome_iff_exists.1 hb.1
        obtain ⟨m', e1, e2, e3, e4, e5⟩ := sliceBounds_run (P := P) (c := c) (is := true) (len := 0) (cap := 0) c.w hh hl hm (Nat.le_refl _) (Nat.le_refl _) (Nat.le_refl _) (Nat.le_refl _) (fun hn => by
          rcases hb.2 with h | h
          · rw [hn] at h; cases h
          · simpa using h) rl nl rh nh rm nm
        obtain rfl : m' = 0 := by omega
        exact ⟨.slice none 0 0, by simp [Instr.sliceAt, Instr.slice, run_underlying hu, e5, sizeOf_run hd], .v _⟩
      · cases h
    · cases h
  · cases h

/-- A value's cells. -/
def cellsPV : PV → Option (List PV)
  | .agg cs => some cs
  | .tup _ => none
  | .undef => none
  | .v x => if x.oneCell' then some [.v x] else none
  | x => some [x]

theorem one_cells {v : Value} (h : v.oneCell' = true) : v.cells = #[v] := by cases v <;> first | rfl | cases h

theorem rel_one {c : Cx} {x : PV} {v : Value} (h1 : v.oneCell' = true) (hr : RelV c x v) : v.cells.size = [x].length ∧ ∀ (i : Nat) (p : PV) (u : Value), [x][i]? = some p → v.cells[i]? = some u → u.oneCell' = true ∧ RelV c p u := by
  rw [one_cells h1]
  refine ⟨rfl, fun i p u hp hu => ?_⟩
  cases i with
  | zero => simp at hp hu; subst hp hu; exact ⟨h1, hr⟩
  | succ i => simp at hp

theorem cellsPV_rel {c : Cx} {x : PV} {v : Value} {cs : List PV} (h : cellsPV x = some cs) (hr : RelV c x v) :
    v.cells.size = cs.length ∧ ∀ (i : Nat) (p : PV) (u : Value), cs[i]? = some p → v.cells[i]? = some u → u.oneCell' = true ∧ RelV c p u := by
  cases hr with
  | v x =>
    simp only [cellsPV] at h
    split at h
    · cases h; exact rel_one (by assumption) (.v _)
    · cases h
  | undef y => cases h
  | agg cs' vs hs h1 hr => cases h; exact ⟨hs, fun i p u hp hu => ⟨h1 i u hu, hr i p u hp hu⟩⟩
  | tup cs vs hs hr => cases h
  | ro sz full rows a cap vals hcap hmax hfull hnone hlen hcell hpure hrel => cases h; exact rel_one rfl (.ro _ _ _ _ _ vals hcap hmax hfull hnone hlen hcell hpure hrel)
  | rp row off b o vals hc hp hr => cases h; exact rel_one rfl (.rp _ _ _ _ vals hc hp hr)
  | vw τ g off len y hy hN hv => cases h; exact rel_one hy.one (.vw _ _ _ _ _ hy hN hv)
  | ptr τ g off len y hy hN hv => cases h; exact rel_one hy (.ptr _ _ _ _ _ hy hN hv)
  | sub τ g i off len y hy hN hv => cases h; exact rel_one hy.one (.sub _ _ _ _ _ _ hy hN hv)
  | fn f a b va vb hsa hsb ha hb => cases h; exact rel_one rfl (.fn f a b va vb hsa hsb ha hb)
  | iface t x v hr => cases h; exact rel_one rfl (.iface t x v hr)
  | mp τ g y hy hN hv => cases h; exact rel_one hy (.mp _ _ _ hy hN hv)
  | it τ g y hy hN hv => cases h; exact rel_one hy (.it _ _ _ hy hN hv)
  | rmp es r arr ck hx hh he => cases h; exact rel_one rfl (.rmp es r arr ck hx hh he)
  | rnil => cases h; exact rel_one rfl .rnil

/-- Parts laid over cells. -/
def fillPV (place : Nat → Option (Nat × Nat)) (cells : List PV) : List (Nat × PV) → Option (List PV)
  | [] => some cells
  | (i, x) :: rest =>
    match place i, cellsPV x with
    | some (off, size), some cs => if cs.length = size ∧ off + size ≤ cells.length then fillPV place (cells.take off ++ cs ++ cells.drop (off + size)) rest else none
    | _, _ => none

theorem foldl_set (off : Nat) : ∀ (us : List Value) (k : Nat) (cells : Array Value), off + k + us.length ≤ cells.size →
    (us.zipIdx k).foldl (fun cs (p : Value × Nat) => cs.setIfInBounds (off + p.2) p.1) cells = (cells.toList.take (off + k) ++ us ++ cells.toList.drop (off + k + us.length)).toArray
  | [], k, cells, _ => by simp
  | u :: us, k, cells, h => by
    simp only [List.length_cons] at h
    rw [List.zipIdx_cons, List.foldl_cons, foldl_set off us (k + 1) _ (by simp; omega)]
    have e1 : (cells.toList.set (off + k) u).take (off + (k + 1)) = cells.toList.take (off + k) ++ [u] := by
      rw [show off + (k + 1) = (off + k) + 1 by omega, List.take_succ_eq_append_getElem (by simp; omega)]
      congr 1
      · rw [List.take_set_of_le (by omega)]
      · simp
    have e2 : (cells.toList.set (off + k) u).drop (off + (k + 1) + us.length) = cells.toList.drop (off + k + (us.length + 1)) := by
      rw [List.drop_set_of_lt (by omega)]
      congr 1
      omega
    simp only [Array.toList_setIfInBounds, e1, e2, List.append_assoc, List.cons_append, List.nil_append, List.length_cons]

/-- Cells that are told. -/
def RelCells (c : Cx) (cs : List PV) (vs : Array Value) : Prop := vs.size = cs.length ∧ (∀ (i : Nat) (v : Value), vs[i]? = some v → v.oneCell' = true) ∧ ∀ (i : Nat) (x : PV) (v : Value), cs[i]? = some x → vs[i]? = some v → RelV c x v

theorem RelCells.over {c : Cx} {cs ps : List PV} {vs us : Array Value} {off : Nat} (h : RelCells c cs vs) (hp : us.size = ps.length) (hu : ∀ (i : Nat) (p : PV) (u : Value), ps[i]? = some p → us[i]? = some u → u.oneCell' = true ∧ RelV c p u) (hle : off + ps.length ≤ cs.length) :
    RelCells c (cs.take off ++ ps ++ cs.drop (off + ps.length)) (vs.toList.take off ++ us.toList ++ vs.toList.drop (off + us.size)).toArray := by
  obtain ⟨h1, h2, h3⟩ := h
  have key : ∀ (i : Nat) (v : Value), ((vs.toList.take off ++ us.toList ++ vs.toList.drop (off + us.size)))[i]? = some v → v.oneCell' = true ∧ ∀ x : PV, (cs.take off ++ ps ++ cs.drop (off + ps.length))[i]? = some x → RelV c x v := by
    intro i v hv
    rcases Nat.lt_or_ge i off with hi | hi
    · rw [List.append_assoc, List.getElem?_append_left (by simp; omega), List.getElem?_take, if_pos hi, Array.getElem?_toList] at hv
      refine ⟨h2 _ _ hv, fun x hx => ?_⟩
      rw [List.append_assoc, List.getElem?_append_left (by simp; omega), List.getElem?_take, if_pos hi] at hx
      exact h3 _ _ _ hx hv
    · rcases Nat.lt_or_ge (i - off) ps.length with hj | hj
      · rw [List.append_assoc, List.getElem?_append_right (by simp; omega), List.length_take, Array.length_toList, Nat.min_eq_left (by omega), List.getElem?_append_left (by simp; omega), Array.getElem?_toList] at hv
        have hx' : ps[i - off]? = some ps[i - off] := List.getElem?_eq_getElem hj
        refine ⟨(hu _ _ _ hx' hv).1, fun x hx => ?_⟩
        rw [List.append_assoc, List.getElem?_append_right (by simp; omega), List.length_take, Nat.min_eq_left (by omega), List.getElem?_append_left hj] at hx
        exact (hu _ _ _ hx hv).2
      · rw [List.append_assoc, List.getElem?_append_right (by simp; omega), List.length_take, Array.length_toList, Nat.min_eq_left (by omega), List.getElem?_append_right (by simp; omega), List.getElem?_drop, Array.length_toList, Array.getElem?_toList] at hv
        refine ⟨h2 _ _ hv, fun x hx => ?_⟩
        rw [List.append_assoc, List.getElem?_append_right (by simp; omega), List.length_take, Nat.min_eq_left (by omega), List.getElem?_append_right hj, List.getElem?_drop] at hx
        rw [hp] at hv
        exact h3 _ _ _ hx hv
  refine ⟨by simp [h1, hp] <;> omega, fun i v hv => (key i v (by simpa using hv)).1, fun i x v hx hv => (key i v (by simpa using hv)).2 x hx⟩

theorem fillPV_rel {c : Cx} {place : Nat → Option (Nat × Nat)} : ∀ (ps : List (Nat × PV)) (vs : List (Nat × Value)) (cells : List PV) (cs : Array Value) (out : List PV), fillPV place cells ps = some out → RelCells c cells cs →
    ps.length = vs.length → (∀ (j : Nat) (p : Nat × PV) (v : Nat × Value), ps[j]? = some p → vs[j]? = some v → p.1 = v.1 ∧ RelV c p.2 v.2) → ∃ o, Instr.fill place cs vs = some o ∧ RelCells c out o
  | [], [], cells, cs, out, h, hr, _, _ => by cases h; exact ⟨cs, rfl, hr⟩
  | [], _ :: _, _, _, _, _, _, hl, _ => by cases hl
  | _ :: _, [], _, _, _, _, _, hl, _ => by cases hl
  | (i, x) :: ps, (i', v) :: vs, cells, cs, out, h, hr, hl, hv => by
    obtain ⟨hi, hx⟩ := hv 0 _ _ rfl rfl
    simp only at hi hx
    subst hi
    simp only [fillPV] at h
    split at h
    · rename_i off size ps' hpl hc
      split at h
      · rename_i hb
        obtain ⟨c1, c2⟩ := cellsPV_rel hc hx
        have hov := hr.over (off := off) c1 c2 (by omega)
        rw [c1, hb.1] at hov
        obtain ⟨o, h1, h2⟩ := fillPV_rel ps vs _ _ out h hov (by simpa using hl) (fun j p v hp hv' => hv (j + 1) p v hp hv')
        refine ⟨o, ?_, h2⟩
        simp only [Instr.fill, hpl]
        rw [if_neg (by simp only [Bool.or_eq_true, decide_eq_true_eq, not_or]; have := hr.1; omega), ← h1]
        congr 1
        have := foldl_set off v.cells.toList 0 cs (by have := hr.1; simp; omega)
        rw [Array.length_toList, c1, hb.1] at this
        simp only [Nat.add_zero] at this
        rw [← this, ← Array.foldl_toList]
        simp
      · cases h
    · cases h
end Go.Proofs.YtenoecffjfcifaaDoor.Pv

-- Seventh text: one function for all operations that only read; that Go does what it tells.
namespace Go.Proofs.YtenoecffjfcifaaDoor.Pv
set_option linter.all false
open Go.RowKit
set_option linter.unusedVariables false

def zeroRow (P : Program) (t : TypeId) : Option (List PV) :=
  match P.info? t with
  | some i => match i.zero with
    | some z => if z.cells.all (·.oneCell') then some (z.cells.toList.map .v) else none
    | none => none
  | none => none

theorem zeroRow_run {P : Program} {t : TypeId} {cs : List PV} (h : zeroRow P t = some cs) (c : Cx) : ∃ z, (∀ w, (zeroValue t).run P w = .ok z w) ∧ RelCells c cs z.cells ∧ (∃ i, P.info? t = some i ∧ i.zero = some z) := by
  unfold zeroRow at h
  split at h
  · rename_i i hi
    split at h
    · rename_i z hz
      split at h
      · rename_i hall
        cases h
        refine ⟨z, fun w => by simp [zeroValue, typeInfo, hi, hz], ⟨by simp, fun j v hv => (Array.all_eq_true'.1 hall) v (Array.mem_of_getElem? hv), fun j x v hx hv => ?_⟩, i, hi, hz⟩
        simp only [List.getElem?_map, Array.getElem?_toList, hv, Option.map_some, Option.some.injEq] at hx
        subst hx
        exact .v _
      · cases h
    · cases h
  · cases h

def structPlace (P : Program) (fs : Array Field) (i : Nat) : Option (Nat × Nat) := (fs[i]?).map fun f => (f.offset, P.cellsOf f.type)

def buildPV (P : Program) (t : TypeId) (parts : List (Nat × PV)) : Option PV :=
  match zeroRow P t, P.underlying t with
  | some cs, some (.struct fs) => if fs.all (fun f => known P f.type) then (fillPV (structPlace P fs) cs parts).map .agg else none
  | some cs, some (.array _ e) => if known P e then (fillPV (fun i => some (i * P.cellsOf e, P.cellsOf e)) cs parts).map .agg else none
  | _, _ => none

theorem places_run {P : Program} (fs : List Field) (h : ∀ f ∈ fs, known P f.type = true) (w : World) : (fs.mapM fun f => do pure (f.offset, ← sizeOf f.type) : Sem (List (Nat × Nat))).run P w = .ok (fs.map fun f => (f.offset, P.cellsOf f.type)) w := by
  induction fs with
  | nil => simp
  | cons f fs ih =>
    obtain ⟨d, hd⟩ := Option.isSome_iff_exists.1 (h f (by simp))
    simp only [List.mapM_cons, Sem.run_bind, sizeOf_run hd, Result.andThen_ok, Sem.run_pure, ih (fun g hg => h g (by simp [hg])), List.map_cons]

theorem rel_of_cells {c : Cx} {cs : List PV} {vs : Array Value} (h : RelCells c cs vs) : RelV c (.agg cs) (.agg vs) := .agg cs vs h.1 h.2.1 h.2.2

theorem buildPV_sound {P : Program} {c : Cx} {t : TypeId} {ps : List (Nat × PV)} {vs : Array (Nat × Value)} {z : PV} (h : buildPV P t ps = some z) (hl : ps.length = vs.size)
    (hv : ∀ (j : Nat) (p : Nat × PV) (v : Nat × Value), ps[j]? = some p → vs[j]? = some v → p.1 = v.1 ∧ RelV c p.2 v.2) :
    ∃ v, (Instr.build t vs).run P c.w = .ok v c.w ∧ RelV c z v := by
  unfold buildPV at h
  split at h
  · rename_i cs fs hz hu
    split at h
    · rename_i hall
      obtain ⟨out, hf, rfl⟩ := Option.map_eq_some_iff.1 h
      obtain ⟨zv, h1, h2, _⟩ := zeroRow_run hz c
      obtain ⟨o, h3, h4⟩ := fillPV_rel ps vs.toList cs zv.cells out hf h2 (by simpa using hl) (fun j p v hp hv' => hv j p v hp (by simpa using hv'))
      refine ⟨.agg o, ?_, rel_of_cells h4⟩
      have hpl := places_run (P := P) fs.toList (fun f hf => (Array.all_eq_true'.1 hall) f (Array.mem_toList_iff.1 hf)) c.w
      unfold Instr.build
      simp only [Sem.run_bind, h1, Result.andThen_ok, run_underlying hu]
      rw [← Array.toArray_toList (xs := fs), List.mapM_toArray, Sem.run_map, hpl]
      simp only [Result.andThen_ok]
      have : (fun x : Nat => ((fs.toList.map fun f => (f.offset, P.cellsOf f.type)).toArray)[x]?) = structPlace P fs := by
        funext x
        simp [structPlace]
      rw [this, h3]
      rfl
    · cases h
  · rename_i cs n e hz hu
    split at h
    · rename_i hk
      obtain ⟨d, hd⟩ := Option.isSome_iff_exists.1 hk
      obtain ⟨out, hf, rfl⟩ := Option.map_eq_some_iff.1 h
      obtain ⟨zv, h1, h2, _⟩ := zeroRow_run hz c
      obtain ⟨o, h3, h4⟩ := fillPV_rel ps vs.toList cs zv.cells out hf h2 (by simpa using hl) (fun j p v hp hv' => hv j p v hp (by simpa using hv'))
      refine ⟨.agg o, ?_, rel_of_cells h4⟩
      unfold Instr.build
      simp only [Sem.run_bind, h1, Result.andThen_ok, run_underlying hu, sizeOf_run hd, h3]
      rfl
    · cases h
  · cases h

/-- Bytes, as a text. -/
def strOf : List (List PV) → Option (List Int)
  | [] => some []
  | [.v (.int .u8 n)] :: r => (strOf r).map (n :: ·)
  | _ => none

def convPV (P : Program) (src dst : TypeId) (x : PV) : Option PV :=
  match P.underlying src, P.underlying dst, x with
  | some _, some (.int k), .v (.int _ n) => some (.v (.int k (k.wrap n)))
  | some .string, some .string, .v (.string s) => some (.v (.string s))
  | some (.slice e), some .string, .ro 1 _ rows => match P.underlying e, strOf rows with
    | some (.int .u8), some xs => some (.v (.string (strOfNums xs)))
    | _, _ => none
  | some (.slice e), some .string, .v (.slice none _ _) => match P.underlying e with
    | some (.int .u8) => some (.v (.string ByteArray.empty))
    | _ => none
  | _, _, _ => none

theorem strOf_spec : ∀ (rows : List (List PV)) (xs : List Int), strOf rows = some xs → xs.length = rows.length ∧ ∀ i, i < rows.length → rows[i]? = some [.v (.int .u8 (xs.getD i 0))]
  | [], xs, h => by cases h; simp
  | row :: rows, xs, h => by
    unfold strOf at h
    split at h
    · rename_i hh; cases hh
    · rename_i n r hh
      cases hh
      obtain ⟨ys, h1, rfl⟩ := Option.map_eq_some_iff.1 h
      obtain ⟨h2, h3⟩ := strOf_spec _ ys h1
      refine ⟨by simp [h2], fun i hi => ?_⟩
      cases i with
      | zero => rfl
      | succ i => exact h3 i (by simpa using hi)
    · cases h

theorem convPV_sound {P : Program} {c : Cx} {src dst : TypeId} {x z : PV} {a : Value} (h : convPV P src dst x = some z) (ha : RelV c x a) :
    ∃ v, (convert src dst a).run P c.w = .ok v c.w ∧ RelV c z v := by
  unfold convPV at h
  split at h
  · rename_i d k k' n hs hd
    cases h; cases ha
    refine ⟨.int k (k.wrap n), ?_, .v _⟩
    simp only [convert, Sem.run_bind, run_underlying hs, run_underlying hd, Result.andThen_ok]
    cases d <;> rfl
  · rename_i s hs hd
    cases h; cases ha
    refine ⟨.string s, ?_, .v _⟩
    simp only [convert, Sem.run_bind, run_underlying hs, run_underlying hd, Result.andThen_ok]
    rfl
  · rename_i e full rows hs hd
    split at h
    · rename_i xs he hx
      cases h
      obtain ⟨h1, h2⟩ := strOf_spec _ _ hx
      cases ha with
      | ro _ _ _ ad cap vals hcap hmax hfull hnone hlen hcell hpure hrel =>
        cases ad with
        | none =>
          have hr := hnone rfl
          subst hr
          have : xs = [] := List.eq_nil_of_length_eq_zero (by simpa using h1)
          subst this
          exact ⟨_, by rw [run_convert_bytes_nil c.w src e hs he _ _ dst hd]; rfl, .v _⟩
        | some ad =>
          by_cases hr : rows = []
          · subst hr
            have : xs = [] := List.eq_nil_of_length_eq_zero (by simpa using h1)
            subst this
            refine ⟨.string (strOfNums []), ?_, .v _⟩
            rw [run_convert_bytes_string c.w src dst e _ _ cap hs he hd]
            exact run_bytesToString (P := P) c.w ad 0 cap [] (by simp [loadCells, loadCellsFrom])
          · have hpos : 0 < rows.length := by cases rows with | nil => exact absurd rfl hr | cons a l => simp
            have h0 := h2 0 hpos
            have hsp := (hcell ad rfl 0 _ 0 _ h0 rfl).1
            refine ⟨_, ?_, .v _⟩
            cases ad with
            | mk b o s =>
              simp only at hsp
              subst hsp
              refine run_convert_bytes_arg c.w src e hs he b o rows.length cap xs h1 (fun i hi => ?_) dst hd
              obtain ⟨_, _, k3, _⟩ := hcell _ rfl i _ 0 _ (h2 i hi) rfl
              have hv := hrel i _ 0 _ (h2 i hi) rfl
              simp only [Nat.mul_one, Nat.add_zero] at k3
              rw [k3]
              generalize vals i 0 = u at hv
              cases hv
              rfl
    · cases h
  · rename_i e l cc hs hd
    split at h
    · rename_i he
      cases h; cases ha
      exact ⟨_, run_convert_bytes_nil c.w src e hs he _ _ dst hd, .v _⟩
    · cases h
  · cases h

def pickPV (t x y : PV) : Option PV :=
  match t, x, y with
  | .v (.bool b), .v (.bool p), .v (.bool q) => some (.v (.bool (if b then p else q)))
  | .v (.bool true), x, _ => some x
  | .v (.bool false), _, y => some y
  | _, _, _ => none

theorem pickPV_sound {P : Program} {c : Cx} {t x y z : PV} {vt vx vy : Value} (h : pickPV t x y = some z) (ht : RelV c t vt) (hx : RelV c x vx) (hy : RelV c y vy) :
    ∃ b, (asBool vt).run P c.w = .ok b c.w ∧ RelV c z (if b then vx else vy) := by
  unfold pickPV at h
  split at h
  · rename_i b p q
    cases h; cases ht; cases hx; cases hy
    refine ⟨b, rfl, ?_⟩
    cases b <;> exact .v _
  · cases h; cases ht; exact ⟨true, rfl, hx⟩
  · cases h; cases ht; exact ⟨false, rfl, hy⟩
  · cases h

def nilCheckPV (S : List Blk) : PV → Option PV
  | .ptr τ g i off => if alive S τ g then some (.ptr τ g i off) else none
  | .rp row off => some (.rp row off)
  | .fn (.func f) a b => some (.fn (.func f) a b)
  | _ => none

def extractPV (i : Nat) : PV → Option PV
  | .tup cs => cs[i]?
  | _ => none

def callPV (P : Program) (σ : PS) (c : Call) : Option PV :=
  match c.callee, c.args.toList, c.argTypes.toList with
  | .builtin .len, [x], [t] => lenPV P σ.S t (σ.get x)
  | .builtin .min, [x, y], _ => match σ.get x, σ.get y with
    | .v (.int k a), .v (.int _ b) => some (.v (.int k (if b < a then b else a)))
    | _, _ => none
  | .builtin .max, [x, y], _ => match σ.get x, σ.get y with
    | .v (.int k a), .v (.int _ b) => some (.v (.int k (if b > a then b else a)))
    | _, _ => none
  | _, _, _ => none

/-- Where a key stands among a map's entries, and what it has. -/
def mpos (k : ByteArray) : List (ByteArray × Int) → Option (Nat × Int)
  | [] => none
  | (s, z) :: l => if k = s then some (0, z) else (mpos k l).map fun p => (p.1 + 1, p.2)
def mfind (k : ByteArray) (es : List (ByteArray × Int)) : Option Int := (mpos k es).map (·.2)
def mput (k : ByteArray) (z : Int) : List (ByteArray × Int) → List (ByteArray × Int)
  | [] => [(k, z)]
  | (s, y) :: l => if k = s then (s, z) :: l else (s, y) :: mput k z l
/-- A map's entries, as a walk sees them. -/
def mapEs (S : List Blk) : PV → Option (List (ByteArray × Int))
  | .rmp es => some es
  | .mp τ g => match S[τ]? with
    | some ⟨g', _, 0, [[.rmp es]]⟩ => if g' = g then some es else none
    | _ => none
  | .v (.map none) => some []
  | _ => none
def zeroI (P : Program) (t : TypeId) : Bool :=
  match P.info? t with
  | some i => match i.zero with
    | some (.int .i64 0) => true
    | _ => false
  | none => false
def lookupPV (P : Program) (S : List Blk) (t : TypeId) (x ix : PV) (ok : Bool) : Option PV :=
  match P.underlying t, mapEs S x, ix with
  | some (.map kt et), some es, .v (.string k) =>
    match P.underlying kt with
    | some .string => if zeroI P et then some (if ok then .tup [.v (.int .i64 ((mfind k es).getD 0)), .v (.bool (mfind k es).isSome)] else .v (.int .i64 ((mfind k es).getD 0))) else none
    | _ => none
  | _, _, _ => none
theorem zeroI_run {P : Program} {t : TypeId} (h : zeroI P t = true) (w : World) : (zeroValue t).run P w = .ok (.int .i64 0) w := by
  unfold zeroI at h
  split at h
  · rename_i i hi
    split at h
    · rename_i hz
      simp [zeroValue, typeInfo, hi, hz]
    · cases h
  · cases h
theorem findNow_str (k : ByteArray) : ∀ (l : List MapEntry) (es : List (ByteArray × Int)) (i : Nat), l.map (fun e => (e.key, e.val)) = es.map (fun p => (Value.string p.1, Value.int .i64 p.2)) →
    Instr.findNow .string (.string k) l i = some ((mpos k es).map fun p => (i + p.1, Value.int .i64 p.2))
  | [], [], i, _ => by simp [Instr.findNow, mpos]
  | [], p :: es, i, h => by simp at h
  | e :: l, [], i, h => by simp at h
  | e :: l, (s, z) :: es, i, h => by
    simp only [List.map_cons, List.cons.injEq, Prod.mk.injEq] at h
    obtain ⟨⟨h1, h2⟩, h3⟩ := h
    by_cases hk : k = s
    · subst hk
      have hb : (k == k) = true := (Go.MapKept.bytes_beq k k).2 rfl
      simp [Instr.findNow, h1, h2, Instr.sameNow, hb, mpos]
    · have hb : (k == s) = false := by
        cases hb : (k == s)
        · rfl
        · exact absurd ((Go.MapKept.bytes_beq k s).1 hb) hk
      simp only [Instr.findNow, h1, Instr.sameNow, hb, mpos, if_neg hk]
      rw [findNow_str k l es (i + 1) h3]
      cases mpos k es with
      | none => rfl
      | some p => simp [Nat.add_assoc, Nat.add_comm 1]
/-- A map's entries in the heap. -/
theorem mapEs_spec {c : Cx} (hi : Inv c) {x : PV} {v : Value} {es : List (ByteArray × Int)} (h : mapEs c.S x = some es) (hr : RelV c x v) : (v = .map none ∧ es = []) ∨ ∃ r arr ck, v = .map (some r) ∧ c.w.heap[r]? = some (.map arr ck) ∧ EntOk arr ck es := by
  unfold mapEs at h
  split at h
  · cases h
    cases hr with
    | rmp _ r arr ck hx hh he => exact .inr ⟨r, arr, ck, rfl, hh, he⟩
    | rnil => exact .inl ⟨rfl, rfl⟩
  · split at h
    · rename_i hb
      split at h
      · rename_i hg
        cases h
        cases hr with
        | mp _ _ y hy hN hv =>
          obtain ⟨p, hp, rfl⟩ := hv _ hb hg
          rcases (hi.blk _ _ hb).heap p hp with ⟨hl, _⟩ | ⟨_, ho2⟩
          · have := hl 0 _ rfl
            simp at this
          · obtain ⟨es2, arr, ck, h1, h2, h3⟩ := ObjOk.asMap ho2
            simp only [List.cons.injEq, PV.rmp.injEq, and_true] at h1
            subst h1
            exact .inr ⟨p.1, arr, ck, rfl, h2, h3⟩
      · cases h
    · cases h
  · cases h
    cases hr
    exact .inl ⟨rfl, rfl⟩
  · cases h
theorem lookupPV_sound {P : Program} {c : Cx} {t : TypeId} {x ix z : PV} {a b : Value} {ok : Bool} (hi : Inv c) (h : lookupPV P c.S t x ix ok = some z) (ha : RelV c x a) (hb : RelV c ix b) :
    ∃ v, (Instr.lookup t a b ok).run P c.w = .ok v c.w ∧ RelV c z v := by
  unfold lookupPV at h
  split at h
  · rename_i kt et es k hu hes
    split at h
    · rename_i hk
      split at h
      · rename_i hz
        cases h
        cases hb
        have fin : RelV c (if ok then .tup [.v (.int .i64 ((mfind k es).getD 0)), .v (.bool (mfind k es).isSome)] else .v (.int .i64 ((mfind k es).getD 0))) (if ok then Value.tuple #[.int .i64 ((mfind k es).getD 0), .bool (mfind k es).isSome] else .int .i64 ((mfind k es).getD 0)) := by
          cases ok
          · exact .v _
          · refine .tup _ _ rfl (fun i x v hx hv => ?_)
            match i, hx, hv with
            | 0, hx, hv => simp at hx hv; subst hx hv; exact .v _
            | 1, hx, hv => simp at hx hv; subst hx hv; exact .v _
            | i + 2, hx, hv => simp at hx
        refine ⟨_, ?_, fin⟩
        have hck : ∀ b, (Instr.checkKey b 10000 kt (.string k)).run P c.w = .ok () c.w := fun b => Go.MapKept.run_checkKey hk (show Go.MapKept.IsKey .string (.string k) from trivial) b 9999
        rcases mapEs_spec hi hes ha with ⟨rfl, rfl⟩ | ⟨r, arr, ck, rfl, hh, he⟩
        · have hf := findNow_str k [] [] 0 rfl
          simp only [mpos, Option.map_none] at hf
          simp [Instr.lookup, run_underlying hu, hck, Go.MapKept.run_findKey hk hf, zeroI_run hz, mfind, mpos]
        · have hf := findNow_str k arr.toList es 0 he.2
          cases hp : mpos k es with
          | none =>
            rw [hp] at hf
            simp only [Option.map_none] at hf
            simp [Instr.lookup, run_underlying hu, hck, Go.MapKept.run_getObj_map hh, Go.MapKept.run_findKey hk hf, zeroI_run hz, mfind, hp]
          | some q =>
            rw [hp] at hf
            simp only [Option.map_some] at hf
            simp [Instr.lookup, run_underlying hu, hck, Go.MapKept.run_getObj_map hh, Go.MapKept.run_findKey hk hf, mfind, hp]
      · cases h
    · cases h
  · cases h

/-- What an operation that only reads answers. -/
def ev (P : Program) (σ : PS) (o : Op) : Option PV :=
  match o with
  | .move x => some (σ.get x)
  | .assign x => some (σ.get x)
  | .pick c a b => pickPV (σ.get c) (σ.get a) (σ.get b)
  | .nilCheck x => nilCheckPV σ.S (σ.get x)
  | .binOp op t x y _ => binPV P σ.S op t (σ.get x) (σ.get y)
  | .unOp op _ x => unPV op (σ.get x)
  | .convert src dst x => convPV P src dst (σ.get x)
  | .makeFunc fn first captured => some (.fn fn (first.toList.map σ.get) (captured.toList.map σ.get))
  | .fieldAddr s x f => fieldAddrPV P s (σ.get x) f σ.S
  | .field t x f => fieldPV P t (σ.get x) f
  | .indexAddr t x ix => indexAddrPV P σ.S t (σ.get x) (σ.get ix)
  | .index t x ix => indexPV P t (σ.get x) (σ.get ix)
  | .load t x => loadPV P σ.S t (σ.get x)
  | .extract x i => extractPV i (σ.get x)
  | .build t parts => buildPV P t (parts.toList.map fun p => (p.1, σ.get p.2))
  | .slice t x lo hi mx => slicePV P σ.S t (σ.get x) (lo.map σ.get) (hi.map σ.get) (mx.map σ.get)
  | .call c => callPV P σ c
  | .lookup t x ix ok => lookupPV P σ.S t (σ.get x) (σ.get ix) ok
  | _ => none

theorem ev_sound {P : Program} {c : Cx} {σ : PS} {a : Act} {o : Oper} {z : PV} (r : Rel c σ a) (h : ev P σ o.op = some z) :
    ∃ v, (execOp a.eval o).run P c.w = .ok (.value v) c.w ∧ RelV c z v := by
  have hi := r.inv
  have mk : ∀ {s : Sem Value}, (∃ v, s.run P c.w = .ok v c.w ∧ RelV c z v) → ∃ v, (do pure (.value (← s)) : Sem Next).run P c.w = .ok (.value v) c.w ∧ RelV c z v := by
    rintro s ⟨v, h1, h2⟩
    exact ⟨v, by rw [Sem.run_bind, h1]; rfl, h2⟩
  have opt : ∀ (q : Option Operand), (∀ x, q.map σ.get = some x → ∃ u, q.map a.eval = some u ∧ RelV c x u) ∧ (q.map σ.get = none → q.map a.eval = none) := by
    intro q
    cases q with
    | none => simp
    | some y => simpa using r.get y
  unfold ev at h
  unfold execOp
  rw [← r.S] at h
  split at h <;> rename_i ho <;> simp only [ho]
  · cases h; exact ⟨_, rfl, r.get _⟩
  · cases h; exact ⟨_, rfl, r.get _⟩
  · obtain ⟨b, h1, h2⟩ := pickPV_sound (P := P) h (r.get _) (r.get _) (r.get _)
    exact ⟨_, by rw [Sem.run_bind, h1]; rfl, h2⟩
  · rename_i x
    have hx := r.get x
    unfold nilCheckPV at h
    split at h
    · rename_i τ g i off he
      rw [he] at hx
      split at h
      · rename_i hal
        cases h
        obtain ⟨blk, h1, h2⟩ := alive_spec hal
        cases hx with
        | ptr _ _ _ _ y hy hN hv =>
          obtain ⟨h3, p, hp, h4, hcel⟩ := hv blk h1 h2
          rw [h4]
          exact ⟨_, rfl, .ptr _ _ _ _ _ rfl hN (fun blk' k1 k2 => by rw [h1] at k1; cases k1; exact ⟨h3, p, hp, rfl, hcel⟩)⟩
      · cases h
    · rename_i row off he
      rw [he] at hx
      cases h
      generalize a.eval x = y at hx
      cases hx with
      | rp row off b o vals hc hp hr => exact ⟨_, rfl, .rp _ _ _ _ vals hc hp hr⟩
    · rename_i f p q he
      rw [he] at hx
      cases h
      generalize a.eval x = y at hx
      cases hx with
      | fn f a b va vb hsa hsb ha hb => exact ⟨_, rfl, .fn _ _ _ _ _ hsa hsb ha hb⟩
    · cases h
  · exact mk (binPV_sound h (r.get _) (r.get _) _ _)
  · exact mk (unPV_sound h (r.get _))
  · exact mk (convPV_sound h (r.get _))
  · rename_i fn first captured
    cases h
    have all : ∀ (xs : Array Operand) (i : Nat) (x : PV) (v : Value), (xs.toList.map σ.get)[i]? = some x → (xs.map a.eval)[i]? = some v → RelV c x v := by
      intro xs i x v hx hv
      rw [List.getElem?_map, Array.getElem?_toList] at hx
      rw [Array.getElem?_map] at hv
      obtain ⟨y, hy, rfl⟩ := Option.map_eq_some_iff.1 hx
      rw [hy] at hv
      cases hv
      exact r.get y
    exact ⟨_, rfl, .fn _ _ _ _ _ (by simp) (by simp) (all first) (all captured)⟩
  · exact mk (fieldAddrPV_sound h (r.get _))
  · exact mk (fieldPV_sound h (r.get _))
  · exact mk (indexAddrPV_sound hi h (r.get _) (r.get _))
  · exact mk (indexPV_sound h (r.get _) (r.get _))
  · exact mk (loadPV_sound hi h (r.get _))
  · rename_i x i
    have hx := r.get x
    unfold extractPV at h
    split at h
    · rename_i cs he
      rw [he] at hx
      generalize a.eval x = y at hx
      cases hx with
      | tup cs vs hs hr =>
        have hlt : i < vs.size := by rw [hs]; exact (List.getElem?_eq_some_iff.1 h).1
        have hv : vs[i]? = some vs[i] := Array.getElem?_eq_getElem hlt
        exact mk ⟨vs[i], by simp [Instr.extract, hv], hr i z _ h hv⟩
    · cases h
  · rename_i t parts
    refine mk (buildPV_sound h (by simp) (fun j p v hp hv => ?_))
    rw [List.getElem?_map, Array.getElem?_toList] at hp
    rw [Array.getElem?_map] at hv
    obtain ⟨y, hy, rfl⟩ := Option.map_eq_some_iff.1 hp
    rw [hy] at hv
    cases hv
    exact ⟨rfl, r.get y.2⟩
  · rename_i t x lo h' mx
    exact mk (slicePV_sound h (r.get _) (opt _).1 (opt _).2 (opt _).1 (opt _).2 (opt _).1 (opt _).2)
  · rename_i cl
    unfold callPV at h
    split at h
    · rename_i x t hc ha ht
      replace ha : cl.args = #[x] := by rw [← Array.toArray_toList (xs := cl.args), ha]
      replace ht : cl.argTypes = #[t] := by rw [← Array.toArray_toList (xs := cl.argTypes), ht]
      obtain ⟨v, h1, h2⟩ := lenPV_sound (P := P) (ty := o.type) (by rw [r.S]; exact h) (r.get x)
      refine ⟨v, ?_, h2⟩
      simp only [resolve, hc, ha, ht, Sem.run_bind, Sem.run_pure, Result.andThen_ok, invoke, builtin, List.map_toArray, List.map_cons, List.map_nil]
      rw [h1]
      rfl
    · rename_i _ x y hc ha
      replace ha : cl.args = #[x, y] := by rw [← Array.toArray_toList (xs := cl.args), ha]
      split at h
      · rename_i k p k' q e1 e2
        cases h
        have g1 := r.get x
        have g2 := r.get y
        rw [e1] at g1
        rw [e2] at g2
        generalize hv1 : a.eval x = v1 at g1
        generalize hv2 : a.eval y = v2 at g2
        cases g1
        cases g2
        refine ⟨_, ?_, .v _⟩
        simp only [resolve, hc, ha, Sem.run_bind, Sem.run_pure, Result.andThen_ok, invoke, builtin, List.map_toArray, List.map_cons, List.map_nil, Builtin.min_, List.foldlM_cons, List.foldlM_nil, Builtin.min2, hv1, hv2]
      · cases h
    · rename_i _ x y hc ha
      replace ha : cl.args = #[x, y] := by rw [← Array.toArray_toList (xs := cl.args), ha]
      split at h
      · rename_i k p k' q e1 e2
        cases h
        have g1 := r.get x
        have g2 := r.get y
        rw [e1] at g1
        rw [e2] at g2
        generalize hv1 : a.eval x = v1 at g1
        generalize hv2 : a.eval y = v2 at g2
        cases g1
        cases g2
        refine ⟨_, ?_, .v _⟩
        simp only [resolve, hc, ha, Sem.run_bind, Sem.run_pure, Result.andThen_ok, invoke, builtin, List.map_toArray, List.map_cons, List.map_nil, Builtin.max_, List.foldlM_cons, List.foldlM_nil, Builtin.max2, hv1, hv2]
      · cases h
    · cases h
  · exact mk (lookupPV_sound hi h (r.get _) (r.get _))
  · cases h
end Go.Proofs.YtenoecffjfcifaaDoor.Pv

-- Eighth text: blocks of one's own come, change and are forgotten.
namespace Go.Proofs.YtenoecffjfcifaaDoor.Pv
set_option linter.all false
open Go.RowKit
set_option linter.unusedVariables false

/-- Cells in a heap's block that are read as rows. -/
def RowsIn (c : Cx) (sz : Nat) (rows : List (List PV)) (o : Nat) (cs : Array Value) : Prop :=
  ∀ (i : Nat) (row : List PV) (j : Nat) (x : PV), rows[i]? = some row → row[j]? = some x → ∃ v, cs[o + (i * sz + j)]? = some v ∧ v.oneCell' = true ∧ RelV c x v

theorem getElem?_append_one {α : Type} {l : List α} {x y : α} {i : Nat} (h : (l ++ [x])[i]? = some y) : (i < l.length ∧ l[i]? = some y) ∨ (i = l.length ∧ x = y) := by
  rcases Nat.lt_trichotomy i l.length with hi | hi | hi
  · rw [List.getElem?_append_left hi] at h; exact .inl ⟨hi, h⟩
  · subst hi; simp at h; exact .inr ⟨rfl, h⟩
  · rw [List.getElem?_append_right (by omega), List.getElem?_eq_none (by simp; omega)] at h; cases h

/-- A new block. -/
theorem pushBlk0 {c : Cx} (hi : Inv c) (w' : World) (blk : Blk) (p : Option (Nat × Nat)) (hos : w'.os = c.w.os) (ht : w'.tape = c.w.tape) (ho : w'.output = c.w.output) (hsz : c.w.heap.size ≤ w'.heap.size)
    (hw : ∀ b, b < c.w.heap.size → w'.heap[b]? = c.w.heap[b]?) (hg : blk.gen = c.N) (hvoid : p = none → blk.rows = [])
    (hp : ∀ q, p = some q → c.w.heap.size ≤ q.1 ∧ HeapOk c w' q blk) :
    Inv ⟨w', c.G, fun t => if t = c.S.length then p else c.β t, c.S ++ [blk], c.N + 1⟩ ∧ Step c ⟨w', c.G, fun t => if t = c.S.length then p else c.β t, c.S ++ [blk], c.N + 1⟩ := by
  have hst : Step c ⟨w', c.G, fun t => if t = c.S.length then p else c.β t, c.S ++ [blk], c.N + 1⟩ := by
    refine ⟨rfl, hos, ht, ho, hsz, Nat.le_succ _, fun b hb _ => hw b hb, fun τ blk' h1 h2 => ?_, fun b hb => ?_, fun b cs e fz hb => ⟨cs, fz, by rw [hw b (Array.getElem?_eq_some_iff.1 hb).1]; exact hb, rfl⟩⟩
    · rcases getElem?_append_one h1 with ⟨h3, h4⟩ | ⟨h3, rfl⟩
      · exact ⟨blk', h4, rfl, by simp only; rw [if_neg (by omega)], rfl, rfl⟩
      · omega
    · obtain ⟨τ, blk', q, h1, h2, h3, rfl⟩ := hb
      simp only at h3
      rcases getElem?_append_one h1 with ⟨h4, h5⟩ | ⟨h4, rfl⟩
      · rw [if_neg (by omega)] at h3
        exact .inl ⟨τ, blk', q, h5, h2, h3, rfl⟩
      · rw [if_pos h4] at h3
        exact .inr (hp q h3).1
  refine ⟨⟨fun τ blk' h1 => ?_, fun τ blk' q h1 h2 => ?_, fun τ τ' b1 b2 q q' h1 h2 h3 h4 h5 h6 => ?_, fun b hb => Nat.lt_of_lt_of_le (hi.gLt b hb) hsz, hi.wi.step hst⟩, hst⟩
  · rcases getElem?_append_one h1 with ⟨h3, h4⟩ | ⟨h3, rfl⟩
    · have hB := hi.blk τ blk' h4
      refine ⟨Nat.lt_succ_of_lt hB.gen, fun h => hB.void (by simpa [show τ ≠ c.S.length by omega] using h), fun q hq => ?_⟩
      have hq' : c.β τ = some q := by simpa [show τ ≠ c.S.length by omega] using hq
      exact (hB.heap q hq').move (fun x v h => h.step hst) (hw _ (hB.heap q hq').lt)
    · refine ⟨by rw [hg]; exact Nat.lt_succ_self _, fun h => hvoid (by simpa [h3] using h), fun q hq => ?_⟩
      have hq' : p = some q := by simpa [h3] using hq
      exact (hp q hq').2.move (fun x v h => h.step hst) rfl
  · simp only at h2
    rcases getElem?_append_one h1 with ⟨h3, h4⟩ | ⟨h3, rfl⟩
    · rw [if_neg (by omega)] at h2
      exact hi.notG τ blk' q h4 h2
    · rw [if_pos h3] at h2
      intro hG
      have := hi.gLt _ hG
      have := (hp q h2).1
      omega
  · simp only at h4 h5
    have lt : ∀ τ blk q, c.S[τ]? = some blk → c.β τ = some q → q.1 < c.w.heap.size := fun τ blk q g1 g2 => by
      exact ((hi.blk τ blk g1).heap q g2).lt
    rcases getElem?_append_one h1 with ⟨e1, e2⟩ | ⟨e1, rfl⟩ <;> rcases getElem?_append_one h2 with ⟨f1, f2⟩ | ⟨f1, rfl⟩
    · rw [if_neg (by omega)] at h4 h5
      exact hi.inj τ τ' b1 b2 q q' e2 f2 h3 h4 h5 h6
    · rw [if_neg (by omega)] at h4
      rw [if_pos f1] at h5
      have := lt _ _ _ e2 h4
      have := (hp q' h5).1
      omega
    · rw [if_pos e1] at h4
      rw [if_neg (by omega)] at h5
      have := lt _ _ _ f2 h5
      have := (hp q h4).1
      omega
    · omega

/-- A new block of cells. -/
theorem pushBlk {c : Cx} (hi : Inv c) (w' : World) (blk : Blk) (p : Option (Nat × Nat)) (hos : w'.os = c.w.os) (ht : w'.tape = c.w.tape) (ho : w'.output = c.w.output) (hsz : c.w.heap.size ≤ w'.heap.size)
    (hw : ∀ b, b < c.w.heap.size → w'.heap[b]? = c.w.heap[b]?) (hg : blk.gen = c.N) (hlen : ∀ (i : Nat) (row : List PV), blk.rows[i]? = some row → row.length = blk.sz)
    (hvoid : p = none → blk.rows = [])
    (hp : ∀ q, p = some q → c.w.heap.size ≤ q.1 ∧ ∃ cs e fz, w'.heap[q.1]? = some (.cells cs e fz) ∧ q.2 + blk.rows.length * blk.sz ≤ cs.size ∧ RowsIn c blk.sz blk.rows q.2 cs ∧ (blk.own = true → FzFree fz cs.size)) :
    Inv ⟨w', c.G, fun t => if t = c.S.length then p else c.β t, c.S ++ [blk], c.N + 1⟩ ∧ Step c ⟨w', c.G, fun t => if t = c.S.length then p else c.β t, c.S ++ [blk], c.N + 1⟩ :=
  pushBlk0 hi w' blk p hos ht ho hsz hw hg hvoid fun q hq => ⟨(hp q hq).1, .inl ⟨hlen, (hp q hq).2⟩⟩

/-- A block changes. -/
theorem updBlk0 {c : Cx} (hi : Inv c) {τ : Nat} {blk : Blk} (hb : c.S[τ]? = some blk) (hown : blk.own = true) (w' : World) (p' : Nat × Nat) (blk' : Blk) (N' : Nat)
    (hos : w'.os = c.w.os) (ht : w'.tape = c.w.tape) (ho : w'.output = c.w.output) (hsz : c.w.heap.size ≤ w'.heap.size)
    (hw : ∀ b, b < c.w.heap.size → (∀ p, c.β τ = some p → b ≠ p.1) → w'.heap[b]? = c.w.heap[b]?)
    (hcs : ∀ p cs e fz, c.β τ = some p → c.w.heap[p.1]? = some (.cells cs e fz) → ∃ cs' fz', w'.heap[p.1]? = some (.cells cs' e fz') ∧ cs'.size = cs.size)
    (hp : (∃ p, c.β τ = some p ∧ p'.1 = p.1) ∨ c.w.heap.size ≤ p'.1)
    (hN : c.N ≤ N') (hg : blk'.gen < N')
    (hent : blk'.gen < c.N → blk'.gen = blk.gen ∧ c.β τ = some p' ∧ blk'.sz = blk.sz ∧ blk'.rows.length = blk.rows.length)
    (hheap : HeapOk c w' p' blk') :
    Inv ⟨w', c.G, fun t => if t = τ then some p' else c.β t, c.S.set τ blk', N'⟩ ∧ Step c ⟨w', c.G, fun t => if t = τ then some p' else c.β t, c.S.set τ blk', N'⟩ := by
  have hτ : τ < c.S.length := (List.getElem?_eq_some_iff.1 hb).1
  have get : ∀ {t : Nat} {b : Blk}, (c.S.set τ blk')[t]? = some b → (t = τ ∧ b = blk') ∨ (t ≠ τ ∧ c.S[t]? = some b) := by
    intro t b h
    rw [List.getElem?_set] at h
    split at h
    · rename_i e
      cases h
      exact .inl ⟨e.symm, rfl⟩
    · rename_i e
      exact .inr ⟨fun f => e f.symm, h⟩
  have lt : ∀ τ blk q, c.S[τ]? = some blk → c.β τ = some q → q.1 < c.w.heap.size := fun τ blk q g1 g2 => by
    exact ((hi.blk τ blk g1).heap q g2).lt
  have hst : Step c ⟨w', c.G, fun t => if t = τ then some p' else c.β t, c.S.set τ blk', N'⟩ := by
    refine ⟨rfl, hos, ht, ho, hsz, hN, fun b hb' hno => hw b hb' (fun p hp' e => hno ⟨τ, blk, p, hb, hown, hp', e.symm⟩), fun t b h1 h2 => ?_, fun b hb' => ?_, fun b cs e fz hb' => ?_⟩
    · rcases get h1 with ⟨rfl, rfl⟩ | ⟨h3, h4⟩
      · obtain ⟨e1, e2, e3, e4⟩ := hent h2
        exact ⟨blk, hb, e1.symm, by simp only [if_true]; exact e2.symm, e3, e4⟩
      · exact ⟨b, h4, rfl, by simp only; rw [if_neg h3], rfl, rfl⟩
    · obtain ⟨t, b1, q, h1, h2, h3, rfl⟩ := hb'
      simp only at h3
      rcases get h1 with ⟨rfl, rfl⟩ | ⟨h4, h5⟩
      · rw [if_pos rfl] at h3
        cases h3
        rcases hp with ⟨p, e1, e2⟩ | e1
        · exact .inl ⟨t, blk, p, hb, hown, e1, e2.symm⟩
        · exact .inr e1
      · rw [if_neg h4] at h3
        exact .inl ⟨t, b1, q, h5, h2, h3, rfl⟩
    · by_cases hh : ∃ p, c.β τ = some p ∧ b = p.1
      · obtain ⟨p, e1, rfl⟩ := hh
        exact hcs p cs e fz e1 hb'
      · refine ⟨cs, fz, ?_, rfl⟩
        rw [hw b (Array.getElem?_eq_some_iff.1 hb').1 (fun p e1 e2 => hh ⟨p, e1, e2⟩)]
        exact hb'
  refine ⟨⟨fun t b h1 => ?_, fun t b q h1 h2 => ?_, fun t t' b1 b2 q q' h1 h2 h3 h4 h5 h6 => ?_, fun b hb => Nat.lt_of_lt_of_le (hi.gLt b hb) hsz, hi.wi.step hst⟩, hst⟩
  · rcases get h1 with ⟨rfl, rfl⟩ | ⟨h3, h4⟩
    · refine ⟨hg, fun h => by simp at h, fun q hq => ?_⟩
      simp only [if_true, Option.some.injEq] at hq
      subst hq
      exact hheap.move (fun x v h => h.step hst) rfl
    · have hB := hi.blk t b h4
      refine ⟨Nat.lt_of_lt_of_le hB.gen hN, fun h => hB.void (by simpa [h3] using h), fun q hq => ?_⟩
      have hq' : c.β t = some q := by simpa [h3] using hq
      exact (hB.heap q hq').move (fun x v h => h.step hst) (hw _ (hB.heap q hq').lt (fun p e1 e2 => h3 (hi.inj τ t blk b p q hb h4 hown e1 hq' e2.symm).symm))
  · simp only at h2
    rcases get h1 with ⟨rfl, rfl⟩ | ⟨h3, h4⟩
    · rw [if_pos rfl] at h2
      cases h2
      rcases hp with ⟨p, e1, e2⟩ | e1
      · rw [e2]; exact hi.notG t blk p hb e1
      · intro hG
        have := hi.gLt _ hG
        omega
    · rw [if_neg h3] at h2
      exact hi.notG t b q h4 h2
  · simp only at h4 h5
    rcases get h1 with ⟨rfl, rfl⟩ | ⟨e1, e2⟩ <;> rcases get h2 with ⟨rfl, rfl⟩ | ⟨f1, f2⟩
    · rfl
    · rw [if_pos rfl] at h4
      rw [if_neg f1] at h5
      cases h4
      rcases hp with ⟨p, g1, g2⟩ | g1
      · exact hi.inj t t' blk b2 p q' hb f2 hown g1 h5 (g2.symm.trans h6)
      · have := lt _ _ _ f2 h5
        omega
    · rw [if_neg e1] at h4
      rw [if_pos rfl] at h5
      cases h5
      rcases hp with ⟨p, g1, g2⟩ | g1
      · exact hi.inj t t' b1 blk q p e2 hb h3 h4 g1 (h6.trans g2)
      · have := lt _ _ _ e2 h4
        omega
    · rw [if_neg e1] at h4
      rw [if_neg f1] at h5
      exact hi.inj t t' b1 b2 q q' e2 f2 h3 h4 h5 h6

/-- A block of cells changes. -/
theorem updBlk {c : Cx} (hi : Inv c) {τ : Nat} {blk : Blk} (hb : c.S[τ]? = some blk) (hown : blk.own = true) (w' : World) (p' : Nat × Nat) (blk' : Blk) (N' : Nat)
    (hos : w'.os = c.w.os) (ht : w'.tape = c.w.tape) (ho : w'.output = c.w.output) (hsz : c.w.heap.size ≤ w'.heap.size)
    (hw : ∀ b, b < c.w.heap.size → (∀ p, c.β τ = some p → b ≠ p.1) → w'.heap[b]? = c.w.heap[b]?)
    (hcs : ∀ p cs e fz, c.β τ = some p → c.w.heap[p.1]? = some (.cells cs e fz) → ∃ cs' fz', w'.heap[p.1]? = some (.cells cs' e fz') ∧ cs'.size = cs.size)
    (hp : (∃ p, c.β τ = some p ∧ p'.1 = p.1) ∨ c.w.heap.size ≤ p'.1)
    (hN : c.N ≤ N') (hg : blk'.gen < N')
    (hent : blk'.gen < c.N → blk'.gen = blk.gen ∧ c.β τ = some p' ∧ blk'.sz = blk.sz ∧ blk'.rows.length = blk.rows.length)
    (hlen : ∀ (i : Nat) (row : List PV), blk'.rows[i]? = some row → row.length = blk'.sz)
    (hheap : ∃ cs e fz, w'.heap[p'.1]? = some (.cells cs e fz) ∧ p'.2 + blk'.rows.length * blk'.sz ≤ cs.size ∧ RowsIn c blk'.sz blk'.rows p'.2 cs ∧ FzFree fz cs.size) :
    Inv ⟨w', c.G, fun t => if t = τ then some p' else c.β t, c.S.set τ blk', N'⟩ ∧ Step c ⟨w', c.G, fun t => if t = τ then some p' else c.β t, c.S.set τ blk', N'⟩ := by
  obtain ⟨cs, e, fz, k1, k2, k3, k4⟩ := hheap
  exact updBlk0 hi hb hown w' p' blk' N' hos ht ho hsz hw hcs hp hN hg hent (.inl ⟨hlen, cs, e, fz, k1, k2, k3, fun _ => k4⟩)

/-- A block is no longer written. -/
theorem freezeBlk {c : Cx} (hi : Inv c) {τ : Nat} {blk : Blk} (hb : c.S[τ]? = some blk) :
    Inv { c with S := c.S.set τ { blk with own := false } } ∧ Step c { c with S := c.S.set τ { blk with own := false } } := by
  have hτ : τ < c.S.length := (List.getElem?_eq_some_iff.1 hb).1
  have get : ∀ {t : Nat} {b : Blk}, (c.S.set τ { blk with own := false })[t]? = some b → (t = τ ∧ b = { blk with own := false }) ∨ (t ≠ τ ∧ c.S[t]? = some b) := by
    intro t b h
    rw [List.getElem?_set] at h
    split at h
    · rename_i e
      cases h
      exact .inl ⟨e.symm, rfl⟩
    · rename_i e
      exact .inr ⟨fun f => e f.symm, h⟩
  have hst : Step c { c with S := c.S.set τ { blk with own := false } } := by
    refine ⟨rfl, rfl, rfl, rfl, Nat.le_refl _, Nat.le_refl _, fun _ _ _ => rfl, fun t b h1 _ => ?_, fun b hb' => ?_, fun b cs e fz h => ⟨cs, fz, h, rfl⟩⟩
    · rcases get h1 with ⟨rfl, rfl⟩ | ⟨h3, h4⟩
      · exact ⟨blk, hb, rfl, rfl, rfl, rfl⟩
      · exact ⟨b, h4, rfl, rfl, rfl, rfl⟩
    · obtain ⟨t, b1, q, h1, h2, h3, rfl⟩ := hb'
      rcases get h1 with ⟨rfl, rfl⟩ | ⟨h4, h5⟩
      · cases h2
      · exact .inl ⟨t, b1, q, h5, h2, h3, rfl⟩
  refine ⟨⟨fun t b h1 => ?_, fun t b q h1 h2 => ?_, fun t t' b1 b2 q q' h1 h2 h3 h4 h5 h6 => ?_, hi.gLt, hi.wi.step hst⟩, hst⟩
  · rcases get h1 with ⟨rfl, rfl⟩ | ⟨h3, h4⟩
    · have hB := hi.blk t blk hb
      exact ⟨hB.gen, hB.void, fun q hq => by
        rcases (hB.heap q hq).move (c' := { c with S := c.S.set t { blk with own := false } }) (fun x v h => h.step hst) rfl with ⟨hl, cs, e, fz, k1, k2, k3, k4⟩ | hm
        · exact .inl ⟨hl, cs, e, fz, k1, k2, k3, fun h => by cases h⟩
        · exact .inr hm⟩
    · have hB := hi.blk t b h4
      exact ⟨hB.gen, hB.void, fun q hq => (hB.heap q hq).move (fun x v h => h.step hst) rfl⟩
  · rcases get h1 with ⟨rfl, rfl⟩ | ⟨h3, h4⟩
    · exact hi.notG t blk q hb h2
    · exact hi.notG t b q h4 h2
  · rcases get h1 with ⟨rfl, rfl⟩ | ⟨e1, e2⟩
    · cases h3
    · rcases get h2 with ⟨rfl, rfl⟩ | ⟨f1, f2⟩
      · exact hi.inj t t' b1 blk q q' e2 hb h3 h4 h5 h6
      · exact hi.inj t t' b1 b2 q q' e2 f2 h3 h4 h5 h6

/-- The last blocks are forgotten. -/
theorem dropBlk {c : Cx} (hi : Inv c) (k : Nat) : Inv { c with S := c.S.take k } ∧ Step c { c with S := c.S.take k } := by
  have get : ∀ {t : Nat} {b : Blk}, (c.S.take k)[t]? = some b → c.S[t]? = some b := by
    intro t b h
    rw [List.getElem?_take] at h
    split at h
    · exact h
    · cases h
  have hst : Step c { c with S := c.S.take k } :=
    ⟨rfl, rfl, rfl, rfl, Nat.le_refl _, Nat.le_refl _, fun _ _ _ => rfl, fun t b h1 _ => ⟨b, get h1, rfl, rfl, rfl, rfl⟩, fun b ⟨t, b1, q, h1, h2, h3, e⟩ => .inl ⟨t, b1, q, get h1, h2, h3, e⟩, fun b cs e fz h => ⟨cs, fz, h, rfl⟩⟩
  refine ⟨⟨fun t b h1 => ?_, fun t b q h1 h2 => hi.notG t b q (get h1) h2, fun t t' b1 b2 q q' h1 h2 => hi.inj t t' b1 b2 q q' (get h1) (get h2), hi.gLt, hi.wi.step hst⟩, hst⟩
  have hB := hi.blk t b (get h1)
  exact ⟨hB.gen, hB.void, fun q hq => (hB.heap q hq).move (fun x v h => h.step hst) rfl⟩

theorem storeCells_run {P : Program} (g o : Nat) (e : TypeId) (fz : Nat × Nat) : ∀ (vs : List Value) (i : Nat) (cur : Array Value) (w : World), w.heap[g]? = some (.cells cur e fz) → o + i + vs.length ≤ cur.size →
    (∀ k, k < cur.size → ¬ (fz.1 ≤ k ∧ k < fz.2)) → (∀ v ∈ vs, v.oneCell' = true) →
    (storeCells ⟨g, o, none⟩ vs i).run P w = .ok () (w.setRow g (cur.toList.take (o + i) ++ vs ++ cur.toList.drop (o + i + vs.length)).toArray)
  | [], i, cur, w, hg, _, _, _ => by
    simp only [storeCells, List.append_nil, List.length_nil, Nat.add_zero, List.take_append_drop, Array.toArray_toList]
    rw [setRow_self w g cur e fz hg]
    rfl
  | v :: rest, i, cur, w, hg, hl, hf, h1 => by
    have hi : o + i < cur.size := by simp at hl; omega
    have hcell : w.cell? ⟨g, o + i, none⟩ = some cur[o + i] := by simp [World.cell?, hg, hi]
    have hfro : w.frozen? ⟨g, o + i, none⟩ = false := by
      have := hf (o + i) hi
      simp only [World.frozen?, hg]
      cases fz
      simpa [Bool.and_eq_false_iff, decide_eq_false_iff_not, Nat.not_le, Nat.not_lt] using this
    have hst : (store ((⟨g, o, none⟩ : Addr).add i) v).run P w = .ok () (w.setRow g (cur.setIfInBounds (o + i) v)) := by
      rw [Addr.add_mid, run_store P w _ v _ (h1 v (by simp)), hcell]
      simp [hfro, setCell_eq_setRow w g (o + i) cur e fz v hg]
    have ih := storeCells_run (P := P) g o e fz rest (i + 1) (cur.setIfInBounds (o + i) v) (w.setRow g (cur.setIfInBounds (o + i) v)) (setRow_heap w g cur _ e _ hg) (by simp at hl ⊢; omega) (by simpa using hf) (fun x hx => h1 x (by simp [hx]))
    simp only [storeCells, Sem.run_bind, hst, Result.andThen_ok, ih, setRow_setRow]
    congr 3
    have e := list_seg_step cur.toList (o + i) v rest (by simp at hl ⊢; omega)
    simpa [Array.toList_setIfInBounds, Nat.add_assoc] using e
end Go.Proofs.YtenoecffjfcifaaDoor.Pv

-- Ninth text: operations that make or change memory of one's own.
namespace Go.Proofs.YtenoecffjfcifaaDoor.Pv
set_option linter.all false
open Go.RowKit
set_option linter.unusedVariables false

/-- An operation does, from what is known, what K asks of its answer and the blocks behind it. -/
def PopSem (P : Program) (σ : PS) (o : Oper) (K : PV → List Blk → Prop) : Prop :=
  ∀ (c : Cx) (a : Act), Rel c σ a → ∀ (next : Act → World → Prop) (Q : Exit → Act → World → Prop),
    (∀ x c' v, K x c'.S → Inv c' → Step c c' → RelV c' x v → next (a.put o.dst v) c'.w) → o.wp P a c.w next Q

theorem pop_of_run {P : Program} {σ : PS} {o : Oper} {K : PV → List Blk → Prop}
    (h : ∀ (c : Cx) (a : Act), Rel c σ a → ∃ x c' v, (execOp a.eval o).run P c.w = .ok (.value v) c'.w ∧ K x c'.S ∧ Inv c' ∧ Step c c' ∧ RelV c' x v) : PopSem P σ o K := by
  intro c a r next Q hn
  obtain ⟨x, c', v, h1, h2, h3, h4, h5⟩ := h c a r
  unfold Oper.wp
  rw [h1, Oper.upon_value]
  exact hn x c' v h2 h3 h4 h5

theorem pop_ev {P : Program} {σ : PS} {o : Oper} {K : PV → List Blk → Prop} {x : PV} (h : ev P σ o.op = some x) (hK : K x σ.S) : PopSem P σ o K :=
  pop_of_run fun c a r => by
    obtain ⟨v, h1, h2⟩ := ev_sound r h
    exact ⟨x, c, v, h1, by rw [r.S]; exact hK, r.inv, .refl c, h2⟩

theorem mk_run {P : Program} {s : Sem Value} {w w' : World} {v : Value} (h : s.run P w = .ok v w') : (do pure (.value (← s)) : Sem Next).run P w = .ok (.value v) w' := by
  rw [Sem.run_bind, h]; rfl

/-- One element's cells, as rows. -/
theorem rowsIn_one {c : Cx} {cs : List PV} {vs : Array Value} (h : RelCells c cs vs) : RowsIn c cs.length [cs] 0 vs := by
  intro i row j x hr hx
  cases i with
  | zero =>
    simp at hr
    subst hr
    have hlt : j < vs.size := by rw [h.1]; exact (List.getElem?_eq_some_iff.1 hx).1
    have hv : vs[j]? = some vs[j] := Array.getElem?_eq_getElem hlt
    exact ⟨vs[j], by simpa using hv, h.2.1 _ _ hv, h.2.2 _ _ _ hx hv⟩
  | succ i => simp at hr

/-- A new variable. -/
theorem newVar_rel {P : Program} {c : Cx} (hi : Inv c) (t : TypeId) {cs : List PV} {v : Value} (h : RelCells c cs v.cells) :
    ∃ c', (do pure (.pointer (some (← newVar t v))) : Sem Value).run P c.w = .ok (.pointer (some ⟨c.w.heap.size, 0, none⟩)) c'.w ∧ c'.S = c.S ++ [⟨c.N, true, cs.length, [cs]⟩] ∧ Inv c' ∧ Step c c' ∧ RelV c' (.ptr c.S.length c.N 0 0) (.pointer (some ⟨c.w.heap.size, 0, none⟩)) := by
  obtain ⟨h1, h2⟩ := pushBlk hi (c.w.alloc (.cells v.cells t)) ⟨c.N, true, cs.length, [cs]⟩ (some (c.w.heap.size, 0)) rfl rfl rfl (by simp) (fun b hb => heap_alloc_old c.w _ b hb) rfl
    (fun i row hr => by cases i with | zero => simp at hr; rw [hr] | succ i => simp at hr) (fun h => by cases h)
    (fun q hq => by
      cases hq
      refine ⟨Nat.le_refl _, v.cells, t, (0, 0), heap_alloc_new c.w _, by simp [h.1], rowsIn_one h, fun _ => .inl rfl⟩)
  refine ⟨_, ?_, rfl, h1, h2, .ptr _ _ _ _ _ rfl (Nat.lt_succ_self _) (fun blk hb _ => ?_)⟩
  · simp [newVar, newRow]
  · simp at hb
    subst hb
    exact ⟨by simp, (c.w.heap.size, 0), by simp, by simp, v.cells, t, (0, 0), heap_alloc_new c.w _⟩

theorem pop_alloc {P : Program} {σ : PS} {o : Oper} {K : PV → List Blk → Prop} {t : TypeId} (ho : o.op = .alloc t) {cs : List PV} (hz : zeroRow P t = some cs)
    (hK : ∀ g, K (.ptr σ.S.length g 0 0) (σ.S ++ [⟨g, true, cs.length, [cs]⟩])) : PopSem P σ o K :=
  pop_of_run fun c a r => by
    obtain ⟨z, h1, h2, _⟩ := zeroRow_run hz c
    obtain ⟨c', h3, h4, h5, h6, h7⟩ := newVar_rel (P := P) r.inv t h2
    refine ⟨_, c', _, ?_, ?_, h5, h6, h7⟩
    · simp only [execOp, ho]
      refine mk_run ?_
      simp only [Instr.alloc, Sem.run_bind, h1, Result.andThen_ok]
      exact h3
    · rw [h4, r.S]; exact hK _

theorem relCells_of_cellsPV {c : Cx} {x : PV} {v : Value} {cs : List PV} (h : cellsPV x = some cs) (hr : RelV c x v) : RelCells c cs v.cells := by
  obtain ⟨h1, h2⟩ := cellsPV_rel h hr
  refine ⟨h1, fun i u hu => ?_, fun i p u hp hu => (h2 i p u hp hu).2⟩
  have hlt : i < cs.length := by rw [← h1]; exact (Array.getElem?_eq_some_iff.1 hu).1
  exact (h2 i _ u (List.getElem?_eq_getElem hlt) hu).1

theorem pop_box {P : Program} {σ : PS} {o : Oper} {K : PV → List Blk → Prop} {t : TypeId} {x : Operand} (ho : o.op = .box t x) {cs : List PV} (hz : cellsPV (σ.get x) = some cs)
    (hK : ∀ g, K (.ptr σ.S.length g 0 0) (σ.S ++ [⟨g, true, cs.length, [cs]⟩])) : PopSem P σ o K :=
  pop_of_run fun c a r => by
    obtain ⟨c', h3, h4, h5, h6, h7⟩ := newVar_rel (P := P) r.inv t (relCells_of_cellsPV hz (r.get x))
    refine ⟨_, c', _, ?_, ?_, h5, h6, h7⟩
    · simp only [execOp, ho]
      exact mk_run h3
    · rw [h4, r.S]; exact hK _

/-- Cells laid over a row. -/
def over (row : List PV) (off : Nat) (cs : List PV) : List PV := row.take off ++ cs ++ row.drop (off + cs.length)

theorem over_get {row cs : List PV} {off j : Nat} {x : PV} (hle : off + cs.length ≤ row.length) (h : (over row off cs)[j]? = some x) :
    (off ≤ j ∧ j < off + cs.length ∧ cs[j - off]? = some x) ∨ ((j < off ∨ off + cs.length ≤ j) ∧ row[j]? = some x) := by
  unfold over at h
  rcases Nat.lt_or_ge j off with hj | hj
  · rw [List.append_assoc, List.getElem?_append_left (by simp; omega), List.getElem?_take, if_pos hj] at h
    exact .inr ⟨.inl hj, h⟩
  · rw [List.append_assoc, List.getElem?_append_right (by simp; omega), List.length_take, Nat.min_eq_left (by omega)] at h
    rcases Nat.lt_or_ge (j - off) cs.length with hk | hk
    · rw [List.getElem?_append_left hk] at h
      exact .inl ⟨hj, by omega, h⟩
    · rw [List.getElem?_append_right hk, List.getElem?_drop] at h
      refine .inr ⟨.inr (by omega), ?_⟩
      rw [← h]
      congr 1
      omega

theorem over_length {row cs : List PV} {off : Nat} (hle : off + cs.length ≤ row.length) : (over row off cs).length = row.length := by
  simp [over]; omega

theorem arr_over_get (cs : Array Value) (o : Nat) (vs : List Value) (k : Nat) (h : o + vs.length ≤ cs.size) :
    (cs.toList.take o ++ vs ++ cs.toList.drop (o + vs.length)).toArray[k]? = if o ≤ k ∧ k < o + vs.length then vs[k - o]? else cs[k]? := by
  have ht : (cs.toList.take o).length = o := by rw [List.length_take, Array.length_toList]; omega
  rw [List.getElem?_toArray]
  rcases Nat.lt_or_ge k o with hk | hk
  · rw [List.append_assoc, List.getElem?_append_left (by omega), List.getElem?_take, if_pos hk, Array.getElem?_toList, if_neg (by omega)]
  · rw [List.append_assoc, List.getElem?_append_right (by omega), ht]
    rcases Nat.lt_or_ge (k - o) vs.length with hj | hj
    · rw [List.getElem?_append_left hj, if_pos (by omega)]
    · rw [List.getElem?_append_right hj, List.getElem?_drop, Array.getElem?_toList, if_neg (by omega)]
      congr 1
      omega

theorem mul_lt_of {i k sz j : Nat} (hi : i ≠ k) (hj : j < sz) (o n' : Nat) (ho : o + n' ≤ sz) : ¬ (k * sz + o ≤ i * sz + j ∧ i * sz + j < k * sz + o + n') := by
  rintro ⟨h1, h2⟩
  rcases Nat.lt_or_gt_of_ne hi with h | h
  · have : (i + 1) * sz ≤ k * sz := Nat.mul_le_mul_right _ h
    rw [Nat.succ_mul] at this
    omega
  · have : (k + 1) * sz ≤ i * sz := Nat.mul_le_mul_right _ h
    rw [Nat.succ_mul] at this
    omega

/-- A store into a block of one's own. -/
theorem pop_store {P : Program} {σ : PS} {o : Oper} {K : PV → List Blk → Prop} {t : TypeId} {x y : Operand} (ho : o.op = .store t x y) (hd : o.dst = none) {τ g i off : Nat} {blk : Blk} {row cs : List PV} (hk : known P t = true)
    (hx : σ.get x = .ptr τ g i off) (hb : σ.S[τ]? = some blk) (hg : blk.gen = g) (hown : blk.own = true) (hrow : blk.rows[i]? = some row) (hc : cellsPV (σ.get y) = some cs)
    (hn : P.cellsOf t = cs.length) (hle : off + cs.length ≤ row.length)
    (hK : K .undef (σ.S.set τ { blk with rows := blk.rows.set i (over row off cs) })) : PopSem P σ o K := by
  intro c a r next Q hnx
  have hb' : c.S[τ]? = some blk := by rw [r.S]; exact hb
  have hB := r.inv.blk τ blk hb'
  have hi : i < blk.rows.length := (List.getElem?_eq_some_iff.1 hrow).1
  obtain ⟨p, hp⟩ : ∃ p, c.β τ = some p := by
    cases hp : c.β τ with
    | none => rw [hB.void hp] at hi; simp at hi
    | some p => exact ⟨p, rfl⟩
  obtain ⟨h1, h2⟩ := cellsPV_rel hc (r.get y)
  have hrx := r.get x
  rw [hx] at hrx
  generalize hax : a.eval x = vx at hrx
  cases hrx with
  | ptr _ _ _ _ _ hy hN hv =>
    obtain ⟨_, p', hp', rfl, hcel⟩ := hv blk hb' hg
    rw [hp] at hp'
    cases hp'
    obtain ⟨hBlen, vs, e, fz, k1, k2, k3, k4⟩ := (hB.heap p hp).cells hcel
    have hrl : row.length = blk.sz := hBlen i row hrow
    have hsz : (i + 1) * blk.sz ≤ blk.rows.length * blk.sz := Nat.mul_le_mul_right _ hi
    rw [Nat.succ_mul] at hsz
    have h1' : (a.eval y).cells.toList.length = cs.length := by simpa using h1
    have hfit : p.2 + (i * blk.sz + off) + (a.eval y).cells.toList.length ≤ vs.size := by rw [h1']; omega
    have hone : ∀ v ∈ (a.eval y).cells.toList, v.oneCell' = true := by
      intro v hv
      obtain ⟨j, hj⟩ := List.mem_iff_getElem?.1 hv
      rw [Array.getElem?_toList] at hj
      have hlt : j < cs.length := by rw [← h1]; exact (Array.getElem?_eq_some_iff.1 hj).1
      exact (h2 j _ v (List.getElem?_eq_getElem hlt) hj).1
    have hst := storeCells_run (P := P) p.1 (p.2 + (i * blk.sz + off)) e fz (a.eval y).cells.toList 0 vs c.w k1 (by simpa using hfit) (k4 hown).get hone
    simp only [Nat.add_zero] at hst
    obtain ⟨d, hd'⟩ := Option.isSome_iff_exists.1 hk
    have hrun : (execOp a.eval o).run P c.w = .ok .skip (c.w.setRow p.1 (vs.toList.take (p.2 + (i * blk.sz + off)) ++ (a.eval y).cells.toList ++ vs.toList.drop (p.2 + (i * blk.sz + off) + (a.eval y).cells.toList.length)).toArray) := by
      simp only [execOp, ho, hax, Instr.storeAt, Instr.sureAddr, storeVar, Sem.run_bind, Sem.run_pure, Result.andThen_ok, sizeOf_run hd']
      rw [hn, if_neg (by simpa using h1), hst]
      rfl
    obtain ⟨u1, u2⟩ := updBlk r.inv hb' hown (c.w.setRow p.1 (vs.toList.take (p.2 + (i * blk.sz + off)) ++ (a.eval y).cells.toList ++ vs.toList.drop (p.2 + (i * blk.sz + off) + (a.eval y).cells.toList.length)).toArray) p { blk with rows := blk.rows.set i (over row off cs) } c.N
      rfl rfl rfl (by simp) (fun b hb hne => setRow_other _ _ _ _ (hne p hp)) (fun q cs' e' fz' hq hh => by
        rw [hp] at hq
        cases hq
        rw [k1] at hh
        cases hh
        exact ⟨_, _, setRow_heap _ _ _ _ _ _ k1, by simp only [List.size_toArray, List.length_append, List.length_take, List.length_drop, Array.length_toList] at hfit ⊢; omega⟩) (.inl ⟨p, hp, rfl⟩) (Nat.le_refl _) hB.gen (fun _ => ⟨rfl, hp, rfl, by simp⟩)
      (fun k row' hr' => by
        rw [List.getElem?_set] at hr'
        split at hr'
        · cases hr'
          rw [over_length hle]
          exact hrl
        · exact hBlen k row' hr')
      ⟨_, e, fz, setRow_heap _ _ _ _ _ _ k1, by simp only [List.size_toArray, List.length_append, List.length_take, List.length_drop, Array.length_toList, List.length_set] at hfit ⊢; omega, fun k row' j z hr' hz' => by
        have hjs : j < blk.sz := by
          have : row'.length = blk.sz := by
            rw [List.getElem?_set] at hr'
            split at hr'
            · cases hr'
              rw [over_length hle]
              exact hrl
            · exact hBlen k row' hr'
          rw [← this]
          exact (List.getElem?_eq_some_iff.1 hz').1
        dsimp only at hr' ⊢
        rw [arr_over_get _ _ _ _ hfit, h1']
        rw [List.getElem?_set] at hr'
        split at hr'
        · rename_i hik
          subst hik
          cases hr'
          rcases over_get hle hz' with ⟨o1, o2, o3⟩ | ⟨o1, o2⟩
          · rw [if_pos (by omega)]
            have hlt : j - off < (a.eval y).cells.size := by rw [h1]; exact (List.getElem?_eq_some_iff.1 o3).1
            have hv := Array.getElem?_eq_getElem hlt
            obtain ⟨q1, q2⟩ := h2 _ _ _ o3 hv
            refine ⟨_, ?_, q1, q2⟩
            rw [Array.getElem?_toList, ← hv]
            congr 1
            omega
          · rw [if_neg (by omega)]
            exact k3 i row j z hrow o2
        · rename_i hik
          have := mul_lt_of (i := k) (k := i) (fun e => hik e.symm) hjs off cs.length (by omega)
          rw [if_neg (by omega)]
          exact k3 k row' j z hr' hz', (k4 hown).to (by
        simp only [List.size_toArray, List.length_append, List.length_take, List.length_drop, Array.length_toList] at hfit ⊢
        omega)⟩
    have hβ : (fun t => if t = τ then some p else c.β t) = c.β := by
      funext t
      split
      · rename_i e; rw [e]; exact hp.symm
      · rfl
    unfold Oper.wp
    rw [hrun, Oper.upon_skip]
    exact hnx .undef _ Go.undef (by rw [r.S]; exact hK) u1 u2 (.undef _)

theorem mput_none {k : ByteArray} {z : Int} : ∀ {es : List (ByteArray × Int)}, mpos k es = none → mput k z es = es ++ [(k, z)] ∧ ∀ p ∈ es, p.1 ≠ k
  | [], _ => ⟨rfl, by simp⟩
  | (s, y) :: es, h => by
    unfold mpos at h
    split at h
    · cases h
    · rename_i hk
      have h' : mpos k es = none := by simpa using h
      obtain ⟨h1, h2⟩ := mput_none (z := z) h'
      refine ⟨by simp [mput, if_neg hk, h1], fun p hp => ?_⟩
      rcases List.mem_cons.1 hp with rfl | hp
      · exact fun e => hk e.symm
      · exact h2 p hp
theorem mput_some {k : ByteArray} {z : Int} : ∀ {es : List (ByteArray × Int)} {j : Nat} {y : Int}, mpos k es = some (j, y) → mput k z es = es.set j (k, z) ∧ es[j]? = some (k, y)
  | [], _, _, h => by simp [mpos] at h
  | (s, x) :: es, j, y, h => by
    unfold mpos at h
    split at h
    · rename_i hk
      cases h
      subst hk
      exact ⟨by simp [mput], rfl⟩
    · rename_i hk
      obtain ⟨⟨j', y'⟩, h1, h2⟩ := Option.map_eq_some_iff.1 h
      cases h2
      obtain ⟨h3, h4⟩ := mput_some (z := z) h1
      exact ⟨by simp [mput, if_neg hk, h3], by simpa using h4⟩
theorem entOk_push {arr : Array MapEntry} {ck : Nat} {es : List (ByteArray × Int)} {k : ByteArray} {z : Int} (h : EntOk arr ck es) (hk : mpos k es = none) : EntOk (arr.push { key := .string k, val := .int .i64 z, born := ck }) (ck + 1) (mput k z es) := by
  obtain ⟨h1, h2⟩ := mput_none (z := z) hk
  refine ⟨Go.MapKept.stamped_push h.1 (fun x hx e => ?_), by simp [h1, h.2]⟩
  have : (x.key, x.val) ∈ es.map (fun p => (Value.string p.1, Value.int .i64 p.2)) := by rw [← h.2]; exact List.mem_map.2 ⟨x, hx, rfl⟩
  obtain ⟨p, hp, hq⟩ := List.mem_map.1 this
  simp only [Prod.mk.injEq] at hq
  rw [← hq.1] at e
  cases e
  exact h2 p hp rfl
theorem entOk_modify {arr : Array MapEntry} {ck : Nat} {es : List (ByteArray × Int)} {k : ByteArray} {z y : Int} {j : Nat} (h : EntOk arr ck es) (hk : mpos k es = some (j, y)) : EntOk (arr.modify j fun e => { e with key := .string k, val := .int .i64 z }) ck (mput k z es) ∧ ∃ e, arr[j]? = some e ∧ e.key = .string k := by
  obtain ⟨h1, h2⟩ := mput_some (z := z) hk
  have hm : ∀ i : Nat, (arr.toList.map (fun e => (e.key, e.val)))[i]? = (es.map (fun p => (Value.string p.1, Value.int .i64 p.2)))[i]? := fun i => by rw [h.2]
  have hj := hm j
  simp only [List.getElem?_map, h2, Option.map_some, Array.getElem?_toList] at hj
  obtain ⟨e, he, hq⟩ := Option.map_eq_some_iff.1 hj
  simp only [Prod.mk.injEq] at hq
  refine ⟨⟨Go.MapKept.stamped_modify h.1 _ _ (fun _ _ => rfl) (fun e' _ he' => by rw [he] at he'; cases he'; exact hq.1.symm), ?_⟩, e, he, hq.1⟩
  rw [h1]
  apply List.ext_getElem?
  intro i
  have hi := hm i
  simp only [List.getElem?_map, Array.getElem?_toList, Array.getElem?_modify, List.getElem?_set] at hi ⊢
  by_cases hij : j = i
  · subst hij
    have hlt := (List.getElem?_eq_some_iff.1 h2).1
    simp [he, hlt]
  · simp [hij, hi]
/-- A new map. -/
theorem pop_makeMap {P : Program} {σ : PS} {o : Oper} {K : PV → List Blk → Prop} {t : TypeId} (ho : o.op = .makeMap t none) (hK : ∀ g, K (.mp σ.S.length g) (σ.S ++ [⟨g, true, 0, [[.rmp []]]⟩])) : PopSem P σ o K :=
  pop_of_run fun c a r => by
    obtain ⟨h1, h2⟩ := pushBlk0 r.inv (c.w.alloc (.map #[] 0)) ⟨c.N, true, 0, [[.rmp []]]⟩ (some (c.w.heap.size, 0)) rfl rfl rfl (by simp) (fun b hb => heap_alloc_old c.w _ b hb) rfl (fun h => by cases h)
      (fun q hq => by
        cases hq
        exact ⟨Nat.le_refl _, .inr ⟨rfl, .inl ⟨[], #[], 0, rfl, heap_alloc_new c.w _, Go.MapKept.stamped_empty 0, rfl⟩⟩⟩)
    refine ⟨_, _, .map (some c.w.heap.size), ?_, by simp only [r.S]; exact hK _, h1, h2, .mp _ _ _ rfl (Nat.lt_succ_self _) (fun blk hb _ => ?_)⟩
    · simp only [execOp, ho]
      refine mk_run ?_
      rfl
    · simp only [← r.S] at hb
      rw [List.getElem?_append_right (Nat.le_refl _), Nat.sub_self] at hb
      exact ⟨(c.w.heap.size, 0), by simp [r.S], rfl⟩
/-- An entry of a map of one's own. -/
theorem pop_mapUpdate {P : Program} {σ : PS} {o : Oper} {K : PV → List Blk → Prop} {t kt et : TypeId} {m k v : Operand} {τ g : Nat} {es : List (ByteArray × Int)} {s : ByteArray} {z : Int} (ho : o.op = .mapUpdate t m k v) (hd : o.dst = none) (hu : P.underlying t = some (.map kt et)) (hk : P.underlying kt = some .string)
    (hm : σ.get m = .mp τ g) (hb : σ.S[τ]? = some ⟨g, true, 0, [[.rmp es]]⟩) (hkv : σ.get k = .v (.string s)) (hv : σ.get v = .v (.int .i64 z)) (hK : K .undef (σ.S.set τ ⟨g, true, 0, [[.rmp (mput s z es)]]⟩)) : PopSem P σ o K := by
  intro c a r next Q hnx
  have hb' : c.S[τ]? = some ⟨g, true, 0, [[.rmp es]]⟩ := by rw [r.S]; exact hb
  have hB := r.inv.blk τ _ hb'
  have hrm := r.get m
  have hrk := r.get k
  have hrv := r.get v
  rw [hm] at hrm
  rw [hkv] at hrk
  rw [hv] at hrv
  generalize ham : a.eval m = vm at hrm
  generalize hak : a.eval k = vk at hrk
  generalize hav : a.eval v = vv at hrv
  cases hrk
  cases hrv
  cases hrm with
  | mp _ _ _ hy hN hvm =>
    obtain ⟨p, hp, rfl⟩ := hvm _ hb' rfl
    rcases hB.heap p hp with ⟨hl, _⟩ | ⟨_, ho2⟩
    · have := hl 0 _ rfl
      simp at this
    · obtain ⟨es2, arr, ck, h1, h2, h3⟩ := ObjOk.asMap ho2
      simp only [List.cons.injEq, PV.rmp.injEq, and_true] at h1
      subst h1
      obtain ⟨arr', ck', hrun, hent⟩ : ∃ arr' ck', (execOp a.eval o).run P c.w = .ok .skip { c.w with heap := c.w.heap.setIfInBounds p.1 (.map arr' ck') } ∧ EntOk arr' ck' (mput s z es) := by
        have hf := findNow_str s arr.toList es 0 h3.2
        have hck := Go.MapKept.run_checkKey (P := P) (w := c.w) hk (show Go.MapKept.IsKey .string (.string s) from trivial)
        cases hpos : mpos s es with
        | none =>
          rw [hpos] at hf
          refine ⟨_, _, ?_, entOk_push h3 hpos⟩
          simp [execOp, ho, ham, hak, hav, Instr.mapUpdate, run_underlying hu, Go.MapKept.run_getObj_map h2, hck, Go.MapKept.run_findKey hk hf, Go.MapKept.run_setObj_map _ h2, Result.andThen]
        | some q =>
          obtain ⟨j, y⟩ := q
          rw [hpos] at hf
          obtain ⟨k1, e, k2, k3⟩ := entOk_modify (z := z) h3 hpos
          refine ⟨_, _, ?_, k1⟩
          simp [execOp, ho, ham, hak, hav, Instr.mapUpdate, run_underlying hu, Go.MapKept.run_getObj_map h2, hck, Go.MapKept.run_findKey hk hf, k2, k3, Go.MapKept.run_keyThatStays (d := .string) (show Go.MapKept.IsKey .string (.string s) from trivial), Go.MapKept.run_setObj_map _ h2, Result.andThen]
      obtain ⟨g1, g2⟩ := Go.MapKept.heap_set (o' := .map arr' ck') h2
      obtain ⟨u1, u2⟩ := updBlk0 r.inv hb' rfl { c.w with heap := c.w.heap.setIfInBounds p.1 (.map arr' ck') } p ⟨g, true, 0, [[.rmp (mput s z es)]]⟩ c.N rfl rfl rfl (by simp)
        (fun b hb hne => g2 b (hne p hp)) (fun q cs e fz hq hh => by
          rw [hp] at hq
          cases hq
          rw [h2] at hh
          cases hh) (.inl ⟨p, hp, rfl⟩) (Nat.le_refl _) hB.gen (fun _ => ⟨rfl, hp, rfl, rfl⟩) (.inr ⟨rfl, .inl ⟨_, arr', ck', rfl, g1, hent⟩⟩)
      unfold Oper.wp
      rw [hrun, Oper.upon_skip]
      exact hnx .undef _ Go.undef (by rw [r.S]; exact hK) u1 u2 (.undef _)
end Go.Proofs.YtenoecffjfcifaaDoor.Pv

