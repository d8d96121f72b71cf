-- Eighteenth text: operations that make memory, and calls, each by a law of its own.
import Derived.Test.YtaaealngifkaeaaPvQ
namespace Go.Proofs.Ytaaealngifkaeaa.Pv
set_option linter.all false
open Go.RowKit
set_option linter.unusedVariables false

/-- Does a value hold no memory at all? -/
inductive PV.Plain : PV → Prop
  | v (x : Value) : PV.Plain (.v x)
  | agg {cs : List PV} (h : ∀ x ∈ cs, PV.Plain x) : PV.Plain (.agg cs)
  | tup {cs : List PV} (h : ∀ x ∈ cs, PV.Plain x) : PV.Plain (.tup cs)
theorem RelV.plain {c c' : Cx} {x : PV} {v : Value} (hp : x.Plain) (h : RelV c x v) : RelV c' x v := by
  induction h with
  | v x => exact .v x
  | undef y => exact .undef y
  | agg cs vs hs h1 hr ih => cases hp with | agg hp => exact .agg cs vs hs h1 (fun i x v k1 k2 => ih i x v k1 k2 (hp x (List.mem_of_getElem? k1)))
  | tup cs vs hs hr ih => cases hp with | tup hp => exact .tup cs vs hs (fun i x v k1 k2 => ih i x v k1 k2 (hp x (List.mem_of_getElem? k1)))
  | ro => cases hp
  | rp => cases hp
  | vw => cases hp
  | ptr => cases hp
  | fn => cases hp
  | iface => cases hp

/-- A slice of one's own is lent: it is read as a slice that is only read. T: the blocks that are lent. -/
inductive Lend (S : List Blk) (T : List Nat) : PV → PV → Prop
  | same {x : PV} (h : x.Pure) : Lend S T x x
  | vw {τ g off len : Nat} {blk : Blk} {rows : List (List PV)} (hT : τ ∈ T) (hb : S[τ]? = some blk) (hg : blk.gen = g) (hr : (blk.rows.drop off).take len = rows) (hp : ∀ row ∈ rows, ∀ x ∈ row, PV.Pure x) : Lend S T (.vw τ g off len) (.ro blk.sz false rows)
  | agg {cs ds : List PV} (hl : cs.length = ds.length) (h : ∀ (i : Nat) (x y : PV), cs[i]? = some x → ds[i]? = some y → Lend S T x y) : Lend S T (.agg cs) (.agg ds)
  | nil {sz : Nat} {b : Bool} : Lend S T (.v (.slice none 0 0)) (.ro sz b [])

theorem Lend.pure {S : List Blk} {T : List Nat} {x y : PV} (h : Lend S T x y) : y.Pure := by
  induction h with
  | same h => exact h
  | vw hT hb hg hr hp => exact .ro hp
  | nil => exact .ro (by simp)
  | agg hl h ih =>
    refine .agg fun y hy => ?_
    obtain ⟨i, hi⟩ := List.mem_iff_getElem?.1 hy
    have hlt := (List.getElem?_eq_some_iff.1 hi).1
    exact ih i _ y (List.getElem?_eq_getElem (by omega)) hi

/-- The callee's place. -/
def Cx.lend (c : Cx) (T : List Nat) : Cx := { c with S := [], G := fun b => c.X b ∧ ¬ ∃ τ p blk, τ ∈ T ∧ c.S[τ]? = some blk ∧ c.β τ = some p ∧ p.1 = b }

theorem Lend.rel {c : Cx} (hi : Inv c) {T : List Nat} {x y : PV} (h : Lend c.S T x y) {v : Value} (hr : RelV c x v) : RelV (c.lend T) y v := by
  have hX : ∀ b, ¬ c.X b → ¬ (c.lend T).X b := by
    rintro b hb (h1 | ⟨τ, blk, p, h1, _⟩)
    · exact hb h1.1
    · simp [Cx.lend] at h1
  induction h generalizing v with
  | same h => exact hr.pure h hX (fun a u _ h => h)
  | vw hT hb hg hrw hp =>
    rename_i τ g off len blk rows
    subst hrw
    cases hr with
    | vw _ _ _ _ _ hy hN hv =>
      obtain ⟨h1, a, cap, rfl, h2, h3, h4⟩ := hv blk hb hg
      have hlen : ((blk.rows.drop off).take len).length = len := by simp; omega
      have hB := hi.blk τ blk hb
      have key : ∀ (vals : Nat → Nat → Value), (∀ ad : Addr, a = some ad → ∀ (i : Nat) (row : List PV) (j : Nat) (x : PV), ((blk.rows.drop off).take len)[i]? = some row → row[j]? = some x →
          ad.spot = none ∧ ¬ (c.lend T).X ad.block ∧ c.w.cell? ⟨ad.block, ad.off + (i * blk.sz + j), none⟩ = some (vals i j) ∧ (vals i j).oneCell' = true) →
          (∀ (i : Nat) (row : List PV) (j : Nat) (x : PV), ((blk.rows.drop off).take len)[i]? = some row → row[j]? = some x → RelV (c.lend T) x (vals i j)) → (a = none → (blk.rows.drop off).take len = []) → RelV (c.lend T) (.ro blk.sz false ((blk.rows.drop off).take len)) (.slice a len cap) := by
        intro vals k1 k2 k3
        have := RelV.ro (c := c.lend T) blk.sz false ((blk.rows.drop off).take len) a cap vals (by rw [hlen]; exact h2) h3 (fun h => by cases h) k3 (fun i row hr => hB.len _ row (drop_take_get hr).1) k1
          (fun i row j x hr hx => hp row (List.mem_of_getElem? hr) x (List.mem_of_getElem? hx)) k2
        rw [hlen] at this
        exact this
      rcases h4 with ⟨p, hpp, rfl, _⟩ | ⟨h4, rfl⟩
      · obtain ⟨cs, e', fz, k1, k2, k3, k4⟩ := hB.heap p hpp
        have get : ∀ (i : Nat) (row : List PV) (j : Nat) (x : PV), ((blk.rows.drop off).take len)[i]? = some row → row[j]? = some x → ∃ v, c.w.cell? ⟨p.1, p.2 + off * blk.sz + (i * blk.sz + j), none⟩ = some v ∧ v.oneCell' = true ∧ RelV c x v := by
          intro i row j x hr hx
          obtain ⟨v, v1, v2, v3⟩ := k3 _ row j x (drop_take_get hr).1 hx
          refine ⟨v, ?_, v2, v3⟩
          rw [cell_of k1, ← v1, Nat.add_mul]
          congr 1
          omega
        let vals : Nat → Nat → Value := fun i j => (c.w.cell? ⟨p.1, p.2 + off * blk.sz + (i * blk.sz + j), none⟩).getD default
        refine key vals (fun ad ha i row j x hr hx => ?_) (fun i row j x hr hx => ?_) (fun h => by cases h)
        · cases ha
          obtain ⟨v, v1, v2, v3⟩ := get i row j x hr hx
          refine ⟨rfl, ?_, by simp only [vals, v1]; rfl, by simp only [vals, v1]; exact v2⟩
          rintro (h | ⟨t, b, q, h, _⟩)
          · exact h.2 ⟨τ, p, blk, hT, hb, hpp, rfl⟩
          · simp [Cx.lend] at h
        · obtain ⟨v, v1, v2, v3⟩ := get i row j x hr hx
          simp only [vals, v1]
          exact v3.pure (hp row (List.mem_of_getElem? hr) x (List.mem_of_getElem? hx)) hX (fun a u _ h => h)
      · have hnil : (blk.rows.drop off).take len = [] := List.eq_nil_of_length_eq_zero (by rw [hlen]; exact h4)
        exact key (fun _ _ => default) (fun ad _ i row j x hr => by rw [hnil] at hr; simp at hr) (fun i row j x hr => by rw [hnil] at hr; simp at hr) (fun _ => hnil)
  | nil =>
    cases hr
    rename_i sz b
    exact .ro sz b [] none 0 (fun _ _ => .nilIface) (Nat.le_refl _) (by simp) (by simp) (by simp) (by simp) (by simp) (by simp) (by simp)
  | agg hl h ih =>
    cases hr with
    | agg _ vs hs h1 hr =>
      refine .agg _ _ (hs.trans hl) h1 (fun i y v hy hv => ?_)
      rename_i cs ds
      have hlt := (List.getElem?_eq_some_iff.1 hy).1
      have hx : cs[i]? = some (cs[i]'(by omega)) := List.getElem?_eq_getElem _
      exact ih i _ y hx hy (hr i _ v hx hv)

/-- A call of pure values, whose arguments may be slices of one's own, lent. -/
theorem PCall.lent {P : Program} {f : FuncId} {as args : List PV} {r : PV} (h : PCall P f as r) {S : List Blk} (T : List Nat) (hl : args.length = as.length) (ha : ∀ (i : Nat) (x y : PV), args[i]? = some x → as[i]? = some y → Lend S T x y)
    (hr : r.Plain ∨ ∀ τ ∈ T, ∀ blk, S[τ]? = some blk → blk.own = false) : GCall P f args S fun x S' => x = r ∧ S' = S := by
  intro c vals hi hs hlen hv
  obtain ⟨hp, hpr, hc⟩ := h
  subst hs
  have hi1 : Inv (c.lend T) := ⟨fun τ blk h => by simp [Cx.lend] at h, fun τ blk p h => by simp [Cx.lend] at h, fun τ τ' b b' p p' h => by simp [Cx.lend] at h, fun b hb => by
    rcases hb.1 with hb | hb
    · exact hi.gLt b hb
    · exact Cx.Own.lt hi hb⟩
  refine (hc (c.lend T) vals hi1 rfl (hlen.trans hl) (fun i y v h1 h2 => ?_)).mono ?_
  · have hlt := (List.getElem?_eq_some_iff.1 h1).1
    have hx : args[i]? = some (args[i]'(by omega)) := List.getElem?_eq_getElem _
    exact (ha i _ y hx h1).rel hi (hv i _ v hx h2)
  rintro e w' ⟨v, x, c', rfl, rfl, rfl, hi', hst, hrr⟩
  have hno : ∀ b, ¬ (c.lend T).Own b := fun b ⟨τ, blk, p, h1, _⟩ => by simp [Cx.lend] at h1
  have hall : ∀ b, b < c.w.heap.size → c'.w.heap[b]? = c.w.heap[b]? := fun b hb => hst.blocks b hb (hno b)
  let c2 : Cx := { c with w := c'.w }
  have hst2 : Step c c2 := ⟨rfl, hst.os, hst.tape, hst.output, hst.size, Nat.le_refl _, fun b hb _ => hall b hb, fun τ blk h _ => ⟨blk, h, rfl, rfl, rfl, rfl⟩, fun b h => .inl h, fun b cs e fz h => ⟨cs, fz, by rw [hall b (Array.getElem?_eq_some_iff.1 h).1]; exact h, rfl⟩⟩
  have hi2 : Inv c2 := ⟨fun τ blk h => by
    have hB := hi.blk τ blk h
    exact ⟨hB.gen, hB.len, hB.void, fun p hp => by
      obtain ⟨cs, e, fz, k1, k2, k3, k4⟩ := hB.heap p hp
      exact ⟨cs, e, fz, by rw [hall _ (Array.getElem?_eq_some_iff.1 k1).1]; exact k1, k2, fun i row j x r1 r2 => by
        obtain ⟨v, v1, v2, v3⟩ := k3 i row j x r1 r2
        exact ⟨v, v1, v2, v3.step hst2⟩, k4⟩⟩, hi.notG, hi.inj, fun b hb => Nat.lt_of_lt_of_le (hi.gLt b hb) hst.size⟩
  refine ⟨v, x, c2, rfl, rfl, ⟨rfl, rfl⟩, hi2, hst2, ?_⟩
  rcases hr with hr | hr
  · exact hrr.plain hr
  · refine hrr.pure hpr (fun b hb h => hb ?_) (fun a u _ h => h)
    have hX : c.X b := h
    refine .inl ?_
    rw [hst.G]
    refine ⟨hX, ?_⟩
    rintro ⟨τ, p, blk, hT, hbk, hp, rfl⟩
    have hown := hr τ hT blk hbk
    rcases hX with h1 | ⟨t, b, q, h1, h2, h3, h4⟩
    · exact hi.notG τ blk p hbk hp h1
    · have := hi.inj t τ b blk q p h1 hbk h2 h3 hp h4
      subst this
      rw [hbk] at h1
      cases h1
      rw [hown] at h2
      cases h2

/-- A function that has a body. -/
class FnOk (P : Program) (f : FuncId) : Prop where
  h : ∃ fn, P.funcs[f]? = some fn ∧ fn.body.isSome = true ∧ (fn.name == "runtime.NumGoroutine") = false

section
variable {P : Program} {ops : List Oper} {Q : PS → Prop} {rest : List Oper} {n : Nat} {tm : List (Nat × PV)} {S S' : List Blk} {d : Tmp} {ty : TypeId} {pos : String} {af : Array Edge} {t tx e : TypeId} {x y s : Operand}

theorem pops_one {o : Oper} {σ : PS} (hg : o.guard = none) (h : PopSem P σ o fun x S' => Pops P ops Q rest (σ.put o.dst x S')) : Pops P ops Q (o :: rest) σ := by
  unfold Pops
  rw [hg]
  exact h

theorem ps_alloc {z : List PV} [hz : Zer P t z] {m sz : Nat} {S' : Nat → List Blk} (k : ∀ g, Pops P ops Q rest ⟨n, (d, .ptr m g 0 0) :: tm, S' g⟩) (hm : S.length = m := by first | (simp only [List.length_cons, List.length_nil, Nat.reduceAdd, Nat.zero_add]; exact rfl) | exact rfl) (hs : z.length = sz := by first | (simp only [List.length_cons, List.length_nil, Nat.reduceAdd, Nat.zero_add]; exact rfl) | exact rfl) (hS : ∀ g, S ++ [⟨g, true, sz, [z]⟩] = S' g := by intro g_; first | (simp only [List.cons_append, List.nil_append]; exact rfl) | exact rfl) :
    Pops P ops Q (⟨some d, .alloc t, ty, pos, af, none⟩ :: rest) ⟨n, tm, S⟩ :=
  pops_one rfl (pop_alloc rfl hz.h fun g => by subst hm hs; rw [hS g]; exact k g)
theorem ps_box {c : List PV} {m sz : Nat} {S' : Nat → List Blk} (k : ∀ g, Pops P ops Q rest ⟨n, (d, .ptr m g 0 0) :: tm, S' g⟩) (hc : cellsPV (PS.get ⟨n, tm, S⟩ x) = some c := by ((conv => lhs; whnf) <;> fail "no")) (hm : S.length = m := by first | (simp only [List.length_cons, List.length_nil, Nat.reduceAdd, Nat.zero_add]; exact rfl) | exact rfl) (hs : c.length = sz := by first | (simp only [List.length_cons, List.length_nil, Nat.reduceAdd, Nat.zero_add]; exact rfl) | exact rfl) (hS : ∀ g, S ++ [⟨g, true, sz, [c]⟩] = S' g := by intro g_; first | (simp only [List.cons_append, List.nil_append]; exact rfl) | exact rfl) :
    Pops P ops Q (⟨some d, .box t x, ty, pos, af, none⟩ :: rest) ⟨n, tm, S⟩ :=
  pops_one rfl (pop_box rfl hc fun g => by subst hm hs; rw [hS g]; exact k g)
theorem ps_store {sz : Nat} [hc : Cel P t sz] {bb : Bool} [ha : AggT P t bb] {τ g i off : Nat} {blk : Blk} {row cs row' : List PV} {py : PV} (k : Pops P ops Q rest ⟨n, tm, S'⟩) (hx : PS.get ⟨n, tm, S⟩ x = .ptr τ g i off := by ((conv => lhs; whnf) <;> fail "no")) (hb : S[τ]? = some blk := by first | ((conv => lhs; whnf) <;> fail "no") | assumption) (hg : blk.gen = g := by rfl) (ho : blk.own = true := by rfl)
    (hr : blk.rows[i]? = some row := by first | ((conv => lhs; whnf) <;> fail "no") | exact ints_get _ _ _ (by omega) | assumption) (hy : PS.get ⟨n, tm, S⟩ y = py := by ((conv => lhs; whnf) <;> fail "no")) (hv : cellsPV py = some cs := by ((conv => lhs; whnf) <;> fail "no")) (hn : sz = cs.length := by rfl) (hle : off + cs.length ≤ row.length := by first | decide | (simp only [List.length_cons, List.length_nil]; omega) | omega) (hov : over row off cs = row' := by first | (simp only [over, List.take_zero, List.take_succ_cons, List.drop_succ_cons, List.drop_zero, List.nil_append, List.cons_append, List.length_cons, List.length_nil, Nat.reduceAdd, Nat.zero_add, List.drop_nil, List.append_nil]; exact rfl) | exact rfl) (hS : S.set τ { blk with rows := blk.rows.set i row' } = S' := by first | (simp only [List.set_cons_zero, List.set_cons_succ]; exact rfl) | exact rfl) :
    Pops P ops Q (⟨none, .store t x y, ty, pos, af, none⟩ :: rest) ⟨n, tm, S⟩ :=
  pops_one rfl (pop_store rfl rfl ha.h.2 hx hb hg ho hr (by rw [hy]; exact hv) (by rw [hc.h, hn]) hle (by subst hov hS; exact k))
theorem ps_seti {k0 : IntKind} {l : List Int} {b : Int} [hc : Cel P t 1] {bb : Bool} [ha : AggT P t bb] {τ g i gg : Nat} (k : Pops P ops Q rest ⟨n, tm, S'⟩) (hx : PS.get ⟨n, tm, S⟩ x = .ptr τ g i 0 := by ((conv => lhs; whnf) <;> fail "no")) (hb : S[τ]? = some ⟨gg, true, 1, ints k0 l⟩ := by first | ((conv => lhs; whnf) <;> fail "no") | exact rfl | assumption) (hg : gg = g := by rfl)
    (hi : i < l.length := by omega) (hv : PS.get ⟨n, tm, S⟩ y = .v (.int k0 b) := by ((conv => lhs; whnf) <;> fail "no")) (hS : S.set τ ⟨gg, true, 1, ints k0 (l.set i b)⟩ = S' := by first | (simp only [List.set_cons_zero, List.set_cons_succ]; exact rfl) | exact rfl) :
    Pops P ops Q (⟨none, .store t x y, ty, pos, af, none⟩ :: rest) ⟨n, tm, S⟩ :=
  ps_store (P := P) (sz := 1) (bb := bb) (row := [.v (.int k0 (l.getD i 0))]) (cs := [.v (.int k0 b)]) (row' := [.v (.int k0 b)]) k hx hb hg rfl (ints_get k0 l i hi) hv rfl rfl (by simp) rfl (by rw [← hS, ← ints_set])

theorem srcRows_ints {kk : IntKind} {l : List Int} {τ g gg : Nat} {o : Bool} (hb : S[τ]? = some ⟨gg, o, 1, ints kk l⟩) (hg : gg = g) : srcRows S 1 (.vw τ g 0 l.length) = some (ints kk l) := by
  subst hg
  have : (ints kk l).take l.length = ints kk l := by rw [← ints_length kk l, List.take_length]
  simp [srcRows, hb, this, ints_length]
theorem ps_app_vw {z : List PV} {sz by_ : Nat} [ht : Und P t (.slice e)] [hz : Zer P e z] [hc : Cel P e sz] [hby : Byt P e by_] {τ g gg len m : Nat} {rows0 rows rows' : List (List PV)} {S' : Nat → List Blk} (k : ∀ g', Pops P ops Q rest ⟨n, (d, .vw τ g' 0 m) :: tm, S' g'⟩)
    (hs : PS.get ⟨n, tm, S⟩ s = .vw τ g 0 len := by ((conv => lhs; whnf) <;> fail "no")) (hb : S[τ]? = some ⟨gg, true, sz, rows0⟩ := by first | ((conv => lhs; whnf) <;> fail "no") | exact rfl | assumption) (hg : gg = g := by rfl) (hlen : len = rows0.length := by first | exact ints_length _ _ | exact (ints_length _ _).symm | (simp only [ints_length, List.length_map, List.length_set, List.length_append, List.length_cons, List.length_nil, Nat.reduceAdd, Nat.zero_add, Nat.add_zero] <;> first | exact rfl | omega) | exact rfl | omega) (hsrc : srcRows S sz (PS.get ⟨n, tm, S⟩ x) = some rows := by first | (simp only [PS.get, look, ↓reduceIte, Nat.reduceEqDiff, reduceCtorEq, srcRows, List.getElem?_cons_zero, List.getElem?_cons_succ, and_self, List.drop_zero, List.take_succ_cons, List.take_zero, List.take_nil]; exact rfl) | exact rfl) (hk : srcKind P tx (PS.get ⟨n, tm, S⟩ x) = true := by rfl) (hm : len + rows.length = m := by first | exact ints_length _ _ | exact (ints_length _ _).symm | (simp only [ints_length, List.length_map, List.length_set, List.length_append, List.length_cons, List.length_nil, Nat.reduceAdd, Nat.zero_add, Nat.add_zero] <;> first | exact rfl | omega) | exact rfl | omega) (hrows : rows0 ++ rows = rows' := by first | exact ints_snoc _ _ _ | exact ints_append _ _ _ | (simp only [List.nil_append, List.cons_append, List.append_nil]; exact rfl) | exact rfl)
    (h63 : m ≤ maxLen := by (simp only [maxLen]; omega)) (hbt : m * by_ ≤ 140737488355328 := by omega) (hS : ∀ g', S.set τ ⟨g', true, sz, rows'⟩ = S' g' := by intro g_; first | (simp only [List.set_cons_zero, List.set_cons_succ]; exact rfl) | exact rfl) (hzl : z.length = sz := by rfl) (hpos : 0 < sz := by decide) :
    Pops P ops Q (⟨some d, .call ⟨.builtin .append, #[s, x], #[t, tx]⟩, ty, pos, af, none⟩ :: rest) ⟨n, tm, S⟩ := by
  subst hg hm hrows
  refine pops_one rfl (pop_append rfl ht.h hz.h sz hc.h hzl hpos hk hsrc (by rw [hs]; exact h63) (by rw [hs, hby.h]; exact hbt) fun g' => ?_)
  have : appRes S sz (PS.get ⟨n, tm, S⟩ s) rows g' = some (.vw τ g' 0 (len + rows.length), S' g') := by
    rw [hs, ← hS g']
    simp only [appRes, hb, hlen, Nat.zero_add, and_self, if_true, List.drop_zero]
  rw [this]
  exact k g'
theorem ps_app_nil {z : List PV} {sz by_ : Nat} [ht : Und P t (.slice e)] [hz : Zer P e z] [hc : Cel P e sz] [hby : Byt P e by_] {m τ : Nat} {rows : List (List PV)} {S' : Nat → List Blk} (k : ∀ g', Pops P ops Q rest ⟨n, (d, .vw τ g' 0 m) :: tm, S' g'⟩)
    (hs : PS.get ⟨n, tm, S⟩ s = .v (.slice none 0 0) := by ((conv => lhs; whnf) <;> fail "no")) (hsrc : srcRows S sz (PS.get ⟨n, tm, S⟩ x) = some rows := by first | (simp only [PS.get, look, ↓reduceIte, Nat.reduceEqDiff, reduceCtorEq, srcRows, List.getElem?_cons_zero, List.getElem?_cons_succ, and_self, List.drop_zero, List.take_succ_cons, List.take_zero, List.take_nil]; exact rfl) | exact rfl) (hk : srcKind P tx (PS.get ⟨n, tm, S⟩ x) = true := by rfl) (hm : rows.length = m := by first | exact ints_length _ _ | exact (ints_length _ _).symm | (simp only [ints_length, List.length_map, List.length_set, List.length_append, List.length_cons, List.length_nil, Nat.reduceAdd, Nat.zero_add, Nat.add_zero] <;> first | exact rfl | omega) | exact rfl | omega) (hτ : S.length = τ := by first | (simp only [List.length_cons, List.length_nil, Nat.reduceAdd, Nat.zero_add]; exact rfl) | exact rfl)
    (h63 : m ≤ maxLen := by (simp only [maxLen]; omega)) (hbt : m * by_ ≤ 140737488355328 := by omega) (hS : ∀ g', S ++ [⟨g', true, sz, rows⟩] = S' g' := by intro g_; first | (simp only [List.cons_append, List.nil_append]; exact rfl) | exact rfl) (hzl : z.length = sz := by rfl) (hpos : 0 < sz := by decide) :
    Pops P ops Q (⟨some d, .call ⟨.builtin .append, #[s, x], #[t, tx]⟩, ty, pos, af, none⟩ :: rest) ⟨n, tm, S⟩ := by
  subst hm hτ
  refine pops_one rfl (pop_append rfl ht.h hz.h sz hc.h hzl hpos hk hsrc (by rw [hs]; simpa [appLen] using h63) (by rw [hs, hby.h]; simpa [appLen] using hbt) fun g' => ?_)
  have : appRes S sz (PS.get ⟨n, tm, S⟩ s) rows g' = some (.vw S.length g' 0 rows.length, S' g') := by
    rw [hs, ← hS g']
    rfl
  rw [this]
  exact k g'
theorem ps_app_ro {z : List PV} {sz by_ : Nat} [ht : Und P t (.slice e)] [hz : Zer P e z] [hc : Cel P e sz] [hby : Byt P e by_] {m τ : Nat} {rows0 rows rows' : List (List PV)} {S' : Nat → List Blk} (k : ∀ g', Pops P ops Q rest ⟨n, (d, .vw τ g' 0 m) :: tm, S' g'⟩)
    (hs : PS.get ⟨n, tm, S⟩ s = .ro sz true rows0 := by ((conv => lhs; whnf) <;> fail "no")) (hor : rows0 = [] ∨ 0 < rows.length := by first | exact .inl rfl | (right; (first | exact ints_length _ _ | exact (ints_length _ _).symm | (simp only [ints_length, List.length_map, List.length_set, List.length_append, List.length_cons, List.length_nil, Nat.reduceAdd, Nat.zero_add, Nat.add_zero] <;> first | exact rfl | omega) | exact rfl | omega))) (hsrc : srcRows S sz (PS.get ⟨n, tm, S⟩ x) = some rows := by first | (simp only [PS.get, look, ↓reduceIte, Nat.reduceEqDiff, reduceCtorEq, srcRows, List.getElem?_cons_zero, List.getElem?_cons_succ, and_self, List.drop_zero, List.take_succ_cons, List.take_zero, List.take_nil]; exact rfl) | exact rfl) (hk : srcKind P tx (PS.get ⟨n, tm, S⟩ x) = true := by rfl) (hm : rows0.length + rows.length = m := by first | exact ints_length _ _ | exact (ints_length _ _).symm | (simp only [ints_length, List.length_map, List.length_set, List.length_append, List.length_cons, List.length_nil, Nat.reduceAdd, Nat.zero_add, Nat.add_zero] <;> first | exact rfl | omega) | exact rfl | omega) (hrows : rows0 ++ rows = rows' := by first | exact ints_snoc _ _ _ | exact ints_append _ _ _ | (simp only [List.nil_append, List.cons_append, List.append_nil]; exact rfl) | exact rfl) (hτ : S.length = τ := by first | (simp only [List.length_cons, List.length_nil, Nat.reduceAdd, Nat.zero_add]; exact rfl) | exact rfl)
    (h63 : m ≤ maxLen := by (simp only [maxLen]; omega)) (hbt : m * by_ ≤ 140737488355328 := by omega) (hS : ∀ g', S ++ [⟨g', true, sz, rows'⟩] = S' g' := by intro g_; first | (simp only [List.cons_append, List.nil_append]; exact rfl) | exact rfl) (hzl : z.length = sz := by rfl) (hpos : 0 < sz := by decide) :
    Pops P ops Q (⟨some d, .call ⟨.builtin .append, #[s, x], #[t, tx]⟩, ty, pos, af, none⟩ :: rest) ⟨n, tm, S⟩ := by
  subst hm hτ hrows
  refine pops_one rfl (pop_append rfl ht.h hz.h sz hc.h hzl hpos hk hsrc (by rw [hs]; exact h63) (by rw [hs, hby.h]; exact hbt) fun g' => ?_)
  have : appRes S sz (PS.get ⟨n, tm, S⟩ s) rows g' = some (.vw S.length g' 0 (rows0.length + rows.length), S' g') := by
    rw [hs, ← hS g']
    simp only [appRes, true_and, if_pos hor]
  rw [this]
  exact k g'

/-- A call of a function of pure values. -/
theorem ps_pcall {f : FuncId} [hf : FnOk P f] {args : Array Operand} {ats : Array TypeId} {as : List PV} {r : PV} (h : PCall P f as r) (k : Pops P ops Q rest ⟨n, (d, r) :: tm, S⟩) (ha : args.toList.map (PS.get ⟨n, tm, S⟩) = as := by first | rfl | (simp only [List.map_cons, List.map_nil, PS.get, look, ↓reduceIte, Nat.reduceEqDiff, reduceCtorEq]; exact rfl)) :
    Pops P ops Q (⟨some d, .call ⟨.value (.func f), args, ats⟩, ty, pos, af, none⟩ :: rest) ⟨n, tm, S⟩ := by
  obtain ⟨fn, h1, h2, h3⟩ := hf.h
  refine pops_one rfl (pop_call rfl rfl rfl h1 h2 h3 (R := fun x S' => x = r ∧ S' = S) ?_ fun x S' ⟨e1, e2⟩ => by subst e1 e2; exact k)
  simp only [List.nil_append, List.append_nil, ha]
  exact h.any S
/-- The same, slices of one's own lent. -/
theorem ps_lcall {f : FuncId} [hf : FnOk P f] {args : Array Operand} {ats : Array TypeId} {as bs : List PV} {r : PV} (h : PCall P f bs r) (T : List Nat) (hl : as.length = bs.length) (hb : ∀ (i : Nat) (x y : PV), as[i]? = some x → bs[i]? = some y → Lend S T x y) (hr : r.Plain ∨ ∀ τ ∈ T, ∀ blk, S[τ]? = some blk → blk.own = false) (k : Pops P ops Q rest ⟨n, (d, r) :: tm, S⟩) (ha : args.toList.map (PS.get ⟨n, tm, S⟩) = as := by first | rfl | (simp only [List.map_cons, List.map_nil, PS.get, look, ↓reduceIte, Nat.reduceEqDiff, reduceCtorEq]; exact rfl)) :
    Pops P ops Q (⟨some d, .call ⟨.value (.func f), args, ats⟩, ty, pos, af, none⟩ :: rest) ⟨n, tm, S⟩ := by
  obtain ⟨fn, h1, h2, h3⟩ := hf.h
  refine pops_one rfl (pop_call rfl rfl rfl h1 h2 h3 (R := fun x S' => x = r ∧ S' = S) ?_ fun x S' ⟨e1, e2⟩ => by subst e1 e2; exact k)
  simp only [List.nil_append, List.append_nil, ha]
  exact h.lent T hl hb hr
/-- A call that may change blocks. -/
theorem ps_gcall {f : FuncId} [hf : FnOk P f] {args : Array Operand} {ats : Array TypeId} {as : List PV} {R : PV → List Blk → Prop} (h : GCall P f as S R) (k : ∀ x S', R x S' → Pops P ops Q rest ⟨n, (d, x) :: tm, S'⟩) (ha : args.toList.map (PS.get ⟨n, tm, S⟩) = as := by first | rfl | (simp only [List.map_cons, List.map_nil, PS.get, look, ↓reduceIte, Nat.reduceEqDiff, reduceCtorEq]; exact rfl)) :
    Pops P ops Q (⟨some d, .call ⟨.value (.func f), args, ats⟩, ty, pos, af, none⟩ :: rest) ⟨n, tm, S⟩ := by
  obtain ⟨fn, h1, h2, h3⟩ := hf.h
  refine pops_one rfl (pop_call rfl rfl rfl h1 h2 h3 (R := R) ?_ k)
  simp only [List.nil_append, List.append_nil, ha]
  exact h
/-- A call of a function value. -/
theorem ps_vcall {f : FuncId} [hf : FnOk P f] {fo : Operand} {first captured : List PV} {args : Array Operand} {ats : Array TypeId} {us : List PV} {R : PV → List Blk → Prop} (h : GCall P f (first ++ us ++ captured) S R) (k : ∀ x S', R x S' → Pops P ops Q rest ⟨n, (d, x) :: tm, S'⟩) (hv : PS.get ⟨n, tm, S⟩ fo = .fn (.func f) first captured := by ((conv => lhs; whnf) <;> fail "no")) (ha : args.toList.map (PS.get ⟨n, tm, S⟩) = us := by first | rfl | (simp only [List.map_cons, List.map_nil, PS.get, look, ↓reduceIte, Nat.reduceEqDiff, reduceCtorEq]; exact rfl)) :
    Pops P ops Q (⟨some d, .call ⟨.value fo, args, ats⟩, ty, pos, af, none⟩ :: rest) ⟨n, tm, S⟩ := by
  obtain ⟨fn, h1, h2, h3⟩ := hf.h
  refine pops_one rfl (pop_call rfl rfl hv h1 h2 h3 (R := R) ?_ k)
  rw [ha]
  exact h
/-- In a region that draws its order: a call of a function of pure values. -/
theorem pd_pcall {f : FuncId} [hf : FnOk P f] {args : Array Operand} {ats : Array TypeId} {as : List PV} {r : PV} (h : PCall P f as r) (k : PStL P ops Q rest ⟨n, (d, r) :: tm, S⟩) (ha : args.toList.map (PS.get ⟨n, tm, S⟩) = as := by first | rfl | (simp only [List.map_cons, List.map_nil, PS.get, look, ↓reduceIte, Nat.reduceEqDiff, reduceCtorEq]; exact rfl)) :
    PStL P ops Q (⟨some d, .call ⟨.value (.func f), args, ats⟩, ty, pos, af, none⟩ :: rest) ⟨n, tm, S⟩ := by
  obtain ⟨fn, h1, h2, h3⟩ := hf.h
  refine ⟨r, ?_, k⟩
  unfold GSt
  exact .call _ _ f fn [] [] rfl rfl rfl h1 h2 h3 (by simp only [List.nil_append, List.append_nil, ha]; exact h)
/-- The same, guarded. -/
theorem pd_pcall_g {f : FuncId} [hf : FnOk P f] {args : Array Operand} {ats : Array TypeId} {as : List PV} {r : PV} {j : Nat} {w : Bool} (h : PCall P f as r) (k : PStL P ops Q rest ⟨n, (d, r) :: tm, S⟩) (hg : guardPV ops ⟨n, tm, S⟩ j w = some w := by ((conv => lhs; whnf) <;> fail "no")) (ha : args.toList.map (PS.get ⟨n, tm, S⟩) = as := by first | rfl | (simp only [List.map_cons, List.map_nil, PS.get, look, ↓reduceIte, Nat.reduceEqDiff, reduceCtorEq]; exact rfl)) :
    PStL P ops Q (⟨some d, .call ⟨.value (.func f), args, ats⟩, ty, pos, af, some (j, w)⟩ :: rest) ⟨n, tm, S⟩ := by
  obtain ⟨fn, h1, h2, h3⟩ := hf.h
  refine ⟨r, ?_, k⟩
  unfold GSt
  exact .inl ⟨hg, .call _ _ f fn [] [] rfl rfl rfl h1 h2 h3 (by simp only [List.nil_append, List.append_nil, ha]; exact h)⟩
/-- A guarded operation that is done. -/
theorem ps_guard {o : Oper} {σ : PS} {j : Nat} {w : Bool} (ho : o.guard = some (j, w)) (hg : guardPV ops σ j w = some w) (h : PopSem P σ o fun x S' => Pops P ops Q rest (σ.put o.dst x S')) : Pops P ops Q (o :: rest) σ := by
  unfold Pops
  rw [ho]
  exact ⟨w, hg, fun _ => h, fun h' => by cases w <;> cases h'⟩
theorem ps_pcall_g {f : FuncId} [hf : FnOk P f] {args : Array Operand} {ats : Array TypeId} {as : List PV} {r : PV} {j : Nat} {w : Bool} (h : PCall P f as r) (k : Pops P ops Q rest ⟨n, (d, r) :: tm, S⟩) (hg : guardPV ops ⟨n, tm, S⟩ j w = some w := by ((conv => lhs; whnf) <;> fail "no")) (ha : args.toList.map (PS.get ⟨n, tm, S⟩) = as := by first | rfl | (simp only [List.map_cons, List.map_nil, PS.get, look, ↓reduceIte, Nat.reduceEqDiff, reduceCtorEq]; exact rfl)) :
    Pops P ops Q (⟨some d, .call ⟨.value (.func f), args, ats⟩, ty, pos, af, some (j, w)⟩ :: rest) ⟨n, tm, S⟩ := by
  obtain ⟨fn, h1, h2, h3⟩ := hf.h
  refine ps_guard rfl hg (pop_call rfl rfl rfl h1 h2 h3 (R := fun x S' => x = r ∧ S' = S) ?_ fun x S' ⟨e1, e2⟩ => by subst e1 e2; exact k)
  simp only [List.nil_append, List.append_nil, ha]
  exact h.any S
end
end Go.Proofs.Ytaaealngifkaeaa.Pv
