-- Twenty-third text: functions that give what they made: the caller reads it as a pure value.
import Derived.Test.YtaaealngifkaeaaPvW
namespace Go.Proofs.Ytaaealngifkaeaa.Pv
set_option linter.all false
open Go.RowKit
set_option linter.unusedVariables false
/-- x, of one's own, is read as y from now on. -/
inductive Gives (S : List Blk) : PV → PV → Prop
  | same {x : PV} (h : x.Pure) : Gives S x x
  | vw {τ g off len : Nat} {blk : Blk} {rows : List (List PV)} (hb : S[τ]? = some blk) (hg : blk.gen = g) (hr : (blk.rows.drop off).take len = rows) (hp : ∀ row ∈ rows, ∀ x ∈ row, PV.Pure x) : Gives S (.vw τ g off len) (.ro blk.sz false rows)
  | nil {sz : Nat} {b : Bool} : Gives S (.v (.slice none 0 0)) (.ro sz b [])
  | agg {cs ds : List PV} (hl : cs.length = ds.length) (h : ∀ (i : Nat) (x y : PV), cs[i]? = some x → ds[i]? = some y → Gives S x y) : Gives S (.agg cs) (.agg ds)
  | tup {cs ds : List PV} (hl : cs.length = ds.length) (h : ∀ (i : Nat) (x y : PV), cs[i]? = some x → ds[i]? = some y → Gives S x y) : Gives S (.tup cs) (.tup ds)

theorem gives_two {S : List Blk} {x y x' y' : PV} (h : Gives S x x') (k : Gives S y y') : Gives S (.tup [x, y]) (.tup [x', y']) := .tup rfl fun i a b ha hb => by
  match i, ha, hb with
  | 0, ha, hb => simp at ha hb; subst ha hb; exact h
  | 1, ha, hb => simp at ha hb; subst ha hb; exact k
  | i + 2, ha, hb => simp at ha
theorem gives_three {S : List Blk} {x y z x' y' z' : PV} (h : Gives S x x') (k : Gives S y y') (m : Gives S z z') : Gives S (.tup [x, y, z]) (.tup [x', y', z']) := .tup rfl fun i a b ha hb => by
  match i, ha, hb with
  | 0, ha, hb => simp at ha hb; subst ha hb; exact h
  | 1, ha, hb => simp at ha hb; subst ha hb; exact k
  | 2, ha, hb => simp at ha hb; subst ha hb; exact m
  | i + 3, ha, hb => simp at ha
theorem gives_ints {S : List Blk} {τ g gg len sz : Nat} {o : Bool} {k : IntKind} {l : List Int} (hb : S[τ]? = some ⟨gg, o, sz, ints k l⟩) (hg : gg = g) (hl : l.length = len) : Gives S (.vw τ g 0 len) (.ro sz false (ints k l)) := by
  refine .vw hb hg ?_ ?_
  · simp only [List.drop_zero]
    rw [← hl, ← ints_length k l, List.take_length]
  · intro row hr x hx
    obtain ⟨b, _, rfl⟩ := List.mem_map.1 hr
    simp at hx
    subst hx
    exact .v _

def Cx.bare (c : Cx) : Cx := { c with S := [] }
theorem Gives.rel {c : Cx} (hi : Inv c) {x y : PV} (h : Gives c.S x y) {v : Value} (hr : RelV c x v) : RelV c.bare y v := by
  have hX : ∀ T b, ¬ (c.lend T).X b → ¬ c.bare.X b := by
    rintro T b hb (h1 | ⟨τ, blk, p, h1, _⟩)
    · refine hb (.inl ⟨.inl h1, ?_⟩)
      rintro ⟨τ, p, blk, _, h2, h3, rfl⟩
      exact hi.notG τ blk p h2 h3 h1
    · simp [Cx.bare] at h1
  induction h generalizing v with
  | same h =>
    have k := (Lend.same (S := c.S) (T := []) h).rel hi hr
    exact k.pure h (hX []) (fun a u _ h => h)
  | vw hb hg hr' hp =>
    rename_i τ g off len blk rows
    have k := (Lend.vw (S := c.S) (T := [τ]) (by simp) hb hg hr' hp).rel hi hr
    exact k.pure (.ro hp) (hX [τ]) (fun a u _ h => h)
  | nil =>
    cases hr
    rename_i sz b
    exact .ro sz b [] none 0 (fun _ _ => .nilIface) (Nat.le_refl _) (by simp) (by simp) (by simp) (by simp) (by simp) (by simp) (by simp)
  | agg hl h ih =>
    cases hr with
    | agg _ vs hs h1 hr =>
      refine .agg _ _ (hs.trans hl) h1 (fun i y v hy hv => ?_)
      rename_i cs ds
      have hlt := (List.getElem?_eq_some_iff.1 hy).1
      have hx : cs[i]? = some (cs[i]'(by omega)) := List.getElem?_eq_getElem _
      exact ih i _ y hx hy (hr i _ v hx hv)
  | tup hl h ih =>
    cases hr with
    | tup _ vs hs hr =>
      refine .tup _ _ (hs.trans hl) (fun i y v hy hv => ?_)
      rename_i cs ds
      have hlt := (List.getElem?_eq_some_iff.1 hy).1
      have hx : cs[i]? = some (cs[i]'(by omega)) := List.getElem?_eq_getElem _
      exact ih i _ y hx hy (hr i _ v hx hv)

theorem pcall_gives {P : Program} {f : FuncId} {args : List PV} {r : PV} (hp : ∀ x ∈ args, x.Pure) (hpr : r.Pure) (h : GCall P f args [] fun x S => Gives S x r) : PCall P f args r := by
  refine ⟨hp, hpr, fun c vals hi hs hl hv => (h c vals hi hs hl hv).mono ?_⟩
  rintro e w' ⟨v, x, c', rfl, rfl, hG, hi', hst, hr⟩
  have hd := dropBlk hi' 0
  rw [show c'.S.take 0 = [] by simp] at hd
  exact ⟨v, r, c'.bare, rfl, rfl, rfl, hd.1, hst.trans hd.2, hG.rel hi' hr⟩
theorem pcall_mkg {P : Program} {f : FuncId} {fn : Func} {code : Code} {args : List PV} {r : PV} [hp : PureL args] [hr' : PureC r] (hf : P.funcs[f]? = some fn) (hb : fn.body = some code) (rs : List ResultVar) (hr : fn.results = rs.toArray) (n : Nat) (hn : args.length + (fn.ntmps - args.length) = n)
    (h : Tr P code ⟨n, argTm 0 args, []⟩ (Ends P rs fun x S => Gives S x r)) : PCall P f args r := pcall_gives hp.h hr'.h (gcall_of_tr hf hb rs hr n hn h)
end Go.Proofs.Ytaaealngifkaeaa.Pv
