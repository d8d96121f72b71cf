-- Third text: the operations that only read, one function; that Go does what it tells.
import Derived.Test.YtaaealngifkaeaaPvB
namespace Go.Proofs.Ytaaealngifkaeaa.Pv
set_option linter.all false
open Go.RowKit
set_option linter.unusedVariables false

theorem equal_run {P : Program} {t : TypeId} {x y : Value} {b : Bool} {w : World} (h : ∀ d, (Op.equalIn (d + 1) t x y).run P w = .ok b w) : (Op.equal t x y).run P w = .ok b w := h 9999
theorem eql_run {P : Program} {t : TypeId} {x y : Value} {b : Bool} {w : World} (hb : binOp .eql t x y = (do pure (.bool (← Op.equal t x y)))) (h : (Op.equal t x y).run P w = .ok b w) : (binOp .eql t x y).run P w = .ok (.bool b) w := by
  rw [hb, Sem.run_bind, h]; rfl
theorem neq_run {P : Program} {t : TypeId} {x y : Value} {b : Bool} {w : World} (hb : binOp .neq t x y = (do pure (.bool (!(← Op.equal t x y))))) (h : (Op.equal t x y).run P w = .ok b w) : (binOp .neq t x y).run P w = .ok (.bool (!b)) w := by
  rw [hb, Sem.run_bind, h]; rfl

theorem neq_run' {P : Program} {t : TypeId} {x y : Value} {b b' : Bool} {w : World} (hb : binOp .neq t x y = (do pure (.bool (!(← Op.equal t x y))))) (h : (Op.equal t x y).run P w = .ok b w) (e : b' = !b) : (binOp .neq t x y).run P w = .ok (.bool b') w := by
  rw [hb, Sem.run_bind, h, e]; rfl

theorem scalarBin_run {P : Program} {op : BinOp} {t : TypeId} {x y v : Value} (h : scalarBin P op t x y = some v) (X Y : Operand) (w : World) :
    (do eqGuard op t X Y x y; binOp op t x y : Sem Value).run P w = .ok v w := by
  unfold scalarBin at h
  split at h
  · rename_i k a k' b
    have hg : (eqGuard op t X Y (.int k a) (.int k' b)) = pure () := by unfold eqGuard; split <;> rfl
    rw [hg, pure_bind]
    split at h
    · exact shiftBin_run h t w (.inl rfl)
    · exact shiftBin_run h t w (.inr rfl)
    · split at h
      · rename_i hk
        subst hk
        exact intBin_run h t w
      · cases h
  · rename_i a b
    have hg : (eqGuard op t X Y (.string a) (.string b)) = pure () := by unfold eqGuard; split <;> rfl
    rw [hg, pure_bind]
    exact strBin_run h t w
  · rename_i a b
    have hg : (eqGuard op t X Y (.bool a) (.bool b)) = pure () := by unfold eqGuard; split <;> rfl
    rw [hg, pure_bind]
    split at h
    · rename_i ht
      cases op <;> simp only [boolBin] at h <;> (try cases h)
      · exact run_eql_bool _ t a b ht
      · exact run_neq_bool _ t a b ht
    · cases h
  · have hg : (eqGuard op t X Y (.pointer none) (.pointer none)) = pure () := by unfold eqGuard; split <;> rfl
    rw [hg, pure_bind]
    split at h
    · rename_i e ht
      cases op <;> simp only [nilBin] at h <;> (try cases h) <;> (first | refine eql_run (b := _) rfl ?_ | refine neq_run (b := _) rfl ?_) <;> refine equal_run fun d => ?_ <;> unfold Op.equalIn <;> rw [Sem.run_bind, run_underlying ht] <;> rfl
    · cases h
  · rename_i n c n' c'
    have hg : (eqGuard op t X Y (.slice none n c) (.slice none n' c')) = pure () := by unfold eqGuard; split <;> rfl
    rw [hg, pure_bind]
    split at h
    · rename_i e ht
      cases op <;> simp only [nilBin] at h <;> (try cases h) <;> (first | refine eql_run (b := _) rfl ?_ | refine neq_run (b := _) rfl ?_) <;> refine equal_run fun d => ?_ <;> unfold Op.equalIn <;> rw [Sem.run_bind, run_underlying ht] <;> rfl
    · cases h
  · have hg : (eqGuard op t X Y .nilFunc .nilFunc) = pure () := by unfold eqGuard; split <;> rfl
    rw [hg, pure_bind]
    split at h
    · rename_i a b c ht
      cases op <;> simp only [nilBin] at h <;> (try cases h) <;> (first | refine eql_run (b := _) rfl ?_ | refine neq_run (b := _) rfl ?_) <;> refine equal_run fun d => ?_ <;> unfold Op.equalIn <;> rw [Sem.run_bind, run_underlying ht] <;> rfl
    · cases h
  · cases h

/-- What is surely not nil. -/
def notNil (S : List Blk) : PV → Bool
  | .ptr τ g _ _ => alive S τ g
  | .rp _ _ => true
  | .vw τ g _ len => alive S τ g && decide (0 < len)
  | .ro _ _ rows => decide (0 < rows.length)
  | .fn _ _ _ => true
  | .iface _ _ => true
  | _ => false
def nilOf : PV → Bool
  | .v (.pointer none) | .v (.slice none _ _) | .v .nilFunc | .v .nilIface => true
  | _ => false

def binPV (P : Program) (S : List Blk) (op : BinOp) (t : TypeId) (x y : PV) : Option PV :=
  match x, y with
  | .v a, .v b => (scalarBin P op t a b).map .v
  | x, .v b => if nilOf (.v b) && notNil S x then (match P.underlying t, b, x with
      | some (.pointer _), .pointer none, .ptr _ _ _ _ | some (.pointer _), .pointer none, .rp _ _ | some (.slice _), .slice none _ _, .vw _ _ _ _ | some (.slice _), .slice none _ _, .ro _ _ _ => (nilBin op false).map .v
      | _, _, _ => none) else none
  | _, _ => none

theorem alive_spec {S : List Blk} {τ g : Nat} (h : alive S τ g = true) : ∃ blk, S[τ]? = some blk ∧ blk.gen = g := by
  unfold alive at h
  split at h
  · rename_i blk hb
    exact ⟨blk, hb, by simpa using h⟩
  · cases h

theorem eqNotNil {P : Program} {op : BinOp} {t : TypeId} {a : Value} {b v : Value} (w : World) (h : (nilBin op false).map PV.v = some (.v v))
    (hx : (∃ e ad, P.underlying t = some (.pointer e) ∧ a = .pointer (some ad) ∧ b = .pointer none) ∨ (∃ e ad n c n' c', P.underlying t = some (.slice e) ∧ a = .slice (some ad) n c ∧ b = .slice none n' c')) (X Y : Operand) :
    (do eqGuard op t X Y a b; binOp op t a b : Sem Value).run P w = .ok v w := by
  rcases hx with ⟨e, ad, ht, rfl, rfl⟩ | ⟨e, ad, n, c, n', c', ht, rfl, rfl⟩
  · have hg : (eqGuard op t X Y (.pointer (some ad)) (.pointer none)) = pure () := by unfold eqGuard; split <;> rfl
    rw [hg, pure_bind]
    cases op <;> simp [nilBin] at h <;> subst h <;> (first | refine eql_run (b := _) rfl ?_ | refine neq_run' (b := false) rfl ?_ rfl) <;> refine equal_run fun d => ?_ <;> unfold Op.equalIn <;> rw [Sem.run_bind, run_underlying ht] <;> rfl
  · have hg : (eqGuard op t X Y (.slice (some ad) n c) (.slice none n' c')) = pure () := by unfold eqGuard; split <;> rfl
    rw [hg, pure_bind]
    cases op <;> simp [nilBin] at h <;> subst h <;> (first | refine eql_run (b := _) rfl ?_ | refine neq_run' (b := false) rfl ?_ rfl) <;> refine equal_run fun d => ?_ <;> unfold Op.equalIn <;> rw [Sem.run_bind, run_underlying ht] <;> rfl

theorem binPV_sound {P : Program} {c : Cx} {op : BinOp} {t : TypeId} {x y z : PV} {a b : Value} (h : binPV P c.S op t x y = some z) (ha : RelV c x a) (hb : RelV c y b) (X Y : Operand) :
    ∃ v, (do eqGuard op t X Y a b; binOp op t a b : Sem Value).run P c.w = .ok v c.w ∧ RelV c z v := by
  unfold binPV at h
  split at h
  · cases ha
    cases hb
    obtain ⟨v, h1, rfl⟩ := Option.map_eq_some_iff.1 h
    exact ⟨v, scalarBin_run h1 X Y _, .v v⟩
  · split at h
    · rename_i hn
      simp only [Bool.and_eq_true] at hn
      cases hb
      split at h <;> (try cases h)
      all_goals obtain ⟨v, h1, rfl⟩ := Option.map_eq_some_iff.1 h
      · obtain ⟨e, ht⟩ : ∃ e, P.underlying t = some (.pointer e) := ⟨_, by assumption⟩
        cases ha with
        | ptr τ g i off y hy hN hv =>
          obtain ⟨blk, h2, h3⟩ := alive_spec hn.2
          obtain ⟨_, p, _, rfl⟩ := hv blk h2 h3
          exact ⟨v, eqNotNil c.w (by rw [h1]; rfl) (.inl ⟨_, _, ht, rfl, rfl⟩) X Y, .v v⟩
      · obtain ⟨e, ht⟩ : ∃ e, P.underlying t = some (.pointer e) := ⟨_, by assumption⟩
        cases ha with
        | rp row off b o vals hc hp hr => exact ⟨v, eqNotNil c.w (by rw [h1]; rfl) (.inl ⟨_, _, ht, rfl, rfl⟩) X Y, .v v⟩
      · obtain ⟨e, ht⟩ : ∃ e, P.underlying t = some (.slice e) := ⟨_, by assumption⟩
        cases ha with
        | vw τ g off len y hy hN hv =>
          simp only [notNil, Bool.and_eq_true, decide_eq_true_eq] at hn
          obtain ⟨blk, h2, h3⟩ := alive_spec hn.2.1
          obtain ⟨_, a, cap, rfl, _, _, h4⟩ := hv blk h2 h3
          rcases h4 with ⟨_, _, rfl, _⟩ | ⟨h4, _⟩
          · exact ⟨v, eqNotNil c.w (by rw [h1]; rfl) (.inr ⟨_, _, _, _, _, _, ht, rfl, rfl⟩) X Y, .v v⟩
          · omega
      · obtain ⟨e, ht⟩ : ∃ e, P.underlying t = some (.slice e) := ⟨_, by assumption⟩
        cases ha with
        | ro sz full rows a cap vals hcap hmax hfull hnone hlen hcell hpure hrel =>
          simp only [notNil, decide_eq_true_eq] at hn
          cases a with
          | none => rw [hnone rfl] at hn; simp at hn
          | some ad => exact ⟨v, eqNotNil c.w (by rw [h1]; rfl) (.inr ⟨_, _, _, _, _, _, ht, rfl, rfl⟩) X Y, .v v⟩
    · cases h
  · cases h

def unPV (op : UnOp) (x : PV) : Option PV :=
  match op, x with
  | .not, .v (.bool b) => some (.v (.bool (!b)))
  | .neg, .v (.int k n) => some (.v (.int k (k.wrap (0 - n))))
  | .xor, .v (.int k n) => some (.v (.int k (Go.bits .xor k (if k.signed then -1 else k.max) n)))
  | _, _ => none

theorem unPV_sound {P : Program} {c : Cx} {op : UnOp} {x z : PV} {a : Value} (h : unPV op x = some z) (ha : RelV c x a) :
    ∃ v, (Op.unary op a).run P c.w = .ok v c.w ∧ RelV c z v := by
  unfold unPV at h
  split at h <;> (try cases h)
  all_goals
    cases ha
    exact ⟨_, rfl, .v _⟩

/-- The cells of a part, read as a value of its type. -/
def isAggT (P : Program) (t : TypeId) : Bool :=
  match P.underlying t with
  | some (.struct _) | some (.array _ _) => true
  | _ => false
def partPV (P : Program) (t : TypeId) (cs : List PV) (off : Nat) : Option PV :=
  if isAggT P t then (if off + P.cellsOf t ≤ cs.length then some (.agg ((cs.drop off).take (P.cellsOf t))) else none)
  else cs[off]?

def known (P : Program) (t : TypeId) : Bool := (P.underlying t).isSome

theorem info_of_underlying {P : Program} {t : TypeId} {d : TypeDesc} (h : P.underlying t = some d) : ∃ i, P.info? t = some i := by
  unfold Program.underlying at h
  cases hi : P.info? t with
  | none => rw [hi] at h; cases h
  | some i => exact ⟨i, rfl⟩

theorem isAgg_run {P : Program} {t : TypeId} {d : TypeDesc} (h : P.underlying t = some d) (w : World) : (isAgg t).run P w = .ok (isAggT P t) w := by
  unfold isAgg isAggT
  rw [Sem.run_bind, run_underlying h, h]
  cases d <;> rfl

theorem sizeOf_run {P : Program} {t : TypeId} {d : TypeDesc} (h : P.underlying t = some d) (w : World) : (sizeOf t).run P w = .ok (P.cellsOf t) w := by
  obtain ⟨i, hi⟩ := info_of_underlying h
  simp [sizeOf, typeInfo, hi, Program.cellsOf]

theorem drop_take_get {α : Type} {l : List α} {o n i : Nat} {x : α} (h : ((l.drop o).take n)[i]? = some x) : l[o + i]? = some x ∧ i < n := by
  rw [List.getElem?_take] at h
  split at h
  · rename_i hi
    rw [List.getElem?_drop] at h
    exact ⟨h, hi⟩
  · cases h

theorem partPV_sound {P : Program} {c : Cx} {t : TypeId} {cs : List PV} {vs : Array Value} {off : Nat} {z : PV} (h : partPV P t cs off = some z) (hk : known P t = true) (ha : RelV c (.agg cs) (.agg vs)) :
    ∃ v, (part t vs off).run P c.w = .ok v c.w ∧ RelV c z v := by
  cases ha with
  | agg _ _ hs h1 hr =>
    obtain ⟨d, hd⟩ := Option.isSome_iff_exists.1 hk
    unfold partPV at h
    unfold part
    rw [Sem.run_bind, isAgg_run hd, Result.andThen_ok]
    cases hA : isAggT P t
    · rw [hA] at h
      simp only [Bool.false_eq_true, if_false] at h ⊢
      have hlt : off < vs.size := by rw [hs]; exact (List.getElem?_eq_some_iff.1 h).1
      have hv : vs[off]? = some vs[off] := Array.getElem?_eq_getElem hlt
      rw [hv]
      exact ⟨_, rfl, hr off z _ h hv⟩
    · rw [hA] at h
      simp only [if_true] at h ⊢
      split at h
      · rename_i hle
        cases h
        rw [Sem.run_bind, sizeOf_run hd, Result.andThen_ok]
        refine ⟨_, rfl, .agg _ _ ?_ (fun i v hv => ?_) (fun i x v hx hv => ?_)⟩
        · simp only [Array.size_extract, List.length_take, List.length_drop]; omega
        · rw [Array.getElem?_extract] at hv
          split at hv
          · exact h1 _ _ hv
          · cases hv
        · obtain ⟨k1, k2⟩ := drop_take_get hx
          rw [Array.getElem?_extract] at hv
          split at hv
          · exact hr _ x v k1 hv
          · cases hv
      · cases h
end Go.Proofs.Ytaaealngifkaeaa.Pv
