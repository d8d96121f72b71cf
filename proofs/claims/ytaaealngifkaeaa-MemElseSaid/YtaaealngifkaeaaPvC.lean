-- Third text: the operations that only read, one function; that Go does what it tells.
import Derived.Test.YtaaealngifkaeaaPvB
import Derived.Laws.StructEq
namespace Go.Proofs.Ytaaealngifkaeaa.Pv
set_option linter.all false
open Go.RowKit
set_option linter.unusedVariables false

theorem equal_run {P : Program} {t : TypeId} {x y : Value} {b : Bool} {w : World} (h : ∀ d, (Op.equalIn (d + 1) t x y).run P w = .ok b w) : (Op.equal t x y).run P w = .ok b w := h 9999
theorem eql_run {P : Program} {t : TypeId} {x y : Value} {b : Bool} {w : World} (hb : binOp .eql t x y = (do pure (.bool (← Op.equal t x y)))) (h : (Op.equal t x y).run P w = .ok b w) : (binOp .eql t x y).run P w = .ok (.bool b) w := by
  rw [hb, Sem.run_bind, h]; rfl
theorem neq_run {P : Program} {t : TypeId} {x y : Value} {b : Bool} {w : World} (hb : binOp .neq t x y = (do pure (.bool (!(← Op.equal t x y))))) (h : (Op.equal t x y).run P w = .ok b w) : (binOp .neq t x y).run P w = .ok (.bool (!b)) w := by
  rw [hb, Sem.run_bind, h]; rfl

theorem neq_run' {P : Program} {t : TypeId} {x y : Value} {b b' : Bool} {w : World} (hb : binOp .neq t x y = (do pure (.bool (!(← Op.equal t x y))))) (h : (Op.equal t x y).run P w = .ok b w) (e : b' = !b) : (binOp .neq t x y).run P w = .ok (.bool b') w := by
  rw [hb, Sem.run_bind, h, e]; rfl

theorem scalarBin_run {P : Program} {op : BinOp} {t : TypeId} {x y v : Value} (h : scalarBin P op t x y = some v) (X Y : Operand) (w : World) :
    (do eqGuard op t X Y x y; binOp op t x y : Sem Value).run P w = .ok v w := by
  unfold scalarBin at h
  split at h
  · rename_i k a k' b
    have hg : (eqGuard op t X Y (.int k a) (.int k' b)) = pure () := by unfold eqGuard; split <;> rfl
    rw [hg, pure_bind]
    split at h
    · exact shiftBin_run h t w (.inl rfl)
    · exact shiftBin_run h t w (.inr rfl)
    · split at h
      · rename_i hk
        subst hk
        exact intBin_run h t w
      · cases h
  · rename_i a b
    have hg : (eqGuard op t X Y (.string a) (.string b)) = pure () := by unfold eqGuard; split <;> rfl
    rw [hg, pure_bind]
    exact strBin_run h t w
  · rename_i a b
    have hg : (eqGuard op t X Y (.bool a) (.bool b)) = pure () := by unfold eqGuard; split <;> rfl
    rw [hg, pure_bind]
    split at h
    · rename_i ht
      cases op <;> simp only [boolBin] at h <;> (try cases h)
      · exact run_eql_bool _ t a b ht
      · exact run_neq_bool _ t a b ht
    · cases h
  · have hg : (eqGuard op t X Y (.pointer none) (.pointer none)) = pure () := by unfold eqGuard; split <;> rfl
    rw [hg, pure_bind]
    split at h
    · rename_i e ht
      cases op <;> simp only [nilBin] at h <;> (try cases h) <;> (first | refine eql_run (b := _) rfl ?_ | refine neq_run (b := _) rfl ?_) <;> refine equal_run fun d => ?_ <;> unfold Op.equalIn <;> rw [Sem.run_bind, run_underlying ht] <;> rfl
    · cases h
  · rename_i n c n' c'
    have hg : (eqGuard op t X Y (.slice none n c) (.slice none n' c')) = pure () := by unfold eqGuard; split <;> rfl
    rw [hg, pure_bind]
    split at h
    · rename_i e ht
      cases op <;> simp only [nilBin] at h <;> (try cases h) <;> (first | refine eql_run (b := _) rfl ?_ | refine neq_run (b := _) rfl ?_) <;> refine equal_run fun d => ?_ <;> unfold Op.equalIn <;> rw [Sem.run_bind, run_underlying ht] <;> rfl
    · cases h
  · have hg : (eqGuard op t X Y .nilFunc .nilFunc) = pure () := by unfold eqGuard; split <;> rfl
    rw [hg, pure_bind]
    split at h
    · rename_i a b c ht
      cases op <;> simp only [nilBin] at h <;> (try cases h) <;> (first | refine eql_run (b := _) rfl ?_ | refine neq_run (b := _) rfl ?_) <;> refine equal_run fun d => ?_ <;> unfold Op.equalIn <;> rw [Sem.run_bind, run_underlying ht] <;> rfl
    · cases h
  · cases h

/-- The cells of a part, read as a value of its type. -/
def isAggT (P : Program) (t : TypeId) : Bool :=
  match P.underlying t with
  | some (.struct _) | some (.array _ _) => true
  | _ => false
def partPV (P : Program) (t : TypeId) (cs : List PV) (off : Nat) : Option PV :=
  if isAggT P t then (if off + P.cellsOf t ≤ cs.length then some (.agg ((cs.drop off).take (P.cellsOf t))) else none)
  else cs[off]?

def known (P : Program) (t : TypeId) : Bool := (P.underlying t).isSome

theorem info_of_underlying {P : Program} {t : TypeId} {d : TypeDesc} (h : P.underlying t = some d) : ∃ i, P.info? t = some i := by
  unfold Program.underlying at h
  cases hi : P.info? t with
  | none => rw [hi] at h; cases h
  | some i => exact ⟨i, rfl⟩

theorem isAgg_run {P : Program} {t : TypeId} {d : TypeDesc} (h : P.underlying t = some d) (w : World) : (isAgg t).run P w = .ok (isAggT P t) w := by
  unfold isAgg isAggT
  rw [Sem.run_bind, run_underlying h, h]
  cases d <;> rfl

theorem sizeOf_run {P : Program} {t : TypeId} {d : TypeDesc} (h : P.underlying t = some d) (w : World) : (sizeOf t).run P w = .ok (P.cellsOf t) w := by
  obtain ⟨i, hi⟩ := info_of_underlying h
  simp [sizeOf, typeInfo, hi, Program.cellsOf]

theorem drop_take_get {α : Type} {l : List α} {o n i : Nat} {x : α} (h : ((l.drop o).take n)[i]? = some x) : l[o + i]? = some x ∧ i < n := by
  rw [List.getElem?_take] at h
  split at h
  · rename_i hi
    rw [List.getElem?_drop] at h
    exact ⟨h, hi⟩
  · cases h

theorem partPV_sound {P : Program} {c : Cx} {t : TypeId} {cs : List PV} {vs : Array Value} {off : Nat} {z : PV} (h : partPV P t cs off = some z) (hk : known P t = true) (ha : RelV c (.agg cs) (.agg vs)) :
    ∃ v, (part t vs off).run P c.w = .ok v c.w ∧ RelV c z v := by
  cases ha with
  | agg _ _ hs h1 hr =>
    obtain ⟨d, hd⟩ := Option.isSome_iff_exists.1 hk
    unfold partPV at h
    unfold part
    rw [Sem.run_bind, isAgg_run hd, Result.andThen_ok]
    cases hA : isAggT P t
    · rw [hA] at h
      simp only [Bool.false_eq_true, if_false] at h ⊢
      have hlt : off < vs.size := by rw [hs]; exact (List.getElem?_eq_some_iff.1 h).1
      have hv : vs[off]? = some vs[off] := Array.getElem?_eq_getElem hlt
      rw [hv]
      exact ⟨_, rfl, hr off z _ h hv⟩
    · rw [hA] at h
      simp only [if_true] at h ⊢
      split at h
      · rename_i hle
        cases h
        rw [Sem.run_bind, sizeOf_run hd, Result.andThen_ok]
        refine ⟨_, rfl, .agg _ _ ?_ (fun i v hv => ?_) (fun i x v hx hv => ?_)⟩
        · simp only [Array.size_extract, List.length_take, List.length_drop]; omega
        · rw [Array.getElem?_extract] at hv
          split at hv
          · exact h1 _ _ hv
          · cases hv
        · obtain ⟨k1, k2⟩ := drop_take_get hx
          rw [Array.getElem?_extract] at hv
          split at hv
          · exact hr _ x v k1 hv
          · cases hv
      · cases h
/-- A struct of numbers, truths and texts: where each field lies, of what it is. -/
inductive SK where
  | int
  | bool
  | str
def skOf (P : Program) (t : TypeId) : Option SK :=
  match P.underlying t with
  | some (.int _) => some .int
  | some .bool => some .bool
  | some .string => some .str
  | _ => none
def flatFs (P : Program) : List Field → Option (List (Nat × SK))
  | [] => some []
  | f :: fs => if f.name == "_" then none else
    match skOf P f.type, flatFs P fs with
    | some k, some l => some ((f.offset, k) :: l)
    | _, _ => none
def flatOf (P : Program) (t : TypeId) : Option (List (Nat × SK)) :=
  if P.eqGuardType P.depth t || P.stoodInHeld t then none else
  match P.underlying t with
  | some (.struct fs) => flatFs P fs.toList
  | _ => none
def skEq : SK → PV → PV → Option Bool
  | .int, .v (.int k a), .v (.int k' b) => if k = k' then some (decide (a = b)) else none
  | .bool, .v (.bool a), .v (.bool b) => some (a == b)
  | .str, .v (.string a), .v (.string b) => some (a.toList == b.toList)
  | _, _, _ => none
def eqCells (xs ys : List PV) : List (Nat × SK) → Option Bool
  | [] => some true
  | (o, k) :: l =>
    match xs[o]?, ys[o]? with
    | some x, some y => match skEq k x y, eqCells xs ys l with
      | some r, some q => some (r && q)
      | _, _ => none
    | _, _ => none
def aggBin (P : Program) (op : BinOp) (t : TypeId) (xs ys : List PV) : Option PV :=
  match flatOf P t with
  | some l => match eqCells xs ys l with
    | some r => match op with
      | .eql => some (.v (.bool r))
      | .neq => some (.v (.bool (!r)))
      | _ => none
    | none => none
  | none => none
theorem skEq_run {P : Program} {c : Cx} {t : TypeId} {k : SK} {x y : PV} {a b : Value} {r : Bool} (hk : skOf P t = some k) (h : skEq k x y = some r) (ha : RelV c x a) (hb : RelV c y b) (d : Nat) : (Op.equalIn (d + 1) t a b).run P c.w = .ok r c.w := by
  unfold skOf at hk
  unfold skEq at h
  split at h
  · split at h
    · rename_i e
      subst e
      cases h; cases ha; cases hb
      split at hk <;> cases hk
      rw [run_equalIn_int c.w d t _ _ _ _ (by assumption)]
      congr 1
    · cases h
  · cases h; cases ha; cases hb
    split at hk <;> cases hk
    exact run_equalIn_bool' c.w d t _ _ (by assumption)
  · cases h; cases ha; cases hb
    split at hk <;> cases hk
    exact run_equalIn_string c.w d t _ _ (by assumption)
  · cases h
theorem skOf_part {P : Program} {t : TypeId} {k : SK} (h : skOf P t = some k) (cs : List PV) (o : Nat) : known P t = true ∧ partPV P t cs o = cs[o]? := by
  unfold skOf at h
  unfold known partPV isAggT
  split at h <;> cases h <;> rename_i hu <;> rw [hu] <;> exact ⟨rfl, rfl⟩
theorem eqFields_run {P : Program} {c : Cx} {xs ys : List PV} {as bs : Array Value} (ha : RelV c (.agg xs) (.agg as)) (hb : RelV c (.agg ys) (.agg bs)) (d : Nat) : ∀ (fs : List Field) (l : List (Nat × SK)) (r : Bool), flatFs P fs = some l → eqCells xs ys l = some r → (Op.eqFields (d + 1) as bs fs).run P c.w = .ok r c.w
  | [], l, r, h1, h2 => by
    cases h1
    cases h2
    rfl
  | f :: fs, l, r, h1, h2 => by
    unfold flatFs at h1
    split at h1
    · cases h1
    · rename_i hn
      split at h1
      · rename_i k l' hk hl
        cases h1
        unfold eqCells at h2
        split at h2
        · rename_i x y hx hy
          split at h2
          · rename_i r1 r2 e1 e2
            cases h2
            obtain ⟨g1, g2⟩ := skOf_part hk xs f.offset
            obtain ⟨_, g3⟩ := skOf_part hk ys f.offset
            obtain ⟨a, p1, p2⟩ := partPV_sound (by rw [g2]; exact hx) g1 ha
            obtain ⟨b, p3, p4⟩ := partPV_sound (by rw [g3]; exact hy) g1 hb
            have ih := eqFields_run ha hb d fs l' r2 hl e2
            unfold Op.eqFields
            rw [if_pos (by simpa using hn), Sem.run_bind, p1, Result.andThen_ok, Sem.run_bind, p3, Result.andThen_ok, Sem.run_bind, skEq_run hk e1 p2 p4 d, Result.andThen_ok]
            cases r1 with
            | true => exact ih
            | false => rfl
          · cases h2
        · cases h2
      · cases h1
theorem aggBin_sound {P : Program} {c : Cx} {op : BinOp} {t : TypeId} {xs ys : List PV} {z : PV} {a b : Value} (h : aggBin P op t xs ys = some z) (ha : RelV c (.agg xs) a) (hb : RelV c (.agg ys) b) (X Y : Operand) :
    ∃ v, (do eqGuard op t X Y a b; binOp op t a b : Sem Value).run P c.w = .ok v c.w ∧ RelV c z v := by
  unfold aggBin at h
  split at h
  · rename_i l hl
    split at h
    · rename_i r hr
      unfold flatOf at hl
      split at hl
      · cases hl
      · rename_i hg
        simp only [Bool.or_eq_true, not_or, Bool.not_eq_true] at hg
        split at hl
        · rename_i fs hu
          have hu' : P.underlying t = some (.struct (P.fieldsOf t)) := by rw [hu]; simp [Program.fieldsOf, hu]
          have hfs : P.fieldsOf t = fs := by simp [Program.fieldsOf, hu]
          cases ha with
          | agg _ as hsa h1a ha' =>
          cases hb with
          | agg _ bs hsb h1b hb' =>
          have he : (Op.equal t (.agg as) (.agg bs)).run P c.w = .ok r c.w := by
            unfold Op.equal
            rw [show Op.maxDepth = 9998 + 1 + 1 from rfl, run_equalIn_struct c.w (9998 + 1) t as bs hu' hg.2, hfs]
            exact eqFields_run (.agg _ as hsa h1a ha') (.agg _ bs hsb h1b hb') 9998 fs.toList l r hl hr
          have hgd : ∀ op, (eqGuard op t X Y (.agg as) (.agg bs)).run P c.w = .ok () c.w := by
            intro op
            unfold eqGuard
            cases op <;> first | rfl | (simp only [Bool.not_true, Bool.false_eq_true, if_false, Sem.run_bind, run_program, Result.andThen_ok, hg.1, Bool.not_false, if_true]; rfl)
          split at h <;> cases h
          · exact ⟨_, by rw [Sem.run_bind, hgd, Result.andThen_ok]; exact eql_run rfl he, .v _⟩
          · exact ⟨_, by rw [Sem.run_bind, hgd, Result.andThen_ok]; exact neq_run rfl he, .v _⟩
        · cases hl
    · cases h
  · cases h

def notNil (S : List Blk) : PV → Bool
  | .ptr τ g _ _ => alive S τ g
  | .rp _ _ => true
  | .vw τ g _ len => alive S τ g && decide (0 < len)
  | .ro _ _ rows => decide (0 < rows.length)
  | .fn _ _ _ => true
  | .iface _ _ => true
  | _ => false
def nilOf : PV → Bool
  | .v (.pointer none) | .v (.slice none _ _) | .v .nilFunc | .v .nilIface => true
  | _ => false

def binPV (P : Program) (S : List Blk) (op : BinOp) (t : TypeId) (x y : PV) : Option PV :=
  match x, y with
  | .v a, .v b => (scalarBin P op t a b).map .v
  | x, .v b => if nilOf (.v b) && notNil S x then (match P.underlying t, b, x with
      | some (.pointer _), .pointer none, .ptr _ _ _ _ | some (.pointer _), .pointer none, .rp _ _ | some (.slice _), .slice none _ _, .vw _ _ _ _ | some (.slice _), .slice none _ _, .ro _ _ _ => (nilBin op false).map .v
      | _, _, _ => none) else none
  | .agg xs, .agg ys => aggBin P op t xs ys
  | _, _ => none

theorem alive_spec {S : List Blk} {τ g : Nat} (h : alive S τ g = true) : ∃ blk, S[τ]? = some blk ∧ blk.gen = g := by
  unfold alive at h
  split at h
  · rename_i blk hb
    exact ⟨blk, hb, by simpa using h⟩
  · cases h

theorem eqNotNil {P : Program} {op : BinOp} {t : TypeId} {a : Value} {b v : Value} (w : World) (h : (nilBin op false).map PV.v = some (.v v))
    (hx : (∃ e ad, P.underlying t = some (.pointer e) ∧ a = .pointer (some ad) ∧ b = .pointer none) ∨ (∃ e ad n c n' c', P.underlying t = some (.slice e) ∧ a = .slice (some ad) n c ∧ b = .slice none n' c')) (X Y : Operand) :
    (do eqGuard op t X Y a b; binOp op t a b : Sem Value).run P w = .ok v w := by
  rcases hx with ⟨e, ad, ht, rfl, rfl⟩ | ⟨e, ad, n, c, n', c', ht, rfl, rfl⟩
  · have hg : (eqGuard op t X Y (.pointer (some ad)) (.pointer none)) = pure () := by unfold eqGuard; split <;> rfl
    rw [hg, pure_bind]
    cases op <;> simp [nilBin] at h <;> subst h <;> (first | refine eql_run (b := _) rfl ?_ | refine neq_run' (b := false) rfl ?_ rfl) <;> refine equal_run fun d => ?_ <;> unfold Op.equalIn <;> rw [Sem.run_bind, run_underlying ht] <;> rfl
  · have hg : (eqGuard op t X Y (.slice (some ad) n c) (.slice none n' c')) = pure () := by unfold eqGuard; split <;> rfl
    rw [hg, pure_bind]
    cases op <;> simp [nilBin] at h <;> subst h <;> (first | refine eql_run (b := _) rfl ?_ | refine neq_run' (b := false) rfl ?_ rfl) <;> refine equal_run fun d => ?_ <;> unfold Op.equalIn <;> rw [Sem.run_bind, run_underlying ht] <;> rfl

theorem binPV_sound {P : Program} {c : Cx} {op : BinOp} {t : TypeId} {x y z : PV} {a b : Value} (h : binPV P c.S op t x y = some z) (ha : RelV c x a) (hb : RelV c y b) (X Y : Operand) :
    ∃ v, (do eqGuard op t X Y a b; binOp op t a b : Sem Value).run P c.w = .ok v c.w ∧ RelV c z v := by
  unfold binPV at h
  split at h
  · cases ha
    cases hb
    obtain ⟨v, h1, rfl⟩ := Option.map_eq_some_iff.1 h
    exact ⟨v, scalarBin_run h1 X Y _, .v v⟩
  · split at h
    · rename_i hn
      simp only [Bool.and_eq_true] at hn
      cases hb
      split at h <;> (try cases h)
      all_goals obtain ⟨v, h1, rfl⟩ := Option.map_eq_some_iff.1 h
      · obtain ⟨e, ht⟩ : ∃ e, P.underlying t = some (.pointer e) := ⟨_, by assumption⟩
        cases ha with
        | ptr τ g i off y hy hN hv =>
          obtain ⟨blk, h2, h3⟩ := alive_spec hn.2
          obtain ⟨_, p, _, rfl⟩ := hv blk h2 h3
          exact ⟨v, eqNotNil c.w (by rw [h1]; rfl) (.inl ⟨_, _, ht, rfl, rfl⟩) X Y, .v v⟩
      · obtain ⟨e, ht⟩ : ∃ e, P.underlying t = some (.pointer e) := ⟨_, by assumption⟩
        cases ha with
        | rp row off b o vals hc hp hr => exact ⟨v, eqNotNil c.w (by rw [h1]; rfl) (.inl ⟨_, _, ht, rfl, rfl⟩) X Y, .v v⟩
      · obtain ⟨e, ht⟩ : ∃ e, P.underlying t = some (.slice e) := ⟨_, by assumption⟩
        cases ha with
        | vw τ g off len y hy hN hv =>
          simp only [notNil, Bool.and_eq_true, decide_eq_true_eq] at hn
          obtain ⟨blk, h2, h3⟩ := alive_spec hn.2.1
          obtain ⟨_, a, cap, rfl, _, _, h4⟩ := hv blk h2 h3
          rcases h4 with ⟨_, _, rfl, _⟩ | ⟨h4, _⟩
          · exact ⟨v, eqNotNil c.w (by rw [h1]; rfl) (.inr ⟨_, _, _, _, _, _, ht, rfl, rfl⟩) X Y, .v v⟩
          · omega
      · obtain ⟨e, ht⟩ : ∃ e, P.underlying t = some (.slice e) := ⟨_, by assumption⟩
        cases ha with
        | ro sz full rows a cap vals hcap hmax hfull hnone hlen hcell hpure hrel =>
          simp only [notNil, decide_eq_true_eq] at hn
          cases a with
          | none => rw [hnone rfl] at hn; simp at hn
          | some ad => exact ⟨v, eqNotNil c.w (by rw [h1]; rfl) (.inr ⟨_, _, _, _, _, _, ht, rfl, rfl⟩) X Y, .v v⟩
    · cases h
  · exact aggBin_sound h ha hb X Y
  · cases h

def unPV (op : UnOp) (x : PV) : Option PV :=
  match op, x with
  | .not, .v (.bool b) => some (.v (.bool (!b)))
  | .neg, .v (.int k n) => some (.v (.int k (k.wrap (0 - n))))
  | .xor, .v (.int k n) => some (.v (.int k (Go.bits .xor k (if k.signed then -1 else k.max) n)))
  | _, _ => none

theorem unPV_sound {P : Program} {c : Cx} {op : UnOp} {x z : PV} {a : Value} (h : unPV op x = some z) (ha : RelV c x a) :
    ∃ v, (Op.unary op a).run P c.w = .ok v c.w ∧ RelV c z v := by
  unfold unPV at h
  split at h <;> (try cases h)
  all_goals
    cases ha
    exact ⟨_, rfl, .v _⟩

end Go.Proofs.Ytaaealngifkaeaa.Pv
