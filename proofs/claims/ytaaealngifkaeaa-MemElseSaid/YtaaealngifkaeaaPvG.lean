-- Seventh text: one function for all operations that only read; that Go does what it tells.
import Derived.Test.YtaaealngifkaeaaPvF
namespace Go.Proofs.Ytaaealngifkaeaa.Pv
set_option linter.all false
open Go.RowKit
set_option linter.unusedVariables false

def zeroRow (P : Program) (t : TypeId) : Option (List PV) :=
  match P.info? t with
  | some i => match i.zero with
    | some z => if z.cells.all (·.oneCell') then some (z.cells.toList.map .v) else none
    | none => none
  | none => none

theorem zeroRow_run {P : Program} {t : TypeId} {cs : List PV} (h : zeroRow P t = some cs) (c : Cx) : ∃ z, (∀ w, (zeroValue t).run P w = .ok z w) ∧ RelCells c cs z.cells ∧ (∃ i, P.info? t = some i ∧ i.zero = some z) := by
  unfold zeroRow at h
  split at h
  · rename_i i hi
    split at h
    · rename_i z hz
      split at h
      · rename_i hall
        cases h
        refine ⟨z, fun w => by simp [zeroValue, typeInfo, hi, hz], ⟨by simp, fun j v hv => (Array.all_eq_true'.1 hall) v (Array.mem_of_getElem? hv), fun j x v hx hv => ?_⟩, i, hi, hz⟩
        simp only [List.getElem?_map, Array.getElem?_toList, hv, Option.map_some, Option.some.injEq] at hx
        subst hx
        exact .v _
      · cases h
    · cases h
  · cases h

def structPlace (P : Program) (fs : Array Field) (i : Nat) : Option (Nat × Nat) := (fs[i]?).map fun f => (f.offset, P.cellsOf f.type)

def buildPV (P : Program) (t : TypeId) (parts : List (Nat × PV)) : Option PV :=
  match zeroRow P t, P.underlying t with
  | some cs, some (.struct fs) => if fs.all (fun f => known P f.type) then (fillPV (structPlace P fs) cs parts).map .agg else none
  | some cs, some (.array _ e) => if known P e then (fillPV (fun i => some (i * P.cellsOf e, P.cellsOf e)) cs parts).map .agg else none
  | _, _ => none

theorem places_run {P : Program} (fs : List Field) (h : ∀ f ∈ fs, known P f.type = true) (w : World) : (fs.mapM fun f => do pure (f.offset, ← sizeOf f.type) : Sem (List (Nat × Nat))).run P w = .ok (fs.map fun f => (f.offset, P.cellsOf f.type)) w := by
  induction fs with
  | nil => simp
  | cons f fs ih =>
    obtain ⟨d, hd⟩ := Option.isSome_iff_exists.1 (h f (by simp))
    simp only [List.mapM_cons, Sem.run_bind, sizeOf_run hd, Result.andThen_ok, Sem.run_pure, ih (fun g hg => h g (by simp [hg])), List.map_cons]

theorem rel_of_cells {c : Cx} {cs : List PV} {vs : Array Value} (h : RelCells c cs vs) : RelV c (.agg cs) (.agg vs) := .agg cs vs h.1 h.2.1 h.2.2

theorem buildPV_sound {P : Program} {c : Cx} {t : TypeId} {ps : List (Nat × PV)} {vs : Array (Nat × Value)} {z : PV} (h : buildPV P t ps = some z) (hl : ps.length = vs.size)
    (hv : ∀ (j : Nat) (p : Nat × PV) (v : Nat × Value), ps[j]? = some p → vs[j]? = some v → p.1 = v.1 ∧ RelV c p.2 v.2) :
    ∃ v, (Instr.build t vs).run P c.w = .ok v c.w ∧ RelV c z v := by
  unfold buildPV at h
  split at h
  · rename_i cs fs hz hu
    split at h
    · rename_i hall
      obtain ⟨out, hf, rfl⟩ := Option.map_eq_some_iff.1 h
      obtain ⟨zv, h1, h2, _⟩ := zeroRow_run hz c
      obtain ⟨o, h3, h4⟩ := fillPV_rel ps vs.toList cs zv.cells out hf h2 (by simpa using hl) (fun j p v hp hv' => hv j p v hp (by simpa using hv'))
      refine ⟨.agg o, ?_, rel_of_cells h4⟩
      have hpl := places_run (P := P) fs.toList (fun f hf => (Array.all_eq_true'.1 hall) f (Array.mem_toList_iff.1 hf)) c.w
      unfold Instr.build
      simp only [Sem.run_bind, h1, Result.andThen_ok, run_underlying hu]
      rw [← Array.toArray_toList (xs := fs), List.mapM_toArray, Sem.run_map, hpl]
      simp only [Result.andThen_ok]
      have : (fun x : Nat => ((fs.toList.map fun f => (f.offset, P.cellsOf f.type)).toArray)[x]?) = structPlace P fs := by
        funext x
        simp [structPlace]
      rw [this, h3]
      rfl
    · cases h
  · rename_i cs n e hz hu
    split at h
    · rename_i hk
      obtain ⟨d, hd⟩ := Option.isSome_iff_exists.1 hk
      obtain ⟨out, hf, rfl⟩ := Option.map_eq_some_iff.1 h
      obtain ⟨zv, h1, h2, _⟩ := zeroRow_run hz c
      obtain ⟨o, h3, h4⟩ := fillPV_rel ps vs.toList cs zv.cells out hf h2 (by simpa using hl) (fun j p v hp hv' => hv j p v hp (by simpa using hv'))
      refine ⟨.agg o, ?_, rel_of_cells h4⟩
      unfold Instr.build
      simp only [Sem.run_bind, h1, Result.andThen_ok, run_underlying hu, sizeOf_run hd, h3]
      rfl
    · cases h
  · cases h

/-- Bytes, as a text. -/
def strOf : List (List PV) → Option (List Int)
  | [] => some []
  | [.v (.int .u8 n)] :: r => (strOf r).map (n :: ·)
  | _ => none

def convPV (P : Program) (src dst : TypeId) (x : PV) : Option PV :=
  match P.underlying src, P.underlying dst, x with
  | some _, some (.int k), .v (.int _ n) => some (.v (.int k (k.wrap n)))
  | some .string, some .string, .v (.string s) => some (.v (.string s))
  | some (.slice e), some .string, .ro 1 _ rows => match P.underlying e, strOf rows with
    | some (.int .u8), some xs => some (.v (.string (strOfNums xs)))
    | _, _ => none
  | some (.slice e), some .string, .v (.slice none _ _) => match P.underlying e with
    | some (.int .u8) => some (.v (.string ByteArray.empty))
    | _ => none
  | _, _, _ => none

theorem strOf_spec : ∀ (rows : List (List PV)) (xs : List Int), strOf rows = some xs → xs.length = rows.length ∧ ∀ i, i < rows.length → rows[i]? = some [.v (.int .u8 (xs.getD i 0))]
  | [], xs, h => by cases h; simp
  | row :: rows, xs, h => by
    unfold strOf at h
    split at h
    · rename_i hh; cases hh
    · rename_i n r hh
      cases hh
      obtain ⟨ys, h1, rfl⟩ := Option.map_eq_some_iff.1 h
      obtain ⟨h2, h3⟩ := strOf_spec _ ys h1
      refine ⟨by simp [h2], fun i hi => ?_⟩
      cases i with
      | zero => rfl
      | succ i => exact h3 i (by simpa using hi)
    · cases h

theorem convPV_sound {P : Program} {c : Cx} {src dst : TypeId} {x z : PV} {a : Value} (h : convPV P src dst x = some z) (ha : RelV c x a) :
    ∃ v, (convert src dst a).run P c.w = .ok v c.w ∧ RelV c z v := by
  unfold convPV at h
  split at h
  · rename_i d k k' n hs hd
    cases h; cases ha
    refine ⟨.int k (k.wrap n), ?_, .v _⟩
    simp only [convert, Sem.run_bind, run_underlying hs, run_underlying hd, Result.andThen_ok]
    cases d <;> rfl
  · rename_i s hs hd
    cases h; cases ha
    refine ⟨.string s, ?_, .v _⟩
    simp only [convert, Sem.run_bind, run_underlying hs, run_underlying hd, Result.andThen_ok]
    rfl
  · rename_i e full rows hs hd
    split at h
    · rename_i xs he hx
      cases h
      obtain ⟨h1, h2⟩ := strOf_spec _ _ hx
      cases ha with
      | ro _ _ _ ad cap vals hcap hmax hfull hnone hlen hcell hpure hrel =>
        cases ad with
        | none =>
          have hr := hnone rfl
          subst hr
          have : xs = [] := List.eq_nil_of_length_eq_zero (by simpa using h1)
          subst this
          exact ⟨_, by rw [run_convert_bytes_nil c.w src e hs he _ _ dst hd]; rfl, .v _⟩
        | some ad =>
          by_cases hr : rows = []
          · subst hr
            have : xs = [] := List.eq_nil_of_length_eq_zero (by simpa using h1)
            subst this
            refine ⟨.string (strOfNums []), ?_, .v _⟩
            rw [run_convert_bytes_string c.w src dst e _ _ cap hs he hd]
            exact run_bytesToString (P := P) c.w ad 0 cap [] (by simp [loadCells, loadCellsFrom])
          · have hpos : 0 < rows.length := by cases rows with | nil => exact absurd rfl hr | cons a l => simp
            have h0 := h2 0 hpos
            have hsp := (hcell ad rfl 0 _ 0 _ h0 rfl).1
            refine ⟨_, ?_, .v _⟩
            cases ad with
            | mk b o s =>
              simp only at hsp
              subst hsp
              refine run_convert_bytes_arg c.w src e hs he b o rows.length cap xs h1 (fun i hi => ?_) dst hd
              obtain ⟨_, _, k3, _⟩ := hcell _ rfl i _ 0 _ (h2 i hi) rfl
              have hv := hrel i _ 0 _ (h2 i hi) rfl
              simp only [Nat.mul_one, Nat.add_zero] at k3
              rw [k3]
              generalize vals i 0 = u at hv
              cases hv
              rfl
    · cases h
  · rename_i e l cc hs hd
    split at h
    · rename_i he
      cases h; cases ha
      exact ⟨_, run_convert_bytes_nil c.w src e hs he _ _ dst hd, .v _⟩
    · cases h
  · cases h

def pickPV (t x y : PV) : Option PV :=
  match t, x, y with
  | .v (.bool b), .v (.bool p), .v (.bool q) => some (.v (.bool (if b then p else q)))
  | .v (.bool true), x, _ => some x
  | .v (.bool false), _, y => some y
  | _, _, _ => none

theorem pickPV_sound {P : Program} {c : Cx} {t x y z : PV} {vt vx vy : Value} (h : pickPV t x y = some z) (ht : RelV c t vt) (hx : RelV c x vx) (hy : RelV c y vy) :
    ∃ b, (asBool vt).run P c.w = .ok b c.w ∧ RelV c z (if b then vx else vy) := by
  unfold pickPV at h
  split at h
  · rename_i b p q
    cases h; cases ht; cases hx; cases hy
    refine ⟨b, rfl, ?_⟩
    cases b <;> exact .v _
  · cases h; cases ht; exact ⟨true, rfl, hx⟩
  · cases h; cases ht; exact ⟨false, rfl, hy⟩
  · cases h

def nilCheckPV (S : List Blk) : PV → Option PV
  | .ptr τ g i off => if alive S τ g then some (.ptr τ g i off) else none
  | .rp row off => some (.rp row off)
  | .fn (.func f) a b => some (.fn (.func f) a b)
  | _ => none

def extractPV (i : Nat) : PV → Option PV
  | .tup cs => cs[i]?
  | _ => none

def callPV (P : Program) (σ : PS) (c : Call) : Option PV :=
  match c.callee, c.args.toList, c.argTypes.toList with
  | .builtin .len, [x], [t] => lenPV P σ.S t (σ.get x)
  | .builtin .min, [x, y], _ => match σ.get x, σ.get y with
    | .v (.int k a), .v (.int _ b) => some (.v (.int k (if b < a then b else a)))
    | _, _ => none
  | .builtin .max, [x, y], _ => match σ.get x, σ.get y with
    | .v (.int k a), .v (.int _ b) => some (.v (.int k (if b > a then b else a)))
    | _, _ => none
  | _, _, _ => none

/-- What an operation that only reads answers. -/
def ev (P : Program) (σ : PS) (o : Op) : Option PV :=
  match o with
  | .move x => some (σ.get x)
  | .assign x => some (σ.get x)
  | .pick c a b => pickPV (σ.get c) (σ.get a) (σ.get b)
  | .nilCheck x => nilCheckPV σ.S (σ.get x)
  | .binOp op t x y _ => binPV P σ.S op t (σ.get x) (σ.get y)
  | .unOp op _ x => unPV op (σ.get x)
  | .convert src dst x => convPV P src dst (σ.get x)
  | .makeFunc fn first captured => some (.fn fn (first.toList.map σ.get) (captured.toList.map σ.get))
  | .fieldAddr s x f => fieldAddrPV P s (σ.get x) f σ.S
  | .field t x f => fieldPV P t (σ.get x) f
  | .indexAddr t x ix => indexAddrPV P σ.S t (σ.get x) (σ.get ix)
  | .index t x ix => indexPV P t (σ.get x) (σ.get ix)
  | .load t x => loadPV P σ.S t (σ.get x)
  | .extract x i => extractPV i (σ.get x)
  | .build t parts => buildPV P t (parts.toList.map fun p => (p.1, σ.get p.2))
  | .slice t x lo hi mx => slicePV P σ.S t (σ.get x) (lo.map σ.get) (hi.map σ.get) (mx.map σ.get)
  | .call c => callPV P σ c
  | _ => none

theorem ev_sound {P : Program} {c : Cx} {σ : PS} {a : Act} {o : Oper} {z : PV} (r : Rel c σ a) (h : ev P σ o.op = some z) :
    ∃ v, (execOp a.eval o).run P c.w = .ok (.value v) c.w ∧ RelV c z v := by
  have hi := r.inv
  have mk : ∀ {s : Sem Value}, (∃ v, s.run P c.w = .ok v c.w ∧ RelV c z v) → ∃ v, (do pure (.value (← s)) : Sem Next).run P c.w = .ok (.value v) c.w ∧ RelV c z v := by
    rintro s ⟨v, h1, h2⟩
    exact ⟨v, by rw [Sem.run_bind, h1]; rfl, h2⟩
  have opt : ∀ (q : Option Operand), (∀ x, q.map σ.get = some x → ∃ u, q.map a.eval = some u ∧ RelV c x u) ∧ (q.map σ.get = none → q.map a.eval = none) := by
    intro q
    cases q with
    | none => simp
    | some y => simpa using r.get y
  unfold ev at h
  unfold execOp
  rw [← r.S] at h
  split at h <;> rename_i ho <;> simp only [ho]
  · cases h; exact ⟨_, rfl, r.get _⟩
  · cases h; exact ⟨_, rfl, r.get _⟩
  · obtain ⟨b, h1, h2⟩ := pickPV_sound (P := P) h (r.get _) (r.get _) (r.get _)
    exact ⟨_, by rw [Sem.run_bind, h1]; rfl, h2⟩
  · rename_i x
    have hx := r.get x
    unfold nilCheckPV at h
    split at h
    · rename_i τ g i off he
      rw [he] at hx
      split at h
      · rename_i hal
        cases h
        obtain ⟨blk, h1, h2⟩ := alive_spec hal
        cases hx with
        | ptr _ _ _ _ y hy hN hv =>
          obtain ⟨h3, p, hp, h4⟩ := hv blk h1 h2
          rw [h4]
          exact ⟨_, rfl, .ptr _ _ _ _ _ rfl hN (fun blk' k1 k2 => by rw [h1] at k1; cases k1; exact ⟨h3, p, hp, rfl⟩)⟩
      · cases h
    · rename_i row off he
      rw [he] at hx
      cases h
      generalize a.eval x = y at hx
      cases hx with
      | rp row off b o vals hc hp hr => exact ⟨_, rfl, .rp _ _ _ _ vals hc hp hr⟩
    · rename_i f p q he
      rw [he] at hx
      cases h
      generalize a.eval x = y at hx
      cases hx with
      | fn f a b va vb hsa hsb ha hb => exact ⟨_, rfl, .fn _ _ _ _ _ hsa hsb ha hb⟩
    · cases h
  · exact mk (binPV_sound h (r.get _) (r.get _) _ _)
  · exact mk (unPV_sound h (r.get _))
  · exact mk (convPV_sound h (r.get _))
  · rename_i fn first captured
    cases h
    have all : ∀ (xs : Array Operand) (i : Nat) (x : PV) (v : Value), (xs.toList.map σ.get)[i]? = some x → (xs.map a.eval)[i]? = some v → RelV c x v := by
      intro xs i x v hx hv
      rw [List.getElem?_map, Array.getElem?_toList] at hx
      rw [Array.getElem?_map] at hv
      obtain ⟨y, hy, rfl⟩ := Option.map_eq_some_iff.1 hx
      rw [hy] at hv
      cases hv
      exact r.get y
    exact ⟨_, rfl, .fn _ _ _ _ _ (by simp) (by simp) (all first) (all captured)⟩
  · exact mk (fieldAddrPV_sound h (r.get _))
  · exact mk (fieldPV_sound h (r.get _))
  · exact mk (indexAddrPV_sound hi h (r.get _) (r.get _))
  · exact mk (indexPV_sound h (r.get _) (r.get _))
  · exact mk (loadPV_sound hi h (r.get _))
  · rename_i x i
    have hx := r.get x
    unfold extractPV at h
    split at h
    · rename_i cs he
      rw [he] at hx
      generalize a.eval x = y at hx
      cases hx with
      | tup cs vs hs hr =>
        have hlt : i < vs.size := by rw [hs]; exact (List.getElem?_eq_some_iff.1 h).1
        have hv : vs[i]? = some vs[i] := Array.getElem?_eq_getElem hlt
        exact mk ⟨vs[i], by simp [Instr.extract, hv], hr i z _ h hv⟩
    · cases h
  · rename_i t parts
    refine mk (buildPV_sound h (by simp) (fun j p v hp hv => ?_))
    rw [List.getElem?_map, Array.getElem?_toList] at hp
    rw [Array.getElem?_map] at hv
    obtain ⟨y, hy, rfl⟩ := Option.map_eq_some_iff.1 hp
    rw [hy] at hv
    cases hv
    exact ⟨rfl, r.get y.2⟩
  · rename_i t x lo h' mx
    exact mk (slicePV_sound h (r.get _) (opt _).1 (opt _).2 (opt _).1 (opt _).2 (opt _).1 (opt _).2)
  · rename_i cl
    unfold callPV at h
    split at h
    · rename_i x t hc ha ht
      replace ha : cl.args = #[x] := by rw [← Array.toArray_toList (xs := cl.args), ha]
      replace ht : cl.argTypes = #[t] := by rw [← Array.toArray_toList (xs := cl.argTypes), ht]
      obtain ⟨v, h1, h2⟩ := lenPV_sound (P := P) (ty := o.type) (by rw [r.S]; exact h) (r.get x)
      refine ⟨v, ?_, h2⟩
      simp only [resolve, hc, ha, ht, Sem.run_bind, Sem.run_pure, Result.andThen_ok, invoke, builtin, List.map_toArray, List.map_cons, List.map_nil]
      rw [h1]
      rfl
    · rename_i _ x y hc ha
      replace ha : cl.args = #[x, y] := by rw [← Array.toArray_toList (xs := cl.args), ha]
      split at h
      · rename_i k p k' q e1 e2
        cases h
        have g1 := r.get x
        have g2 := r.get y
        rw [e1] at g1
        rw [e2] at g2
        generalize hv1 : a.eval x = v1 at g1
        generalize hv2 : a.eval y = v2 at g2
        cases g1
        cases g2
        refine ⟨_, ?_, .v _⟩
        simp only [resolve, hc, ha, Sem.run_bind, Sem.run_pure, Result.andThen_ok, invoke, builtin, List.map_toArray, List.map_cons, List.map_nil, Builtin.min_, List.foldlM_cons, List.foldlM_nil, Builtin.min2, hv1, hv2]
      · cases h
    · rename_i _ x y hc ha
      replace ha : cl.args = #[x, y] := by rw [← Array.toArray_toList (xs := cl.args), ha]
      split at h
      · rename_i k p k' q e1 e2
        cases h
        have g1 := r.get x
        have g2 := r.get y
        rw [e1] at g1
        rw [e2] at g2
        generalize hv1 : a.eval x = v1 at g1
        generalize hv2 : a.eval y = v2 at g2
        cases g1
        cases g2
        refine ⟨_, ?_, .v _⟩
        simp only [resolve, hc, ha, Sem.run_bind, Sem.run_pure, Result.andThen_ok, invoke, builtin, List.map_toArray, List.map_cons, List.map_nil, Builtin.max_, List.foldlM_cons, List.foldlM_nil, Builtin.max2, hv1, hv2]
      · cases h
    · cases h
  · cases h
end Go.Proofs.Ytaaealngifkaeaa.Pv
