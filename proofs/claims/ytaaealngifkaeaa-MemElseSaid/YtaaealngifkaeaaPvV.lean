-- Twenty-first text: a law's parameters, read as pure values, whatever their types; and the law's end.
import Derived.Test.YtaaealngifkaeaaPvU
import Derived.ChangeShapes
import Derived.OpenShut
import Derived.SizedLaws
import Derived.Deep.Slices
namespace Go.Proofs.Ytaaealngifkaeaa.Pv
set_option linter.all false
open Go.RowKit Go.WideShapes Go.ChangeShapes
set_option linter.unusedVariables false

def c0 (w : World) : Cx := ⟨w, fun _ => False, fun _ => none, [], 0⟩
theorem c0_notX (w : World) (b : Nat) : ¬ (c0 w).X b := by
  rintro (h | ⟨τ, blk, p, h, _⟩)
  · exact h
  · simp [c0] at h
theorem c0_inv (w : World) : Inv (c0 w) :=
  ⟨fun τ blk h => by simp [c0] at h, fun τ blk p h => by simp [c0] at h, fun τ τ' b b' p p' h => by simp [c0] at h, fun b h => False.elim h⟩

structure CellRel (w : World) (x : PV) (v : Value) : Prop where
  pure : x.Pure
  one : v.oneCell' = true
  rel : RelV (c0 w) x v

def CellsRel (w : World) (xs : List PV) (cs : List Value) : Prop := xs.length = cs.length ∧ ∀ (i : Nat) (x : PV) (v : Value), xs[i]? = some x → cs[i]? = some v → CellRel w x v

/-- What a type's cells read as. -/
class OpT (P : Program) (t : TypeId) (S : outParam (List PV → Prop)) : Prop where
  h : ∀ {H : Type} {enc : TypeId × Value → H} {w : World} {spare : Nat → Bool} {held : Bool} {fuel : Nat} {cs : List Value} {x : DataW H × List MemPlace}, DataW.trod enc P w 0 spare held fuel t cs = some x →
    (DataW.weights P t x.1).all (· ≤ reachBytes) = true → ∃ xs : List PV, CellsRel w xs cs ∧ S xs

def SInt (k : IntKind) (xs : List PV) : Prop := ∃ n, xs = [.v (.int k n)] ∧ (Lit.int k n).wf = true
def SBool (xs : List PV) : Prop := ∃ b, xs = [.v (.bool b)]
def SStr (xs : List PV) : Prop := ∃ s : ByteArray, xs = [.v (.string s)] ∧ s.size ≤ 140737488351232
def SSl (sz B : Nat) (S : List PV → Prop) (xs : List PV) : Prop := ∃ rows : List (List PV), xs = [.ro sz false rows] ∧ rows.length * B ≤ 140737488351232 ∧ rows.length ≤ maxLen ∧ ∀ row ∈ rows, S row
def SArr (n : Nat) (S : List PV → Prop) (xs : List PV) : Prop := ∃ rows : List (List PV), xs = rows.flatten ∧ rows.length = n ∧ ∀ row ∈ rows, S row
def SFs : List (List PV → Prop) → List PV → Prop
  | [], xs => xs = []
  | S :: Ss, xs => ∃ p q, xs = p ++ q ∧ S p ∧ SFs Ss q

theorem cellsRel_one {w : World} {x : PV} {v : Value} (h : CellRel w x v) : CellsRel w [x] [v] := ⟨rfl, fun i y u h1 h2 => by
  cases i with
  | zero => simp at h1 h2; subst h1; subst h2; exact h
  | succ i => simp at h1⟩

instance (P : Program) (t : TypeId) (k : IntKind) [u : Und P t (.int k)] : OpT P t (SInt k) := ⟨fun h _ => by
  obtain ⟨n, rfl, rfl, hw⟩ := DataW.trod_int u.h h
  exact ⟨[.v (.int k n)], cellsRel_one ⟨.v _, rfl, .v _⟩, n, rfl, hw⟩⟩
instance (P : Program) (t : TypeId) [u : Und P t .bool] : OpT P t SBool := ⟨fun h _ => by
  obtain ⟨n, rfl, rfl⟩ := DataW.trod_bool u.h h
  exact ⟨[.v (.bool n)], cellsRel_one ⟨.v _, rfl, .v _⟩, n, rfl⟩⟩
instance (P : Program) (t : TypeId) [u : Und P t .string] : OpT P t SStr := ⟨fun h hs => by
  obtain ⟨n, rfl, rfl, hw⟩ := DataW.trod_string u.h h
  refine ⟨[.v (.string n)], cellsRel_one ⟨.v _, rfl, .v _⟩, n, rfl, ?_⟩
  simp only [DataW.weights, List.all_cons, List.all_nil, Bool.and_true, decide_eq_true_eq] at hs
  have : n.data.toList.length = n.size := by rw [Array.length_toList]; rfl
  unfold reachBytes at hs
  omega⟩

theorem weightsAll_mem {H : Type} {P : Program} {e : TypeId} {l : List (DataW H)} {d : DataW H} (hd : d ∈ l) (h : (DataW.weightsAll P e l).all (· ≤ reachBytes) = true) : (DataW.weights P e d).all (· ≤ reachBytes) = true := by
  induction l with
  | nil => cases hd
  | cons y l ih =>
    simp only [DataW.weightsAll, List.all_append, Bool.and_eq_true] at h
    cases hd with
    | head => exact h.1
    | tail _ hm => exact ih hm h.2

instance (P : Program) (t e : TypeId) (sz B : Nat) (S : List PV → Prop) [u : Und P t (.slice e)] [c : Cel P e sz] [b : Byt P e B] [o : OpT P e S] : OpT P t (SSl sz B S) := ⟨fun {H enc w spare held fuel cs x} h hs => by
  rcases Go.Deep.open_slice u.h h with ⟨rfl, rfl⟩ | ⟨a, len, cap, m, n, D, Pl, rfl, _, hl, hm, hmm, rfl, hx⟩
  · refine ⟨[.ro sz false []], cellsRel_one ⟨.ro (by simp), rfl, ?_⟩, [], rfl, by simp, by simp, by simp⟩
    exact .ro sz false [] none 0 (fun _ _ => .nilIface) (Nat.le_refl _) (by simp) (by simp) (by simp) (by simp) (by simp) (by simp) (by simp)
  simp only [DataW.weights, u.h, List.all_cons, List.all_append, Bool.and_eq_true, decide_eq_true_eq, List.length_map, List.length_range] at hs
  obtain ⟨h1, h2, _⟩ := hs
  have hlm : len ≤ m := by rw [hmm]; split <;> omega
  have each : ∀ i, i < len → ∃ q : List PV × List Value, w.cells? 0 (a.add (i * P.cellsOf e)) (P.cellsOf e) = some q.2 ∧ CellsRel w q.1 q.2 ∧ S q.1 := by
    intro i hi
    obtain ⟨cs', hcell, hy⟩ := hx i (by omega)
    obtain ⟨xs, hk, hv⟩ := o.h hy (weightsAll_mem (List.mem_map.2 ⟨i, List.mem_range.2 hi, rfl⟩) h2)
    exact ⟨(xs, cs'), hcell, hk, hv⟩
  obtain ⟨V, hV⟩ := Go.Deep.choose_lt each
  have hrow : ∀ (i : Nat) (row : List PV), ((List.range len).map fun i => (V i).1)[i]? = some row → i < len ∧ row = (V i).1 := by
    intro i row hr
    have hi : i < len := by
      rcases Nat.lt_or_ge i len with h | h
      · exact h
      · rw [List.getElem?_eq_none (by simpa using h)] at hr; cases hr
    refine ⟨hi, ?_⟩
    simp [hi] at hr
    exact hr.symm
  have cellAt : ∀ (i : Nat) (row : List PV) (j : Nat) (x : PV), ((List.range len).map fun i => (V i).1)[i]? = some row → row[j]? = some x → ∃ v, (V i).2[j]? = some v ∧ a.spot = none ∧ w.cell? ⟨a.block, a.off + (i * sz + j), none⟩ = some v ∧ CellRel w x v := by
    intro i row j x hr hj
    obtain ⟨hi, rfl⟩ := hrow i row hr
    obtain ⟨hc, hk, hS⟩ := hV i hi
    obtain ⟨_, hlen, hc'⟩ := World.cells?_some hc
    have hjl : j < (V i).2.length := by rw [← hk.1]; exact (List.getElem?_eq_some_iff.1 hj).1
    have hv := hc' j (by rw [← hlen]; exact hjl)
    rw [List.getElem?_eq_getElem hjl] at hv
    have hsp : a.spot = none := by
      obtain ⟨hc0, hk0, _⟩ := hV 0 (by omega)
      obtain ⟨_, hlen0, hc0'⟩ := World.cells?_some hc0
      have h0 := hc0' 0 (by omega)
      rw [List.getElem?_eq_getElem (by omega)] at h0
      have := World.cell?_spot h0
      simpa [Addr.add] using this
    refine ⟨_, List.getElem?_eq_getElem hjl, hsp, ?_, hk.2 j x _ hj (List.getElem?_eq_getElem hjl)⟩
    rw [← hv, ← c.h]
    obtain ⟨ab, ao, as⟩ := a
    simp only at hsp
    subst hsp
    rw [add_plain, add_plain, Nat.add_assoc]
  refine ⟨[.ro sz false ((List.range len).map fun i => (V i).1)], cellsRel_one ⟨.ro ?_, rfl, ?_⟩, _, rfl, ?_, ?_, ?_⟩
  · intro row hr x hx'
    obtain ⟨i, hi⟩ := List.getElem?_of_mem hr
    obtain ⟨j, hj⟩ := List.getElem?_of_mem hx'
    obtain ⟨v, _, _, _, h5⟩ := cellAt i row j x hi hj
    exact h5.pure
  · have := RelV.ro (c := c0 w) sz false ((List.range len).map fun i => (V i).1) (some a) cap (fun i j => ((V i).2[j]?).getD .nilIface) (by simpa using hl) (by exact hm) (by simp) (by simp)
      (fun i row hr => by
        obtain ⟨hi, rfl⟩ := hrow i row hr
        obtain ⟨hc, hk, _⟩ := hV i hi
        rw [hk.1, (World.cells?_some hc).2.1, c.h])
      (fun ad ha i row j x hr hj => by
        cases ha
        obtain ⟨v, h3, h4, h5, h6⟩ := cellAt i row j x hr hj
        exact ⟨h4, c0_notX w _, by show w.cell? _ = _; rw [h5, h3]; rfl, by rw [h3]; exact h6.one⟩)
      (fun i row j x hr hj => (cellAt i row j x hr hj).choose_spec.2.2.2.pure)
      (fun i row j x hr hj => by
        obtain ⟨v, h3, h4, h5, h6⟩ := cellAt i row j x hr hj
        rw [h3]; exact h6.rel)
    simpa using this
  · simp only [List.length_map, List.length_range]
    unfold reachBytes at h1
    rw [b.h] at h1
    exact Nat.le_trans (Nat.mul_le_mul_right _ (Nat.le_add_right _ _)) h1
  · simp only [List.length_map, List.length_range]
    simp only [maxLen] at hm ⊢
    omega
  · intro row hr
    obtain ⟨i, hi, rfl⟩ := List.mem_map.1 hr
    exact (hV i (List.mem_range.1 hi)).2.2⟩

/-! structs and arrays -/
class OpFs (P : Program) (ts : List TypeId) (Ss : outParam (List (List PV → Prop))) : Prop where
  h : ∀ {H : Type} {enc : TypeId × Value → H} {w : World} {spare : Nat → Bool} {held : Bool} {fuel : Nat} {cs : List Value} {xs : List (DataW H × List MemPlace)},
    xs.length = ts.length → cs.length = (ts.map P.cellsOf).sum → (∀ (i : Nat) (t : TypeId), ts[i]? = some t → DataW.trod enc P w 0 spare held fuel t ((cs.drop ((ts.take i).map P.cellsOf).sum).take (P.cellsOf t)) = xs[i]?) →
    (DataW.weightsEach P ts (xs.map (·.1))).all (· ≤ reachBytes) = true → ∃ ys : List PV, CellsRel w ys cs ∧ SFs Ss ys

theorem CellsRel.append {w : World} {a b : List PV} {c d : List Value} (h : CellsRel w a c) (k : CellsRel w b d) : CellsRel w (a ++ b) (c ++ d) := by
  refine ⟨by simp [h.1, k.1], fun i x v h1 h2 => ?_⟩
  rcases Nat.lt_or_ge i a.length with hi | hi
  · rw [List.getElem?_append_left hi] at h1
    rw [List.getElem?_append_left (by rw [← h.1]; exact hi)] at h2
    exact h.2 i x v h1 h2
  · rw [List.getElem?_append_right hi] at h1
    rw [List.getElem?_append_right (by rw [← h.1]; exact hi), ← h.1] at h2
    exact k.2 _ x v h1 h2

instance (P : Program) : OpFs P [] [] := ⟨fun {H enc w spare held fuel cs xs} h1 h2 _ _ => by
  obtain rfl : cs = [] := by simpa using h2
  exact ⟨[], ⟨rfl, fun i x v h => by simp at h⟩, rfl⟩⟩
instance (P : Program) (t : TypeId) (ts : List TypeId) (S : List PV → Prop) (Ss : List (List PV → Prop)) [o : OpT P t S] [os : OpFs P ts Ss] : OpFs P (t :: ts) (S :: Ss) := ⟨fun {H enc w spare held fuel cs xs} h1 h2 h3 h4 => by
  match xs, h1 with
  | x :: xs, h1 =>
    simp only [List.map_cons, DataW.weightsEach, List.all_append, Bool.and_eq_true] at h4
    have h30 := h3 0 t rfl
    simp only [List.take_zero, List.map_nil, List.sum_nil, List.drop_zero, List.getElem?_cons_zero] at h30
    obtain ⟨p, k1, k2⟩ := o.h h30 h4.1
    obtain ⟨q, k3, k4⟩ := os.h (fuel := fuel) (enc := enc) (w := w) (spare := spare) (held := held) (cs := cs.drop (P.cellsOf t)) (xs := xs) (by simpa using h1) (by simp at h2 ⊢; omega) (fun i u hu => by
      have := h3 (i + 1) u (by simpa using hu)
      simp only [List.take_succ_cons, List.map_cons, List.sum_cons, List.getElem?_cons_succ] at this
      rw [List.drop_drop]
      exact this) h4.2
    refine ⟨p ++ q, ?_, p, q, rfl, k2, k4⟩
    have := k1.append k3
    rwa [List.take_append_drop] at this⟩

def structB (P : Program) (t : TypeId) (ts : List TypeId) : Bool :=
  match P.underlying t with
  | some (.struct fs) => decide (fs.toList.map (·.type) = ts) && decide (fs.toList.map (·.offset) = (List.range ts.length).map fun i => ((ts.take i).map P.cellsOf).sum) && decide (P.cellsOf t = (ts.map P.cellsOf).sum)
  | _ => false
class StructT (P : Program) (t : TypeId) (ts : outParam (List TypeId)) : Prop where
  h : structB P t ts = true

instance (P : Program) (t : TypeId) (ts : List TypeId) (Ss : List (List PV → Prop)) [s : StructT P t ts] [o : OpFs P ts Ss] : OpT P t (SFs Ss) := ⟨fun {H enc w spare held fuel cs x} h hs => by
  have hb := s.h
  unfold structB at hb
  split at hb
  · rename_i fs hu
    simp only [Bool.and_eq_true, decide_eq_true_eq] at hb
    obtain ⟨⟨b1, b2⟩, b3⟩ := hb
    obtain ⟨xs, n, rfl, rfl, h1, h2, h3⟩ := DataW.trod_struct hu h
    simp only [DataW.weights, hu] at hs
    rw [b1] at hs
    have hlen : fs.size = ts.length := by rw [← b1]; simp
    refine o.h (fuel := n) (enc := enc) (w := w) (spare := spare) (held := held) (by rw [h2, hlen]) (by rw [h1, b3]) (fun i u hu' => ?_) hs
    have hi : i < ts.length := (List.getElem?_eq_some_iff.1 hu').1
    have hf : fs[i]? = some (fs[i]'(by omega)) := Array.getElem?_eq_getElem (by omega)
    have := h3 i _ hf
    have e1 : (fs[i]'(by omega)).type = u := by
      have h5 : (fs.toList.map (·.type))[i]? = some u := by rw [b1]; exact hu'
      simp only [List.getElem?_map, Array.getElem?_toList, hf, Option.map_some, Option.some.injEq] at h5
      exact h5
    have e2 : (fs[i]'(by omega)).offset = ((ts.take i).map P.cellsOf).sum := by
      have h5 : (fs.toList.map (·.offset))[i]? = some ((ts.take i).map P.cellsOf).sum := by rw [b2]; simp [hi]
      simp only [List.getElem?_map, Array.getElem?_toList, hf, Option.map_some, Option.some.injEq] at h5
      exact h5
    rw [e1, e2] at this
    exact this
  · cases hb⟩

theorem arr_cells {P : Program} {e : TypeId} {S : List PV → Prop} [o : OpT P e S] {H : Type} {enc : TypeId × Value → H} {w : World} {spare : Nat → Bool} {held : Bool} {fuel : Nat} : ∀ (n : Nat) (cs : List Value) (xs : List (DataW H × List MemPlace)),
    cs.length = n * P.cellsOf e → xs.length = n → (∀ i, i < n → DataW.trod enc P w 0 spare held fuel e ((cs.drop (i * P.cellsOf e)).take (P.cellsOf e)) = xs[i]?) → (DataW.weightsAll P e (xs.map (·.1))).all (· ≤ reachBytes) = true →
    ∃ rows : List (List PV), CellsRel w rows.flatten cs ∧ rows.length = n ∧ ∀ row ∈ rows, S row
  | 0, cs, xs, h1, h2, h3, h4 => by
    obtain rfl : cs = [] := by simpa using h1
    exact ⟨[], ⟨rfl, fun i x v h => by simp at h⟩, rfl, by simp⟩
  | n + 1, cs, x :: xs, h1, h2, h3, h4 => by
    simp only [List.map_cons, DataW.weightsAll, List.all_append, Bool.and_eq_true] at h4
    have h30 := h3 0 (by omega)
    simp only [Nat.zero_mul, List.drop_zero, List.getElem?_cons_zero] at h30
    obtain ⟨p, k1, k2⟩ := o.h h30 h4.1
    have h1' : cs.length = P.cellsOf e + n * P.cellsOf e := by rw [h1, Nat.succ_mul]; omega
    obtain ⟨rows, k3, k4, k5⟩ := arr_cells (fuel := fuel) (enc := enc) (w := w) (spare := spare) (held := held) n (cs.drop (P.cellsOf e)) xs (by rw [List.length_drop]; omega) (by simpa using h2) (fun i hi => by
      have := h3 (i + 1) (by omega)
      rw [List.drop_drop]
      rw [Nat.succ_mul, Nat.add_comm] at this
      simpa using this) h4.2
    refine ⟨p :: rows, ?_, by simp [k4], fun row hr => ?_⟩
    · have := k1.append k3
      rw [List.take_append_drop] at this
      simpa using this
    · rcases List.mem_cons.1 hr with rfl | hr
      · exact k2
      · exact k5 row hr

class CelA (P : Program) (t e : TypeId) (n : Nat) : Prop where
  h : P.cellsOf t = n * P.cellsOf e
instance (P : Program) (t e : TypeId) (n : Nat) (S : List PV → Prop) [u : Und P t (.array n e)] [c : CelA P t e n] [o : OpT P e S] : OpT P t (SArr n S) := ⟨fun {H enc w spare held fuel cs x} h hs => by
  obtain ⟨xs, m, rfl, rfl, h1, h2, h3⟩ := DataW.trod_array u.h h
  simp only [DataW.weights, u.h] at hs
  obtain ⟨rows, k1, k2, k3⟩ := arr_cells (fuel := m) (enc := enc) (w := w) (spare := spare) (held := held) n cs xs (by rw [h1, c.h]) h2 h3 hs
  exact ⟨_, k1, rows, rfl, k2, k3⟩⟩

/-! parameters -/
class ParT (P : Program) (t : TypeId) (S : outParam (PV → Prop)) : Prop where
  h : ∀ {H : Type} {enc : TypeId × Value → H} {w : World} {spare : Nat → Bool} {held : Bool} {base : Nat} {v : Value} {d : DataW H} {ps : List MemPlace}, Value.okWide P w .any base t v → DataW.Trod enc P w 0 spare held t v d ps →
    (DataW.weights P t d).all (· ≤ reachBytes) = true → ∃ x : PV, x.Pure ∧ RelV (c0 w) x v ∧ S x

theorem cells_of_okWide {P : Program} {w : World} {base : Nat} {t : TypeId} {v : Value} (ha : isAggT P t = false) (h : Value.okWide P w .any base t v) : v.cells.toList = [v] := by
  unfold isAggT at ha
  unfold Value.okWide at h
  split at h
  · simp_all
  · simp_all
  · cases v <;> first | rfl | (unfold Cell.okWide Cell.ok at h; split at h <;> simp_all)

instance parOne (P : Program) (t : TypeId) (S : List PV → Prop) [a : AggT P t false] [o : OpT P t S] : ParT P t (fun x => S [x]) := ⟨fun {H enc w spare held base v d ps} hv h hs => by
  obtain ⟨fuel, hf⟩ := h
  rw [cells_of_okWide a.h.1 hv] at hf
  obtain ⟨xs, hk, hS⟩ := o.h hf hs
  match xs, hk with
  | [x], hk =>
    have := hk.2 0 x v rfl rfl
    exact ⟨x, this.pure, this.rel, hS⟩
  | [], hk => cases hk.1
  | _ :: _ :: _, hk => cases hk.1⟩
instance parAgg (P : Program) (t : TypeId) (S : List PV → Prop) [a : AggT P t true] [o : OpT P t S] : ParT P t (fun x => ∃ xs, x = .agg xs ∧ S xs) := ⟨fun {H enc w spare held base v d ps} hv h hs => by
  obtain ⟨fuel, hf⟩ := h
  obtain ⟨cs, rfl⟩ : ∃ cs, v = .agg cs := by
    have ha := a.h.1
    unfold isAggT at ha
    unfold Value.okWide at hv
    split at hv
    · obtain ⟨cs, rfl, _⟩ := hv; exact ⟨cs, rfl⟩
    · obtain ⟨cs, rfl, _⟩ := hv; exact ⟨cs, rfl⟩
    · rename_i h1 h2
      split at ha
      · exact absurd (by assumption) (h1 _)
      · exact absurd (by assumption) (h2 _ _)
      · cases ha
  have hf' : DataW.trod enc P w 0 spare held fuel t cs.toList = some (d, ps) := hf
  obtain ⟨xs, hk, hS⟩ := o.h hf' hs
  refine ⟨.agg xs, .agg fun x hx => ?_, .agg xs cs (by rw [hk.1]; simp) (fun i v hv' => ?_) (fun i x v h1 h2 => (hk.2 i x v h1 (by simpa using h2)).rel), xs, rfl, hS⟩
  · obtain ⟨i, hi⟩ := List.getElem?_of_mem hx
    have hil : i < cs.toList.length := by rw [← hk.1]; exact (List.getElem?_eq_some_iff.1 hi).1
    exact (hk.2 i x _ hi (List.getElem?_eq_getElem hil)).pure
  · have hil : i < xs.length := by rw [hk.1]; simpa using (Array.getElem?_eq_some_iff.1 hv').1
    exact (hk.2 i _ v (List.getElem?_eq_getElem hil) (by simpa using hv')).one⟩

/-- What a call of pure values does, as a row asks it. -/
inductive RelAll (c : Cx) : List PV → List Value → Prop
  | nil : RelAll c [] []
  | cons {x : PV} {v : Value} {xs : List PV} {vs : List Value} (h : RelV c x v) (k : RelAll c xs vs) : RelAll c (x :: xs) (v :: vs)
theorem RelAll.get {c : Cx} {xs : List PV} {vs : List Value} (h : RelAll c xs vs) : vs.length = xs.length ∧ ∀ (i : Nat) (x : PV) (v : Value), xs[i]? = some x → vs[i]? = some v → RelV c x v := by
  induction h with
  | nil => exact ⟨rfl, fun i x v h => by simp at h⟩
  | cons h k ih =>
    refine ⟨by simp [ih.1], fun i x v h1 h2 => ?_⟩
    cases i with
    | zero => simp at h1 h2; subst h1; subst h2; exact h
    | succ i => exact ih.2 i x v (by simpa using h1) (by simpa using h2)

theorem law_end {P : Program} {f : FuncId} {args : List PV} {b : Bool} (h : PCall P f args (.v (.bool b))) (w : World) (vals : List Value) (hv : RelAll (c0 w) args vals) :
    Calls P f vals.toArray w fun e w' => e = .returned (.bool b) ∧ Below w.heap.size w w' := by
  have hg := hv.get
  refine (h.2.2 (c0 w) vals.toArray (c0_inv w) rfl (by simpa using hg.1) (fun i x v h1 h2 => hg.2 i x v h1 (by simpa using h2))).mono ?_
  rintro e w' ⟨v, x, c', rfl, rfl, rfl, hi', hst, hr⟩
  cases hr
  exact ⟨rfl, hst.os, hst.tape, hst.output, hst.size, fun k hk => hst.blocks k hk (fun ⟨τ, blk, p, h1, _⟩ => by simp [c0] at h1)⟩

theorem weight_at {P : Program} {H : Type} {ts : List TypeId} {ds : List (DataW H)} (h : (DataW.weightsEach P ts ds).all (· ≤ reachBytes) = true) : ∀ {j : Nat} {t : TypeId} {d : DataW H}, ts[j]? = some t → ds[j]? = some d → (DataW.weights P t d).all (· ≤ reachBytes) = true := by
  induction ts generalizing ds with
  | nil => intro j t d ht _; simp at ht
  | cons u ts ih =>
    intro j t d ht hd
    cases ds with
    | nil => simp at hd
    | cons y ds =>
      simp only [DataW.weightsEach, List.all_append, Bool.and_eq_true] at h
      cases j with
      | zero =>
        obtain rfl : u = t := by simpa using ht
        obtain rfl : y = d := by simpa using hd
        exact h.1
      | succ j => exact ih h.2 (by simpa using ht) (by simpa using hd)

/-! what the shapes say of lists of whole numbers -/
theorem rows_ints {k : IntKind} : ∀ {rows : List (List PV)}, (∀ row ∈ rows, SInt k row) → ∃ l : List Int, rows = ints k l ∧ ∀ n ∈ l, (Lit.int k n).wf = true
  | [], _ => ⟨[], rfl, by simp⟩
  | r :: rows, h => by
    obtain ⟨n, h1, h2⟩ := h r (by simp)
    obtain ⟨l, h3, h4⟩ := rows_ints (rows := rows) fun row hr => h row (by simp [hr])
    refine ⟨n :: l, by rw [h1, h3]; rfl, fun m hm => ?_⟩
    rcases List.mem_cons.1 hm with rfl | hm
    · exact h2
    · exact h4 m hm
theorem sl_ints {k : IntKind} {sz B : Nat} {x : PV} (h : SSl sz B (SInt k) [x]) : ∃ l : List Int, x = .ro sz false (ints k l) ∧ l.length * B ≤ 140737488351232 ∧ ∀ n ∈ l, (Lit.int k n).wf = true := by
  obtain ⟨rows, h1, h2, h3, h4⟩ := h
  obtain ⟨l, rfl, h5⟩ := rows_ints h4
  rw [ints_length] at h2
  exact ⟨l, by simpa using h1, h2, h5⟩
theorem arr_ints {k : IntKind} {n : Nat} {xs : List PV} (h : SArr n (SInt k) xs) : ∃ l : List Int, xs = l.map (fun n => .v (.int k n)) ∧ l.length = n ∧ ∀ n ∈ l, (Lit.int k n).wf = true := by
  obtain ⟨rows, h1, h2, h4⟩ := h
  obtain ⟨l, rfl, h5⟩ := rows_ints h4
  rw [ints_length] at h2
  refine ⟨l, ?_, h2, h5⟩
  rw [h1]
  clear h1 h2 h4 h5
  induction l with
  | nil => rfl
  | cons a l ih => simp only [ints, List.map_cons, List.flatten_cons] at ih ⊢; rw [ih]; rfl
theorem one_int {k : IntKind} {x : PV} (h : SInt k [x]) : ∃ n, x = .v (.int k n) ∧ (Lit.int k n).wf = true := by
  obtain ⟨n, h1, h2⟩ := h
  exact ⟨n, by simpa using h1, h2⟩
theorem one_bool {x : PV} (h : SBool [x]) : ∃ b, x = .v (.bool b) := by
  obtain ⟨n, h1⟩ := h
  exact ⟨n, by simpa using h1⟩
end Go.Proofs.Ytaaealngifkaeaa.Pv
