-- Sixth text: slices of slices, conversions, what is built.
import Derived.Test.YtaaealngifkaeaaPvE
namespace Go.Proofs.Ytaaealngifkaeaa.Pv
set_option linter.all false
open Go.RowKit
set_option linter.unusedVariables false

theorem slicePV_sound {P : Program} {c : Cx} {t : TypeId} {x z : PV} {lo hi mx : Option PV} {a : Value} {vl vh vm : Option Value} (h : slicePV P c.S t x lo hi mx = some z) (ha : RelV c x a)
    (rl : ∀ x, lo = some x → ∃ u, vl = some u ∧ RelV c x u) (nl : lo = none → vl = none) (rh : ∀ x, hi = some x → ∃ u, vh = some u ∧ RelV c x u) (nh : hi = none → vh = none)
    (rm : ∀ x, mx = some x → ∃ u, vm = some u ∧ RelV c x u) (nm : mx = none → vm = none) :
    ∃ v, (Instr.sliceAt t a vl vh vm).run P c.w = .ok v c.w ∧ RelV c z v := by
  unfold slicePV at h
  split at h
  · rename_i s hu
    cases ha
    split at h
    · rename_i h1 l1 hh hl
      split at h
      · rename_i hb
        cases h
        have nm' := nm rfl
        subst nm'
        obtain ⟨m', e1, e2, e3, e4, e5⟩ := sliceBounds_run (P := P) (c := c) (is := false) (len := s.size) (cap := s.size) (mx := none) (m := s.size) c.w hh hl rfl hb.1 hb.2 (Nat.le_refl _) (Nat.le_refl _) (fun _ => rfl) rl nl rh nh (fun _ e => by cases e) (fun _ => rfl)
        refine ⟨.string (s.extract l1 h1), ?_, .v _⟩
        simp [Instr.sliceAt, Instr.slice, run_underlying hu, e5]
      · cases h
    · cases h
  · rename_i e τ g off len hu
    split at h
    · rename_i h1 l1 m1 hh hl hm
      split at h
      · rename_i hb
        obtain ⟨b1, b2, b3, b4, b5, b6, b7⟩ := hb
        cases h
        obtain ⟨blk, k1, k2⟩ := alive_spec b4
        obtain ⟨d, hd⟩ := Option.isSome_iff_exists.1 b5
        rw [k1] at b6
        simp only [Option.map_some, Option.some.injEq] at b6
        cases ha with
        | vw _ _ _ _ y hy hN hv =>
          obtain ⟨k3, ad, cap, rfl, k4, k5, k6⟩ := hv blk k1 k2
          obtain ⟨m', e1, e2, e3, e4, e5⟩ := sliceBounds_run (P := P) (c := c) (is := true) (cap := cap) c.w hh hl hm b1 b2 b3 k4 b7 rl nl rh nh rm nm
          refine ⟨.slice (if m' = l1 then ad else ad.map (·.add (l1 * P.cellsOf e))) (h1 - l1) (m' - l1), ?_, ?_⟩
          · simp [Instr.sliceAt, Instr.slice, run_underlying hu, e5, sizeOf_run hd]
          · refine .vw _ _ _ _ _ rfl hN (fun blk' q1 q2 => ?_)
            rw [k1] at q1
            cases q1
            refine ⟨by omega, _, m' - l1, rfl, by omega, by omega, ?_⟩
            by_cases hml : m' = l1
            · exact .inr ⟨by omega, by omega⟩
            · rw [if_neg hml]
              rcases k6 with ⟨p, hp, rfl, cs, ee, fz, k7, k8⟩ | k6
              · refine .inl ⟨p, hp, ?_, cs, ee, fz, k7, ?_⟩
                · simp only [Option.map_some, Addr.add_mid, ← b6, Nat.add_mul, Nat.add_assoc]
                · have : (off + l1 + (m' - l1)) * blk.sz ≤ (off + cap) * blk.sz := Nat.mul_le_mul_right _ (by omega)
                  omega
              · exact .inr ⟨by omega, by omega⟩
      · cases h
    · cases h
  · rename_i e sz full rows hu
    split at h
    · rename_i h1 l1 m1 hh hl hm
      split at h
      · rename_i hb
        obtain ⟨b1, b2, b3, b5, b6, b7⟩ := hb
        cases h
        obtain ⟨d, hd⟩ := Option.isSome_iff_exists.1 b5
        cases ha with
        | ro _ _ _ ad cap vals hcap hmax hfull hnone hlen hcell hpure hrel =>
          obtain ⟨m', e1, e2, e3, e4, e5⟩ := sliceBounds_run (P := P) (c := c) (is := true) (cap := cap) c.w hh hl hm b1 b2 b3 hcap b7 rl nl rh nh rm nm
          have hlen' : h1 - l1 = ((rows.drop l1).take (h1 - l1)).length := by simp only [List.length_take, List.length_drop]; omega
          refine ⟨.slice (if m' = l1 then ad else ad.map (·.add (l1 * P.cellsOf e))) (h1 - l1) (m' - l1), ?_, ?_⟩
          · simp [Instr.sliceAt, Instr.slice, run_underlying hu, e5, sizeOf_run hd]
          · have key := RelV.ro (c := c) sz (if mx.isSome then decide (h1 = m1) else full && decide (h1 = rows.length)) ((rows.drop l1).take (h1 - l1)) (if m' = l1 then ad else ad.map (·.add (l1 * P.cellsOf e))) (m' - l1) (fun i j => vals (l1 + i) j)
              (by rw [← hlen']; omega) (by omega) (fun hf => by
                rw [← hlen']
                cases mx with
                | none =>
                  simp only [Option.isSome_none, Bool.false_eq_true, if_false, Bool.and_eq_true, decide_eq_true_eq] at hf
                  have := hfull hf.1
                  have := e1 rfl
                  omega
                | some mv =>
                  simp only [Option.isSome_some, if_true, decide_eq_true_eq] at hf
                  have := e2 (by simp)
                  omega) (fun hn => by
                have : ad = none := by
                  split at hn
                  · exact hn
                  · simpa using hn
                rw [hnone this]; simp) (fun i row hr => hlen _ row (drop_take_get hr).1) (fun ad' ha' i row j x hr hx => by
                obtain ⟨r1, r2⟩ := drop_take_get hr
                have hml : m' ≠ l1 := by omega
                rw [if_neg hml] at ha'
                obtain ⟨a0, rfl, rfl⟩ := Option.map_eq_some_iff.1 ha'
                obtain ⟨c1, c2, c3, c4⟩ := hcell a0 rfl _ row j x r1 hx
                have hadd : a0.add (l1 * P.cellsOf e) = ⟨a0.block, a0.off + l1 * P.cellsOf e, none⟩ := by
                  cases a0 with | mk b o s => simp only at c1; subst c1; rw [Addr.add_mid]
                rw [hadd]
                refine ⟨rfl, c2, ?_, c4⟩
                rw [← c3, b6, Nat.add_mul]
                congr 2
                simp only [Nat.add_assoc]) (fun i row j x hr hx => hpure _ row j x (drop_take_get hr).1 hx) (fun i row j x hr hx => hrel _ row j x (drop_take_get hr).1 hx)
            rw [← hlen'] at key
            exact key
      · cases h
    · cases h
  · rename_i e hu
    cases ha
    split at h
    · rename_i hh hl hm
      split at h
      · rename_i hb
        simp only [Bool.and_eq_true, Bool.or_eq_true] at hb
        cases h
        obtain ⟨d, hd⟩ := Option.isSome_iff_exists.1 hb.1
        obtain ⟨m', e1, e2, e3, e4, e5⟩ := sliceBounds_run (P := P) (c := c) (is := true) (len := 0) (cap := 0) c.w hh hl hm (Nat.le_refl _) (Nat.le_refl _) (Nat.le_refl _) (Nat.le_refl _) (fun hn => by
          rcases hb.2 with h | h
          · rw [hn] at h; cases h
          · simpa using h) rl nl rh nh rm nm
        obtain rfl : m' = 0 := by omega
        exact ⟨.slice none 0 0, by simp [Instr.sliceAt, Instr.slice, run_underlying hu, e5, sizeOf_run hd], .v _⟩
      · cases h
    · cases h
  · cases h

/-- A value's cells. -/
def cellsPV : PV → Option (List PV)
  | .agg cs => some cs
  | .tup _ => none
  | .undef => none
  | .v x => if x.oneCell' then some [.v x] else none
  | x => some [x]

theorem one_cells {v : Value} (h : v.oneCell' = true) : v.cells = #[v] := by cases v <;> first | rfl | cases h

theorem rel_one {c : Cx} {x : PV} {v : Value} (h1 : v.oneCell' = true) (hr : RelV c x v) : v.cells.size = [x].length ∧ ∀ (i : Nat) (p : PV) (u : Value), [x][i]? = some p → v.cells[i]? = some u → u.oneCell' = true ∧ RelV c p u := by
  rw [one_cells h1]
  refine ⟨rfl, fun i p u hp hu => ?_⟩
  cases i with
  | zero => simp at hp hu; subst hp hu; exact ⟨h1, hr⟩
  | succ i => simp at hp

theorem cellsPV_rel {c : Cx} {x : PV} {v : Value} {cs : List PV} (h : cellsPV x = some cs) (hr : RelV c x v) :
    v.cells.size = cs.length ∧ ∀ (i : Nat) (p : PV) (u : Value), cs[i]? = some p → v.cells[i]? = some u → u.oneCell' = true ∧ RelV c p u := by
  cases hr with
  | v x =>
    simp only [cellsPV] at h
    split at h
    · cases h; exact rel_one (by assumption) (.v _)
    · cases h
  | undef y => cases h
  | agg cs' vs hs h1 hr => cases h; exact ⟨hs, fun i p u hp hu => ⟨h1 i u hu, hr i p u hp hu⟩⟩
  | tup cs vs hs hr => cases h
  | ro sz full rows a cap vals hcap hmax hfull hnone hlen hcell hpure hrel => cases h; exact rel_one rfl (.ro _ _ _ _ _ vals hcap hmax hfull hnone hlen hcell hpure hrel)
  | rp row off b o vals hc hp hr => cases h; exact rel_one rfl (.rp _ _ _ _ vals hc hp hr)
  | vw τ g off len y hy hN hv => cases h; exact rel_one hy (.vw _ _ _ _ _ hy hN hv)
  | ptr τ g off len y hy hN hv => cases h; exact rel_one hy (.ptr _ _ _ _ _ hy hN hv)
  | fn f a b va vb hsa hsb ha hb => cases h; exact rel_one rfl (.fn f a b va vb hsa hsb ha hb)
  | iface t x v hr => cases h; exact rel_one rfl (.iface t x v hr)

/-- Parts laid over cells. -/
def fillPV (place : Nat → Option (Nat × Nat)) (cells : List PV) : List (Nat × PV) → Option (List PV)
  | [] => some cells
  | (i, x) :: rest =>
    match place i, cellsPV x with
    | some (off, size), some cs => if cs.length = size ∧ off + size ≤ cells.length then fillPV place (cells.take off ++ cs ++ cells.drop (off + size)) rest else none
    | _, _ => none

theorem foldl_set (off : Nat) : ∀ (us : List Value) (k : Nat) (cells : Array Value), off + k + us.length ≤ cells.size →
    (us.zipIdx k).foldl (fun cs (p : Value × Nat) => cs.setIfInBounds (off + p.2) p.1) cells = (cells.toList.take (off + k) ++ us ++ cells.toList.drop (off + k + us.length)).toArray
  | [], k, cells, _ => by simp
  | u :: us, k, cells, h => by
    simp only [List.length_cons] at h
    rw [List.zipIdx_cons, List.foldl_cons, foldl_set off us (k + 1) _ (by simp; omega)]
    have e1 : (cells.toList.set (off + k) u).take (off + (k + 1)) = cells.toList.take (off + k) ++ [u] := by
      rw [show off + (k + 1) = (off + k) + 1 by omega, List.take_succ_eq_append_getElem (by simp; omega)]
      congr 1
      · rw [List.take_set_of_le (by omega)]
      · simp
    have e2 : (cells.toList.set (off + k) u).drop (off + (k + 1) + us.length) = cells.toList.drop (off + k + (us.length + 1)) := by
      rw [List.drop_set_of_lt (by omega)]
      congr 1
      omega
    simp only [Array.toList_setIfInBounds, e1, e2, List.append_assoc, List.cons_append, List.nil_append, List.length_cons]

/-- Cells that are told. -/
def RelCells (c : Cx) (cs : List PV) (vs : Array Value) : Prop := vs.size = cs.length ∧ (∀ (i : Nat) (v : Value), vs[i]? = some v → v.oneCell' = true) ∧ ∀ (i : Nat) (x : PV) (v : Value), cs[i]? = some x → vs[i]? = some v → RelV c x v

theorem RelCells.over {c : Cx} {cs ps : List PV} {vs us : Array Value} {off : Nat} (h : RelCells c cs vs) (hp : us.size = ps.length) (hu : ∀ (i : Nat) (p : PV) (u : Value), ps[i]? = some p → us[i]? = some u → u.oneCell' = true ∧ RelV c p u) (hle : off + ps.length ≤ cs.length) :
    RelCells c (cs.take off ++ ps ++ cs.drop (off + ps.length)) (vs.toList.take off ++ us.toList ++ vs.toList.drop (off + us.size)).toArray := by
  obtain ⟨h1, h2, h3⟩ := h
  have key : ∀ (i : Nat) (v : Value), ((vs.toList.take off ++ us.toList ++ vs.toList.drop (off + us.size)))[i]? = some v → v.oneCell' = true ∧ ∀ x : PV, (cs.take off ++ ps ++ cs.drop (off + ps.length))[i]? = some x → RelV c x v := by
    intro i v hv
    rcases Nat.lt_or_ge i off with hi | hi
    · rw [List.append_assoc, List.getElem?_append_left (by simp; omega), List.getElem?_take, if_pos hi, Array.getElem?_toList] at hv
      refine ⟨h2 _ _ hv, fun x hx => ?_⟩
      rw [List.append_assoc, List.getElem?_append_left (by simp; omega), List.getElem?_take, if_pos hi] at hx
      exact h3 _ _ _ hx hv
    · rcases Nat.lt_or_ge (i - off) ps.length with hj | hj
      · rw [List.append_assoc, List.getElem?_append_right (by simp; omega), List.length_take, Array.length_toList, Nat.min_eq_left (by omega), List.getElem?_append_left (by simp; omega), Array.getElem?_toList] at hv
        have hx' : ps[i - off]? = some ps[i - off] := List.getElem?_eq_getElem hj
        refine ⟨(hu _ _ _ hx' hv).1, fun x hx => ?_⟩
        rw [List.append_assoc, List.getElem?_append_right (by simp; omega), List.length_take, Nat.min_eq_left (by omega), List.getElem?_append_left hj] at hx
        exact (hu _ _ _ hx hv).2
      · rw [List.append_assoc, List.getElem?_append_right (by simp; omega), List.length_take, Array.length_toList, Nat.min_eq_left (by omega), List.getElem?_append_right (by simp; omega), List.getElem?_drop, Array.length_toList, Array.getElem?_toList] at hv
        refine ⟨h2 _ _ hv, fun x hx => ?_⟩
        rw [List.append_assoc, List.getElem?_append_right (by simp; omega), List.length_take, Nat.min_eq_left (by omega), List.getElem?_append_right hj, List.getElem?_drop] at hx
        rw [hp] at hv
        exact h3 _ _ _ hx hv
  refine ⟨by simp [h1, hp] <;> omega, fun i v hv => (key i v (by simpa using hv)).1, fun i x v hx hv => (key i v (by simpa using hv)).2 x hx⟩

theorem fillPV_rel {c : Cx} {place : Nat → Option (Nat × Nat)} : ∀ (ps : List (Nat × PV)) (vs : List (Nat × Value)) (cells : List PV) (cs : Array Value) (out : List PV), fillPV place cells ps = some out → RelCells c cells cs →
    ps.length = vs.length → (∀ (j : Nat) (p : Nat × PV) (v : Nat × Value), ps[j]? = some p → vs[j]? = some v → p.1 = v.1 ∧ RelV c p.2 v.2) → ∃ o, Instr.fill place cs vs = some o ∧ RelCells c out o
  | [], [], cells, cs, out, h, hr, _, _ => by cases h; exact ⟨cs, rfl, hr⟩
  | [], _ :: _, _, _, _, _, _, hl, _ => by cases hl
  | _ :: _, [], _, _, _, _, _, hl, _ => by cases hl
  | (i, x) :: ps, (i', v) :: vs, cells, cs, out, h, hr, hl, hv => by
    obtain ⟨hi, hx⟩ := hv 0 _ _ rfl rfl
    simp only at hi hx
    subst hi
    simp only [fillPV] at h
    split at h
    · rename_i off size ps' hpl hc
      split at h
      · rename_i hb
        obtain ⟨c1, c2⟩ := cellsPV_rel hc hx
        have hov := hr.over (off := off) c1 c2 (by omega)
        rw [c1, hb.1] at hov
        obtain ⟨o, h1, h2⟩ := fillPV_rel ps vs _ _ out h hov (by simpa using hl) (fun j p v hp hv' => hv (j + 1) p v hp hv')
        refine ⟨o, ?_, h2⟩
        simp only [Instr.fill, hpl]
        rw [if_neg (by simp only [Bool.or_eq_true, decide_eq_true_eq, not_or]; have := hr.1; omega), ← h1]
        congr 1
        have := foldl_set off v.cells.toList 0 cs (by have := hr.1; simp; omega)
        rw [Array.length_toList, c1, hb.1] at this
        simp only [Nat.add_zero] at this
        rw [← this, ← Array.foldl_toList]
        simp
      · cases h
    · cases h
end Go.Proofs.Ytaaealngifkaeaa.Pv
