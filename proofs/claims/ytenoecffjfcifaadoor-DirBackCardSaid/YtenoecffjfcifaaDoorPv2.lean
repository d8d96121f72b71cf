/- Go values read as pure values: generic laws of walks (text written by a program of this session out of its parts). -/
import Derived.Test.YtenoecffjfcifaaDoorPv1
import Derived.Lib.Strings
import Derived.LoopN
import Derived.LoopNIn
import Derived.OrdersIn
import Derived.TacticsIn
import Derived.ControlIn
import Derived.IntWalk
-- Tenth text: slices made, appended to, copied.
namespace Go.Proofs.YtenoecffjfcifaaDoor.Pv
set_option linter.all false
open Go.RowKit
set_option linter.unusedVariables false

/-- Rows, laid one behind the other, as cells. -/
structure Flat (c : Cx) (sz : Nat) (rows : List (List PV)) (vs : List Value) : Prop where
  len : ∀ (i : Nat) (row : List PV), rows[i]? = some row → row.length = sz
  size : vs.length = rows.length * sz
  one : ∀ v ∈ vs, v.oneCell' = true
  rel : ∀ (i : Nat) (row : List PV) (j : Nat) (x : PV) (v : Value), rows[i]? = some row → row[j]? = some x → vs[i * sz + j]? = some v → RelV c x v

theorem idx_lt {i n sz j : Nat} (hi : i < n) (hj : j < sz) : i * sz + j < n * sz := by
  have : (i + 1) * sz ≤ n * sz := Nat.mul_le_mul_right _ hi
  rw [Nat.succ_mul] at this
  omega

theorem Flat.nil (c : Cx) (sz : Nat) : Flat c sz [] [] := ⟨fun i row h => (by simp at h), by simp, fun v h => (by cases h), fun i row j x v h => (by simp at h)⟩

theorem Flat.append {c : Cx} {sz : Nat} {r1 r2 : List (List PV)} {v1 v2 : List Value} (h1 : Flat c sz r1 v1) (h2 : Flat c sz r2 v2) : Flat c sz (r1 ++ r2) (v1 ++ v2) := by
  refine ⟨fun i row h => ?_, by rw [List.length_append, List.length_append, h1.size, h2.size, Nat.add_mul], fun v h => ?_, fun i row j x v hr hx hv => ?_⟩
  · rcases Nat.lt_or_ge i r1.length with hi | hi
    · rw [List.getElem?_append_left hi] at h; exact h1.len i row h
    · rw [List.getElem?_append_right hi] at h; exact h2.len _ row h
  · rcases List.mem_append.1 h with h | h
    · exact h1.one v h
    · exact h2.one v h
  · rcases Nat.lt_or_ge i r1.length with hi | hi
    · rw [List.getElem?_append_left hi] at hr
      have hj : j < sz := by rw [← h1.len i row hr]; exact (List.getElem?_eq_some_iff.1 hx).1
      rw [List.getElem?_append_left (by rw [h1.size]; exact idx_lt hi hj)] at hv
      exact h1.rel i row j x v hr hx hv
    · rw [List.getElem?_append_right hi] at hr
      have hge : v1.length ≤ i * sz + j := by
        rw [h1.size]
        have : r1.length * sz ≤ i * sz := Nat.mul_le_mul_right _ hi
        omega
      rw [List.getElem?_append_right hge] at hv
      refine h2.rel _ row j x v hr hx ?_
      rw [← hv]
      congr 1
      rw [h1.size, Nat.sub_mul]
      have : r1.length * sz ≤ i * sz := Nat.mul_le_mul_right _ hi
      omega

theorem Flat.rowsIn {c : Cx} {sz : Nat} {rows : List (List PV)} {vs : List Value} (h : Flat c sz rows vs) {cs : Array Value} {o : Nat} (hc : ∀ k v, vs[k]? = some v → cs[o + k]? = some v) : RowsIn c sz rows o cs := by
  intro i row j x hr hx
  have hi : i < rows.length := (List.getElem?_eq_some_iff.1 hr).1
  have hj : j < sz := by rw [← h.len i row hr]; exact (List.getElem?_eq_some_iff.1 hx).1
  have hlt : i * sz + j < vs.length := by rw [h.size]; exact idx_lt hi hj
  have hv := List.getElem?_eq_getElem hlt
  exact ⟨_, hc _ _ hv, h.one _ (List.mem_of_getElem? hv), h.rel i row j x _ hr hx hv⟩

theorem Flat.take {c : Cx} {sz : Nat} {rows : List (List PV)} {vs : List Value} (h : Flat c sz rows vs) {n : Nat} (hn : n ≤ rows.length) : Flat c sz (rows.take n) (vs.take (n * sz)) := by
  have hle : n * sz ≤ rows.length * sz := Nat.mul_le_mul_right _ hn
  refine ⟨fun i row hr => ?_, by rw [List.length_take, List.length_take, h.size]; rw [Nat.min_eq_left hle, Nat.min_eq_left hn], fun v hv => h.one v (List.mem_of_mem_take hv), fun i row j x v hr hx hv => ?_⟩
  · rw [List.getElem?_take] at hr
    split at hr
    · exact h.len i row hr
    · cases hr
  · rw [List.getElem?_take] at hr hv
    split at hr
    · split at hv
      · exact h.rel i row j x v hr hx hv
      · cases hv
    · cases hr

/-- The cells of rows that lie in a heap's block. -/
theorem flat_of_cells {c : Cx} {sz : Nat} {rows : List (List PV)} (b o : Nat) (hlen : ∀ (i : Nat) (row : List PV), rows[i]? = some row → row.length = sz)
    (hc : ∀ (i : Nat) (row : List PV) (j : Nat) (x : PV), rows[i]? = some row → row[j]? = some x → ∃ v, c.w.cell? ⟨b, o + (i * sz + j), none⟩ = some v ∧ v.oneCell' = true ∧ RelV c x v) :
    ∃ vs, Flat c sz rows vs ∧ ∀ (j : Nat) (v : Value), vs[j]? = some v → c.w.cell? ⟨b, o + j, none⟩ = some v := by
  have get : ∀ k, k < rows.length * sz → ∃ v, c.w.cell? ⟨b, o + k, none⟩ = some v ∧ v.oneCell' = true ∧ ∀ i row j x, k = i * sz + j → rows[i]? = some row → row[j]? = some x → RelV c x v := by
    intro k hk
    have hsz : 0 < sz := by rcases Nat.eq_zero_or_pos sz with h | h; · rw [h, Nat.mul_zero] at hk; omega
                            · exact h
    have hi : k / sz < rows.length := Nat.div_lt_of_lt_mul (by rw [Nat.mul_comm]; exact hk)
    have hj : k % sz < sz := Nat.mod_lt _ hsz
    obtain ⟨row0, hrow⟩ : ∃ r, rows[k / sz]? = some r := ⟨_, List.getElem?_eq_getElem hi⟩
    have hl := hlen _ _ hrow
    obtain ⟨x0, hx⟩ : ∃ x, row0[k % sz]? = some x := ⟨_, List.getElem?_eq_getElem (by rw [hl]; exact hj)⟩
    obtain ⟨v, h1, h2, h3⟩ := hc _ _ _ _ hrow hx
    have hdm : k / sz * sz + k % sz = k := by have := Nat.div_add_mod k sz; rw [Nat.mul_comm] at this; exact this
    refine ⟨v, by rw [hdm] at h1; exact h1, h2, fun i row j x hk' hr hxx => ?_⟩
    have hj' : j < sz := by rw [← hlen i row hr]; exact (List.getElem?_eq_some_iff.1 hxx).1
    have e1 : k / sz = i := by rw [hk', Nat.mul_comm, Nat.mul_add_div hsz, Nat.div_eq_of_lt hj', Nat.add_zero]
    have e2 : k % sz = j := by rw [hk', Nat.mul_comm, Nat.mul_add_mod, Nat.mod_eq_of_lt hj']
    rw [e1, hr] at hrow
    cases hrow
    rw [e2, hxx] at hx
    cases hx
    exact h3
  obtain ⟨V, hV⟩ : ∃ V : Nat → Value, ∀ k, k < rows.length * sz → c.w.cell? ⟨b, o + k, none⟩ = some (V k) ∧ (V k).oneCell' = true ∧ ∀ i row j x, k = i * sz + j → rows[i]? = some row → row[j]? = some x → RelV c x (V k) :=
    ⟨fun k => if hk : k < rows.length * sz then (get k hk).choose else default, fun k hk => by simp only [dif_pos hk]; exact (get k hk).choose_spec⟩
  refine ⟨(List.range (rows.length * sz)).map V, ⟨hlen, by simp, fun v hv => ?_, fun i row j x v hr hx hv => ?_⟩, fun j v hv => ?_⟩
  · obtain ⟨k, hk, rfl⟩ := List.mem_map.1 hv
    exact (hV k (List.mem_range.1 hk)).2.1
  · rw [List.getElem?_map] at hv
    obtain ⟨k, hk, rfl⟩ := Option.map_eq_some_iff.1 hv
    have hlt : i * sz + j < rows.length * sz := by
      have := (List.getElem?_eq_some_iff.1 hk).1
      simpa using this
    rw [List.getElem?_range hlt] at hk
    cases hk
    exact (hV _ hlt).2.2 i row j x rfl hr hx
  · rw [List.getElem?_map] at hv
    obtain ⟨k, hk, rfl⟩ := Option.map_eq_some_iff.1 hv
    have hlt : j < rows.length * sz := by
      have := (List.getElem?_eq_some_iff.1 hk).1
      simpa using this
    rw [List.getElem?_range hlt] at hk
    cases hk
    exact (hV _ hlt).1

/-- The rows of what is appended, or copied. -/
def srcRows (S : List Blk) (sz : Nat) : PV → Option (List (List PV))
  | .vw τ g off len => match S[τ]? with
    | some blk => if blk.gen = g ∧ blk.sz = sz then some ((blk.rows.drop off).take len) else none
    | none => none
  | .ro sz' _ rows => if sz' = sz then some rows else none
  | .v (.slice none 0 _) => some []
  | .v (.string s) => if sz = 1 then some (s.data.toList.map fun b => [.v (.int .u8 b.toNat)]) else none
  | _ => none

/-- Is a value's type one that may be appended? -/
def srcKind (P : Program) (t : TypeId) (x : PV) : Bool :=
  match P.underlying t, x with
  | some .string, .v (.string _) => true
  | some (.slice _), .v (.slice none 0 _) => true
  | some (.slice _), .vw _ _ _ _ => true
  | some (.slice _), .ro _ _ _ => true
  | _, _ => false

theorem src_rel {P : Program} {c : Cx} (hi : Inv c) {sz : Nat} {t : TypeId} {x : PV} {v : Value} {rows : List (List PV)} (h : srcRows c.S sz x = some rows) (hk : srcKind P t x = true) (hr : RelV c x v) :
    ∃ news, Flat c sz rows news ∧ Src P sz t v rows.length news c.w ∧ ∀ n, n ≤ rows.length → (Builtin.firstCells sz n v).run P c.w = .ok (news.take (n * sz)).toArray c.w := by
  unfold srcRows at h
  split at h
  · rename_i τ g off len
    split at h
    · rename_i blk hb
      split at h
      · rename_i hg
        cases h
        have hu : ∃ e, P.underlying t = some (.slice e) := by
          unfold srcKind at hk
          split at hk <;> first | (exact ⟨_, by assumption⟩) | (rename_i he; cases he) | cases hk
        obtain ⟨e, hu⟩ := hu
        cases hr with
        | vw _ _ _ _ y hy hN hv =>
          obtain ⟨h1, a, cap, rfl, h2, h3, h4⟩ := hv blk hb hg.1
          have hlen : ((blk.rows.drop off).take len).length = len := by simp; omega
          rw [hlen]
          rcases h4 with ⟨p, hp, rfl, cs0, e0, fz0, hc0, _⟩ | ⟨h4, rfl⟩
          · have hB := hi.blk τ blk hb
            obtain ⟨hBlen, cs, e', fz, k1, k2, k3, k4⟩ := (hB.heap p hp).cells ⟨cs0, e0, fz0, hc0⟩
            obtain ⟨news, f1, f2⟩ := flat_of_cells (c := c) (sz := sz) (rows := (blk.rows.drop off).take len) p.1 (p.2 + off * sz) (fun i row hr => by rw [← hg.2]; exact hBlen _ row (drop_take_get hr).1) (fun i row j x hr hx => by
              obtain ⟨v, v1, v2, v3⟩ := k3 _ row j x (drop_take_get hr).1 hx
              refine ⟨v, ?_, v2, v3⟩
              rw [cell_of k1, ← v1, ← hg.2, Nat.add_mul]
              congr 1
              omega)
            have hcell : ∀ (j : Nat) (u : Value), news[j]? = some u → c.w.cell? ((⟨p.1, p.2 + off * blk.sz, none⟩ : Addr).add j) = some u := fun j u hu => by rw [Addr.add_mid, hg.2]; exact f2 j u hu
            have hnl : news.length = len * sz := by rw [f1.size, hlen]
            refine ⟨news, f1, Src.ofSlice c.w hu _ len cap news hnl hcell f1.one, fun n hn => ?_⟩
            have hle : n * sz ≤ len * sz := Nat.mul_le_mul_right _ hn
            exact run_firstCells_some c.w sz n _ len cap _ (by rw [List.length_take, hnl]; omega) (fun j u hu => hcell j u (by
              rw [List.getElem?_take] at hu
              split at hu
              · exact hu
              · cases hu))
          · subst h4
            have hnil : (blk.rows.drop off).take 0 = [] := by simp
            rw [hnil]
            cases a with
            | none => exact ⟨[], Flat.nil c sz, Src.ofNil c.w hu 0, fun n hn => by (have hn0 : n = 0 := (by omega)); subst hn0; simp [Builtin.firstCells]⟩
            | some ad => exact ⟨[], Flat.nil c sz, Src.ofSlice c.w hu ad 0 0 [] (by simp) (fun j u h => by simp at h) (fun u h => (by cases h)), fun n hn => by (have hn0 : n = 0 := (by omega)); subst hn0; simp [Builtin.firstCells, loadCells, loadCellsFrom]⟩
      · cases h
    · cases h
  · rename_i sz' full rows
    split at h
    · rename_i hsz
      subst hsz
      cases h
      have hu : ∃ e, P.underlying t = some (.slice e) := by
        unfold srcKind at hk
        split at hk <;> first | (exact ⟨_, by assumption⟩) | (rename_i he; cases he) | cases hk
      obtain ⟨e, hu⟩ := hu
      cases hr with
      | ro _ _ _ a cap vals hcap hmax hfull hnone hlen hcell hpure hrel =>
        cases a with
        | none =>
          have h0 := hnone rfl
          subst h0
          exact ⟨[], Flat.nil c _, Src.ofNil c.w hu cap, fun n hn => by (have hn0 : n = 0 := (by simpa using hn)); subst hn0; simp [Builtin.firstCells]⟩
        | some ad =>
          by_cases hsp : ad.spot = none
          · obtain ⟨b, o, s⟩ := ad
            simp only at hsp
            subst hsp
            obtain ⟨news, f1, f2⟩ := flat_of_cells (c := c) (sz := sz') (rows := rows) b o hlen (fun i row j x hr hx => by
              obtain ⟨k1, k2, k3, k4⟩ := hcell _ rfl i row j x hr hx
              exact ⟨_, k3, k4, hrel i row j x hr hx⟩)
            have hcl : ∀ (j : Nat) (u : Value), news[j]? = some u → c.w.cell? ((⟨b, o, none⟩ : Addr).add j) = some u := fun j u hu => by rw [Addr.add_mid]; exact f2 j u hu
            refine ⟨news, f1, Src.ofSlice c.w hu _ _ cap news f1.size hcl f1.one, fun n hn => ?_⟩
            have hle : n * sz' ≤ rows.length * sz' := Nat.mul_le_mul_right _ hn
            exact run_firstCells_some c.w sz' n _ _ cap _ (by rw [List.length_take, f1.size]; omega) (fun j u hu => hcl j u (by
              rw [List.getElem?_take] at hu
              split at hu
              · exact hu
              · cases hu))
          · have hno : ∀ (i : Nat) (row : List PV) (j : Nat) (x : PV), rows[i]? = some row → row[j]? = some x → False := fun i row j x hr hx => hsp (hcell ad rfl i row j x hr hx).1
            have hz : rows.length * sz' = 0 := by
              rcases Nat.eq_zero_or_pos rows.length with h | h
              · rw [h, Nat.zero_mul]
              · have hr0 := List.getElem?_eq_getElem h
                rcases Nat.eq_zero_or_pos sz' with h' | h'
                · rw [h', Nat.mul_zero]
                · exact (hno _ _ 0 _ hr0 (List.getElem?_eq_getElem (by rw [hlen _ _ hr0]; exact h'))).elim
            refine ⟨[], ⟨hlen, by rw [hz]; rfl, fun v h => (by cases h), fun i row j x v hr hx => (hno i row j x hr hx).elim⟩, Src.ofSlice c.w hu ad _ cap [] (by rw [hz]; rfl) (fun j u h => by simp at h) (fun u h => (by cases h)), fun n hn => ?_⟩
            have hle : n * sz' ≤ rows.length * sz' := Nat.mul_le_mul_right _ hn
            exact run_firstCells_some c.w sz' n _ _ cap _ (by simp; omega) (fun j u h => by simp at h)
    · cases h
  · rename_i cc
    cases h
    cases hr
    have hu : ∃ e, P.underlying t = some (.slice e) := by
      unfold srcKind at hk
      split at hk <;> first | (exact ⟨_, by assumption⟩) | (rename_i he; cases he) | cases hk
    obtain ⟨e, hu⟩ := hu
    exact ⟨[], Flat.nil c sz, Src.ofNil c.w hu cc, fun n hn => by (have hn0 : n = 0 := (by simpa using hn)); subst hn0; simp [Builtin.firstCells]⟩
  · rename_i s
    split at h
    · rename_i hsz
      subst hsz
      cases h
      cases hr
      have hu : P.underlying t = some .string := by
        unfold srcKind at hk
        split at hk <;> first | assumption | (rename_i he; cases he) | cases hk
      have hl : (s.data.toList.map fun b => [PV.v (.int .u8 b.toNat)]).length = s.size := by rw [List.length_map, Array.length_toList]; rfl
      rw [hl]
      have hg : ∀ (i : Nat) (row : List PV) (j : Nat) (x : PV), (s.data.toList.map fun b => [PV.v (.int .u8 b.toNat)])[i]? = some row → row[j]? = some x → j = 0 ∧ ∃ b, s.data.toList[i]? = some b ∧ x = .v (.int .u8 b.toNat) := by
        intro i row j x hr hx
        rw [List.getElem?_map] at hr
        obtain ⟨b, hb, rfl⟩ := Option.map_eq_some_iff.1 hr
        cases j with
        | zero => simp at hx; exact ⟨rfl, b, hb, hx.symm⟩
        | succ j => simp at hx
      refine ⟨byteCells s, ⟨fun i row hr => ?_, by rw [byteCells_length, hl, Nat.mul_one], (Src.ofString c.w hu s).one, fun i row j x v hr hx hv => ?_⟩, Src.ofString c.w hu s, fun n hn => ?_⟩
      · rw [List.getElem?_map] at hr
        obtain ⟨b, hb, rfl⟩ := Option.map_eq_some_iff.1 hr
        rfl
      · obtain ⟨rfl, b, hb, rfl⟩ := hg i row j x hr hx
        unfold byteCells at hv
        rw [List.getElem?_map, Nat.mul_one, Nat.add_zero, hb] at hv
        cases hv
        exact .v _
      · simp only [Builtin.firstCells, Sem.run_pure]
        congr 1
        apply Array.ext'
        rw [Array.toList_map, Lib.extract_data]
        unfold byteCells
        rw [Nat.mul_one, ← List.map_take]
        simp
    · cases h
  · cases h
end Go.Proofs.YtenoecffjfcifaaDoor.Pv

-- Eleventh text: append.
namespace Go.Proofs.YtenoecffjfcifaaDoor.Pv
set_option linter.all false
open Go.RowKit
set_option linter.unusedVariables false

/-- An empty slice that has no block yet stays so. -/
theorem voidBlk {c : Cx} (hi : Inv c) {τ : Nat} {blk : Blk} (hb : c.S[τ]? = some blk) (hv : c.β τ = none) (blk' : Blk) (hr : blk'.rows = []) (hg : blk'.gen = c.N) :
    Inv { c with S := c.S.set τ blk', N := c.N + 1 } ∧ Step c { c with S := c.S.set τ blk', N := c.N + 1 } := by
  have hτ : τ < c.S.length := (List.getElem?_eq_some_iff.1 hb).1
  have get : ∀ {t : Nat} {b : Blk}, (c.S.set τ blk')[t]? = some b → (t = τ ∧ b = blk') ∨ (t ≠ τ ∧ c.S[t]? = some b) := by
    intro t b h
    rw [List.getElem?_set] at h
    split at h
    · rename_i e
      cases h
      exact .inl ⟨e.symm, rfl⟩
    · rename_i e
      exact .inr ⟨fun f => e f.symm, h⟩
  have hst : Step c { c with S := c.S.set τ blk', N := c.N + 1 } := by
    refine ⟨rfl, rfl, rfl, rfl, Nat.le_refl _, Nat.le_succ _, fun _ _ _ => rfl, fun t b h1 h2 => ?_, fun b hb' => ?_, fun b cs e fz h => ⟨cs, fz, h, rfl⟩⟩
    · rcases get h1 with ⟨rfl, rfl⟩ | ⟨h3, h4⟩
      · omega
      · exact ⟨b, h4, rfl, rfl, rfl, rfl⟩
    · obtain ⟨t, b1, q, h1, h2, h3, rfl⟩ := hb'
      rcases get h1 with ⟨rfl, rfl⟩ | ⟨h4, h5⟩
      · simp only [hv] at h3; cases h3
      · exact .inl ⟨t, b1, q, h5, h2, h3, rfl⟩
  refine ⟨⟨fun t b h1 => ?_, fun t b q h1 h2 => ?_, fun t t' b1 b2 q q' h1 h2 h3 h4 h5 h6 => ?_, hi.gLt, hi.wi.step hst⟩, hst⟩
  · rcases get h1 with ⟨rfl, rfl⟩ | ⟨h3, h4⟩
    · exact ⟨by rw [hg]; exact Nat.lt_succ_self _, fun _ => hr, fun q hq => by simp only [hv] at hq; cases hq⟩
    · have hB := hi.blk t b h4
      exact ⟨Nat.lt_succ_of_lt hB.gen, hB.void, fun q hq => (hB.heap q hq).move (fun x v h => h.step hst) rfl⟩
  · rcases get h1 with ⟨rfl, rfl⟩ | ⟨h3, h4⟩
    · simp only [hv] at h2; cases h2
    · exact hi.notG t b q h4 h2
  · rcases get h1 with ⟨rfl, rfl⟩ | ⟨e1, e2⟩
    · simp only [hv] at h4; cases h4
    · rcases get h2 with ⟨rfl, rfl⟩ | ⟨f1, f2⟩
      · simp only [hv] at h5; cases h5
      · exact hi.inj t t' b1 b2 q q' e2 f2 h3 h4 h5 h6

/-- What an append leaves: its answer and the blocks. -/
def appRes (S : List Blk) (sz : Nat) (d : PV) (rows : List (List PV)) (g' : Nat) : Option (PV × List Blk) :=
  match d with
  | .vw τ g off len => match S[τ]? with
    | some blk => if blk.gen = g ∧ blk.own = true ∧ blk.sz = sz ∧ off + len = blk.rows.length then some (.vw τ g' 0 (len + rows.length), S.set τ ⟨g', true, sz, blk.rows.drop off ++ rows⟩) else none
    | none => none
  | .v (.slice none 0 0) => some (.vw S.length g' 0 rows.length, S ++ [⟨g', true, sz, rows⟩])
  | .ro sz' true orows => if sz' = sz ∧ (orows = [] ∨ 0 < rows.length) then some (.vw S.length g' 0 (orows.length + rows.length), S ++ [⟨g', true, sz, orows ++ rows⟩]) else none
  | _ => none

def appLen : PV → Nat
  | .vw _ _ _ len => len
  | .ro _ _ orows => orows.length
  | _ => 0

/-- The growing append, out of cells that are told: a new block. -/
theorem app_grow {P : Program} {c : Cx} {t tx ty e : TypeId} {i : TypeInfo} {z : Value} {sz : Nat} (ht : P.underlying t = some (.slice e)) (hi : P.info? e = some i) (hz : i.zero = some z) (hsz : i.size = sz) (hpos : 0 < sz) (hzs : z.cells.size = sz)
    {base : Option Addr} {sLen sCap : Nat} {orows rows : List (List PV)} {olds news : List Value} (fo : Flat c sz orows olds) (fn : Flat c sz rows news) (hol : orows.length = sLen)
    (hold : (Builtin.firstCells sz sLen (.slice base sLen sCap)).run P c.w.drew = .ok olds.toArray c.w.drew) {x : Value} (hs : Src P sz tx x rows.length news c.w) (hg : sCap < sLen + rows.length)
    (h63 : sLen + rows.length ≤ maxLen) (hb : (sLen + rows.length) * i.bytes ≤ 140737488355328) :
    ∃ w' v' cs, (Builtin.append_ #[t, tx] ty #[.slice base sLen sCap, x]).run P c.w = .ok v' w' ∧ w'.os = c.w.os ∧ w'.tape = c.w.tape ∧ w'.output = c.w.output ∧ w'.heap = c.w.heap.push (.cells cs e) ∧
      RowsIn c sz (orows ++ rows) 0 cs ∧ (orows ++ rows).length * sz ≤ cs.size ∧ ∃ cap, v' = .slice (some ⟨c.w.heap.size, 0, none⟩) (sLen + rows.length) cap ∧ sLen + rows.length ≤ cap ∧ cap ≤ maxLen ∧ cap * sz ≤ cs.size := by
  subst hsz
  have hr := run_append_grow_src (P := P) c.w t tx ty e i z ht hi hz base sLen sCap olds hold x rows.length news hs hg (by simp only [maxLen] at h63; omega) (growslice_fits (by omega) hb)
  have hge := grownCap_ge c.w (sLen + rows.length) sCap e
  have hle := grownCap_le_maxLen c.w (sLen + rows.length) sCap e h63
  have hsize : ((olds ++ news).toArray ++ Builtin.zeroCells z.cells (grownCap c.w (sLen + rows.length) sCap e - (sLen + rows.length))).size = grownCap c.w (sLen + rows.length) sCap e * i.size := by
    simp only [Array.size_append, List.size_toArray, List.length_append, size_zeroCells, hzs, fo.size, fn.size, hol, ← Nat.add_mul]
    congr 1
    omega
  refine ⟨_, _, _, hr, rfl, rfl, rfl, rfl, (fo.append fn).rowsIn (o := 0) (fun k v hk => ?_), ?_, grownCap c.w (sLen + rows.length) sCap e, rfl, hge, hle, by rw [hsize]; exact Nat.le_refl _⟩
  · have hlt : k < (olds ++ news).toArray.size := by rw [List.size_toArray]; exact (List.getElem?_eq_some_iff.1 hk).1
    rw [Nat.zero_add, Array.getElem?_append_left hlt, List.getElem?_toArray]
    exact hk
  · rw [hsize, List.length_append, hol]
    exact Nat.mul_le_mul_right _ hge

theorem append_exec {P : Program} {a : Act} {o : Oper} {s x : Operand} {t tx : TypeId} {w w' : World} {v' : Value} (ho : o.op = .call { callee := .builtin .append, args := #[s, x], argTypes := #[t, tx] })
    (hr : (Builtin.append_ #[t, tx] o.type #[a.eval s, a.eval x]).run P w = .ok v' w') : (execOp a.eval o).run P w = .ok (.value v') w' := by
  simp only [execOp, ho, resolve, invoke, builtin, Sem.run_bind, Sem.run_pure, Result.andThen_ok, List.map_toArray, List.map_cons, List.map_nil, hr]

theorem firstCells_drew {P : Program} {sz n : Nat} {v : Value} {c : Cx} {olds : List Value} (b : Option Addr) (hv : ∃ l cp, v = .slice b l cp) (hc : ∀ ad, b = some ad → ∀ (j : Nat) (u : Value), olds[j]? = some u → c.w.cell? (ad.add j) = some u) (hl : olds.length = n * sz) (hn : b = none → olds = []) :
    (Builtin.firstCells sz n v).run P c.w.drew = .ok olds.toArray c.w.drew := by
  obtain ⟨l, cp, rfl⟩ := hv
  cases b with
  | none => rw [hn rfl]; simp [Builtin.firstCells]
  | some ad => exact run_firstCells_some c.w.drew sz n ad l cp olds hl (by simpa using hc ad rfl)

set_option maxHeartbeats 1600000 in
theorem pop_append {P : Program} {σ : PS} {o : Oper} {K : PV → List Blk → Prop} {s x : Operand} {t tx e : TypeId} {zr : List PV} {rows : List (List PV)} (ho : o.op = .call { callee := .builtin .append, args := #[s, x], argTypes := #[t, tx] })
    (ht : P.underlying t = some (.slice e)) (hz : zeroRow P e = some zr) (sz : Nat) (hsz : P.cellsOf e = sz) (hzl : zr.length = sz) (hpos : 0 < sz) (hk : srcKind P tx (σ.get x) = true) (hsrc : srcRows σ.S sz (σ.get x) = some rows)
    (h63 : appLen (σ.get s) + rows.length ≤ maxLen) (hby : (appLen (σ.get s) + rows.length) * P.bytesOf e ≤ 140737488355328)
    (hK : ∀ g', match appRes σ.S sz (σ.get s) rows g' with | some (y, S') => K y S' | none => False) : PopSem P σ o K :=
  pop_of_run fun c a r => by
    obtain ⟨z, hz1, hz2, i, hi, hzi⟩ := zeroRow_run hz c
    have hsz' : i.size = sz := by rw [← hsz]; simp [Program.cellsOf, hi]
    have hbi : i.bytes = P.bytesOf e := by simp [Program.bytesOf, hi]
    have hzs : z.cells.size = sz := hz2.1.trans hzl
    rw [← r.S] at hsrc hK
    obtain ⟨news, fn, hs, -⟩ := src_rel r.inv hsrc hk (r.get x)
    have hds := r.get s
    have hK' := hK c.N
    unfold appRes at hK'
    split at hK'
    · rename_i q y S' hres
      unfold appLen at h63 hby
      split at hres
      · rename_i τ g off len hsv
        rw [hsv] at hds h63 hby
        simp only at h63 hby
        split at hres
        · rename_i blk hb
          split at hres
          · rename_i hc
            obtain ⟨hg, hown, hbs, hlen⟩ := hc
            cases hres
            have hB := r.inv.blk τ blk hb
            generalize hav : a.eval s = vs at hds
            cases hds with
            | vw _ _ _ _ _ hy hN hv =>
              obtain ⟨_, base, cap, rfl, hcap, hcm, hdis⟩ := hv blk hb hg
              have hdl : (blk.rows.drop off).length = len := by rw [List.length_drop]; omega
              -- the old cells
              obtain ⟨olds, fo, hoc, hon⟩ : ∃ olds, Flat c sz (blk.rows.drop off) olds ∧ (∀ ad, base = some ad → ∀ (j : Nat) (u : Value), olds[j]? = some u → c.w.cell? (ad.add j) = some u) ∧ (base = none → olds = []) := by
                rcases hdis with ⟨p, hp, rfl, cs0, e0, fz0, hcel, _⟩ | ⟨h0, hc0⟩
                · obtain ⟨hBlen, cs, e', fz, k1, k2, k3, k4⟩ := (hB.heap p hp).cells ⟨cs0, e0, fz0, hcel⟩
                  obtain ⟨olds, f1, f2⟩ := flat_of_cells (c := c) (sz := sz) (rows := blk.rows.drop off) p.1 (p.2 + off * sz) (fun j row hr => by rw [List.getElem?_drop] at hr; rw [← hbs]; exact hBlen _ row hr) (fun j row k u hr hu => by
                    rw [List.getElem?_drop] at hr
                    obtain ⟨v, v1, v2, v3⟩ := k3 _ row k u hr hu
                    refine ⟨v, ?_, v2, v3⟩
                    rw [cell_of k1, ← v1, ← hbs, Nat.add_mul]
                    congr 1
                    omega)
                  exact ⟨olds, f1, fun ad ha j u hu => by cases ha; rw [Addr.add_mid, hbs]; exact f2 j u hu, fun h => by cases h⟩
                · have hnil : blk.rows.drop off = [] := List.eq_nil_of_length_eq_zero (by omega)
                  rw [hnil]
                  exact ⟨[], Flat.nil c sz, fun ad _ j u hu => by simp at hu, fun _ => rfl⟩
              by_cases hroom : len + rows.length ≤ cap
              · rcases hdis with ⟨p, hp, rfl, cs, e', fz, k1, k2⟩ | ⟨h0, hc0⟩
                · -- room: the cells are stored
                  obtain ⟨hBlen, cs', e'', fz', k1', k2', k3', k4'⟩ := (hB.heap p hp).cells ⟨cs, e', fz, k1⟩
                  rw [k1] at k1'
                  cases k1'
                  have hfit : p.2 + (off + len) * sz + news.length ≤ cs.size := by
                    rw [fn.size, Nat.add_assoc, ← Nat.add_mul]
                    have : (off + len + rows.length) * sz ≤ (off + cap) * sz := Nat.mul_le_mul_right _ (by omega)
                    rw [← hbs] at this ⊢
                    omega
                  have hst := storeCells_run (P := P) p.1 (p.2 + off * sz + len * sz) e' fz news 0 cs c.w k1 (by rw [Nat.add_mul] at hfit; omega) (k4' hown).get hs.one
                  simp only [Nat.add_zero] at hst
                  have hrun : (Builtin.append_ #[t, tx] o.type #[.slice (some ⟨p.1, p.2 + off * blk.sz, none⟩) len cap, a.eval x]).run P c.w = .ok (.slice (some ⟨p.1, p.2 + off * blk.sz, none⟩) (len + rows.length) cap) (c.w.setRow p.1 (cs.toList.take (p.2 + off * sz + len * sz) ++ news ++ cs.toList.drop (p.2 + off * sz + len * sz + news.length)).toArray) := by
                    rw [hbs]
                    rcases hs.kind with ⟨e3, hk3⟩ | hk3 <;> simp [Builtin.append_, run_underlying ht, run_underlying hk3, sizeOf, typeInfo, hi, hsz', hs.len, hroom, hs.cells, Addr.add_lit, hst]
                  have hfit' : p.2 + off * sz + len * sz + news.length ≤ cs.size := by rw [Nat.add_mul] at hfit; omega
                  obtain ⟨u1, u2⟩ := updBlk r.inv hb hown (c.w.setRow p.1 (cs.toList.take (p.2 + off * sz + len * sz) ++ news ++ cs.toList.drop (p.2 + off * sz + len * sz + news.length)).toArray) (p.1, p.2 + off * sz) ⟨c.N, true, sz, blk.rows.drop off ++ rows⟩ (c.N + 1)
                    rfl rfl rfl (by simp) (fun b hb' hne => setRow_other _ _ _ _ (hne p hp)) (fun q cs1 e1 fz1 hq hh => by
                      rw [hp] at hq
                      cases hq
                      rw [k1] at hh
                      cases hh
                      exact ⟨_, _, setRow_heap _ _ _ _ _ _ k1, by rw [List.size_toArray, List.length_append, List.length_append, List.length_take, List.length_drop, Array.length_toList]; omega⟩) (.inl ⟨p, hp, rfl⟩) (Nat.le_succ _) (Nat.lt_succ_self _) (fun h => absurd h (Nat.lt_irrefl _))
                    (fun j row hr => (fo.append fn).len j row hr)
                    ⟨_, e', fz, setRow_heap _ _ _ _ _ _ k1, by (have hfs := fn.size; have hcl' : cs.toList.length = cs.size := Array.length_toList); simp only [List.size_toArray, List.length_append, List.length_take, List.length_drop, hdl, Nat.add_mul]; omega,
                      (fo.append fn).rowsIn (fun k v hk' => by
                        rw [arr_over_get _ _ _ _ hfit']
                        have hol : olds.length = len * sz := by rw [fo.size, hdl]
                        rcases Nat.lt_or_ge k olds.length with h | h
                        · rw [List.getElem?_append_left h] at hk'
                          rw [if_neg (by omega)]
                          have := hoc _ rfl k v hk'
                          rw [Addr.add_mid, hbs, cell_of k1] at this
                          exact this
                        · rw [List.getElem?_append_right h] at hk'
                          have := (List.getElem?_eq_some_iff.1 hk').1
                          rw [if_pos (by simp only; omega), ← hk']
                          congr 1
                          simp only
                          omega), (k4' hown).to (by rw [List.size_toArray, List.length_append, List.length_append, List.length_take, List.length_drop, Array.length_toList]; omega)⟩
                  refine ⟨_, _, _, append_exec ho (by rw [hav]; exact hrun), hK', u1, u2, .vw _ _ _ _ _ (by first | exact ⟨_, _, rfl⟩ | exact ⟨_, _, by rw [Nat.zero_add]⟩) (Nat.lt_succ_self _) (fun blk' h1 h2 => ?_)⟩
                  have hτ : τ < c.S.length := (List.getElem?_eq_some_iff.1 hb).1
                  simp only [List.getElem?_set_self hτ, Option.some.injEq] at h1
                  subst h1
                  refine ⟨by simp [hdl], _, cap, rfl, hroom, hcm, .inl ⟨(p.1, p.2 + off * sz), by simp, by simp [hbs], _, e', fz, setRow_heap _ _ _ _ _ _ k1, ?_⟩⟩
                  rw [List.size_toArray, List.length_append, List.length_append, List.length_take, List.length_drop, Array.length_toList]
                  simp only [Nat.zero_add]
                  rw [hbs, Nat.add_mul] at k2
                  omega
                · -- nothing there, nothing comes
                  have hm0 : rows = [] := List.eq_nil_of_length_eq_zero (by omega)
                  subst hm0
                  have hnil : blk.rows.drop off = [] := List.eq_nil_of_length_eq_zero (by omega)
                  have hrun : (Builtin.append_ #[t, tx] o.type #[.slice base len cap, a.eval x]).run P c.w = .ok (.slice base len cap) c.w := by
                    have hn0 : news = [] := List.eq_nil_of_length_eq_zero (by have := fn.size; simpa using this)
                    subst hn0
                    have hcl : (Builtin.firstCells sz 0 (a.eval x)).run P c.w = .ok #[] c.w := by simpa using hs.cells
                    have h00 : len + 0 ≤ cap := by omega
                    rcases hs.kind with ⟨e3, hk3⟩ | hk3 <;> cases base <;> simp [Builtin.append_, run_underlying ht, run_underlying hk3, sizeOf, typeInfo, hi, hsz', hs.len, h0, hc0, hcl, storeCells]
                  have hτ : τ < c.S.length := (List.getElem?_eq_some_iff.1 hb).1
                  cases hβ : c.β τ with
                  | none =>
                    obtain ⟨u1, u2⟩ := voidBlk r.inv hb hβ ⟨c.N, true, sz, blk.rows.drop off ++ []⟩ (by simp [hnil]) rfl
                    refine ⟨_, _, _, append_exec ho (by rw [hav]; exact hrun), hK', u1, u2, .vw _ _ _ _ _ (by first | exact ⟨_, _, rfl⟩ | exact ⟨_, _, by rw [Nat.zero_add]⟩) (Nat.lt_succ_self _) (fun blk' h1 h2 => ?_)⟩
                    simp only [List.getElem?_set_self hτ, Option.some.injEq] at h1
                    subst h1
                    exact ⟨by simp [hnil, h0], base, cap, by simp, by simp; omega, hcm, .inr ⟨by simp [h0], hc0⟩⟩
                  | some p =>
                    obtain ⟨_, cs, e', fz, k1, k2, k3, k4⟩ := (hB.heap p hβ).resolve_right (fun hm => by have := hm.1; omega)
                    obtain ⟨u1, u2⟩ := updBlk r.inv hb hown c.w p ⟨c.N, true, sz, blk.rows.drop off ++ []⟩ (c.N + 1) rfl rfl rfl (Nat.le_refl _) (fun b _ _ => rfl) (fun q cs1 e1 fz1 hq hh => ⟨cs1, fz1, hh, rfl⟩) (.inl ⟨p, hβ, rfl⟩) (Nat.le_succ _) (Nat.lt_succ_self _) (fun h => absurd h (Nat.lt_irrefl _))
                      (fun j row hr => by simp [hnil] at hr) ⟨cs, e', fz, k1, by simp [hnil]; omega, fun j row k u hr _ => by simp [hnil] at hr, k4 hown⟩
                    refine ⟨_, _, _, append_exec ho (by rw [hav]; exact hrun), hK', u1, u2, .vw _ _ _ _ _ (by first | exact ⟨_, _, rfl⟩ | exact ⟨_, _, by rw [Nat.zero_add]⟩) (Nat.lt_succ_self _) (fun blk' h1 h2 => ?_)⟩
                    simp only [List.getElem?_set_self hτ, Option.some.injEq] at h1
                    subst h1
                    exact ⟨by simp [hnil, h0], base, cap, by simp, by simp; omega, hcm, .inr ⟨by simp [h0], hc0⟩⟩
              · -- it grows
                obtain ⟨w', v', cs, g1, g2, g3, g4, g5, g6, g7, cp, rfl, g8, g9, g10⟩ := app_grow (P := P) (tx := tx) (ty := o.type) ht hi hzi hsz' hpos hzs fo fn hdl (firstCells_drew base ⟨len, cap, rfl⟩ hoc (by rw [fo.size, hdl]) hon) hs (by omega) h63 (by rw [hbi]; exact hby)
                have hnew : w'.heap[c.w.heap.size]? = some (.cells cs e) := by rw [g5]; simp
                have hold : ∀ b, b < c.w.heap.size → w'.heap[b]? = c.w.heap[b]? := fun b hb' => by rw [g5, Array.getElem?_push, if_neg (by omega)]
                obtain ⟨u1, u2⟩ := updBlk r.inv hb hown w' (c.w.heap.size, 0) ⟨c.N, true, sz, blk.rows.drop off ++ rows⟩ (c.N + 1) g2 g3 g4 (by rw [g5]; simp) (fun b hb' _ => hold b hb') (fun q cs1 e1 fz1 hq hh => ⟨cs1, fz1, by rw [hold _ (Array.getElem?_eq_some_iff.1 hh).1]; exact hh, rfl⟩) (.inr (Nat.le_refl _)) (Nat.le_succ _) (Nat.lt_succ_self _) (fun h => absurd h (Nat.lt_irrefl _))
                  (fun j row hr => (fo.append fn).len j row hr) ⟨cs, e, (0, 0), hnew, by simpa using g7, g6, .inl rfl⟩
                have hτ : τ < c.S.length := (List.getElem?_eq_some_iff.1 hb).1
                refine ⟨_, _, _, append_exec ho (by rw [hav]; exact g1), hK', u1, u2, .vw _ _ _ _ _ (by first | exact ⟨_, _, rfl⟩ | exact ⟨_, _, by rw [Nat.zero_add]⟩) (Nat.lt_succ_self _) (fun blk' h1 h2 => ?_)⟩
                simp only [List.getElem?_set_self hτ, Option.some.injEq] at h1
                subst h1
                exact ⟨by simp [hdl], _, cp, rfl, g8, g9, .inl ⟨(c.w.heap.size, 0), by simp, by simp, cs, e, (0, 0), hnew, by simpa using g10⟩⟩
          · cases hres
        · cases hres
      · rename_i hsv
        rw [hsv] at hds h63 hby
        simp only at h63 hby
        cases hres
        generalize hav : a.eval s = vs at hds
        cases hds
        by_cases hm : rows = []
        · subst hm
          have hn0 : news = [] := List.eq_nil_of_length_eq_zero (by have := fn.size; simpa using this)
          subst hn0
          have hcl : (Builtin.firstCells sz 0 (a.eval x)).run P c.w = .ok #[] c.w := by simpa using hs.cells
          have hrun : (Builtin.append_ #[t, tx] o.type #[.slice none 0 0, a.eval x]).run P c.w = .ok (.slice none 0 0) c.w := by
            rcases hs.kind with ⟨e3, hk3⟩ | hk3 <;> simp [Builtin.append_, run_underlying ht, run_underlying hk3, sizeOf, typeInfo, hi, hsz', hs.len, hcl]
          obtain ⟨u1, u2⟩ := pushBlk r.inv c.w ⟨c.N, true, sz, []⟩ none rfl rfl rfl (Nat.le_refl _) (fun _ _ => rfl) rfl (fun i row h => by simp at h) (fun _ => rfl) (fun q h => by cases h)
          refine ⟨_, _, _, append_exec ho (by rw [hav]; exact hrun), hK', u1, u2, .vw _ _ _ _ _ (by first | exact ⟨_, _, rfl⟩ | exact ⟨_, _, by rw [Nat.zero_add]⟩) (Nat.lt_succ_self _) (fun blk' h1 h2 => ?_)⟩
          simp at h1
          subst h1
          exact ⟨by simp, none, 0, rfl, by simp, by simp [maxLen], .inr ⟨rfl, rfl⟩⟩
        · have hpos' : 0 < rows.length := List.length_pos_iff.2 hm
          obtain ⟨w', v', cs, g1, g2, g3, g4, g5, g6, g7, cp, rfl, g8, g9, g10⟩ := app_grow (P := P) (tx := tx) (ty := o.type) (base := none) (sLen := 0) (sCap := 0) ht hi hzi hsz' hpos hzs (Flat.nil c sz) fn rfl (by simp [Builtin.firstCells]) hs (by omega) h63 (by rw [hbi]; exact hby)
          have hnew : w'.heap[c.w.heap.size]? = some (.cells cs e) := by rw [g5]; simp
          obtain ⟨u1, u2⟩ := pushBlk r.inv w' ⟨c.N, true, sz, rows⟩ (some (c.w.heap.size, 0)) g2 g3 g4 (by rw [g5]; simp) (fun b hb' => by rw [g5, Array.getElem?_push, if_neg (by omega)]) rfl (fun j row hr => fn.len j row hr) (fun h => by cases h)
            (fun q hq => by cases hq; exact ⟨Nat.le_refl _, cs, e, (0, 0), hnew, by simpa using g7, by simpa using g6, fun _ => .inl rfl⟩)
          refine ⟨_, _, _, append_exec ho (by rw [hav]; exact g1), hK', u1, u2, .vw _ _ _ _ _ (by first | exact ⟨_, _, rfl⟩ | exact ⟨_, _, by rw [Nat.zero_add]⟩) (Nat.lt_succ_self _) (fun blk' h1 h2 => ?_)⟩
          simp at h1
          subst h1
          exact ⟨by simp, some ⟨c.w.heap.size, 0, none⟩, cp, by simp, by simpa using g8, g9, .inl ⟨(c.w.heap.size, 0), by simp, by simp, cs, e, (0, 0), hnew, by simpa using g10⟩⟩
      · rename_i sz' orows hsv
        rw [hsv] at hds h63 hby
        simp only at h63 hby
        split at hres
        · rename_i hc
          obtain ⟨rfl, hc⟩ := hc
          cases hres
          generalize hav : a.eval s = vs at hds
          cases hds with
          | ro _ _ _ base cap vals hcap hmax hfull hnone hlen hcell hpure hrel =>
            have hcf := hfull rfl
            subst hcf
            by_cases hm : rows = []
            · subst hm
              have ho0 : orows = [] := by rcases hc with h | h; exact h; simp at h
              subst ho0
              have hn0 : news = [] := List.eq_nil_of_length_eq_zero (by have := fn.size; simpa using this)
              subst hn0
              have hcl : (Builtin.firstCells sz' 0 (a.eval x)).run P c.w = .ok #[] c.w := by simpa using hs.cells
              have hrun : (Builtin.append_ #[t, tx] o.type #[.slice base 0 0, a.eval x]).run P c.w = .ok (.slice base 0 0) c.w := by
                rcases hs.kind with ⟨e3, hk3⟩ | hk3 <;> cases base <;> simp [Builtin.append_, run_underlying ht, run_underlying hk3, sizeOf, typeInfo, hi, hsz', hs.len, hcl, storeCells]
              obtain ⟨u1, u2⟩ := pushBlk r.inv c.w ⟨c.N, true, sz', []⟩ none rfl rfl rfl (Nat.le_refl _) (fun _ _ => rfl) rfl (fun i row h => by simp at h) (fun _ => rfl) (fun q h => by cases h)
              refine ⟨_, _, _, append_exec ho (by rw [hav]; exact hrun), hK', u1, u2, .vw _ _ _ _ _ (by first | exact ⟨_, _, rfl⟩ | exact ⟨_, _, by rw [Nat.zero_add]⟩) (Nat.lt_succ_self _) (fun blk' h1 h2 => ?_)⟩
              simp at h1
              subst h1
              exact ⟨by simp, base, 0, rfl, by simp, by simp [maxLen], .inr ⟨rfl, rfl⟩⟩
            · have hpos' : 0 < rows.length := List.length_pos_iff.2 hm
              have hro : RelV c (.ro sz' true orows) (.slice base orows.length orows.length) := .ro _ _ _ _ _ vals (Nat.le_refl _) hmax (fun _ => rfl) hnone hlen hcell hpure hrel
              obtain ⟨olds, fo, hoc, hon⟩ : ∃ olds, Flat c sz' orows olds ∧ (∀ ad, base = some ad → ∀ (j : Nat) (u : Value), olds[j]? = some u → c.w.cell? (ad.add j) = some u) ∧ (base = none → olds = []) := by
                cases base with
                | none => rw [hnone rfl]; exact ⟨[], Flat.nil c _, fun ad h => (by cases h), fun _ => rfl⟩
                | some ad =>
                  by_cases hsp : ad.spot = none
                  · obtain ⟨b, o', sp⟩ := ad
                    simp only at hsp
                    subst hsp
                    obtain ⟨olds, f1, f2⟩ := flat_of_cells (c := c) (sz := sz') (rows := orows) b o' hlen (fun i row j x hr hx => by
                      obtain ⟨k1, k2, k3, k4⟩ := hcell _ rfl i row j x hr hx
                      exact ⟨_, k3, k4, hrel i row j x hr hx⟩)
                    exact ⟨olds, f1, fun ad h j u hu => by cases h; rw [Addr.add_mid]; exact f2 j u hu, fun h => by cases h⟩
                  · have hz : orows.length = 0 := by
                      rcases Nat.eq_zero_or_pos orows.length with h | h
                      · exact h
                      · have hr0 := List.getElem?_eq_getElem h
                        exact (hsp (hcell ad rfl _ _ 0 _ hr0 (List.getElem?_eq_getElem (by rw [hlen _ _ hr0]; exact hpos))).1).elim
                    rw [List.eq_nil_of_length_eq_zero hz]
                    exact ⟨[], Flat.nil c _, fun ad _ j u hu => by simp at hu, fun _ => rfl⟩
              obtain ⟨w', v', cs, g1, g2, g3, g4, g5, g6, g7, cp, rfl, g8, g9, g10⟩ := app_grow (P := P) (tx := tx) (ty := o.type) (sCap := orows.length) ht hi hzi hsz' hpos hzs fo fn rfl (firstCells_drew base ⟨_, _, rfl⟩ hoc fo.size hon) hs (by omega) h63 (by rw [hbi]; exact hby)
              have hnew : w'.heap[c.w.heap.size]? = some (.cells cs e) := by rw [g5]; simp
              obtain ⟨u1, u2⟩ := pushBlk r.inv w' ⟨c.N, true, sz', orows ++ rows⟩ (some (c.w.heap.size, 0)) g2 g3 g4 (by rw [g5]; simp) (fun b hb' => by rw [g5, Array.getElem?_push, if_neg (by omega)]) rfl (fun j row hr => (fo.append fn).len j row hr) (fun h => by cases h)
                (fun q hq => by cases hq; exact ⟨Nat.le_refl _, cs, e, (0, 0), hnew, by simpa using g7, by simpa using g6, fun _ => .inl rfl⟩)
              refine ⟨_, _, _, append_exec ho (by rw [hav]; exact g1), hK', u1, u2, .vw _ _ _ _ _ (by first | exact ⟨_, _, rfl⟩ | exact ⟨_, _, by rw [Nat.zero_add]⟩) (Nat.lt_succ_self _) (fun blk' h1 h2 => ?_)⟩
              simp at h1
              subst h1
              exact ⟨by simp, some ⟨c.w.heap.size, 0, none⟩, cp, by simp, g8, g9, .inl ⟨(c.w.heap.size, 0), by simp, by simp, cs, e, (0, 0), hnew, by simpa using g10⟩⟩
        · cases hres
      · cases hres
    · exact hK'.elim
end Go.Proofs.YtenoecffjfcifaaDoor.Pv

-- Twelfth text: a walk through code: regions, branches, loops, calls.
namespace Go.Proofs.YtenoecffjfcifaaDoor.Pv
set_option linter.all false
open Go.RowKit
set_option linter.unusedVariables false

/-- What a call of function f with such arguments and blocks answers. -/
def GCall (P : Program) (f : FuncId) (args : List PV) (S : List Blk) (R : PV → List Blk → Prop) : Prop :=
  ∀ (c : Cx) (vals : Array Value), Inv c → c.S = S → vals.size = args.length → (∀ (i : Nat) (x : PV) (v : Value), args[i]? = some x → vals[i]? = some v → RelV c x v) →
    Calls P f vals c.w fun e w' => ∃ v x c', e = .returned v ∧ c'.w = w' ∧ R x c'.S ∧ Inv c' ∧ Step c c' ∧ RelV c' x v

theorem GCall.mono {P : Program} {f : FuncId} {args : List PV} {S : List Blk} {R R' : PV → List Blk → Prop} (h : GCall P f args S R) (hr : ∀ x S', R x S' → R' x S') : GCall P f args S R' :=
  fun c vals hi hs hl hv => (h c vals hi hs hl hv).mono fun e w' ⟨v, x, c', h1, h2, h3, h4⟩ => ⟨v, x, c', h1, h2, hr _ _ h3, h4⟩

/-- A function of pure values: what it answers for such arguments. -/
def PCall (P : Program) (f : FuncId) (args : List PV) (r : PV) : Prop := (∀ x ∈ args, x.Pure) ∧ r.Pure ∧ GCall P f args [] fun x _ => x = r

/-- A call of pure values changes no block of one's own. -/
theorem PCall.any {P : Program} {f : FuncId} {args : List PV} {r : PV} (h : PCall P f args r) (S : List Blk) : GCall P f args S fun x S' => x = r ∧ S' = S := by
  intro c vals hi hs hl hv
  obtain ⟨hp, hpr, hc⟩ := h
  let c1 : Cx := { c with S := [], G := c.X }
  have hX : ∀ b, c1.X b ↔ c.X b := fun b => ⟨fun h => by
    rcases h with h | ⟨τ, blk, p, h1, _⟩
    · exact h
    · simp [c1] at h1, fun h => .inl h⟩
  have hi1 : Inv c1 := ⟨fun τ blk h => by simp [c1] at h, fun τ blk p h => by simp [c1] at h, fun τ τ' b b' p p' h => by simp [c1] at h, fun b hb => by
    rcases hb with hb | hb
    · exact hi.gLt b hb
    · exact Cx.Own.lt hi hb, hi.wi.none rfl rfl⟩
  refine (hc c1 vals hi1 rfl hl (fun i x v h1 h2 => (hv i x v h1 h2).pure (hp x (List.mem_of_getElem? h1)) (fun b hb => fun h => hb ((hX b).1 h)) (fun a u _ h => h) (fun _ _ _ _ h => h))).mono ?_
  rintro e w' ⟨v, x, c', rfl, rfl, rfl, hi', hst, hr⟩
  have hno : ∀ b, ¬ c1.Own b := fun b ⟨τ, blk, p, h1, _⟩ => by simp [c1] at h1
  have hall : ∀ b, b < c.w.heap.size → c'.w.heap[b]? = c.w.heap[b]? := fun b hb => hst.blocks b hb (hno b)
  let c2 : Cx := { c with w := c'.w }
  have hst2 : Step c c2 := ⟨rfl, hst.os, hst.tape, hst.output, hst.size, Nat.le_refl _, fun b hb _ => hall b hb, fun τ blk h _ => ⟨blk, h, rfl, rfl, rfl, rfl⟩, fun b h => .inl h, fun b cs e fz h => ⟨cs, fz, by rw [hall b (Array.getElem?_eq_some_iff.1 h).1]; exact h, rfl⟩⟩
  have hi2 : Inv c2 := ⟨fun τ blk h => by
    have hB := hi.blk τ blk h
    exact ⟨hB.gen, hB.void, fun p hp => (hB.heap p hp).move (fun x v h => h.step hst2) (hall _ (hB.heap p hp).lt)⟩, hi.notG, hi.inj, fun b hb => Nat.lt_of_lt_of_le (hi.gLt b hb) hst.size, hi.wi.step hst2⟩
  refine ⟨v, x, c2, rfl, rfl, ⟨rfl, hs⟩, hi2, hst2, hr.pure hpr (fun b hb h => hb ?_) (fun a u _ h => h) (fun _ _ _ _ h => h)⟩
  rcases h with h | h
  · exact .inl (by rw [hst.G]; exact .inl h)
  · exact .inl (by rw [hst.G]; exact .inr h)

theorem calls_post {P : Program} {f : FuncId} {args : Array Value} {w : World} {R R' : Ending → World → Prop} (h : Calls P f args w R) (hr : ∀ e w', R e w' → R' e w') : Calls P f args w R' := h.mono hr

/-- A call by the function's number. -/
theorem pop_call {P : Program} {σ : PS} {o : Oper} {K : PV → List Blk → Prop} {cl : Call} {g : Operand} {f : FuncId} {fn : Func} {first captured : List PV} (ho : o.op = .call cl) (hc : cl.callee = .value g) (hg : σ.get g = .fn (.func f) first captured)
    (hf : P.funcs[f]? = some fn) (hb : fn.body.isSome = true) (hn : (fn.name == "runtime.NumGoroutine") = false) {R : PV → List Blk → Prop} (h : GCall P f (first ++ cl.args.toList.map σ.get ++ captured) σ.S R) (hK : ∀ x S', R x S' → K x S') : PopSem P σ o K := by
  intro c a r next Q hnx
  have hrg := r.get g
  rw [hg] at hrg
  generalize hag : a.eval g = vg at hrg
  cases hrg with
  | fn _ _ _ va vb hsa hsb ha hb' =>
    have hrun : (execOp a.eval o).run P c.w = .ok (.enter f (va ++ cl.args.map a.eval ++ vb)) c.w := by
      simp only [execOp, ho, resolve, hc, hag, Deferred.ofValue, Sem.run_bind, Sem.run_pure, Result.andThen_ok, invoke, callFunc, run_program, hf]
      have h1 : ¬ (fn.name == "runtime.NumGoroutine") = true := by rw [hn]; simp
      have h2 : ¬ fn.body.isNone = true := by cases hb0 : fn.body <;> simp_all
      rw [if_neg h1, if_neg h2]
      rfl
    unfold Oper.wp
    rw [hrun, Oper.upon_enter]
    have hargs : ∀ (i : Nat) (x : PV) (v : Value), (first ++ cl.args.toList.map σ.get ++ captured)[i]? = some x → (va ++ cl.args.map a.eval ++ vb)[i]? = some v → RelV c x v := by
      intro i x v hx hv
      rcases Nat.lt_or_ge i (first ++ cl.args.toList.map σ.get).length with h1 | h1
      · rw [List.getElem?_append_left h1] at hx
        rw [Array.getElem?_append_left (by simp at h1 ⊢; omega)] at hv
        rcases Nat.lt_or_ge i first.length with h2 | h2
        · rw [List.getElem?_append_left h2] at hx
          rw [Array.getElem?_append_left (by omega)] at hv
          exact ha i x v hx hv
        · rw [List.getElem?_append_right h2, List.getElem?_map, Array.getElem?_toList] at hx
          rw [Array.getElem?_append_right (by omega), Array.getElem?_map, hsa] at hv
          obtain ⟨y, hy, rfl⟩ := Option.map_eq_some_iff.1 hx
          rw [hy] at hv
          cases hv
          exact r.get y
      · rw [List.getElem?_append_right h1] at hx
        rw [Array.getElem?_append_right (by simp at h1 ⊢; omega)] at hv
        refine hb' _ x v hx ?_
        rw [← hv]
        congr 1
        simp [hsa]
    refine (h c _ r.inv r.S (by simp [hsa, hsb]) hargs).mono ?_
    rintro e w' ⟨v, x, c', rfl, rfl, h1, h2, h3, h4⟩
    exact hnx x c' v (hK _ _ h1) h2 h3 h4

/-- Where code stands: in a function, or in a round of a range over a function. -/
def FR (ro : Option Nat) : Fence := { Fence.wide with round := ro }
def notDefer (o : Oper) : Bool := match o.op with | .defer _ => false | _ => true
theorem callsIn_FR {ro : Option Nat} {n : Nat} {P : Program} {f : FuncId} {args : Array Value} {w : World} {R : Ending → World → Prop} (h : Calls P f args w R) : CallsIn (FR ro) n P f args w R :=
  have := (callsIn_wide (n := n)).2 h
  this
theorem rowsIn_FR {ro : Option Nat} {n : Nat} {P : Program} {row : String} {args : Array Value} {w : World} {R : Value → World → Prop} (h : Rows P row args w R) : Go.RowsIn (FR ro) n P row args w R :=
  fun c cs _ => let ⟨v, w', hR, s⟩ := h c cs; ⟨v, w', hR, stepsIn_wide.2 s⟩
theorem wpIn_of_wp {ro : Option Nat} {n : Nat} {P : Program} {o : Oper} {a : Act} {w : World} {K : Act → World → Prop} {Q : Exit → Act → World → Prop} (hd : notDefer o = true) (h : o.wp P a w K Q) : o.wpIn (FR ro) n P a w K Q := by
  unfold Oper.wpIn
  refine ⟨fun _ _ => trivial, ?_⟩
  rw [Oper.semAt_eq _ _ _ (fun c hc => by rw [notDefer, hc] at hd; cases hd)]
  unfold Oper.wp at h
  generalize (execOp a.eval o).run P w = res at *
  cases res with
  | ok x w' =>
    cases x <;> simp only [Oper.upon, Oper.uponIn] at h ⊢ <;>
      first
        | exact h
        | exact ⟨fun hh => by simp [FR, Fence.wide] at hh, callsIn_FR h⟩
        | exact ⟨fun hh => by simp [FR, Fence.wide] at hh, rowsIn_FR h⟩
        | exact h.elim
  | halt x w' => cases x <;> simp only [Oper.upon, Oper.uponIn] at h ⊢ <;> first | exact h | exact h.elim

/-- What a guard says: what was left out says the opposite of what is wanted. -/
def gval (x : PV) (w : Bool) : Option Bool :=
  match x with
  | .v (.bool b) => some b
  | .tup [] => some (!w)
  | _ => none
def guardPV (ops : List Oper) (σ : PS) (j : Nat) (w : Bool) : Option Bool :=
  match ops[j]? with
  | some o => match o.dst with
    | some d => gval (look d σ.tm) w
    | none => none
  | none => none
theorem rel_void (c : Cx) : RelV c (.tup []) Go.undef := .tup [] #[] rfl (fun i x v h _ => by simp at h)

/-- Operations, one behind the other. -/
def Pops (P : Program) (ops : List Oper) (Q : PS → Prop) : List Oper → PS → Prop
  | [], σ => Q σ
  | o :: rest, σ => match o.guard with
    | none => PopSem P σ o fun x S' => Pops P ops Q rest (σ.put o.dst x S')
    | some (j, w) => ∃ b, guardPV ops σ j w = some b ∧ (b = w → PopSem P σ o fun x S' => Pops P ops Q rest (σ.put o.dst x S')) ∧ (b = !w → Pops P ops Q rest (σ.put o.dst (.tup []) σ.S))

def dstOk (n : Nat) (o : Oper) : Bool := (match o.dst with | some d => decide (d < n) | none => true) && notDefer o
theorem dstOk_lt {n : Nat} {o : Oper} (h : dstOk n o = true) : ∀ t, o.dst = some t → t < n := fun t ht => by
  have := (Bool.and_eq_true_iff.1 h).1
  simpa [ht] using this
theorem dstOk_nd {n : Nat} {o : Oper} (h : dstOk n o = true) : notDefer o = true := (Bool.and_eq_true_iff.1 h).2

theorem yielded_of {ops : Array Oper} {c : Cx} {σ : PS} {a : Act} (r : Rel c σ a) {j : Nat} {w b : Bool} (h : guardPV ops.toList σ j w = some b) (hd : ∀ o ∈ ops.toList, dstOk σ.n o = true) : (yielded ops a.tmps j == some w) = (b == w) := by
  unfold guardPV at h
  split at h
  · rename_i o ho
    split at h
    · rename_i d hdst
      · have hrel := r.tm d
        have hlt : d < a.tmps.size := by
          have := dstOk_lt (hd o (List.mem_of_getElem? ho)) d hdst
          rw [r.n]; exact this
        unfold yielded
        rw [Array.getElem?_toList] at ho
        have hv : a.tmps[d]? = some (a.tmps.getD d Go.undef) := by
          rw [Array.getD_eq_getD_getElem?, Array.getElem?_eq_getElem hlt]; rfl
        simp only [ho, Option.bind_some, hdst, hv]
        generalize a.tmps.getD d Go.undef = y at hrel
        generalize look d σ.tm = p at h hrel
        unfold gval at h
        split at h
        · cases h
          cases hrel
          rfl
        · cases h
          cases hrel with
          | tup cs vs hs hr => cases w <;> rfl
        · cases h
    · cases h
  · cases h

/-- What a walk leaves, told of slots and world. -/
def Post (c : Cx) (Q : Exit → PS → Prop) (e : Exit) (a : Act) (w : World) : Prop := ∃ c' σ', Step c c' ∧ c'.w = w ∧ Rel c' σ' a ∧ Q e σ'

/-- Code does, from what is known, what Q asks. -/
def Tr (P : Program) (code : Code) (σ : PS) (Q : Exit → PS → Prop) : Prop := ∀ (ro : Option Nat) (mm : Nat) (c : Cx) (a : Act), Rel c σ a → RoOk c ro → code.wpIn (FR ro) mm P (Post c Q) a c.w

theorem Post.step {c c' : Cx} (h : Step c c') {Q : Exit → PS → Prop} {e : Exit} {a : Act} {w : World} (hp : Post c' Q e a w) : Post c Q e a w := by
  obtain ⟨c2, σ', h1, h2, h3, h4⟩ := hp
  exact ⟨c2, σ', h.trans h1, h2, h3, h4⟩

theorem pops_sound {P : Program} {ops : Array Oper} {Q : Exit → PS → Prop} {ro : Option Nat} {mm : Nat} : ∀ (l : List Oper) (σ : PS) (c : Cx) (a : Act), (∀ o ∈ ops.toList, dstOk σ.n o = true) → (∀ o ∈ l, dstOk σ.n o = true) → Pops P ops.toList (Q .normal) l σ → Rel c σ a → wpListIn (FR ro) mm P ops (Post c Q) l a c.w
  | [], σ, c, a, _, _, h, r => ⟨c, σ, .refl c, rfl, r, h⟩
  | o :: rest, σ, c, a, hd, hl, h, r => by
    have hdo : ∀ t, o.dst = some t → t < σ.n := dstOk_lt (hl o (by simp))
    have hnd := dstOk_nd (hl o (by simp))
    have hput : ∀ x S', (σ.put o.dst x S').n = σ.n := fun x S' => by cases o.dst <;> rfl
    have main : PopSem P σ o (fun x S' => Pops P ops.toList (Q .normal) rest (σ.put o.dst x S')) → o.wpIn (FR ro) mm P a c.w (wpListIn (FR ro) mm P ops (Post c Q) rest) (Post c Q) := by
      intro hp
      refine wpIn_of_wp hnd (hp c a r _ _ (fun x c' v hK hi hs hv => ?_))
      have hr := r.put hs hi hv hdo
      have := pops_sound (ro := ro) (mm := mm) rest _ c' _ (fun o' ho' => by rw [hput]; exact hd o' ho') (fun o' ho' => by rw [hput]; exact hl o' (by simp [ho'])) hK hr
      have aux : ∀ (l : List Oper) (a : Act) (w : World), wpListIn (FR ro) mm P ops (Post c' Q) l a w → wpListIn (FR ro) mm P ops (Post c Q) l a w := by
        intro l
        induction l with
        | nil => intro a w h; exact h.step hs
        | cons o l ih =>
          intro a w h
          have mono : ∀ {o : Oper} {a : Act} {w : World}, o.wpIn (FR ro) mm P a w (wpListIn (FR ro) mm P ops (Post c' Q) l) (Post c' Q) → o.wpIn (FR ro) mm P a w (wpListIn (FR ro) mm P ops (Post c Q) l) (Post c Q) := by
            intro o a w hh
            unfold Oper.wpIn at *
            refine ⟨hh.1, ?_⟩
            have hh := hh.2
            generalize (o.semAt (FR ro).round a.eval).run P w = res at *
            cases res with
            | ok n w' =>
              cases n <;> simp only [Oper.uponIn] at hh ⊢ <;>
                first
                  | exact ih _ _ hh
                  | exact ⟨hh.1, CallsIn.mono hh.2 (fun e w'' he => by cases e with | returned v => exact ih _ _ he | panicked ch => exact Post.step hs he | outgrown => obtain ⟨a0, w0, h0⟩ := he; exact ⟨a0, w0, Post.step hs h0⟩)⟩
                  | exact ⟨hh.1, Go.RowsIn.mono hh.2 (fun _ _ he => ih _ _ he)⟩
                  | exact ⟨hh.1, RoundIn.mono hh.2 (fun e w'' he => by cases e with | returned v => exact ih _ _ he | panicked ch => exact Post.step hs he | outgrown => obtain ⟨a0, w0, h0⟩ := he; exact ⟨a0, w0, Post.step hs h0⟩)⟩
            | halt x w' => cases x <;> simp only [Oper.uponIn] at hh ⊢ <;> exact Post.step hs hh
          unfold wpListIn at h ⊢
          split
          · rename_i hw
            rw [if_pos hw] at h
            exact mono h
          · rename_i hw
            rw [if_neg hw] at h
            exact ⟨h.1, ih _ _ h.2⟩
      exact aux rest _ _ this
    unfold Pops at h
    unfold wpListIn
    split at h
    · rename_i hg
      rw [if_pos (by simp [Region.wanted, hg])]
      exact main h
    · rename_i j w hg
      obtain ⟨b, h1, h2, h3⟩ := h
      have hy := yielded_of r h1 hd
      by_cases hbw : b = w
      · rw [if_pos (by rw [show Region.wanted o (yielded ops a.tmps) = (b == w) from by unfold Region.wanted; rw [hg]; exact hy]; simp [hbw])]
        exact main (h2 hbw)
      · rw [if_neg (by rw [show Region.wanted o (yielded ops a.tmps) = (b == w) from by unfold Region.wanted; rw [hg]; exact hy]; simp [hbw])]
        have hb' : b = !w := by cases b <;> cases w <;> simp_all
        have hr := r.put (.refl c) r.inv (rel_void c) hdo
        rw [r.S] at hr
        exact ⟨fun _ _ => trivial, pops_sound (ro := ro) (mm := mm) rest _ c _ (fun o' ho' => by rw [hput]; exact hd o' ho') (fun o' ho' => by rw [hput]; exact hl o' (by simp [ho'])) (h3 hb') hr⟩

theorem tr_region {P : Program} {id : Nat} {ops : Array Oper} {σ : PS} {Q : Exit → PS → Prop} (hd : ops.toList.all (dstOk σ.n) = true) (h : Pops P ops.toList (Q .normal) ops.toList σ) : Tr P (.region id ops false) σ Q :=
  fun ro mm c a r _ => wpIn_region_list (pops_sound ops.toList σ c a (List.all_eq_true.1 hd) (List.all_eq_true.1 hd) h r)

theorem wp_post {P : Program} {code : Code} {Q Q' : Exit → Act → World → Prop} {a : Act} {w : World} (h : code.wp P Q a w) (hq : ∀ e a w, Q e a w → Q' e a w) : code.wp P Q' a w := wp_mono h hq

theorem Tr.mono {P : Program} {code : Code} {σ : PS} {Q Q' : Exit → PS → Prop} (h : Tr P code σ Q) (hq : ∀ e σ', Q e σ' → Q' e σ') : Tr P code σ Q' :=
  fun ro mm c a r hro => wpIn_mono (h ro mm c a r hro) fun e a' w' ⟨c', σ', h1, h2, h3, h4⟩ => ⟨c', σ', h1, h2, h3, hq _ _ h4⟩

/-- What stands behind. -/
def behind (K : PS → Prop) (Q : Exit → PS → Prop) : Exit → PS → Prop
  | .normal, σ => K σ
  | e, σ => Q e σ

theorem tr_seq {P : Program} {x y : Code} {σ : PS} {Q : Exit → PS → Prop} (h : ∀ K : PS → Prop, (∀ σ', Tr P y σ' Q → K σ') → Tr P x σ (behind K Q)) : Tr P (.seq x y) σ Q := by
  intro ro mm c a r hro
  refine wpIn_seq (wpIn_mono (h (fun σ' => Tr P y σ' Q) (fun _ h => h) ro mm c a r hro) ?_)
  rintro e a' w' ⟨c', σ', h1, rfl, h3, h4⟩
  cases e with
  | normal => exact wpIn_mono (h4 ro mm c' a' h3 (hro.step r.inv h1)) fun e a w hp => hp.step h1
  | exit id => exact ⟨c', σ', h1, rfl, h3, h4⟩
  | goto l => exact ⟨c', σ', h1, rfl, h3, h4⟩
  | ret => exact ⟨c', σ', h1, rfl, h3, h4⟩
  | panic ch => exact ⟨c', σ', h1, rfl, h3, h4⟩
  | outgrown => exact ⟨c', σ', h1, rfl, h3, h4⟩

theorem tr_skip {P : Program} {σ : PS} {Q : Exit → PS → Prop} (h : Q .normal σ) : Tr P .skip σ Q := fun ro mm c a r _ => wpIn_skip ⟨c, σ, .refl c, rfl, r, h⟩
theorem tr_label {P : Program} {l : Nat} {σ : PS} {Q : Exit → PS → Prop} (h : Q .normal σ) : Tr P (.label l) σ Q := fun ro mm c a r _ => wpIn_label ⟨c, σ, .refl c, rfl, r, h⟩
theorem tr_exit {P : Program} {id : Nat} {σ : PS} {Q : Exit → PS → Prop} (h : Q (.exit id) σ) : Tr P (.exit id) σ Q := fun ro mm c a r _ => wpIn_exit ⟨c, σ, .refl c, rfl, r, h⟩
theorem tr_goto {P : Program} {l : Nat} {σ : PS} {Q : Exit → PS → Prop} (h : Q (.goto l) σ) : Tr P (.goto l) σ Q := fun ro mm c a r _ => wpIn_goto ⟨c, σ, .refl c, rfl, r, h⟩
theorem tr_ret {P : Program} {σ : PS} {Q : Exit → PS → Prop} (h : Q .ret σ) : Tr P .ret σ Q := fun ro mm c a r _ => wpIn_ret ⟨c, σ, .refl c, rfl, r, h⟩

theorem tr_cond {P : Program} {cnd : Operand} {x y : Code} {σ : PS} {Q : Exit → PS → Prop} {b : Bool} (hb : σ.get cnd = .v (.bool b)) (ht : b = true → Tr P x σ Q) (hf : b = false → Tr P y σ Q) : Tr P (.cond cnd x y) σ Q := by
  intro ro mm c a r hro
  have hr := r.get cnd
  rw [hb] at hr
  have he : a.eval cnd = .bool b := by
    generalize a.eval cnd = v at hr
    cases hr
    rfl
  exact wpIn_cond_split he (fun h => ht h ro mm c a r hro) (fun h => hf h ro mm c a r hro)

/-- A block's way out. -/
def inBlk (id : Nat) (Q : Exit → PS → Prop) : Exit → PS → Prop
  | .exit id', σ => if id' = id then Q .normal σ else Q (.exit id') σ
  | e, σ => Q e σ

theorem tr_block {P : Program} {id : Nat} {body : Code} {σ : PS} {Q : Exit → PS → Prop} (h : Tr P body σ (inBlk id Q)) : Tr P (.block id body) σ Q := by
  intro ro mm c a r hro
  refine wpIn_block (wpIn_mono (h ro mm c a r hro) ?_)
  rintro e a' w' ⟨c', σ', h1, rfl, h3, h4⟩
  cases e with
  | exit id' =>
    simp only [inBlk] at h4
    simp only [Exit.inBlock]
    split at h4
    · rename_i he; rw [if_pos he]; exact ⟨c', σ', h1, rfl, h3, h4⟩
    · rename_i he; rw [if_neg he]; exact ⟨c', σ', h1, rfl, h3, h4⟩
  | normal => exact ⟨c', σ', h1, rfl, h3, h4⟩
  | goto l => exact ⟨c', σ', h1, rfl, h3, h4⟩
  | ret => exact ⟨c', σ', h1, rfl, h3, h4⟩
  | panic ch => exact ⟨c', σ', h1, rfl, h3, h4⟩
  | outgrown => exact ⟨c', σ', h1, rfl, h3, h4⟩

theorem tr_loop {P : Program} {body : Code} {σ : PS} {Q : Exit → PS → Prop} (I : Nat → PS → Prop) (n0 : Nat) (h0 : I n0 σ)
    (round : ∀ n σ', I n σ' → Tr P body σ' (behind (fun σ'' => ∃ m, m < n ∧ I m σ'') Q)) : Tr P (.loop body) σ Q := by
  have key : ∀ (ro : Option Nat) (mm : Nat) N n σ', I n σ' → n < N → ∀ c a, Rel c σ' a → RoOk c ro → Code.roundsIn (FR ro) mm P body (Post c Q) N a c.w := by
    intro ro mm N
    induction N with
    | zero => intro n σ' _ h; omega
    | succ N ih =>
      intro n σ' hI hn c a r hro
      rw [roundsIn_succ]
      refine wpIn_mono (round n σ' hI ro mm c a r hro) ?_
      rintro e a' w' ⟨c', σ'', h1, rfl, h3, h4⟩
      cases e with
      | normal =>
        obtain ⟨m, hm, hI'⟩ := h4
        have := ih m σ'' hI' (by omega) c' a' h3 (hro.step r.inv h1)
        have aux : ∀ N a w, Code.roundsIn (FR ro) mm P body (Post c' Q) N a w → Code.roundsIn (FR ro) mm P body (Post c Q) N a w := by
          intro N
          induction N with
          | zero => intro a w h; exact h
          | succ N ih2 =>
            intro a w h
            rw [roundsIn_succ] at h ⊢
            refine wpIn_mono h ?_
            intro e a w h
            cases e with
            | normal => exact ih2 _ _ h
            | exit id => exact Post.step h1 h
            | goto l => exact Post.step h1 h
            | ret => exact Post.step h1 h
            | panic ch => exact Post.step h1 h
            | outgrown => exact Post.step h1 h
        exact aux N _ _ this
      | exit id => exact ⟨c', σ'', h1, rfl, h3, h4⟩
      | goto l => exact ⟨c', σ'', h1, rfl, h3, h4⟩
      | ret => exact ⟨c', σ'', h1, rfl, h3, h4⟩
      | panic ch => exact ⟨c', σ'', h1, rfl, h3, h4⟩
      | outgrown => exact ⟨c', σ'', h1, rfl, h3, h4⟩
  exact fun ro mm c a r hro => wpIn_loop_rounds (n0 + 1) (key ro mm (n0 + 1) n0 σ h0 (Nat.lt_succ_self _) c a r hro)

/-- Less is known: some slots, and the first blocks. -/
theorem Rel.forget {c : Cx} {σ : PS} {a : Act} (r : Rel c σ a) (tm : List (Nat × PV)) (k : Nat) (h : ∀ p ∈ tm, look p.1 σ.tm = p.2) : ∃ c', Step c c' ∧ c'.w = c.w ∧ Rel c' ⟨σ.n, tm, σ.S.take k⟩ a := by
  obtain ⟨h1, h2⟩ := dropBlk r.inv k
  refine ⟨_, h2, rfl, by rw [r.S], h1, r.n, r.defers, fun t => ?_⟩
  have hl : look t tm = .undef ∨ look t tm = look t σ.tm := by
    clear h1 h2
    induction tm with
    | nil => exact .inl rfl
    | cons p tm ih =>
      obtain ⟨s, x⟩ := p
      simp only [look]
      split
      · rename_i e; subst e; exact .inr (h (t, x) (by simp)).symm
      · exact ih (fun q hq => h q (by simp [hq]))
  rcases hl with h | h
  · rw [h]; exact .undef _
  · rw [h]; exact (r.tm t).step h2

theorem tr_forget {P : Program} {code : Code} {σ : PS} {Q : Exit → PS → Prop} (tm : List (Nat × PV)) (k : Nat) (h : ∀ p ∈ tm, look p.1 σ.tm = p.2) (hc : Tr P code ⟨σ.n, tm, σ.S.take k⟩ Q) : Tr P code σ Q := by
  intro ro mm c a r hro
  obtain ⟨c', h1, h2, h3⟩ := r.forget tm k h
  rw [← h2]
  exact wpIn_mono (hc ro mm c' a h3 (hro.step r.inv h1)) fun e a w hp => hp.step h1
end Go.Proofs.YtenoecffjfcifaaDoor.Pv

-- Thirteenth text: functions: their beginning, their end; runs of operations that only read.
namespace Go.Proofs.YtenoecffjfcifaaDoor.Pv
set_option linter.all false
open Go.RowKit
set_option linter.unusedVariables false

def argTm : Nat → List PV → List (Nat × PV)
  | _, [] => []
  | i, x :: xs => (i, x) :: argTm (i + 1) xs

theorem look_argTm : ∀ (xs : List PV) (i t : Nat), look t (argTm i xs) = if i ≤ t then (xs[t - i]?).getD .undef else .undef
  | [], i, t => by simp [argTm, look]
  | x :: xs, i, t => by
    simp only [argTm, look, look_argTm xs (i + 1) t]
    rcases Nat.lt_trichotomy t i with h | h | h
    · rw [if_neg (by omega), if_neg (by omega), if_neg (by omega)]
    · subst h; simp
    · rw [if_neg (by omega), if_pos (by omega), if_pos (by omega), show t - i = (t - (i + 1)) + 1 by omega, List.getElem?_cons_succ]

def resPV (P : Program) (σ : PS) : ResultVar → Option PV
  | .tmp t => some (look t σ.tm)
  | .cell a t => loadPV P σ.S t (look a σ.tm)

def retPV (P : Program) (σ : PS) : List ResultVar → Option PV
  | [r] => resPV P σ r
  | rs => (rs.mapM (resPV P σ)).map .tup

/-- How a function's body ends. -/
def Ends (P : Program) (rs : List ResultVar) (R : PV → List Blk → Prop) : Exit → PS → Prop
  | .normal, σ => ∃ x, retPV P σ rs = some x ∧ R x σ.S
  | .ret, σ => ∃ x, retPV P σ rs = some x ∧ R x σ.S
  | _, _ => False

def resSem (tmps : Array Value) : ResultVar → Sem Value
  | .tmp t => pure (tmps.getD t Go.undef)
  | .cell a t => do loadVar t (← asAddr (tmps.getD a Go.undef))

theorem results_eq (fn : Func) (tmps : Array Value) : results fn tmps = (do
    let vs ← fn.results.mapM (resSem tmps)
    pure (if h : vs.size = 1 then vs[0] else .tuple vs)) := by
  unfold results
  congr 1

theorem resPV_run {P : Program} {c : Cx} {σ : PS} {a : Act} (r : Rel c σ a) (q : ResultVar) {x : PV} (h : resPV P σ q = some x) :
    ∃ v, (resSem a.tmps q).run P c.w = .ok v c.w ∧ RelV c x v := by
  cases q with
  | tmp t => cases h; exact ⟨_, rfl, r.tm t⟩
  | cell p t =>
    simp only [resPV] at h
    rw [← r.S] at h
    obtain ⟨v, h1, h2⟩ := loadPV_sound r.inv h (r.tm p)
    refine ⟨v, ?_, h2⟩
    have hr := r.tm p
    simp only [resSem]
    generalize a.tmps.getD p Go.undef = y at h1 hr ⊢
    simp only [Instr.loadAt, Sem.run_bind] at h1 ⊢
    cases y <;> first | exact h1 | (rename_i ad; cases ad <;> first | exact h1 | (simp [Instr.sureAddr] at h1)) | (simp [Instr.sureAddr] at h1)

theorem retPV_run {P : Program} {c : Cx} {σ : PS} {a : Act} (r : Rel c σ a) (fn : Func) {x : PV} (h : retPV P σ fn.results.toList = some x) : ∃ v, (results fn a.tmps).run P c.w = .ok v c.w ∧ RelV c x v := by
  have many : ∀ (rs : List ResultVar) (xs : List PV), rs.mapM (resPV P σ) = some xs →
      ∃ vs : List Value, (rs.mapM (resSem a.tmps)).run P c.w = .ok vs c.w ∧ vs.length = xs.length ∧ vs.length = rs.length ∧ ∀ (i : Nat) (x : PV) (v : Value), xs[i]? = some x → vs[i]? = some v → RelV c x v := by
    intro rs
    induction rs with
    | nil => intro xs h; simp at h; subst h; exact ⟨[], by simp, rfl, rfl, fun i x v h => by simp at h⟩
    | cons q rs ih =>
      intro xs h
      rw [List.mapM_cons] at h
      cases hq : resPV P σ q with
      | none => rw [hq] at h; simp at h
      | some y =>
        cases hm : rs.mapM (resPV P σ) with
        | none => rw [hq, hm] at h; simp at h
        | some ys =>
          rw [hq, hm] at h
          simp at h
          subst h
          obtain ⟨v, h1, h2⟩ := resPV_run (P := P) r q hq
          obtain ⟨vs, h3, h4, h5, h6⟩ := ih ys hm
          refine ⟨v :: vs, ?_, by simp [h4], by simp [h5], fun i x u hx hu => ?_⟩
          · rw [List.mapM_cons, Sem.run_bind, h1, Result.andThen_ok, Sem.run_bind, h3]
            rfl
          · cases i with
            | zero => simp at hx hu; subst hx hu; exact h2
            | succ i => exact h6 i x u (by simpa using hx) (by simpa using hu)
  rw [results_eq, ← Array.toArray_toList (xs := fn.results), List.mapM_toArray]
  generalize fn.results.toList = rs at h
  unfold retPV at h
  split at h
  · rename_i q
    obtain ⟨v, h1, h2⟩ := resPV_run (P := P) r q h
    refine ⟨v, ?_, h2⟩
    simp only [Sem.run_bind, Sem.run_map, List.mapM_cons, List.mapM_nil, h1, Result.andThen_ok, Sem.run_pure]
    rfl
  · rename_i hne
    obtain ⟨xs, h1, rfl⟩ := Option.map_eq_some_iff.1 h
    obtain ⟨vs, h2, h3, h4, h5⟩ := many rs xs h1
    refine ⟨.tuple vs.toArray, ?_, .tup _ _ (by simpa using h3) (fun i x v hx hv => h5 i x v hx (by simpa using hv))⟩
    simp only [Sem.run_bind, Sem.run_map, h2, Result.andThen_ok, Sem.run_pure]
    have hsz : ¬ vs.toArray.size = 1 := by
      rw [List.size_toArray, h4]
      intro h1
      match rs, hne with
      | [], _ => simp at h1
      | [q], hne => exact hne q rfl
      | _ :: _ :: _, _ => simp at h1
    rw [dif_neg hsz]

/-- Blocks for deferred calls, shut one by one. -/
theorem leaves_marks {P : Program} {fn : Func} {tmps : Array Value} {R : Ending → World → Prop} : ∀ (Ds : List Nat) (w : World), Ds.Nodup → (∀ D ∈ Ds, w.heap[D]? = some (.deferred (some []))) →
    (∀ w' : World, w'.os = w.os → w'.tape = w.tape → w'.output = w.output → w'.heap.size = w.heap.size → (∀ k : Nat, k ∉ Ds → w'.heap[k]? = w.heap[k]?) → (∀ (k : Nat) (o : Obj), w.heap[k]? = some o → memObj o = true → w'.heap[k]? = some o) → LeavesIn Fence.wide 0 P fn tmps R [] .returning w') →
    LeavesInM Fence.wide 0 P fn tmps R (Ds.map markOf) .returning w
  | [], w, _, _, h => h w rfl rfl rfl rfl (fun _ _ => rfl) (fun _ _ h _ => h)
  | D :: Ds, w, hn, hd, h => by
    have h0 := hd D (by simp)
    obtain ⟨hn1, hn2⟩ := List.nodup_cons.1 hn
    refine ⟨by simp, .inl ⟨D, _, rfl, run_takeDeferred h0, ?_⟩⟩
    refine leaves_marks Ds _ hn2 (fun E hE => ?_) (fun w' h1 h2 h3 h4 h5 h6 => h w' h1 h2 h3 (by rw [h4, World.putObj_size]) (fun k hk => ?_) (fun k o hk ho => ?_))
    · rw [World.putObj_heap_other (by rintro rfl; exact hn1 hE)]
      exact hd E (by simp [hE])
    · simp only [List.mem_cons, not_or] at hk
      rw [h5 k hk.2, World.putObj_heap_other hk.1]
    · refine h6 k o ?_ ho
      rw [World.putObj_heap_other (by rintro rfl; rw [h0] at hk; cases hk; cases ho)]
      exact hk
/-- A function, out of its body. -/
theorem gcall_of_tr {P : Program} {f : FuncId} {fn : Func} {code : Code} {args : List PV} {S : List Blk} {R : PV → List Blk → Prop} (hf : P.funcs[f]? = some fn) (hb : fn.body = some code) (rs : List ResultVar) (hr : fn.results = rs.toArray) (n : Nat) (hn : args.length + (fn.ntmps - args.length) = n)
    (h : Tr P code ⟨n, argTm 0 args, S⟩ (Ends P rs R)) : GCall P f args S R := by
  intro c vals hi hs hl hv
  refine (callsIn_wide (n := 0)).1 (callsIn_of_wp_marks hf hb trivial ?_)
  let c1 : Cx := { c with G := fun b => c.G b ∨ (∃ o : Obj, c.w.heap[b]? = some o ∧ memObj o = false) }
  have ht : Turn c c1 := ⟨rfl, rfl, rfl, fun b o hb hm hG => by
    rcases hG with h | ⟨o', h1, h2⟩
    · exact h
    · rw [hb] at h1; cases h1; rw [hm] at h2; exact absurd h2 (by decide), fun b o h _ => h⟩
  have hi1 : Inv c1 := hi.turn ht (fun b hb => by
    rcases hb with h | ⟨o, h, _⟩
    · exact hi.gLt b h
    · exact (Array.getElem?_eq_some_iff.1 h).1)
  have r : Rel c1 ⟨n, argTm 0 args, S⟩ { tmps := vals ++ Array.replicate (fn.ntmps - vals.size) Go.undef, defers := [] } := by
    refine ⟨hs, hi1, by simp [hl, hn], .nil _, fun t => ?_⟩
    rw [look_argTm, if_pos (Nat.zero_le _), Nat.sub_zero]
    cases hx : args[t]? with
    | none => exact .undef _
    | some x =>
      have hlt : t < vals.size := by rw [hl]; exact (List.getElem?_eq_some_iff.1 hx).1
      have hv' := Array.getElem?_eq_getElem hlt
      have : (vals ++ Array.replicate (fn.ntmps - vals.size) Go.undef).getD t Go.undef = vals[t] := by
        rw [Array.getD_eq_getD_getElem?, Array.getElem?_append_left hlt, hv']
        rfl
      simp only [this]
      exact (hv t x _ hx hv').turn ht
  refine wpIn_mono (h none 0 c1 _ r (.none _)) ?_
  rintro e a w ⟨c', σ', h1, rfl, h3, h4⟩
  have key : (∃ x, retPV P σ' rs = some x ∧ R x σ'.S) → LeavesInM Fence.wide 0 P fn a.tmps (fun e w' => ∃ v x c', e = .returned v ∧ c'.w = w' ∧ R x c'.S ∧ Inv c' ∧ Step c c' ∧ RelV c' x v) a.defers .returning c'.w := by
    rintro ⟨x, hx, hR⟩
    obtain ⟨Ds, d1, d2, d3⟩ := h3.defers
    rw [d2]
    refine leaves_marks Ds _ d1 (fun D hD => (d3 D hD).1) (fun w' o1 o2 o3 o4 o5 o6 => ?_)
    let c2 : Cx := { c' with w := w' }
    have t2 : Turn c' c2 := ⟨rfl, rfl, rfl, fun _ _ _ _ h => h, o6⟩
    have i2 : Inv c2 := h3.inv.turn t2 (fun b hb => by show b < w'.heap.size; rw [o4]; exact h3.inv.gLt b hb)
    have r2 : Rel c2 σ' { a with defers := [] } := ⟨h3.S, i2, h3.n, .nil _, fun t => (h3.tm t).turn t2⟩
    obtain ⟨v, g1, g2⟩ := retPV_run (P := P) r2 fn (by rw [hr]; simpa using hx)
    let c3 : Cx := { c2 with G := c.G }
    have t3 : Turn c2 c3 := ⟨rfl, rfl, rfl, fun b o hb hm hG => by show c'.G b; rw [h1.G]; exact .inl hG, fun _ _ h _ => h⟩
    have i3 : Inv c3 := i2.turn t3 (fun b hb => by show b < w'.heap.size; rw [o4]; exact Nat.lt_of_lt_of_le (hi.gLt b hb) h1.size)
    have hst : Step c c3 := ⟨rfl, o1.trans h1.os, o2.trans h1.tape, o3.trans h1.output, by show _ ≤ w'.heap.size; rw [o4]; exact h1.size, h1.N, fun b hb ho => by
      have hbD : b ∉ Ds := fun hD => by
        obtain ⟨k1, k2⟩ := d3 b hD
        have e := h1.blocks b hb ho
        exact k2 (by rw [h1.G]; exact .inr ⟨_, e.symm.trans k1, rfl⟩)
      show w'.heap[b]? = _
      rw [o5 b hbD]
      exact h1.blocks b hb ho, h1.ent, h1.own, fun b cs e fz hc => by
      obtain ⟨cs', fz', k1, k2⟩ := h1.cells b cs e fz hc
      exact ⟨cs', fz', o6 b _ k1 rfl, k2⟩⟩
    exact ⟨v, g1, v, x, c3, rfl, rfl, by show R x c'.S; rw [h3.S]; exact hR, i3, hst, g2.turn t3⟩
  cases e with
  | normal => exact key h4
  | ret => exact key h4
  | exit id => exact h4.elim
  | goto l => exact h4.elim
  | panic ch => exact h4.elim
  | outgrown => exact h4.elim

theorem pcall_of_tr {P : Program} {f : FuncId} {fn : Func} {code : Code} {args : List PV} {r : PV} (hf : P.funcs[f]? = some fn) (hb : fn.body = some code) (rs : List ResultVar) (hr : fn.results = rs.toArray) (n : Nat) (hn : args.length + (fn.ntmps - args.length) = n) (hp : ∀ x ∈ args, x.Pure) (hpr : r.Pure)
    (h : Tr P code ⟨n, argTm 0 args, []⟩ (Ends P rs fun x _ => x = r)) : PCall P f args r := ⟨hp, hpr, gcall_of_tr hf hb rs hr n hn h⟩

/-- An operation, as a walk needs it: what it does, its slot, its guard's slot. -/
structure Pr where
  op : Op
  dst : Option Tmp
  guard : Option (Tmp × Bool)

def prOf (ops : List Oper) (o : Oper) : Pr :=
  ⟨o.op, o.dst, match o.guard with
    | none => none
    | some (j, w) => match ops[j]? with
      | some q => match q.dst with
        | some d => some (d, w)
        | none => some (0, w)
      | none => some (0, w)⟩
def prs (ops : List Oper) (l : List Oper) : List Pr := l.map (prOf ops)

/-- Do all guards name an operation that has a slot? -/
def gOk (ops : List Oper) (o : Oper) : Bool :=
  match o.guard with
  | none => true
  | some (j, _) => match ops[j]? with
    | some q => q.dst.isSome
    | none => false

theorem guard_look {ops : List Oper} {σ : PS} {o : Oper} {j : Nat} {w : Bool} (hg : o.guard = some (j, w)) (h : gOk ops o = true) : ∃ d, (prOf ops o).guard = some (d, w) ∧ ∀ b, gval (look d σ.tm) w = some b → guardPV ops σ j w = some b := by
  unfold gOk at h
  rw [hg] at h
  simp only at h
  split at h
  · rename_i q hq
    obtain ⟨d, hd⟩ := Option.isSome_iff_exists.1 h
    refine ⟨d, by simp [prOf, hg, hq, hd], fun b hb => ?_⟩
    simp [guardPV, hq, hd, hb]
  · cases h

/-- The last n of a list. -/
def lastN {α : Type} (l : List α) (n : Nat) : List α := l.drop (l.length - n)
theorem lastN_all {α : Type} (l : List α) : lastN l l.length = l := by simp [lastN]
theorem lastN_cons {α : Type} (x : α) (l : List α) (n : Nat) (h : n ≤ l.length) : lastN (x :: l) n = lastN l n := by
  unfold lastN
  rw [List.length_cons, show l.length + 1 - n = (l.length - n) + 1 by omega, List.drop_succ_cons]

/-- Operations that only read are done, from what is known to what is known then; how many are left. -/
inductive EvR (P : Program) : List Pr → PS → PS → Nat → Prop
  | stop (l : List Pr) (σ : PS) : EvR P l σ σ l.length
  | step {o : Pr} {rest : List Pr} {σ σ' : PS} {n : Nat} {x : PV} (hg : o.guard = none ∨ ∃ d w, o.guard = some (d, w) ∧ look d σ.tm = .v (.bool w)) (h : ev P σ o.op = some x) (k : EvR P rest (σ.put o.dst x σ.S) σ' n) : EvR P (o :: rest) σ σ' n
  | skip {o : Pr} {rest : List Pr} {σ σ' : PS} {n : Nat} {d : Tmp} {w b : Bool} (hg : o.guard = some (d, w)) (hb : gval (look d σ.tm) w = some b) (hw : b ≠ w) (k : EvR P rest (σ.put o.dst (.tup []) σ.S) σ' n) : EvR P (o :: rest) σ σ' n

def EvG (P : Program) (l : List Pr) (σ : PS) (Q : PS → Nat → Prop) : Prop := ∃ σ' n, EvR P l σ σ' n ∧ Q σ' n

theorem ev_stop {P : Program} {l : List Pr} {σ : PS} {Q : PS → Nat → Prop} (h : Q σ l.length) : EvG P l σ Q := ⟨σ, l.length, .stop l σ, h⟩
theorem ev_step {P : Program} {op : Op} {d : Tmp} {rest : List Pr} {n : Nat} {tm : List (Nat × PV)} {S : List Blk} {Q : PS → Nat → Prop} {x : PV} (h : ev P ⟨n, tm, S⟩ op = some x) (k : EvG P rest ⟨n, (d, x) :: tm, S⟩ Q) : EvG P (⟨op, some d, none⟩ :: rest) ⟨n, tm, S⟩ Q := by
  obtain ⟨σ', m, k1, k2⟩ := k
  exact ⟨σ', m, .step (.inl rfl) h k1, k2⟩
theorem ev_run {P : Program} {op : Op} {d g : Tmp} {w : Bool} {rest : List Pr} {n : Nat} {tm : List (Nat × PV)} {S : List Blk} {Q : PS → Nat → Prop} {x : PV} (hg : look g tm = .v (.bool w)) (h : ev P ⟨n, tm, S⟩ op = some x) (k : EvG P rest ⟨n, (d, x) :: tm, S⟩ Q) : EvG P (⟨op, some d, some (g, w)⟩ :: rest) ⟨n, tm, S⟩ Q := by
  obtain ⟨σ', m, k1, k2⟩ := k
  exact ⟨σ', m, .step (.inr ⟨g, w, rfl, hg⟩) h k1, k2⟩
theorem ev_skip {P : Program} {op : Op} {d g : Tmp} {w : Bool} {rest : List Pr} {n : Nat} {tm : List (Nat × PV)} {S : List Blk} {Q : PS → Nat → Prop} (hg : gval (look g tm) w = some (!w)) (k : EvG P rest ⟨n, (d, .tup []) :: tm, S⟩ Q) : EvG P (⟨op, some d, some (g, w)⟩ :: rest) ⟨n, tm, S⟩ Q := by
  obtain ⟨σ', m, k1, k2⟩ := k
  exact ⟨σ', m, .skip rfl hg (by cases w <;> simp) k1, k2⟩

theorem EvR.le {P : Program} {l : List Pr} {σ σ' : PS} {n : Nat} (h : EvR P l σ σ' n) : n ≤ l.length := by
  induction h with
  | stop l σ => exact Nat.le_refl _
  | step hg h k ih => exact Nat.le_succ_of_le ih
  | skip hg hb hw k ih => exact Nat.le_succ_of_le ih

theorem pops_evr {P : Program} {ops : List Oper} {Q : PS → Prop} : ∀ (l : List Oper) (σ σ' : PS) (n : Nat), (∀ o ∈ l, gOk ops o = true) → EvR P (prs ops l) σ σ' n → Pops P ops Q (lastN l n) σ' → Pops P ops Q l σ
  | [], σ, σ', n, _, h, k => by
    cases h with
    | stop => exact k
  | o :: rest, σ, σ', n, hk, h, k => by
    have hk' : ∀ o ∈ rest, gOk ops o = true := fun o' ho' => hk o' (by simp [ho'])
    have h2 : EvR P (prOf ops o :: prs ops rest) σ σ' n := h
    clear h
    generalize hp : prOf ops o = po at h2
    have hop : po.op = o.op := by rw [← hp]; rfl
    have hds : po.dst = o.dst := by rw [← hp]; rfl
    cases h2 with
    | stop => rw [show (po :: prs ops rest).length = (o :: rest).length by simp [prs], lastN_all] at k; exact k
    | step hg hx h3 =>
      rw [hop] at hx
      rw [hds] at h3
      have hle := h3.le
      rw [lastN_cons _ _ _ (by simpa [prs] using hle)] at k
      have ih := pops_evr rest _ σ' n hk' h3 k
      cases hog : o.guard with
      | none => unfold Pops; rw [hog]; exact pop_ev hx ih
      | some p =>
        obtain ⟨j, w⟩ := p
        obtain ⟨d, hpg, hgd⟩ := guard_look (σ := σ) hog (hk o (by simp))
        rw [hp] at hpg
        rcases hg with hg | ⟨d', w', hg, hl⟩
        · rw [hpg] at hg; cases hg
        · rw [hpg] at hg
          cases hg
          unfold Pops
          rw [hog]
          exact ⟨w, hgd w (by rw [hl]; rfl), fun _ => pop_ev hx ih, fun h' => by cases w <;> cases h'⟩
    | skip hg hb hw h3 =>
      rename_i d w b
      rw [hds] at h3
      have hle := h3.le
      rw [lastN_cons _ _ _ (by simpa [prs] using hle)] at k
      have ih := pops_evr rest _ σ' n hk' h3 k
      cases hog : o.guard with
      | none => rw [← hp] at hg; simp [prOf, hog] at hg
      | some p =>
        obtain ⟨j, w'⟩ := p
        obtain ⟨d', hpg, hgd⟩ := guard_look (σ := σ) hog (hk o (by simp))
        rw [hp] at hpg
        rw [hpg] at hg
        cases hg
        unfold Pops
        rw [hog]
        exact ⟨b, hgd b hb, fun h' => absurd h' hw, fun _ => ih⟩

theorem pops_nil {P : Program} {ops : List Oper} {Q : PS → Prop} {σ : PS} (h : Q σ) : Pops P ops Q [] σ := h
theorem pops_cons {P : Program} {ops : List Oper} {Q : PS → Prop} {σ : PS} {o : Oper} {rest : List Oper} (hg : o.guard = none)
    (h : ∀ K : PS → Prop, (∀ σ', Pops P ops Q rest σ' → K σ') → PopSem P σ o fun x S' => K (σ.put o.dst x S')) : Pops P ops Q (o :: rest) σ := by
  unfold Pops
  rw [hg]
  exact h _ fun _ h => h

/-- The operations that are left, once those that only read are done. -/
theorem pops_ev {P : Program} {ops : List Oper} {Q : PS → Prop} {σ : PS} {rest : List Oper} (l : List Pr) (hl : prs ops rest = l) (hd : rest.all (gOk ops) = true) (h : EvG P l σ fun σ' n => Pops P ops Q (lastN rest n) σ') : Pops P ops Q rest σ := by
  subst hl
  obtain ⟨σ', n, h1, h2⟩ := h
  exact pops_evr rest σ σ' n (List.all_eq_true.1 hd) h1 h2

/-- A region's beginning. -/
theorem tr_ev {P : Program} {id : Nat} {ops : Array Oper} {σ : PS} {Q : Exit → PS → Prop} (l : List Pr) (hl : prs ops.toList ops.toList = l) (hd : ops.toList.all (fun o => dstOk σ.n o && gOk ops.toList o) = true) (h : EvG P l σ fun σ' n => Pops P ops.toList (Q .normal) (lastN ops.toList n) σ') : Tr P (.region id ops false) σ Q := by
  have hd' := List.all_eq_true.1 hd
  exact tr_region (List.all_eq_true.2 fun o ho => (Bool.and_eq_true_iff.1 (hd' o ho)).1) (pops_ev l hl (List.all_eq_true.2 fun o ho => (Bool.and_eq_true_iff.1 (hd' o ho)).2) h)

theorem lastN_zero {α : Type} (l : List α) : lastN l 0 = [] := by unfold lastN; rw [Nat.sub_zero, List.drop_length]
/-- A region's end. -/
theorem ev_end {P : Program} {ops : List Oper} {Q : PS → Prop} {σ : PS} (h : Q σ) : EvG P [] σ fun σ' n => Pops P ops Q (lastN ops n) σ' := ev_stop (by rw [List.length_nil, lastN_zero]; exact h)
end Go.Proofs.YtenoecffjfcifaaDoor.Pv

-- Fourteenth text: lists of whole numbers as elements; sums that stay in their kind.
namespace Go.Proofs.YtenoecffjfcifaaDoor.Pv
set_option linter.all false
open Go.RowKit
set_option linter.unusedVariables false

def ints (k : IntKind) (l : List Int) : List (List PV) := l.map fun b => [.v (.int k b)]
theorem ints_length (k : IntKind) (l : List Int) : (ints k l).length = l.length := by simp [ints]
theorem ints_get (k : IntKind) (l : List Int) (i : Nat) (h : i < l.length) : (ints k l)[i]? = some [.v (.int k (l.getD i 0))] := by
  simp [ints, List.getElem?_eq_getElem h]
theorem ints_append (k : IntKind) (a b : List Int) : ints k a ++ ints k b = ints k (a ++ b) := by simp [ints]
theorem ints_snoc (k : IntKind) (a : List Int) (b : Int) : ints k a ++ [[.v (.int k b)]] = ints k (a ++ [b]) := by simp [ints]
theorem ints_drop (k : IntKind) (l : List Int) (n : Nat) : (ints k l).drop n = ints k (l.drop n) := by simp [ints, List.map_drop]
theorem ints_take (k : IntKind) (l : List Int) (n : Nat) : (ints k l).take n = ints k (l.take n) := by simp [ints, List.map_take]
theorem ints_set (k : IntKind) (l : List Int) (i : Nat) (b : Int) : (ints k l).set i [.v (.int k b)] = ints k (l.set i b) := by simp [ints, List.map_set]
theorem ints_pure (k : IntKind) (l : List Int) (sz : Nat) (f : Bool) : (PV.ro sz f (ints k l)).Pure := by
  refine .ro fun row hr x hx => ?_
  obtain ⟨b, _, rfl⟩ := List.mem_map.1 hr
  simp at hx
  subst hx
  exact .v _
theorem wrap_i64 (x : Int) (h0 : -9223372036854775808 ≤ x) (h1 : x < 9223372036854775808) : IntKind.i64.wrap x = x := IntWalk.i64_in x ⟨h0, by omega⟩
theorem wrap_u32 (x : Int) (h0 : 0 ≤ x) (h1 : x < 4294967296) : IntKind.u32.wrap x = x := IntWalk.u32_in x ⟨h0, by omega⟩
theorem wrap_u8 (x : Int) (h0 : 0 ≤ x) (h1 : x < 256) : IntKind.u8.wrap x = x := IntWalk.u8_in x ⟨h0, by omega⟩
theorem getElem?_one {α : Type} (x : α) : [x][0]? = some x := rfl
end Go.Proofs.YtenoecffjfcifaaDoor.Pv

-- Fifteenth text: statements whose order Go leaves open.
namespace Go.Proofs.YtenoecffjfcifaaDoor.Pv
set_option linter.all false
open Go.RowKit
set_option linter.unusedVariables false
variable {ro : Option Nat} {mm : Nat}

theorem map_get_congr {σ σ' : PS} {xs : List Operand} (h : ∀ x ∈ xs, σ.get x = σ'.get x) : xs.map σ.get = xs.map σ'.get := List.map_congr_left h

theorem opt_get_congr {σ σ' : PS} {x : Option Operand} (h : ∀ y ∈ x.toArray, σ.get y = σ'.get y) : x.map σ.get = x.map σ'.get := by
  cases x with
  | none => rfl
  | some y => simp [h y (by simp)]

theorem ev_congr {P : Program} {σ σ' : PS} {o : Op} (h : ∀ x ∈ o.operands, σ.get x = σ'.get x) (hS : σ.S = σ'.S) : ev P σ o = ev P σ' o := by
  cases o <;> simp only [ev, hS] <;> simp only [Op.operands, Call.operands] at h
  case move x => rw [h x (by simp)]
  case assign x => rw [h x (by simp)]
  case pick c a b => rw [h c (by simp), h a (by simp), h b (by simp)]
  case nilCheck x => rw [h x (by simp)]
  case binOp op t x y yt => rw [h x (by simp), h y (by simp)]
  case unOp op t x => rw [h x (by simp)]
  case convert s d x => rw [h x (by simp)]
  case makeFunc fn first captured =>
    rw [map_get_congr (xs := first.toList) (fun x hx => h x (by simp at hx ⊢; exact .inl hx)), map_get_congr (xs := captured.toList) (fun x hx => h x (by simp at hx ⊢; exact .inr hx))]
  case fieldAddr s x f => rw [h x (by simp)]
  case field t x f => rw [h x (by simp)]
  case indexAddr t x i => rw [h x (by simp), h i (by simp)]
  case index t x i => rw [h x (by simp), h i (by simp)]
  case lookup t x i ok => rw [h x (by simp), h i (by simp)]
  case load t x => rw [h x (by simp)]
  case extract x i => rw [h x (by simp)]
  case build t parts =>
    congr 1
    apply List.map_congr_left
    intro p hp
    rw [h p.2 (by simp; exact ⟨p.1, by simpa using hp⟩)]
  case slice t x lo hi mx =>
    rw [h x (by simp), opt_get_congr (x := lo) (fun y hy => h y (by simp at hy ⊢; simp [hy])), opt_get_congr (x := hi) (fun y hy => h y (by simp at hy ⊢; simp [hy])), opt_get_congr (x := mx) (fun y hy => h y (by simp at hy ⊢; simp [hy]))]
  case call c =>
    unfold callPV
    have ha : ∀ x ∈ c.args.toList, σ.get x = σ'.get x := fun x hx => h x (by
      cases c.callee <;> simp at hx ⊢ <;> first | exact hx | exact .inr hx)
    generalize c.args.toList = asv at ha
    generalize c.argTypes.toList = ts
    generalize c.callee = cc
    split
    · rename_i x t
      simp only [ha x (by simp), hS]
    · rename_i z x y
      simp only [ha x (by simp), ha y (by simp)]
    · rename_i z x y
      simp only [ha x (by simp), ha y (by simp)]
    · rfl

/-- Two pieces of knowledge that look alike. -/
def LEq (σ σ' : PS) : Prop := σ.n = σ'.n ∧ σ.S = σ'.S ∧ ∀ t, look t σ.tm = look t σ'.tm
theorem LEq.rfl' (σ : PS) : LEq σ σ := ⟨rfl, rfl, fun _ => rfl⟩
theorem LEq.get {σ σ' : PS} (h : LEq σ σ') (x : Operand) : σ.get x = σ'.get x := by cases x <;> simp [PS.get, h.2.2]
theorem LEq.put {σ σ' : PS} (h : LEq σ σ') (d : Option Tmp) (x : PV) (S : List Blk) : LEq (σ.put d x S) (σ'.put d x S) := by
  cases d with
  | none => exact ⟨h.1, rfl, h.2.2⟩
  | some d => exact ⟨h.1, rfl, fun t => by simp only [PS.put, look]; split; rfl; exact h.2.2 t⟩
theorem LEq.trans {a b c : PS} (h : LEq a b) (k : LEq b c) : LEq a c := ⟨h.1.trans k.1, h.2.1.trans k.2.1, fun t => (h.2.2 t).trans (k.2.2 t)⟩
theorem LEq.symm {a b : PS} (h : LEq a b) : LEq b a := ⟨h.1.symm, h.2.1.symm, fun t => (h.2.2 t).symm⟩
theorem Rel.leq {c : Cx} {σ σ' : PS} {a : Act} (r : Rel c σ a) (h : LEq σ σ') : Rel c σ' a := ⟨r.S.trans h.2.1, r.inv, r.n.trans h.1, r.defers, fun t => by rw [← h.2.2 t]; exact r.tm t⟩
theorem LEq.guard {σ σ' : PS} (h : LEq σ σ') (ops : List Oper) (j : Nat) (w : Bool) : guardPV ops σ j w = guardPV ops σ' j w := by
  unfold guardPV
  cases ops[j]? with
  | none => rfl
  | some o => cases hd : o.dst with
    | none => simp [hd]
    | some d => simp [hd, h.2.2]

/-- What an operation that leaves the blocks alone answers: it reads, or calls a function of pure values. -/
inductive Stl (P : Program) (σ : PS) (o : Oper) (x : PV) : Prop
  | ev (h : ev P σ o.op = some x)
  | call (cl : Call) (g : Operand) (f : FuncId) (fn : Func) (first captured : List PV) (ho : o.op = .call cl) (hc : cl.callee = .value g) (hg : σ.get g = .fn (.func f) first captured)
      (hf : P.funcs[f]? = some fn) (hb : fn.body.isSome = true) (hn : (fn.name == "runtime.NumGoroutine") = false) (h : PCall P f (first ++ cl.args.toList.map σ.get ++ captured) x)
  | sem (h : ∀ σ' : PS, (∀ y ∈ o.op.operands, σ.get y = σ'.get y) → σ.S = σ'.S → PopSem P σ' o fun x' S' => x' = x ∧ S' = σ'.S)

theorem Stl.congr {P : Program} {σ σ' : PS} {o : Oper} {x : PV} (h : Stl P σ o x) (hg : ∀ y ∈ o.op.operands, σ.get y = σ'.get y) (hS : σ.S = σ'.S) : Stl P σ' o x := by
  cases h with
  | ev h => exact .ev (by rw [← ev_congr hg hS]; exact h)
  | call cl g f fn first captured ho hc hgg hf hb hn h =>
    rw [ho] at hg
    have h1 : σ.get g = σ'.get g := hg g (by simp [Op.operands, Call.operands, hc])
    refine .call cl g f fn first captured ho hc (by rw [← h1]; exact hgg) hf hb hn ?_
    rw [← map_get_congr (xs := cl.args.toList) (fun y hy => hg y (by simp [Op.operands, Call.operands]; exact .inr (by simpa using hy)))]
    exact h
  | sem h => exact .sem fun τ h1 h2 => h τ (fun y hy => (hg y hy).trans (h1 y hy)) (hS.trans h2)

theorem Stl.pop {P : Program} {σ : PS} {o : Oper} {x : PV} (h : Stl P σ o x) {K : PV → List Blk → Prop} (hK : K x σ.S) : PopSem P σ o K := by
  cases h with
  | ev h => exact pop_ev h hK
  | call cl g f fn first captured ho hc hgg hf hb hn h => exact pop_call ho hc hgg hf hb hn (h.any σ.S) (fun y S' ⟨h1, h2⟩ => by subst h1 h2; exact hK)
  | sem h =>
    intro c a r next Q hn
    exact h σ (fun _ _ => rfl) rfl c a r next Q fun x' c' v ⟨e1, e2⟩ hi hs hv => hn x' c' v (by subst e1; rw [e2]; exact hK) hi hs hv

/-- The same, with the operation's guard. -/
def GSt (P : Program) (ops : List Oper) (σ : PS) (o : Oper) (x : PV) : Prop :=
  match o.guard with
  | none => Stl P σ o x
  | some (j, w) => (guardPV ops σ j w = some w ∧ Stl P σ o x) ∨ (guardPV ops σ j w = some (!w) ∧ x = .tup [])

theorem get_put {σ : PS} {d : Option Tmp} {x : PV} {S : List Blk} {y : Operand} (h : ∀ t, d = some t → y ≠ .tmp t) : (σ.put d x S).get y = σ.get y := by
  cases d with
  | none => cases y <;> rfl
  | some t =>
    cases y with
    | tmp s => simp only [PS.get, PS.put, look]; rw [if_neg (fun e => h t rfl (by rw [e]))]
    | _ => rfl

theorem looksAt_op {ops : Array Oper} {o : Oper} {t : Tmp} (h : Operand.tmp t ∈ o.op.operands) : t ∈ o.looksAt ops := by
  unfold Oper.looksAt
  exact List.mem_append_left _ (List.mem_filterMap.2 ⟨.tmp t, by simpa using h, rfl⟩)

theorem guard_put {ops : Array Oper} {σ : PS} {o : Oper} {j : Nat} {w : Bool} (hg : o.guard = some (j, w)) {d : Option Tmp} {x : PV} {S : List Blk} (h : ∀ t, d = some t → t ∉ o.looksAt ops) : guardPV ops.toList (σ.put d x S) j w = guardPV ops.toList σ j w := by
  unfold guardPV
  cases ho : ops.toList[j]? with
  | none => rfl
  | some q =>
    cases hd : q.dst with
    | none => simp [hd]
    | some e =>
      have hne : ∀ t, d = some t → e ≠ t := by
        intro t ht he
        subst he
        refine h e ht ?_
        unfold Oper.looksAt
        refine List.mem_append_right _ ?_
        rw [Array.getElem?_toList] at ho
        simp [hg, ho, hd]
      have : look e (σ.put d x S).tm = look e σ.tm := by
        cases d with
        | none => rfl
        | some t => simp only [PS.put, look]; rw [if_neg (hne t rfl)]
      simp [hd, this]

theorem GSt.put {P : Program} {ops : Array Oper} {σ : PS} {o : Oper} {x : PV} {d : Option Tmp} {y : PV} (h : ∀ t, d = some t → t ∉ o.looksAt ops) : GSt P ops.toList σ o x ↔ GSt P ops.toList (σ.put d y σ.S) o x := by
  have hS : σ.S = (σ.put d y σ.S).S := by cases d <;> rfl
  have hget : ∀ z ∈ o.op.operands, σ.get z = (σ.put d y σ.S).get z := fun z hz => (get_put (fun t ht e => h t ht (looksAt_op (by rw [← e]; exact hz)))).symm
  have hst : Stl P σ o x ↔ Stl P (σ.put d y σ.S) o x := ⟨fun k => k.congr hget hS, fun k => k.congr (fun z hz => (hget z hz).symm) hS.symm⟩
  unfold GSt
  cases hg : o.guard with
  | none => exact hst
  | some p =>
    obtain ⟨j, w⟩ := p
    simp only [guard_put hg h, hst]

theorem GSt.leq {P : Program} {ops : List Oper} {σ σ' : PS} {o : Oper} {x : PV} (h : LEq σ σ') (k : GSt P ops σ o x) : GSt P ops σ' o x := by
  unfold GSt at *
  cases hg : o.guard with
  | none => rw [hg] at k; exact k.congr (fun y _ => h.get y) h.2.1
  | some p =>
    obtain ⟨j, w⟩ := p
    rw [hg] at k
    simp only [← h.guard ops j]
    rcases k with ⟨k1, k2⟩ | k
    · exact .inl ⟨k1, k2.congr (fun y _ => h.get y) h.2.1⟩
    · exact .inr k

/-- Operations that leave the blocks alone, in an order. -/
def PSt (P : Program) (ops : Array Oper) (Q : PS → Prop) : List Nat → PS → Prop
  | [], σ => Q σ
  | i :: l, σ => match ops[i]? with
    | none => PSt P ops Q l σ
    | some o => ∃ x, GSt P ops.toList σ o x ∧ PSt P ops Q l (σ.put o.dst x σ.S)

theorem put_S (σ : PS) (d : Option Tmp) (x : PV) (S : List Blk) : (σ.put d x S).S = S := by cases d <;> rfl

theorem PSt.leq {P : Program} {ops : Array Oper} {Q : PS → Prop} (hQ : ∀ σ σ', LEq σ σ' → Q σ → Q σ') : ∀ (l : List Nat) (σ σ' : PS), LEq σ σ' → PSt P ops Q l σ → PSt P ops Q l σ'
  | [], σ, σ', h, k => hQ σ σ' h k
  | i :: l, σ, σ', h, k => by
    unfold PSt at *
    split
    · rename_i ho; simp only [ho] at k; exact PSt.leq hQ l _ _ h k
    · rename_i o ho
      simp only [ho] at k
      obtain ⟨x, k1, k2⟩ := k
      refine ⟨x, k1.leq h, PSt.leq hQ l _ _ ?_ k2⟩
      rw [← h.2.1]
      exact h.put _ _ _

theorem PSt.swap {P : Program} {ops : Array Oper} {Q : PS → Prop} (hQ : ∀ σ σ', LEq σ σ' → Q σ → Q σ') {i j : Nat} {l : List Nat} {σ : PS} {oi oj : Oper} (hi : ops[i]? = some oi) (hj : ops[j]? = some oj) (hap : oi.apart ops oj = true)
    (h : PSt P ops Q (i :: j :: l) σ) : PSt P ops Q (j :: i :: l) σ := by
  obtain ⟨h1, h2, h3⟩ := Oper.apart_spec hap
  unfold PSt at h ⊢
  simp only [hi, hj] at h ⊢
  obtain ⟨x, k1, k2⟩ := h
  unfold PSt at k2 ⊢
  simp only [hi, hj] at k2 ⊢
  obtain ⟨y, k3, k4⟩ := k2
  rw [put_S] at k4
  refine ⟨y, (GSt.put (d := oi.dst) (y := x) h1).2 k3, x, ?_, ?_⟩
  · exact (GSt.put (d := oj.dst) (y := y) h3).1 k1
  · rw [put_S]
    refine PSt.leq hQ l _ _ ?_ k4
    refine ⟨by cases oi.dst <;> cases oj.dst <;> rfl, by rw [put_S, put_S], fun t => ?_⟩
    cases hd : oi.dst with
    | none => cases oj.dst <;> rfl
    | some d =>
      cases he : oj.dst with
      | none => rfl
      | some e =>
        have hne : d ≠ e := fun q => h2 d hd (by rw [he, q])
        simp only [PS.put, look]
        split
        · rename_i q; subst q; rw [if_neg (fun q => hne q.symm)]
        · rfl

/-- One of the operations is done first. -/
theorem PSt.front {P : Program} {ops : Array Oper} {Q : PS → Prop} (hQ : ∀ σ σ', LEq σ σ' → Q σ → Q σ') {i : Nat} {oi : Oper} (hi : ops[i]? = some oi) : ∀ (l1 : List Nat) (l2 : List Nat) (σ : PS), (∀ k ∈ l1, ∀ ok, ops[k]? = some ok → ok.apart ops oi = true) →
    PSt P ops Q (l1 ++ i :: l2) σ → PSt P ops Q (i :: (l1 ++ l2)) σ
  | [], l2, σ, _, h => h
  | k :: l1, l2, σ, ha, h => by
    cases hk : ops[k]? with
    | none =>
      simp only [List.cons_append, PSt, hk] at h ⊢
      have := PSt.front hQ hi l1 l2 σ (fun k' hk' => ha k' (by simp [hk'])) h
      simpa only [PSt, hi] using this
    | some ok =>
      have h' : PSt P ops Q (k :: i :: (l1 ++ l2)) σ := by
        simp only [List.cons_append] at h
        unfold PSt at h ⊢
        simp only [hk] at h ⊢
        obtain ⟨x, h1, h2⟩ := h
        exact ⟨x, h1, PSt.front hQ hi l1 l2 _ (fun k' hk' => ha k' (by simp [hk'])) h2⟩
      exact PSt.swap hQ hk hi (ha k (by simp) ok hk) h'

/-- Is every pair of operations either in order, or apart? -/
def pairOk (ops : Array Oper) (i k : Nat) : Bool :=
  match ops[i]?, ops[k]? with
  | some oi, some ok => oi.after.any (fun e => e.on == k && Region.binds .any e) || ok.apart ops oi
  | _, _ => true
def edgesOk (ops : Array Oper) (i : Nat) : Bool :=
  match ops[i]? with
  | some oi => oi.after.all (fun e => !Region.binds .any e || decide (e.on < i))
  | none => true
def drawOk (ops : Array Oper) : Bool := (List.range ops.size).all fun i => edgesOk ops i && (List.range i).all fun k => pairOk ops i k

/-- The operations left, of which those that are listed are done. -/
structure Left (ops : Array Oper) (listed : Array Bool) (rem : List Nat) : Prop where
  mem : ∀ i, i ∈ rem ↔ i < ops.size ∧ listed.getD i true = false
  sorted : rem.Pairwise (· < ·)
  size : listed.size = ops.size

theorem ready_spec {ops : Array Oper} {listed : Array Bool} {i : Nat} (h : i ∈ Region.ready .any ops listed) :
    i < ops.size ∧ listed.getD i true = false ∧ ∃ o, ops[i]? = some o ∧ ∀ e ∈ o.after, Region.binds .any e = true → listed.getD e.on false = true := by
  unfold Region.ready at h
  rw [List.mem_filter] at h
  obtain ⟨h1, h2⟩ := h
  have hlt : i < ops.size := by simpa using h1
  simp only [Bool.and_eq_true, Bool.not_eq_true'] at h2
  obtain ⟨h3, h4⟩ := h2
  rw [Array.getElem?_eq_getElem hlt] at h4
  simp only [Option.map_some, Option.getD_some] at h4
  refine ⟨hlt, h3, _, Array.getElem?_eq_getElem hlt, fun e he hb => ?_⟩
  have := (Array.all_eq_true'.1 h4) e he
  simpa [hb] using this

theorem Left.pred {ops : Array Oper} {listed : Array Bool} {rem : List Nat} (hl : Left ops listed rem) {k : Nat} (h : listed.getD k false = true) : k ∉ rem := by
  intro hk
  have := (hl.mem k).1 hk
  have hlt : k < listed.size := by rw [hl.size]; exact this.1
  have h1 := this.2
  rw [Array.getD_eq_getD_getElem?, Array.getElem?_eq_getElem hlt] at h h1
  simp only [Option.getD_some] at h h1
  rw [h] at h1
  cases h1

theorem Left.take {ops : Array Oper} {listed : Array Bool} {l1 l2 : List Nat} {i : Nat} (hl : Left ops listed (l1 ++ i :: l2)) : Left ops (listed.setIfInBounds i true) (l1 ++ l2) := by
  have hs := hl.sorted
  rw [List.pairwise_append, List.pairwise_cons] at hs
  obtain ⟨s1, ⟨s2, s3⟩, s4⟩ := hs
  have hi : i < listed.size := by rw [hl.size]; exact ((hl.mem i).1 (by simp)).1
  have ni : i ∉ l1 ++ l2 := by
    intro h
    rcases List.mem_append.1 h with h | h
    · exact Nat.lt_irrefl _ (s4 i h i (by simp))
    · exact Nat.lt_irrefl _ (s2 i h)
  refine ⟨fun k => ?_, by rw [List.pairwise_append]; exact ⟨s1, s3, fun a ha b hb => s4 a ha b (by simp [hb])⟩, by simpa using hl.size⟩
  by_cases hk : k = i
  · subst hk
    refine ⟨fun h => absurd h ni, fun ⟨_, h⟩ => ?_⟩
    rw [Array.getD_eq_getD_getElem?, Array.getElem?_setIfInBounds_self_of_lt hi] at h
    cases h
  · have := hl.mem k
    rw [Array.getD_eq_getD_getElem?, Array.getElem?_setIfInBounds_ne (fun e => hk e.symm), ← Array.getD_eq_getD_getElem?, ← this]
    simp [hk]

theorem Rel.drew {c : Cx} {σ : PS} {a : Act} (r : Rel c σ a) (n : Nat) : ∃ c', Step c c' ∧ c'.w = { c.w with drawn := n } ∧ Rel c' σ a := by
  let c' : Cx := { c with w := { c.w with drawn := n } }
  have hs : Step c c' := ⟨rfl, rfl, rfl, rfl, Nat.le_refl _, Nat.le_refl _, fun _ _ _ => rfl, fun t b h _ => ⟨b, h, rfl, rfl, rfl, rfl⟩, fun b h => .inl h, fun b cs e fz h => ⟨cs, fz, h, rfl⟩⟩
  refine ⟨c', hs, rfl, r.S, ⟨fun t b h => ?_, r.inv.notG, r.inv.inj, r.inv.gLt, r.inv.wi.step hs⟩, r.n, r.defers.step r.inv hs, fun t => (r.tm t).step hs⟩
  have hB := r.inv.blk t b h
  exact ⟨hB.gen, hB.void, fun q hq => (hB.heap q hq).move (fun x v h => h.step hs) rfl⟩

/-- One operation that leaves the blocks alone, wherever it stands. -/
theorem wpOp_of_gst {P : Program} {ops : Array Oper} {Q' : Exit → Act → World → Prop} {K : Act → World → Prop} {c : Cx} {σ : PS} {a : Act} {i : Nat} {o : Oper} {x : PV} (hi : ops[i]? = some o) (hd : ∀ o ∈ ops.toList, dstOk σ.n o = true) (r : Rel c σ a) (h : GSt P ops.toList σ o x)
    (hK : ∀ c' a', Step c c' → Rel c' (σ.put o.dst x σ.S) a' → K a' c'.w) : wpOpIn (FR ro) mm P ops Q' i K a c.w := by
  have hdo : ∀ t, o.dst = some t → t < σ.n := dstOk_lt (hd o (by rw [← Array.getElem?_toList] at hi; exact List.mem_of_getElem? hi))
  have hnd : notDefer o = true := dstOk_nd (hd o (by rw [← Array.getElem?_toList] at hi; exact List.mem_of_getElem? hi))
  have main : Stl P σ o x → o.wpIn (FR ro) mm P a c.w K Q' := fun hs => wpIn_of_wp hnd (hs.pop (K := fun y S' => y = x ∧ S' = σ.S) ⟨rfl, rfl⟩ c a r K Q' (fun y c' v ⟨h1, h2⟩ hi' hst hv => by
    subst h1
    refine hK c' _ hst ?_
    have := r.put hst hi' hv hdo
    rw [h2] at this
    exact this))
  unfold wpOpIn
  simp only [hi]
  unfold GSt at h
  split at h
  · rename_i hg
    rw [if_pos (by simp [Region.wanted, hg])]
    exact main h
  · rename_i j w hg
    rcases h with ⟨h1, h2⟩ | ⟨h1, rfl⟩
    · rw [if_pos (by rw [show Region.wanted o (yielded ops a.tmps) = (w == w) from by unfold Region.wanted; rw [hg]; exact yielded_of r h1 hd]; simp)]
      exact main h2
    · rw [if_neg (by rw [show Region.wanted o (yielded ops a.tmps) = ((!w) == w) from by unfold Region.wanted; rw [hg]; exact yielded_of r h1 hd]; cases w <;> simp)]
      have := r.put (.refl c) r.inv (rel_void c) hdo
      rw [r.S] at this
      exact ⟨fun _ _ => trivial, hK c _ (.refl c) this⟩

theorem head_ready {ops : Array Oper} {listed : Array Bool} {i : Nat} {rem : List Nat} (hok : drawOk ops = true) (hl : Left ops listed (i :: rem)) : i ∈ Region.ready .any ops listed := by
  have hi := (hl.mem i).1 (by simp)
  unfold Region.ready
  rw [List.mem_filter]
  refine ⟨by simpa using hi.1, ?_⟩
  rw [hi.2, Array.getElem?_eq_getElem hi.1]
  simp only [Bool.not_false, Option.map_some, Option.getD_some, Bool.true_and]
  rw [Array.all_eq_true']
  intro e he
  have h1 := (List.all_eq_true.1 hok) i (by simpa using hi.1)
  simp only [Bool.and_eq_true, edgesOk, Array.getElem?_eq_getElem hi.1] at h1
  have h2 := (Array.all_eq_true'.1 h1.1) e he
  simp only [Bool.or_eq_true, Bool.not_eq_true', decide_eq_true_eq] at h2 ⊢
  rcases h2 with h2 | h2
  · exact .inl h2
  · refine .inr ?_
    have hlt : e.on < listed.size := by rw [hl.size]; omega
    have hn : e.on ∉ i :: rem := by
      intro hm
      rcases List.mem_cons.1 hm with h3 | h3
      · omega
      · have := (List.pairwise_cons.1 hl.sorted).1 _ h3
        omega
    rw [hl.mem] at hn
    have : listed.getD e.on true = true := by
      cases hh : listed.getD e.on true
      · exact absurd ⟨by omega, hh⟩ hn
      · rfl
    rw [Array.getD_eq_getD_getElem?, Array.getElem?_eq_getElem hlt] at this ⊢
    exact this

theorem left_apart {ops : Array Oper} {listed : Array Bool} {i : Nat} {oi : Oper} {l1 l2 : List Nat} (hok : drawOk ops = true) (hl : Left ops listed (l1 ++ i :: l2)) (hi : ops[i]? = some oi) (hp : ∀ e ∈ oi.after, Region.binds .any e = true → listed.getD e.on false = true) :
    ∀ k ∈ l1, ∀ ok, ops[k]? = some ok → ok.apart ops oi = true := by
  intro k hk ok hok'
  have hlt : k < i := by
    have hs := hl.sorted
    rw [List.pairwise_append] at hs
    exact hs.2.2 k hk i (by simp)
  have h1 := (List.all_eq_true.1 hok) i (by simpa using (Array.getElem?_eq_some_iff.1 hi).1)
  simp only [Bool.and_eq_true] at h1
  have h2 := (List.all_eq_true.1 h1.2) k (by simpa using hlt)
  simp only [pairOk, hi, hok', Bool.or_eq_true] at h2
  rcases h2 with h2 | h2
  · obtain ⟨e, he, hb⟩ := Array.any_eq_true'.1 h2
    simp only [Bool.and_eq_true, beq_iff_eq] at hb
    have := hl.pred (hp e he hb.2)
    rw [hb.1] at this
    exact absurd (by simp [hk]) this
  · exact h2

theorem any_of_pst {P : Program} {ops : Array Oper} {Q : Exit → PS → Prop} (hok : drawOk ops = true) : ∀ (fuel : Nat) (listed : Array Bool) (rem : List Nat) (c0 c : Cx) (σ : PS) (a : Act), rem.length = fuel → Left ops listed rem → Step c0 c → Rel c σ a → (∀ o ∈ ops.toList, dstOk σ.n o = true) →
    PSt P ops (fun σ' => ∃ σ'', LEq σ' σ'' ∧ Q .normal σ'') rem σ → wpAnyIn (FR ro) mm P .any ops (Post c0 Q) fuel listed a c.w := by
  have hQ : ∀ σ σ', LEq σ σ' → (∃ σ'', LEq σ σ'' ∧ Q .normal σ'') → ∃ σ'', LEq σ' σ'' ∧ Q .normal σ'' := fun σ σ' h ⟨σ'', h1, h2⟩ => ⟨σ'', h.symm.trans h1, h2⟩
  have fin : ∀ (c0 c : Cx) (σ : PS) (a : Act), Step c0 c → Rel c σ a → (∃ σ'', LEq σ σ'' ∧ Q .normal σ'') → Post c0 Q .normal a c.w := fun c0 c σ a hs r ⟨σ'', h1, h2⟩ => ⟨c, σ'', hs, rfl, r.leq h1, h2⟩
  have nil : ∀ listed, Left ops listed [] → Region.ready .any ops listed = [] := by
    intro listed hl
    rw [List.eq_nil_iff_forall_not_mem]
    intro i hi
    obtain ⟨h1, h2, _⟩ := ready_spec hi
    have := (hl.mem i).2 ⟨h1, h2⟩
    simp at this
  intro fuel
  induction fuel with
  | zero =>
    intro listed rem c0 c σ a hlen hl hs r hd h
    obtain rfl := List.eq_nil_of_length_eq_zero hlen
    exact ⟨nil listed hl, fin c0 c σ a hs r h⟩
  | succ fuel ih =>
    intro listed rem c0 c σ a hlen hl hs r hd h
    refine ⟨fun h0 => ?_, fun i hi => ?_⟩
    · cases rem with
      | nil => simp at hlen
      | cons i rem => rw [List.eq_nil_iff_forall_not_mem] at h0; exact absurd (head_ready hok hl) (h0 i)
    · obtain ⟨h1, h2, o, ho, hp⟩ := ready_spec hi
      obtain ⟨l1, l2, rfl⟩ := List.append_of_mem ((hl.mem i).2 ⟨h1, h2⟩)
      have hf := PSt.front hQ ho l1 l2 σ (left_apart hok hl ho hp) h
      unfold PSt at hf
      simp only [ho] at hf
      obtain ⟨x, g1, g2⟩ := hf
      refine wpOp_of_gst ho hd r g1 (fun c' a' hst hr => ?_)
      refine ih _ (l1 ++ l2) c0 c' _ a' (by simp at hlen ⊢; omega) hl.take (hs.trans hst) hr ?_ g2
      intro o' ho'
      have : (σ.put o.dst x σ.S).n = σ.n := by cases o.dst <;> rfl
      rw [this]
      exact hd o' ho'

theorem left_all (ops : Array Oper) : Left ops (Array.replicate ops.size false) (List.range ops.size) :=
  ⟨fun i => by
    simp only [List.mem_range]
    refine ⟨fun h => ⟨h, ?_⟩, fun h => h.1⟩
    rw [Array.getD_eq_getD_getElem?, Array.getElem?_replicate, if_pos h]
    rfl, List.pairwise_lt_range, by simp⟩

theorem tr_draw {P : Program} (hm : P.follows .mixedOrders = true) {id : Nat} {ops : Array Oper} {σ : PS} {Q : Exit → PS → Prop} (hd : ops.toList.all (dstOk σ.n) = true) (hok : drawOk ops = true) (h : PSt P ops (Q .normal) (List.range ops.size) σ) : Tr P (.region id ops true) σ Q := by
  intro ro mm c a r hro
  refine wpIn_region_any hm ?_
  obtain ⟨c', h1, h2, h3⟩ := r.drew (c.w.drawn + 1)
  rw [← h2]
  have mono : ∀ (l : List Nat) (σ : PS), PSt P ops (Q .normal) l σ → PSt P ops (fun σ' => ∃ σ'', LEq σ' σ'' ∧ Q .normal σ'') l σ := by
    intro l
    induction l with
    | nil => intro σ h; exact ⟨σ, .rfl' σ, h⟩
    | cons i l ih =>
      intro σ h
      unfold PSt at h ⊢
      split
      · rename_i ho; simp only [ho] at h; exact ih _ h
      · rename_i o ho
        simp only [ho] at h
        obtain ⟨x, g1, g2⟩ := h
        exact ⟨x, g1, ih _ g2⟩
  exact any_of_pst hok ops.size _ _ c c' σ a (by simp) (left_all ops) h1 h3 (List.all_eq_true.1 hd) (mono _ _ h)

/-- The same, told of the list of operations. -/
def PStL (P : Program) (ops : List Oper) (Q : PS → Prop) : List Oper → PS → Prop
  | [], σ => Q σ
  | o :: rest, σ => ∃ x, GSt P ops σ o x ∧ PStL P ops Q rest (σ.put o.dst x σ.S)

theorem pst_of_list {P : Program} {ops : Array Oper} {Q : PS → Prop} : ∀ (l : List Oper) (k : Nat) (σ : PS), (∀ j, l[j]? = ops[k + j]?) → PStL P ops.toList Q l σ → PSt P ops Q (List.range' k l.length) σ
  | [], k, σ, _, h => h
  | o :: l, k, σ, hl, h => by
    have h0 : ops[k]? = some o := by simpa using (hl 0).symm
    obtain ⟨x, g1, g2⟩ := h
    simp only [List.length_cons, List.range'_succ, PSt, h0]
    exact ⟨x, g1, pst_of_list l (k + 1) _ (fun j => by have := hl (j + 1); simpa [Nat.add_assoc, Nat.add_comm 1 j] using this) g2⟩

theorem pstl_evr {P : Program} {ops : List Oper} {Q : PS → Prop} : ∀ (l : List Oper) (σ σ' : PS) (n : Nat), (∀ o ∈ l, gOk ops o = true) → EvR P (prs ops l) σ σ' n → PStL P ops Q (lastN l n) σ' → PStL P ops Q l σ
  | [], σ, σ', n, _, h, k => by
    cases h with
    | stop => exact k
  | o :: rest, σ, σ', n, hk, h, k => by
    have hk' : ∀ o ∈ rest, gOk ops o = true := fun o' ho' => hk o' (by simp [ho'])
    have h2 : EvR P (prOf ops o :: prs ops rest) σ σ' n := h
    clear h
    generalize hp : prOf ops o = po at h2
    have hop : po.op = o.op := by rw [← hp]; rfl
    have hds : po.dst = o.dst := by rw [← hp]; rfl
    cases h2 with
    | stop => rw [show (po :: prs ops rest).length = (o :: rest).length by simp [prs], lastN_all] at k; exact k
    | step hg hx h3 =>
      rw [hop] at hx
      rw [hds] at h3
      have hle := h3.le
      rw [lastN_cons _ _ _ (by simpa [prs] using hle)] at k
      have ih := pstl_evr rest _ σ' n hk' h3 k
      refine ⟨_, ?_, ih⟩
      unfold GSt
      cases hog : o.guard with
      | none => exact .ev hx
      | some p =>
        obtain ⟨j, w⟩ := p
        obtain ⟨d, hpg, hgd⟩ := guard_look (σ := σ) hog (hk o (by simp))
        rw [hp] at hpg
        rcases hg with hg | ⟨d', w', hg, hl⟩
        · rw [hpg] at hg; cases hg
        · rw [hpg] at hg
          cases hg
          exact .inl ⟨hgd w (by rw [hl]; rfl), .ev hx⟩
    | skip hg hb hw h3 =>
      rename_i d w b
      rw [hds] at h3
      have hle := h3.le
      rw [lastN_cons _ _ _ (by simpa [prs] using hle)] at k
      have ih := pstl_evr rest _ σ' n hk' h3 k
      refine ⟨_, ?_, ih⟩
      unfold GSt
      cases hog : o.guard with
      | none => rw [← hp] at hg; simp [prOf, hog] at hg
      | some p =>
        obtain ⟨j, w'⟩ := p
        obtain ⟨d', hpg, hgd⟩ := guard_look (σ := σ) hog (hk o (by simp))
        rw [hp] at hpg
        rw [hpg] at hg
        cases hg
        exact .inr ⟨by rw [hgd b hb]; cases b <;> cases w <;> simp_all, rfl⟩

theorem pstl_nil {P : Program} {ops : List Oper} {Q : PS → Prop} {σ : PS} (h : Q σ) : PStL P ops Q [] σ := h
theorem pstl_ev {P : Program} {ops : List Oper} {Q : PS → Prop} {σ : PS} {rest : List Oper} (l : List Pr) (hl : prs ops rest = l) (hd : rest.all (gOk ops) = true) (h : EvG P l σ fun σ' n => PStL P ops Q (lastN rest n) σ') : PStL P ops Q rest σ := by
  subst hl
  obtain ⟨σ', n, h1, h2⟩ := h
  exact pstl_evr rest σ σ' n (List.all_eq_true.1 hd) h1 h2

theorem tr_drawn {P : Program} (hm : P.follows .mixedOrders = true) {id : Nat} {ops : Array Oper} {σ : PS} {Q : Exit → PS → Prop} (l : List Pr) (hl : prs ops.toList ops.toList = l) (hd : ops.toList.all (fun o => dstOk σ.n o && gOk ops.toList o) = true) (hok : drawOk ops = true)
    (h : EvG P l σ fun σ' n => PStL P ops.toList (Q .normal) (lastN ops.toList n) σ') : Tr P (.region id ops true) σ Q := by
  have hd' := List.all_eq_true.1 hd
  refine tr_draw hm (List.all_eq_true.2 fun o ho => (Bool.and_eq_true_iff.1 (hd' o ho)).1) hok ?_
  have := pst_of_list (P := P) (ops := ops) (Q := Q .normal) ops.toList 0 σ (fun j => by rw [Nat.zero_add, Array.getElem?_toList]) (pstl_ev l hl (List.all_eq_true.2 fun o ho => (Bool.and_eq_true_iff.1 (hd' o ho)).2) h)
  rw [Array.length_toList, ← List.range_eq_range'] at this
  exact this

theorem ev_endd {P : Program} {ops : List Oper} {Q : PS → Prop} {σ : PS} (h : Q σ) : EvG P [] σ fun σ' n => PStL P ops Q (lastN ops n) σ' := ev_stop (by rw [List.length_nil, lastN_zero]; exact h)
end Go.Proofs.YtenoecffjfcifaaDoor.Pv

-- Sixteenth text: single steps of a walk, each by a law of its own; what a law asks is found by itself.
namespace Go.Proofs.YtenoecffjfcifaaDoor.Pv
set_option linter.all false
open Go.RowKit
set_option linter.unusedVariables false

/-- Facts of types, found by their number. -/
class Und (P : Program) (t : TypeId) (d : outParam TypeDesc) : Prop where
  h : P.underlying t = some d
class Cel (P : Program) (t : TypeId) (n : outParam Nat) : Prop where
  h : P.cellsOf t = n
class Byt (P : Program) (t : TypeId) (n : outParam Nat) : Prop where
  h : P.bytesOf t = n
/-- A type whose zero value is the number 0. -/
class ZerI (P : Program) (t : TypeId) : Prop where
  h : zeroI P t = true
class Zer (P : Program) (t : TypeId) (z : outParam (List PV)) : Prop where
  h : zeroRow P t = some z
/-- A field: where it lies, its type. -/
class Fld (P : Program) (t : TypeId) (f : Nat) (o : outParam Nat) (ft : outParam TypeId) : Prop where
  h : ∃ fd, fieldOf P t f = some fd ∧ fd.offset = o ∧ fd.type = ft
theorem fld_mk {P : Program} {t f o ft : Nat} (h : (fieldOf P t f).map (fun fd => (fd.offset, fd.type)) = some (o, ft)) : Fld P t f o ft := by
  obtain ⟨fd, h1, h2⟩ := Option.map_eq_some_iff.1 h
  cases h2
  exact ⟨fd, h1, rfl, rfl⟩
class AggT (P : Program) (t : TypeId) (b : outParam Bool) : Prop where
  h : isAggT P t = b ∧ known P t = true

theorem wrap_u32m (x : Int) : IntKind.u32.wrap x = x % 4294967296 := IntKind.wrap_u32 x
theorem wrap_u8m (x : Int) : IntKind.u8.wrap x = x % 256 := IntKind.wrap_u8 x
theorem wrap_u64m (x : Int) : IntKind.u64.wrap x = x % 18446744073709551616 := by
  unfold IntKind.wrap
  simp [IntKind.signed, IntKind.bits]
theorem wrap_i32 (x : Int) (h0 : -2147483648 ≤ x) (h1 : x < 2147483648) : IntKind.i32.wrap x = x := IntWalk.i32_in x ⟨h0, by omega⟩
theorem wrap_u16 (x : Int) (h0 : 0 ≤ x) (h1 : x < 65536) : IntKind.u16.wrap x = x := IntWalk.u16_in x ⟨h0, by omega⟩
theorem wrap_u64 (x : Int) (h0 : 0 ≤ x) (h1 : x < 18446744073709551616) : IntKind.u64.wrap x = x := IntWalk.u64_in x ⟨h0, by omega⟩

theorem pick_true (p q : PV) : pickPV (.v (.bool true)) p q = some p := by
  cases p with
  | v x => cases x with
    | bool b => cases q with
      | v y => cases y <;> rfl
      | _ => rfl
    | _ => rfl
  | _ => rfl
theorem pick_false (p q : PV) : pickPV (.v (.bool false)) p q = some q := by
  cases p with
  | v x => cases x with
    | bool b => cases q with
      | v y => cases y <;> rfl
      | _ => rfl
    | _ => rfl
  | _ => rfl

section
variable {P : Program} {op : Op} {d : Tmp} {rest : List Pr} {n : Nat} {tm : List (Nat × PV)} {S : List Blk} {σ' : PS} {n' : Nat} {x y z : Operand}
theorem er_step {x : PV} (h : ev P ⟨n, tm, S⟩ op = some x) (k : EvR P rest ⟨n, (d, x) :: tm, S⟩ σ' n') : EvR P (⟨op, some d, none⟩ :: rest) ⟨n, tm, S⟩ σ' n' := .step (.inl rfl) h k
theorem er_skip {g : Tmp} {w : Bool} (hg : gval (look g tm) w = some (!w)) (k : EvR P rest ⟨n, (d, .tup []) :: tm, S⟩ σ' n') : EvR P (⟨op, some d, some (g, w)⟩ :: rest) ⟨n, tm, S⟩ σ' n' := .skip rfl hg (by cases w <;> simp) k
theorem es_guard {g : Tmp} {w : Bool} (k : EvR P (⟨op, some d, none⟩ :: rest) ⟨n, tm, S⟩ σ' n') (hg : look g tm = .v (.bool w) := by ((conv => lhs; whnf) <;> fail "no")) : EvR P (⟨op, some d, some (g, w)⟩ :: rest) ⟨n, tm, S⟩ σ' n' := by
  cases k with
  | stop => exact .stop _ _
  | step h1 h2 h3 => exact .step (.inr ⟨g, w, rfl, hg⟩) h2 h3
  | skip h1 => cases h1
theorem es_skip {g : Tmp} {w b : Bool} (k : EvR P rest ⟨n, (d, .tup []) :: tm, S⟩ σ' n') (hg : gval (look g tm) w = some b := by ((conv => lhs; whnf) <;> fail "no")) (hb : b = !w := by rfl) : EvR P (⟨op, some d, some (g, w)⟩ :: rest) ⟨n, tm, S⟩ σ' n' := er_skip (by rw [hg, hb]) k
theorem es_mv {p : PV} (k : EvR P rest ⟨n, (d, p) :: tm, S⟩ σ' n') (h : PS.get ⟨n, tm, S⟩ x = p := by ((conv => lhs; whnf) <;> fail "no")) : EvR P (⟨.move x, some d, none⟩ :: rest) ⟨n, tm, S⟩ σ' n' := er_step (by simp only [ev, h]) k
theorem es_as {p : PV} (k : EvR P rest ⟨n, (d, p) :: tm, S⟩ σ' n') (h : PS.get ⟨n, tm, S⟩ x = p := by ((conv => lhs; whnf) <;> fail "no")) : EvR P (⟨.assign x, some d, none⟩ :: rest) ⟨n, tm, S⟩ σ' n' := er_step (by simp only [ev, h]) k
theorem es_bin {t t' : TypeId} {k0 : IntKind} {a b : Int} {v : Value} {bo : BinOp} (hx : PS.get ⟨n, tm, S⟩ x = .v (.int k0 a)) (hy : PS.get ⟨n, tm, S⟩ y = .v (.int k0 b)) (hv : intBin bo k0 a b = some v) (hs : bo ≠ .shl ∧ bo ≠ .shr) (k : EvR P rest ⟨n, (d, .v v) :: tm, S⟩ σ' n') : EvR P (⟨.binOp bo t x y t', some d, none⟩ :: rest) ⟨n, tm, S⟩ σ' n' := by
  refine er_step ?_ k
  simp only [ev, hx, hy, binPV, scalarBin]
  cases bo <;> first | exact absurd rfl hs.1 | exact absurd rfl hs.2 | (simp only [if_true, hv, Option.map_some])
theorem es_add {t t' : TypeId} {k0 : IntKind} {a b : Int} {c : Int} (k : EvR P rest ⟨n, (d, .v (.int k0 c)) :: tm, S⟩ σ' n') (hx : PS.get ⟨n, tm, S⟩ x = .v (.int k0 a) := by ((conv => lhs; whnf) <;> fail "no")) (hy : PS.get ⟨n, tm, S⟩ y = .v (.int k0 b) := by ((conv => lhs; whnf) <;> fail "no")) (hc : k0.wrap (a + b) = c := by first | assumption | exact wrap_i64 _ (by omega) (by omega) | exact wrap_u32 _ (by omega) (by omega) | exact wrap_u8 _ (by omega) (by omega) | exact wrap_u64 _ (by omega) (by omega) | exact wrap_u32m _ | exact wrap_u8m _ | exact wrap_u64m _ | exact wrap_i32 _ (by omega) (by omega) | exact wrap_u16 _ (by omega) (by omega) | exact rfl) : EvR P (⟨.binOp .add t x y t', some d, none⟩ :: rest) ⟨n, tm, S⟩ σ' n' := es_bin hx hy (by simp only [intBin, hc]) (by simp) k
theorem es_sub {t t' : TypeId} {k0 : IntKind} {a b : Int} {c : Int} (k : EvR P rest ⟨n, (d, .v (.int k0 c)) :: tm, S⟩ σ' n') (hx : PS.get ⟨n, tm, S⟩ x = .v (.int k0 a) := by ((conv => lhs; whnf) <;> fail "no")) (hy : PS.get ⟨n, tm, S⟩ y = .v (.int k0 b) := by ((conv => lhs; whnf) <;> fail "no")) (hc : k0.wrap (a - b) = c := by first | assumption | exact wrap_i64 _ (by omega) (by omega) | exact wrap_u32 _ (by omega) (by omega) | exact wrap_u8 _ (by omega) (by omega) | exact wrap_u64 _ (by omega) (by omega) | exact wrap_u32m _ | exact wrap_u8m _ | exact wrap_u64m _ | exact wrap_i32 _ (by omega) (by omega) | exact wrap_u16 _ (by omega) (by omega) | exact rfl) : EvR P (⟨.binOp .sub t x y t', some d, none⟩ :: rest) ⟨n, tm, S⟩ σ' n' := es_bin hx hy (by simp only [intBin, hc]) (by simp) k
theorem es_mul {t t' : TypeId} {k0 : IntKind} {a b : Int} {c : Int} (k : EvR P rest ⟨n, (d, .v (.int k0 c)) :: tm, S⟩ σ' n') (hx : PS.get ⟨n, tm, S⟩ x = .v (.int k0 a) := by ((conv => lhs; whnf) <;> fail "no")) (hy : PS.get ⟨n, tm, S⟩ y = .v (.int k0 b) := by ((conv => lhs; whnf) <;> fail "no")) (hc : k0.wrap (a * b) = c := by first | assumption | exact wrap_i64 _ (by omega) (by omega) | exact wrap_u32 _ (by omega) (by omega) | exact wrap_u8 _ (by omega) (by omega) | exact wrap_u64 _ (by omega) (by omega) | exact wrap_u32m _ | exact wrap_u8m _ | exact wrap_u64m _ | exact wrap_i32 _ (by omega) (by omega) | exact wrap_u16 _ (by omega) (by omega) | exact rfl) : EvR P (⟨.binOp .mul t x y t', some d, none⟩ :: rest) ⟨n, tm, S⟩ σ' n' := es_bin hx hy (by simp only [intBin, hc]) (by simp) k
theorem es_quo {t t' : TypeId} {k0 : IntKind} {a b : Int} {c : Int} (k : EvR P rest ⟨n, (d, .v (.int k0 c)) :: tm, S⟩ σ' n') (hx : PS.get ⟨n, tm, S⟩ x = .v (.int k0 a) := by ((conv => lhs; whnf) <;> fail "no")) (hy : PS.get ⟨n, tm, S⟩ y = .v (.int k0 b) := by ((conv => lhs; whnf) <;> fail "no")) (h0 : 0 ≤ a := by omega) (h1 : 0 < b := by omega) (hc : k0.wrap (a / b) = c := by first | assumption | exact wrap_i64 _ (by omega) (by omega) | exact wrap_u32 _ (by omega) (by omega) | exact wrap_u8 _ (by omega) (by omega) | exact wrap_u64 _ (by omega) (by omega) | exact wrap_u32m _ | exact wrap_u8m _ | exact wrap_u64m _ | exact wrap_i32 _ (by omega) (by omega) | exact wrap_u16 _ (by omega) (by omega) | exact rfl) : EvR P (⟨.binOp .quo t x y t', some d, none⟩ :: rest) ⟨n, tm, S⟩ σ' n' := es_bin hx hy (by simp only [intBin]; rw [if_neg (by omega), Int.tdiv_eq_ediv_of_nonneg h0, hc]) (by simp) k
theorem es_rem {t t' : TypeId} {k0 : IntKind} {a b : Int} (k : EvR P rest ⟨n, (d, .v (.int k0 (a % b))) :: tm, S⟩ σ' n') (hx : PS.get ⟨n, tm, S⟩ x = .v (.int k0 a) := by ((conv => lhs; whnf) <;> fail "no")) (hy : PS.get ⟨n, tm, S⟩ y = .v (.int k0 b) := by ((conv => lhs; whnf) <;> fail "no")) (h0 : 0 ≤ a := by omega) (h1 : 0 < b := by omega) : EvR P (⟨.binOp .rem t x y t', some d, none⟩ :: rest) ⟨n, tm, S⟩ σ' n' := es_bin hx hy (by simp only [intBin]; rw [if_neg (by omega), Int.tmod_eq_emod_of_nonneg h0]) (by simp) k
theorem es_and {t t' : TypeId} {k0 : IntKind} {a b : Int} (k : EvR P rest ⟨n, (d, .v (.int k0 (Go.bits .and k0 a b))) :: tm, S⟩ σ' n') (hx : PS.get ⟨n, tm, S⟩ x = .v (.int k0 a) := by ((conv => lhs; whnf) <;> fail "no")) (hy : PS.get ⟨n, tm, S⟩ y = .v (.int k0 b) := by ((conv => lhs; whnf) <;> fail "no")) : EvR P (⟨.binOp .and t x y t', some d, none⟩ :: rest) ⟨n, tm, S⟩ σ' n' := es_bin hx hy (by simp only [intBin]) (by simp) k
theorem es_or {t t' : TypeId} {k0 : IntKind} {a b : Int} (k : EvR P rest ⟨n, (d, .v (.int k0 (Go.bits .or k0 a b))) :: tm, S⟩ σ' n') (hx : PS.get ⟨n, tm, S⟩ x = .v (.int k0 a) := by ((conv => lhs; whnf) <;> fail "no")) (hy : PS.get ⟨n, tm, S⟩ y = .v (.int k0 b) := by ((conv => lhs; whnf) <;> fail "no")) : EvR P (⟨.binOp .or t x y t', some d, none⟩ :: rest) ⟨n, tm, S⟩ σ' n' := es_bin hx hy (by simp only [intBin]) (by simp) k
theorem es_xor {t t' : TypeId} {k0 : IntKind} {a b : Int} (k : EvR P rest ⟨n, (d, .v (.int k0 (Go.bits .xor k0 a b))) :: tm, S⟩ σ' n') (hx : PS.get ⟨n, tm, S⟩ x = .v (.int k0 a) := by ((conv => lhs; whnf) <;> fail "no")) (hy : PS.get ⟨n, tm, S⟩ y = .v (.int k0 b) := by ((conv => lhs; whnf) <;> fail "no")) : EvR P (⟨.binOp .xor t x y t', some d, none⟩ :: rest) ⟨n, tm, S⟩ σ' n' := es_bin hx hy (by simp only [intBin]) (by simp) k
theorem es_andn {t t' : TypeId} {k0 : IntKind} {a b : Int} (k : EvR P rest ⟨n, (d, .v (.int k0 (Go.bits .andNot k0 a b))) :: tm, S⟩ σ' n') (hx : PS.get ⟨n, tm, S⟩ x = .v (.int k0 a) := by ((conv => lhs; whnf) <;> fail "no")) (hy : PS.get ⟨n, tm, S⟩ y = .v (.int k0 b) := by ((conv => lhs; whnf) <;> fail "no")) : EvR P (⟨.binOp .andNot t x y t', some d, none⟩ :: rest) ⟨n, tm, S⟩ σ' n' := es_bin hx hy (by simp only [intBin]) (by simp) k
theorem es_eq_t {t t' : TypeId} {k0 : IntKind} {a b : Int} (k : EvR P rest ⟨n, (d, .v (.bool true)) :: tm, S⟩ σ' n') (hx : PS.get ⟨n, tm, S⟩ x = .v (.int k0 a) := by ((conv => lhs; whnf) <;> fail "no")) (hy : PS.get ⟨n, tm, S⟩ y = .v (.int k0 b) := by ((conv => lhs; whnf) <;> fail "no")) (h : a = b := by omega) : EvR P (⟨.binOp .eql t x y t', some d, none⟩ :: rest) ⟨n, tm, S⟩ σ' n' := es_bin hx hy (by simp only [intBin, decide_eq_true h]) (by simp) k
theorem es_eq_f {t t' : TypeId} {k0 : IntKind} {a b : Int} (k : EvR P rest ⟨n, (d, .v (.bool false)) :: tm, S⟩ σ' n') (hx : PS.get ⟨n, tm, S⟩ x = .v (.int k0 a) := by ((conv => lhs; whnf) <;> fail "no")) (hy : PS.get ⟨n, tm, S⟩ y = .v (.int k0 b) := by ((conv => lhs; whnf) <;> fail "no")) (h : ¬ a = b := by omega) : EvR P (⟨.binOp .eql t x y t', some d, none⟩ :: rest) ⟨n, tm, S⟩ σ' n' := es_bin hx hy (by simp only [intBin, decide_eq_false h]) (by simp) k
theorem es_eq {t t' : TypeId} {k0 : IntKind} {a b : Int} (k : EvR P rest ⟨n, (d, .v (.bool (decide (a = b)))) :: tm, S⟩ σ' n') (hx : PS.get ⟨n, tm, S⟩ x = .v (.int k0 a) := by ((conv => lhs; whnf) <;> fail "no")) (hy : PS.get ⟨n, tm, S⟩ y = .v (.int k0 b) := by ((conv => lhs; whnf) <;> fail "no")) : EvR P (⟨.binOp .eql t x y t', some d, none⟩ :: rest) ⟨n, tm, S⟩ σ' n' := es_bin hx hy (by simp only [intBin]) (by simp) k
theorem es_lt_t {t t' : TypeId} {k0 : IntKind} {a b : Int} (k : EvR P rest ⟨n, (d, .v (.bool true)) :: tm, S⟩ σ' n') (hx : PS.get ⟨n, tm, S⟩ x = .v (.int k0 a) := by ((conv => lhs; whnf) <;> fail "no")) (hy : PS.get ⟨n, tm, S⟩ y = .v (.int k0 b) := by ((conv => lhs; whnf) <;> fail "no")) (h : a < b := by omega) : EvR P (⟨.binOp .lss t x y t', some d, none⟩ :: rest) ⟨n, tm, S⟩ σ' n' := es_bin hx hy (by simp only [intBin, decide_eq_true h]) (by simp) k
theorem es_lt_f {t t' : TypeId} {k0 : IntKind} {a b : Int} (k : EvR P rest ⟨n, (d, .v (.bool false)) :: tm, S⟩ σ' n') (hx : PS.get ⟨n, tm, S⟩ x = .v (.int k0 a) := by ((conv => lhs; whnf) <;> fail "no")) (hy : PS.get ⟨n, tm, S⟩ y = .v (.int k0 b) := by ((conv => lhs; whnf) <;> fail "no")) (h : ¬ a < b := by omega) : EvR P (⟨.binOp .lss t x y t', some d, none⟩ :: rest) ⟨n, tm, S⟩ σ' n' := es_bin hx hy (by simp only [intBin, decide_eq_false h]) (by simp) k
theorem es_lt {t t' : TypeId} {k0 : IntKind} {a b : Int} (k : EvR P rest ⟨n, (d, .v (.bool (decide (a < b)))) :: tm, S⟩ σ' n') (hx : PS.get ⟨n, tm, S⟩ x = .v (.int k0 a) := by ((conv => lhs; whnf) <;> fail "no")) (hy : PS.get ⟨n, tm, S⟩ y = .v (.int k0 b) := by ((conv => lhs; whnf) <;> fail "no")) : EvR P (⟨.binOp .lss t x y t', some d, none⟩ :: rest) ⟨n, tm, S⟩ σ' n' := es_bin hx hy (by simp only [intBin]) (by simp) k
theorem es_le_t {t t' : TypeId} {k0 : IntKind} {a b : Int} (k : EvR P rest ⟨n, (d, .v (.bool true)) :: tm, S⟩ σ' n') (hx : PS.get ⟨n, tm, S⟩ x = .v (.int k0 a) := by ((conv => lhs; whnf) <;> fail "no")) (hy : PS.get ⟨n, tm, S⟩ y = .v (.int k0 b) := by ((conv => lhs; whnf) <;> fail "no")) (h : a ≤ b := by omega) : EvR P (⟨.binOp .leq t x y t', some d, none⟩ :: rest) ⟨n, tm, S⟩ σ' n' := es_bin hx hy (by simp only [intBin, decide_eq_true h]) (by simp) k
theorem es_le_f {t t' : TypeId} {k0 : IntKind} {a b : Int} (k : EvR P rest ⟨n, (d, .v (.bool false)) :: tm, S⟩ σ' n') (hx : PS.get ⟨n, tm, S⟩ x = .v (.int k0 a) := by ((conv => lhs; whnf) <;> fail "no")) (hy : PS.get ⟨n, tm, S⟩ y = .v (.int k0 b) := by ((conv => lhs; whnf) <;> fail "no")) (h : ¬ a ≤ b := by omega) : EvR P (⟨.binOp .leq t x y t', some d, none⟩ :: rest) ⟨n, tm, S⟩ σ' n' := es_bin hx hy (by simp only [intBin, decide_eq_false h]) (by simp) k
theorem es_le {t t' : TypeId} {k0 : IntKind} {a b : Int} (k : EvR P rest ⟨n, (d, .v (.bool (decide (a ≤ b)))) :: tm, S⟩ σ' n') (hx : PS.get ⟨n, tm, S⟩ x = .v (.int k0 a) := by ((conv => lhs; whnf) <;> fail "no")) (hy : PS.get ⟨n, tm, S⟩ y = .v (.int k0 b) := by ((conv => lhs; whnf) <;> fail "no")) : EvR P (⟨.binOp .leq t x y t', some d, none⟩ :: rest) ⟨n, tm, S⟩ σ' n' := es_bin hx hy (by simp only [intBin]) (by simp) k
theorem es_gt_t {t t' : TypeId} {k0 : IntKind} {a b : Int} (k : EvR P rest ⟨n, (d, .v (.bool true)) :: tm, S⟩ σ' n') (hx : PS.get ⟨n, tm, S⟩ x = .v (.int k0 a) := by ((conv => lhs; whnf) <;> fail "no")) (hy : PS.get ⟨n, tm, S⟩ y = .v (.int k0 b) := by ((conv => lhs; whnf) <;> fail "no")) (h : a > b := by omega) : EvR P (⟨.binOp .gtr t x y t', some d, none⟩ :: rest) ⟨n, tm, S⟩ σ' n' := es_bin hx hy (by simp only [intBin, decide_eq_true h]) (by simp) k
theorem es_gt_f {t t' : TypeId} {k0 : IntKind} {a b : Int} (k : EvR P rest ⟨n, (d, .v (.bool false)) :: tm, S⟩ σ' n') (hx : PS.get ⟨n, tm, S⟩ x = .v (.int k0 a) := by ((conv => lhs; whnf) <;> fail "no")) (hy : PS.get ⟨n, tm, S⟩ y = .v (.int k0 b) := by ((conv => lhs; whnf) <;> fail "no")) (h : ¬ a > b := by omega) : EvR P (⟨.binOp .gtr t x y t', some d, none⟩ :: rest) ⟨n, tm, S⟩ σ' n' := es_bin hx hy (by simp only [intBin, decide_eq_false h]) (by simp) k
theorem es_gt {t t' : TypeId} {k0 : IntKind} {a b : Int} (k : EvR P rest ⟨n, (d, .v (.bool (decide (a > b)))) :: tm, S⟩ σ' n') (hx : PS.get ⟨n, tm, S⟩ x = .v (.int k0 a) := by ((conv => lhs; whnf) <;> fail "no")) (hy : PS.get ⟨n, tm, S⟩ y = .v (.int k0 b) := by ((conv => lhs; whnf) <;> fail "no")) : EvR P (⟨.binOp .gtr t x y t', some d, none⟩ :: rest) ⟨n, tm, S⟩ σ' n' := es_bin hx hy (by simp only [intBin]) (by simp) k
theorem es_ge_t {t t' : TypeId} {k0 : IntKind} {a b : Int} (k : EvR P rest ⟨n, (d, .v (.bool true)) :: tm, S⟩ σ' n') (hx : PS.get ⟨n, tm, S⟩ x = .v (.int k0 a) := by ((conv => lhs; whnf) <;> fail "no")) (hy : PS.get ⟨n, tm, S⟩ y = .v (.int k0 b) := by ((conv => lhs; whnf) <;> fail "no")) (h : a ≥ b := by omega) : EvR P (⟨.binOp .geq t x y t', some d, none⟩ :: rest) ⟨n, tm, S⟩ σ' n' := es_bin hx hy (by simp only [intBin, decide_eq_true h]) (by simp) k
theorem es_ge_f {t t' : TypeId} {k0 : IntKind} {a b : Int} (k : EvR P rest ⟨n, (d, .v (.bool false)) :: tm, S⟩ σ' n') (hx : PS.get ⟨n, tm, S⟩ x = .v (.int k0 a) := by ((conv => lhs; whnf) <;> fail "no")) (hy : PS.get ⟨n, tm, S⟩ y = .v (.int k0 b) := by ((conv => lhs; whnf) <;> fail "no")) (h : ¬ a ≥ b := by omega) : EvR P (⟨.binOp .geq t x y t', some d, none⟩ :: rest) ⟨n, tm, S⟩ σ' n' := es_bin hx hy (by simp only [intBin, decide_eq_false h]) (by simp) k
theorem es_ge {t t' : TypeId} {k0 : IntKind} {a b : Int} (k : EvR P rest ⟨n, (d, .v (.bool (decide (a ≥ b)))) :: tm, S⟩ σ' n') (hx : PS.get ⟨n, tm, S⟩ x = .v (.int k0 a) := by ((conv => lhs; whnf) <;> fail "no")) (hy : PS.get ⟨n, tm, S⟩ y = .v (.int k0 b) := by ((conv => lhs; whnf) <;> fail "no")) : EvR P (⟨.binOp .geq t x y t', some d, none⟩ :: rest) ⟨n, tm, S⟩ σ' n' := es_bin hx hy (by simp only [intBin]) (by simp) k
theorem es_ne_t {t t' : TypeId} {k0 : IntKind} {a b : Int} (k : EvR P rest ⟨n, (d, .v (.bool true)) :: tm, S⟩ σ' n') (hx : PS.get ⟨n, tm, S⟩ x = .v (.int k0 a) := by ((conv => lhs; whnf) <;> fail "no")) (hy : PS.get ⟨n, tm, S⟩ y = .v (.int k0 b) := by ((conv => lhs; whnf) <;> fail "no")) (h : ¬ a = b := by omega) : EvR P (⟨.binOp .neq t x y t', some d, none⟩ :: rest) ⟨n, tm, S⟩ σ' n' := es_bin hx hy (by simp only [intBin, decide_eq_false h, Bool.not_false]) (by simp) k
theorem es_ne_f {t t' : TypeId} {k0 : IntKind} {a b : Int} (k : EvR P rest ⟨n, (d, .v (.bool false)) :: tm, S⟩ σ' n') (hx : PS.get ⟨n, tm, S⟩ x = .v (.int k0 a) := by ((conv => lhs; whnf) <;> fail "no")) (hy : PS.get ⟨n, tm, S⟩ y = .v (.int k0 b) := by ((conv => lhs; whnf) <;> fail "no")) (h : a = b := by omega) : EvR P (⟨.binOp .neq t x y t', some d, none⟩ :: rest) ⟨n, tm, S⟩ σ' n' := es_bin hx hy (by simp only [intBin, decide_eq_true h, Bool.not_true]) (by simp) k
theorem es_ne {t t' : TypeId} {k0 : IntKind} {a b : Int} (k : EvR P rest ⟨n, (d, .v (.bool (!decide (a = b)))) :: tm, S⟩ σ' n') (hx : PS.get ⟨n, tm, S⟩ x = .v (.int k0 a) := by ((conv => lhs; whnf) <;> fail "no")) (hy : PS.get ⟨n, tm, S⟩ y = .v (.int k0 b) := by ((conv => lhs; whnf) <;> fail "no")) : EvR P (⟨.binOp .neq t x y t', some d, none⟩ :: rest) ⟨n, tm, S⟩ σ' n' := es_bin hx hy (by simp only [intBin]) (by simp) k
theorem es_shl {t t' : TypeId} {k0 : IntKind} {a b : Int} {k1 : IntKind} {c m : Int} (k : EvR P rest ⟨n, (d, .v (.int k0 c)) :: tm, S⟩ σ' n') (hx : PS.get ⟨n, tm, S⟩ x = .v (.int k0 a) := by ((conv => lhs; whnf) <;> fail "no")) (hy : PS.get ⟨n, tm, S⟩ y = .v (.int k1 b) := by ((conv => lhs; whnf) <;> fail "no")) (h0 : 0 ≤ b := by omega) (hm : 2 ^ min b.toNat k0.bits = m := by first | assumption | (simp [IntKind.bits]; exact rfl) | ((conv => lhs; whnf) <;> fail "no")) (hc : k0.wrap (a * m) = c := by first | assumption | exact wrap_i64 _ (by omega) (by omega) | exact wrap_u32 _ (by omega) (by omega) | exact wrap_u8 _ (by omega) (by omega) | exact wrap_u64 _ (by omega) (by omega) | exact wrap_u32m _ | exact wrap_u8m _ | exact wrap_u64m _ | exact wrap_i32 _ (by omega) (by omega) | exact wrap_u16 _ (by omega) (by omega) | exact rfl) : EvR P (⟨.binOp .shl t x y t', some d, none⟩ :: rest) ⟨n, tm, S⟩ σ' n' := er_step (by simp only [ev, hx, hy, binPV, scalarBin, shiftBin, if_neg (show ¬ b < 0 by omega), hm, hc, Option.map_some]) k
theorem es_shr {t t' : TypeId} {k0 : IntKind} {a b : Int} {k1 : IntKind} {m : Int} (k : EvR P rest ⟨n, (d, .v (.int k0 (a / m))) :: tm, S⟩ σ' n') (hx : PS.get ⟨n, tm, S⟩ x = .v (.int k0 a) := by ((conv => lhs; whnf) <;> fail "no")) (hy : PS.get ⟨n, tm, S⟩ y = .v (.int k1 b) := by ((conv => lhs; whnf) <;> fail "no")) (h0 : 0 ≤ b := by omega) (hm : (2 : Int) ^ min b.toNat k0.bits = m := by first | assumption | (simp [IntKind.bits]; exact rfl) | ((conv => lhs; whnf) <;> fail "no")) : EvR P (⟨.binOp .shr t x y t', some d, none⟩ :: rest) ⟨n, tm, S⟩ σ' n' := er_step (by simp only [ev, hx, hy, binPV, scalarBin, shiftBin, if_neg (show ¬ b < 0 by omega), hm, Option.map_some]; rw [← hm, Int.fdiv_eq_ediv_of_nonneg _ (Int.le_of_lt (Int.pow_pos (by decide)))]) k
theorem es_conv {t t' : TypeId} {ds : TypeDesc} {k0 k1 : IntKind} {a c : Int} [Und P t ds] [Und P t' (.int k0)] (k : EvR P rest ⟨n, (d, .v (.int k0 c)) :: tm, S⟩ σ' n') (hx : PS.get ⟨n, tm, S⟩ x = .v (.int k1 a) := by ((conv => lhs; whnf) <;> fail "no")) (hc : k0.wrap a = c := by first | assumption | exact wrap_i64 _ (by omega) (by omega) | exact wrap_u32 _ (by omega) (by omega) | exact wrap_u8 _ (by omega) (by omega) | exact wrap_u64 _ (by omega) (by omega) | exact wrap_u32m _ | exact wrap_u8m _ | exact wrap_u64m _ | exact wrap_i32 _ (by omega) (by omega) | exact wrap_u16 _ (by omega) (by omega) | exact rfl) : EvR P (⟨.convert t t' x, some d, none⟩ :: rest) ⟨n, tm, S⟩ σ' n' := er_step (by simp only [ev, hx, convPV, Und.h (P := P) (t := t), Und.h (P := P) (t := t'), hc]) k
theorem es_not_t {t : TypeId} (k : EvR P rest ⟨n, (d, .v (.bool false)) :: tm, S⟩ σ' n') (hx : PS.get ⟨n, tm, S⟩ x = .v (.bool true) := by ((conv => lhs; whnf) <;> fail "no")) : EvR P (⟨.unOp .not t x, some d, none⟩ :: rest) ⟨n, tm, S⟩ σ' n' := er_step (by simp only [ev, hx, unPV, Bool.not_true]) k
theorem es_not_f {t : TypeId} (k : EvR P rest ⟨n, (d, .v (.bool true)) :: tm, S⟩ σ' n') (hx : PS.get ⟨n, tm, S⟩ x = .v (.bool false) := by ((conv => lhs; whnf) <;> fail "no")) : EvR P (⟨.unOp .not t x, some d, none⟩ :: rest) ⟨n, tm, S⟩ σ' n' := er_step (by simp only [ev, hx, unPV, Bool.not_false]) k
theorem es_not {t : TypeId} {b : Bool} (k : EvR P rest ⟨n, (d, .v (.bool (!b))) :: tm, S⟩ σ' n') (hx : PS.get ⟨n, tm, S⟩ x = .v (.bool b) := by ((conv => lhs; whnf) <;> fail "no")) : EvR P (⟨.unOp .not t x, some d, none⟩ :: rest) ⟨n, tm, S⟩ σ' n' := er_step (by simp only [ev, hx, unPV]) k
theorem es_neg {t : TypeId} {k0 : IntKind} {a c : Int} (k : EvR P rest ⟨n, (d, .v (.int k0 c)) :: tm, S⟩ σ' n') (hx : PS.get ⟨n, tm, S⟩ x = .v (.int k0 a) := by ((conv => lhs; whnf) <;> fail "no")) (hc : k0.wrap (0 - a) = c := by first | assumption | exact wrap_i64 _ (by omega) (by omega) | exact wrap_u32 _ (by omega) (by omega) | exact wrap_u8 _ (by omega) (by omega) | exact wrap_u64 _ (by omega) (by omega) | exact wrap_u32m _ | exact wrap_u8m _ | exact wrap_u64m _ | exact wrap_i32 _ (by omega) (by omega) | exact wrap_u16 _ (by omega) (by omega) | exact rfl) : EvR P (⟨.unOp .neg t x, some d, none⟩ :: rest) ⟨n, tm, S⟩ σ' n' := er_step (by simp only [ev, hx, unPV, hc]) k
theorem es_pick_t {p : PV} (k : EvR P rest ⟨n, (d, p) :: tm, S⟩ σ' n') (hx : PS.get ⟨n, tm, S⟩ x = .v (.bool true) := by ((conv => lhs; whnf) <;> fail "no")) (hy : PS.get ⟨n, tm, S⟩ y = p := by ((conv => lhs; whnf) <;> fail "no")) : EvR P (⟨.pick x y z, some d, none⟩ :: rest) ⟨n, tm, S⟩ σ' n' := er_step (by simp only [ev, hx, hy, pick_true]) k
theorem es_pick_f {p : PV} (k : EvR P rest ⟨n, (d, p) :: tm, S⟩ σ' n') (hx : PS.get ⟨n, tm, S⟩ x = .v (.bool false) := by ((conv => lhs; whnf) <;> fail "no")) (hz : PS.get ⟨n, tm, S⟩ z = p := by ((conv => lhs; whnf) <;> fail "no")) : EvR P (⟨.pick x y z, some d, none⟩ :: rest) ⟨n, tm, S⟩ σ' n' := er_step (by simp only [ev, hx, hz, pick_false]) k
theorem es_pick {b p q : Bool} (k : EvR P rest ⟨n, (d, .v (.bool (if b then p else q))) :: tm, S⟩ σ' n') (hx : PS.get ⟨n, tm, S⟩ x = .v (.bool b) := by ((conv => lhs; whnf) <;> fail "no")) (hy : PS.get ⟨n, tm, S⟩ y = .v (.bool p) := by ((conv => lhs; whnf) <;> fail "no")) (hz : PS.get ⟨n, tm, S⟩ z = .v (.bool q) := by ((conv => lhs; whnf) <;> fail "no")) : EvR P (⟨.pick x y z, some d, none⟩ :: rest) ⟨n, tm, S⟩ σ' n' := er_step (by simp only [ev, hx, hy, hz, pickPV]) k
theorem es_len_ro {t e : TypeId} [Und P t (.slice e)] {sz m : Nat} {f : Bool} {rows : List (List PV)} (k : EvR P rest ⟨n, (d, .v (.int .i64 m)) :: tm, S⟩ σ' n') (hx : PS.get ⟨n, tm, S⟩ x = .ro sz f rows := by ((conv => lhs; whnf) <;> fail "no")) (hm : rows.length = m := by first | exact ints_length _ _ | (simp only [ints_length, List.length_map, List.length_append, List.length_cons, List.length_nil]; exact rfl) | exact rfl) : EvR P (⟨.call ⟨.builtin .len, #[x], #[t]⟩, some d, none⟩ :: rest) ⟨n, tm, S⟩ σ' n' := er_step (by simp only [ev, callPV, hx, lenPV, Und.h (P := P) (t := t), hm]) k
theorem es_len_vw {t e : TypeId} [Und P t (.slice e)] {τ g off len : Nat} {blk : Blk} (k : EvR P rest ⟨n, (d, .v (.int .i64 len)) :: tm, S⟩ σ' n') (hx : PS.get ⟨n, tm, S⟩ x = .vw τ g off len := by ((conv => lhs; whnf) <;> fail "no")) (hb : S[τ]? = some blk := by first | ((conv => lhs; whnf) <;> fail "no") | assumption) (hg : blk.gen = g := by first | rfl | assumption) : EvR P (⟨.call ⟨.builtin .len, #[x], #[t]⟩, some d, none⟩ :: rest) ⟨n, tm, S⟩ σ' n' := er_step (by simp only [ev, callPV, hx, lenPV, Und.h (P := P) (t := t), alive, hb, hg, beq_self_eq_true, if_true]) k
theorem es_len_nil {t e : TypeId} [Und P t (.slice e)] {a : Option Addr} {m c : Nat} (k : EvR P rest ⟨n, (d, .v (.int .i64 m)) :: tm, S⟩ σ' n') (hx : PS.get ⟨n, tm, S⟩ x = .v (.slice a m c) := by ((conv => lhs; whnf) <;> fail "no")) : EvR P (⟨.call ⟨.builtin .len, #[x], #[t]⟩, some d, none⟩ :: rest) ⟨n, tm, S⟩ σ' n' := er_step (by simp only [ev, callPV, hx, lenPV, Und.h (P := P) (t := t)]) k
theorem es_len_str {t : TypeId} [Und P t .string] {s : ByteArray} (k : EvR P rest ⟨n, (d, .v (.int .i64 s.size)) :: tm, S⟩ σ' n') (hx : PS.get ⟨n, tm, S⟩ x = .v (.string s) := by ((conv => lhs; whnf) <;> fail "no")) : EvR P (⟨.call ⟨.builtin .len, #[x], #[t]⟩, some d, none⟩ :: rest) ⟨n, tm, S⟩ σ' n' := er_step (by simp only [ev, callPV, hx, lenPV, Und.h (P := P) (t := t)]) k
theorem es_min {ts : Array TypeId} {k0 k1 : IntKind} {a b : Int} (k : EvR P rest ⟨n, (d, .v (.int k0 (if b < a then b else a))) :: tm, S⟩ σ' n') (hx : PS.get ⟨n, tm, S⟩ x = .v (.int k0 a) := by ((conv => lhs; whnf) <;> fail "no")) (hy : PS.get ⟨n, tm, S⟩ y = .v (.int k1 b) := by ((conv => lhs; whnf) <;> fail "no")) : EvR P (⟨.call ⟨.builtin .min, #[x, y], ts⟩, some d, none⟩ :: rest) ⟨n, tm, S⟩ σ' n' := er_step (by simp only [ev, callPV, hx, hy]) k
theorem es_max {ts : Array TypeId} {k0 k1 : IntKind} {a b : Int} (k : EvR P rest ⟨n, (d, .v (.int k0 (if b > a then b else a))) :: tm, S⟩ σ' n') (hx : PS.get ⟨n, tm, S⟩ x = .v (.int k0 a) := by ((conv => lhs; whnf) <;> fail "no")) (hy : PS.get ⟨n, tm, S⟩ y = .v (.int k1 b) := by ((conv => lhs; whnf) <;> fail "no")) : EvR P (⟨.call ⟨.builtin .max, #[x, y], ts⟩, some d, none⟩ :: rest) ⟨n, tm, S⟩ σ' n' := er_step (by simp only [ev, callPV, hx, hy]) k
theorem es_ix_ro {t e : TypeId} {de : TypeDesc} {sz : Nat} [Und P t (.slice e)] [Und P e de] [Cel P e sz] {f : Bool} {rows : List (List PV)} {row : List PV} {k0 : IntKind} {i : Int} (k : EvR P rest ⟨n, (d, .rp row 0) :: tm, S⟩ σ' n') (hx : PS.get ⟨n, tm, S⟩ x = .ro sz f rows := by ((conv => lhs; whnf) <;> fail "no")) (hy : PS.get ⟨n, tm, S⟩ y = .v (.int k0 i) := by ((conv => lhs; whnf) <;> fail "no")) (hpos : 0 < sz := by decide) (h0 : 0 ≤ i := by omega) (hr : rows[i.toNat]? = some row := by first | exact ints_get _ _ _ (by omega) | assumption | ((conv => lhs; whnf) <;> fail "no")) : EvR P (⟨.indexAddr t x y, some d, none⟩ :: rest) ⟨n, tm, S⟩ σ' n' := by
  refine er_step ?_ k
  simp only [ev, hx, hy, indexAddrPV, intPV, if_neg (show ¬ i < 0 by omega), Und.h (P := P) (t := t), known, Und.h (P := P) (t := e), Option.isSome_some, Cel.h (P := P) (t := e), decide_true, hpos, hr, Option.map_some, Bool.and_self, if_true]
theorem es_ix_vw {t e : TypeId} {de : TypeDesc} {sz : Nat} [Und P t (.slice e)] [Und P e de] [Cel P e sz] {τ g off len : Nat} {blk : Blk} {k0 : IntKind} {i : Int} (k : EvR P rest ⟨n, (d, .ptr τ g (off + i.toNat) 0) :: tm, S⟩ σ' n') (hx : PS.get ⟨n, tm, S⟩ x = .vw τ g off len := by ((conv => lhs; whnf) <;> fail "no")) (hy : PS.get ⟨n, tm, S⟩ y = .v (.int k0 i) := by ((conv => lhs; whnf) <;> fail "no")) (hb : S[τ]? = some blk := by first | ((conv => lhs; whnf) <;> fail "no") | assumption) (hg : blk.gen = g := by first | rfl | assumption) (hsz : sz = blk.sz := by rfl) (h0 : 0 ≤ i := by omega) (h1 : i < (len : Int) := by omega) : EvR P (⟨.indexAddr t x y, some d, none⟩ :: rest) ⟨n, tm, S⟩ σ' n' := by
  refine er_step ?_ k
  simp only [ev, hx, hy, indexAddrPV, intPV, if_neg (show ¬ i < 0 by omega), Und.h (P := P) (t := t), known, Und.h (P := P) (t := e), Option.isSome_some, alive, hb, hg, beq_self_eq_true, Option.map_some, Cel.h (P := P) (t := e), hsz, Bool.and_self, decide_eq_true h1, if_true]
theorem es_ix_arr {t e : TypeId} {de : TypeDesc} {es m : Nat} [Und P t (.array m e)] [Und P e de] [Cel P e es] {τ g r off : Nat} {blk : Blk} {k0 : IntKind} {i : Int} (k : EvR P rest ⟨n, (d, .ptr τ g r (off + i.toNat * es)) :: tm, S⟩ σ' n') (hx : PS.get ⟨n, tm, S⟩ x = .ptr τ g r off := by ((conv => lhs; whnf) <;> fail "no")) (hy : PS.get ⟨n, tm, S⟩ y = .v (.int k0 i) := by ((conv => lhs; whnf) <;> fail "no")) (hb : S[τ]? = some blk := by first | ((conv => lhs; whnf) <;> fail "no") | assumption) (hg : blk.gen = g := by first | rfl | assumption) (h0 : 0 ≤ i := by omega) (h1 : i < (m : Int) := by omega) : EvR P (⟨.indexAddr t x y, some d, none⟩ :: rest) ⟨n, tm, S⟩ σ' n' := by
  refine er_step ?_ k
  simp only [ev, hx, hy, indexAddrPV, intPV, if_neg (show ¬ i < 0 by omega), Und.h (P := P) (t := t), known, Und.h (P := P) (t := e), Option.isSome_some, alive, hb, hg, beq_self_eq_true, Bool.and_self, decide_eq_true h1, if_true, Cel.h (P := P) (t := e)]
theorem es_ix_sub {t e : TypeId} {de : TypeDesc} {es m : Nat} [Und P t (.slice e)] [Und P e de] [Cel P e es] {τ g r off : Nat} {blk : Blk} {k0 : IntKind} {i : Int} (k : EvR P rest ⟨n, (d, .ptr τ g r (off + i.toNat * es)) :: tm, S⟩ σ' n') (hx : PS.get ⟨n, tm, S⟩ x = .sub τ g r off m := by ((conv => lhs; whnf) <;> fail "no")) (hy : PS.get ⟨n, tm, S⟩ y = .v (.int k0 i) := by ((conv => lhs; whnf) <;> fail "no")) (hb : S[τ]? = some blk := by first | ((conv => lhs; whnf) <;> fail "no") | assumption) (hg : blk.gen = g := by first | rfl | assumption) (h0 : 0 ≤ i := by omega) (h1 : i < (m : Int) := by omega) : EvR P (⟨.indexAddr t x y, some d, none⟩ :: rest) ⟨n, tm, S⟩ σ' n' := by
  refine er_step ?_ k
  simp only [ev, hx, hy, indexAddrPV, intPV, if_neg (show ¬ i < 0 by omega), Und.h (P := P) (t := t), known, Und.h (P := P) (t := e), Option.isSome_some, alive, hb, hg, beq_self_eq_true, Bool.and_self, decide_eq_true h1, if_true, Cel.h (P := P) (t := e)]
theorem es_len_sub {t e : TypeId} [Und P t (.slice e)] {τ g i off len : Nat} {blk : Blk} (k : EvR P rest ⟨n, (d, .v (.int .i64 len)) :: tm, S⟩ σ' n') (hx : PS.get ⟨n, tm, S⟩ x = .sub τ g i off len := by ((conv => lhs; whnf) <;> fail "no")) (hb : S[τ]? = some blk := by first | ((conv => lhs; whnf) <;> fail "no") | assumption) (hg : blk.gen = g := by first | rfl | assumption) : EvR P (⟨.call ⟨.builtin .len, #[x], #[t]⟩, some d, none⟩ :: rest) ⟨n, tm, S⟩ σ' n' := er_step (by simp only [ev, callPV, hx, lenPV, Und.h (P := P) (t := t), alive, hb, hg, beq_self_eq_true, if_true]) k
theorem es_sl_arr {t e : TypeId} {de : TypeDesc} {m : Nat} [Und P t (.array m e)] [Und P e de] {τ g i off : Nat} {blk : Blk} (k : EvR P rest ⟨n, (d, .sub τ g i off m) :: tm, S⟩ σ' n') (hx : PS.get ⟨n, tm, S⟩ x = .ptr τ g i off := by ((conv => lhs; whnf) <;> fail "no")) (hb : S[τ]? = some blk := by first | ((conv => lhs; whnf) <;> fail "no") | assumption) (hg : blk.gen = g := by first | rfl | assumption) : EvR P (⟨.slice t x none none none, some d, none⟩ :: rest) ⟨n, tm, S⟩ σ' n' := er_step (by simp only [ev, slicePV, hx, Option.map_none, Und.h (P := P) (t := t), known, Und.h (P := P) (t := e), Option.isSome_some, alive, hb, hg, beq_self_eq_true, Bool.and_self, if_true]) k
theorem loadRow_one {t : TypeId} {row : List PV} {off : Nat} {p : PV} (ha : isAggT P t = false ∧ known P t = true) (hp : row[off]? = some p) : loadRow P t row off = some p := by
  simp only [loadRow, ha.2, if_true, partPV, ha.1, Bool.false_eq_true, if_false, hp]
theorem loadRow_agg {t : TypeId} {row cs : List PV} {off m : Nat} (ha : isAggT P t = true ∧ known P t = true) (hm : P.cellsOf t = m) (hle : off + m ≤ row.length) (hp : (row.drop off).take m = cs) : loadRow P t row off = some (.agg cs) := by
  simp only [loadRow, ha.2, if_true, partPV, ha.1, hm, hle, hp]
theorem es_ld_rp {t : TypeId} [AggT P t false] {row : List PV} {off : Nat} {p : PV} (k : EvR P rest ⟨n, (d, p) :: tm, S⟩ σ' n') (hx : PS.get ⟨n, tm, S⟩ x = .rp row off := by ((conv => lhs; whnf) <;> fail "no")) (hp : row[off]? = some p := by ((conv => lhs; whnf) <;> fail "no")) : EvR P (⟨.load t x, some d, none⟩ :: rest) ⟨n, tm, S⟩ σ' n' := er_step (by simp only [ev, hx, loadPV, loadRow_one (AggT.h (P := P) (t := t)) hp]) k
theorem es_lda_rp {t : TypeId} {m : Nat} [AggT P t true] [Cel P t m] {row cs : List PV} {off : Nat} (k : EvR P rest ⟨n, (d, .agg cs) :: tm, S⟩ σ' n') (hx : PS.get ⟨n, tm, S⟩ x = .rp row off := by ((conv => lhs; whnf) <;> fail "no")) (hle : off + m ≤ row.length := by first | decide | (simp only [List.length_cons, List.length_nil]; omega) | omega) (hp : (row.drop off).take m = cs := by first | (simp only [List.drop_succ_cons, List.drop_zero, List.take_succ_cons, List.take_zero, List.take_nil]; exact rfl) | exact rfl) : EvR P (⟨.load t x, some d, none⟩ :: rest) ⟨n, tm, S⟩ σ' n' := er_step (by simp only [ev, hx, loadPV, loadRow_agg (AggT.h (P := P) (t := t)) (Cel.h (P := P) (t := t)) hle hp]) k
theorem es_ld_ptr {t : TypeId} [AggT P t false] {row : List PV} {τ g i off : Nat} {p : PV} (k : EvR P rest ⟨n, (d, p) :: tm, S⟩ σ' n') (hx : PS.get ⟨n, tm, S⟩ x = .ptr τ g i off := by ((conv => lhs; whnf) <;> fail "no")) (hr : rowAt? S τ g i = some row := by first | (simp only [rowAt?, List.getElem?_cons_zero, List.getElem?_cons_succ, if_true, ↓reduceIte]; first | exact rfl | exact ints_get _ _ _ (by omega) | assumption) | assumption) (hp : row[off]? = some p := by ((conv => lhs; whnf) <;> fail "no")) : EvR P (⟨.load t x, some d, none⟩ :: rest) ⟨n, tm, S⟩ σ' n' := er_step (by simp only [ev, hx, loadPV, hr, loadRow_one (AggT.h (P := P) (t := t)) hp]) k
theorem es_lda_ptr {t : TypeId} {m : Nat} [AggT P t true] [Cel P t m] {row cs : List PV} {τ g i off : Nat} (k : EvR P rest ⟨n, (d, .agg cs) :: tm, S⟩ σ' n') (hx : PS.get ⟨n, tm, S⟩ x = .ptr τ g i off := by ((conv => lhs; whnf) <;> fail "no")) (hr : rowAt? S τ g i = some row := by first | (simp only [rowAt?, List.getElem?_cons_zero, List.getElem?_cons_succ, if_true, ↓reduceIte]; first | exact rfl | exact ints_get _ _ _ (by omega) | assumption) | assumption) (hle : off + m ≤ row.length := by first | decide | (simp only [List.length_cons, List.length_nil]; omega) | omega) (hp : (row.drop off).take m = cs := by first | (simp only [List.drop_succ_cons, List.drop_zero, List.take_succ_cons, List.take_zero, List.take_nil]; exact rfl) | exact rfl) : EvR P (⟨.load t x, some d, none⟩ :: rest) ⟨n, tm, S⟩ σ' n' := er_step (by simp only [ev, hx, loadPV, hr, loadRow_agg (AggT.h (P := P) (t := t)) (Cel.h (P := P) (t := t)) hle hp]) k
theorem es_lk_r {t kt et : TypeId} {es : List (ByteArray × Int)} {s : ByteArray} [ht : Und P t (.map kt et)] [hk : Und P kt .string] [hz : ZerI P et] (k : EvR P rest ⟨n, (d, .tup [.v (.int .i64 ((mfind s es).getD 0)), .v (.bool (mfind s es).isSome)]) :: tm, S⟩ σ' n') (hx : PS.get ⟨n, tm, S⟩ x = .rmp es := by ((conv => lhs; whnf) <;> fail "no")) (hy : PS.get ⟨n, tm, S⟩ y = .v (.string s) := by ((conv => lhs; whnf) <;> fail "no")) : EvR P (⟨.lookup t x y true, some d, none⟩ :: rest) ⟨n, tm, S⟩ σ' n' := er_step (by simp [ev, lookupPV, ht.h, hk.h, hz.h, mapEs, hx, hy]) k
theorem es_lo_r {t kt et : TypeId} {es : List (ByteArray × Int)} {s : ByteArray} [ht : Und P t (.map kt et)] [hk : Und P kt .string] [hz : ZerI P et] (k : EvR P rest ⟨n, (d, .v (.int .i64 ((mfind s es).getD 0))) :: tm, S⟩ σ' n') (hx : PS.get ⟨n, tm, S⟩ x = .rmp es := by ((conv => lhs; whnf) <;> fail "no")) (hy : PS.get ⟨n, tm, S⟩ y = .v (.string s) := by ((conv => lhs; whnf) <;> fail "no")) : EvR P (⟨.lookup t x y false, some d, none⟩ :: rest) ⟨n, tm, S⟩ σ' n' := er_step (by simp [ev, lookupPV, ht.h, hk.h, hz.h, mapEs, hx, hy]) k
theorem es_lk_m {t kt et : TypeId} {es : List (ByteArray × Int)} {s : ByteArray} [ht : Und P t (.map kt et)] [hk : Und P kt .string] [hz : ZerI P et] {τ g : Nat} {o : Bool} (k : EvR P rest ⟨n, (d, .tup [.v (.int .i64 ((mfind s es).getD 0)), .v (.bool (mfind s es).isSome)]) :: tm, S⟩ σ' n') (hx : PS.get ⟨n, tm, S⟩ x = .mp τ g := by ((conv => lhs; whnf) <;> fail "no")) (hy : PS.get ⟨n, tm, S⟩ y = .v (.string s) := by ((conv => lhs; whnf) <;> fail "no")) (hb : S[τ]? = some ⟨g, o, 0, [[.rmp es]]⟩ := by first | ((conv => lhs; whnf) <;> fail "no") | assumption) : EvR P (⟨.lookup t x y true, some d, none⟩ :: rest) ⟨n, tm, S⟩ σ' n' := er_step (by simp [ev, lookupPV, ht.h, hk.h, hz.h, mapEs, hx, hy, hb]) k
theorem es_lo_m {t kt et : TypeId} {es : List (ByteArray × Int)} {s : ByteArray} [ht : Und P t (.map kt et)] [hk : Und P kt .string] [hz : ZerI P et] {τ g : Nat} {o : Bool} (k : EvR P rest ⟨n, (d, .v (.int .i64 ((mfind s es).getD 0))) :: tm, S⟩ σ' n') (hx : PS.get ⟨n, tm, S⟩ x = .mp τ g := by ((conv => lhs; whnf) <;> fail "no")) (hy : PS.get ⟨n, tm, S⟩ y = .v (.string s) := by ((conv => lhs; whnf) <;> fail "no")) (hb : S[τ]? = some ⟨g, o, 0, [[.rmp es]]⟩ := by first | ((conv => lhs; whnf) <;> fail "no") | assumption) : EvR P (⟨.lookup t x y false, some d, none⟩ :: rest) ⟨n, tm, S⟩ σ' n' := er_step (by simp [ev, lookupPV, ht.h, hk.h, hz.h, mapEs, hx, hy, hb]) k
theorem es_len_m {t kt et : TypeId} [ht : Und P t (.map kt et)] {es : List (ByteArray × Int)} {m : Nat} (k : EvR P rest ⟨n, (d, .v (.int .i64 m)) :: tm, S⟩ σ' n') (hx : PS.get ⟨n, tm, S⟩ x = .rmp es := by ((conv => lhs; whnf) <;> fail "no")) (hm : es.length = m := by first | assumption | exact rfl) : EvR P (⟨.call { callee := .builtin .len, args := #[x], argTypes := #[t] }, some d, none⟩ :: rest) ⟨n, tm, S⟩ σ' n' := er_step (by simp [ev, callPV, lenPV, ht.h, hx, hm]) k
theorem es_ext {i : Nat} {cs : List PV} {p : PV} (k : EvR P rest ⟨n, (d, p) :: tm, S⟩ σ' n') (hx : PS.get ⟨n, tm, S⟩ x = .tup cs := by ((conv => lhs; whnf) <;> fail "no")) (hp : cs[i]? = some p := by ((conv => lhs; whnf) <;> fail "no")) : EvR P (⟨.extract x i, some d, none⟩ :: rest) ⟨n, tm, S⟩ σ' n' := er_step (by simp only [ev, hx, extractPV, hp]) k
theorem es_fa_ptr {s ft : TypeId} {f fo m : Nat} {bb : Bool} [Fld P s f fo ft] [Cel P ft m] [AggT P ft bb] {τ g i off o' : Nat} {blk : Blk} (k : EvR P rest ⟨n, (d, .ptr τ g i o') :: tm, S⟩ σ' n') (hx : PS.get ⟨n, tm, S⟩ x = .ptr τ g i off := by ((conv => lhs; whnf) <;> fail "no")) (hb : S[τ]? = some blk := by first | ((conv => lhs; whnf) <;> fail "no") | assumption) (hg : blk.gen = g := by first | rfl | assumption) (hz : m ≠ 0 := by decide) (ho : off + fo = o' := by ((conv => lhs; whnf) <;> fail "no")) : EvR P (⟨.fieldAddr s x f, some d, none⟩ :: rest) ⟨n, tm, S⟩ σ' n' := by
  obtain ⟨fd, h1, h2, h3⟩ := Fld.h (P := P) (t := s) (f := f)
  subst h2 h3
  exact er_step (by simp only [ev, hx, fieldAddrPV, h1, Cel.h (P := P) (t := fd.type), (AggT.h (P := P) (t := fd.type)).2, Bool.not_true, Bool.or_false, decide_eq_false hz, Bool.false_eq_true, if_false, alive, hb, hg, beq_self_eq_true, if_true, ho]) k
theorem es_fa_rp {s ft : TypeId} {f fo m : Nat} {bb : Bool} [Fld P s f fo ft] [Cel P ft m] [AggT P ft bb] {row : List PV} {off o' : Nat} (k : EvR P rest ⟨n, (d, .rp row o') :: tm, S⟩ σ' n') (hx : PS.get ⟨n, tm, S⟩ x = .rp row off := by ((conv => lhs; whnf) <;> fail "no")) (hz : m ≠ 0 := by decide) (ho : off + fo = o' := by ((conv => lhs; whnf) <;> fail "no")) : EvR P (⟨.fieldAddr s x f, some d, none⟩ :: rest) ⟨n, tm, S⟩ σ' n' := by
  obtain ⟨fd, h1, h2, h3⟩ := Fld.h (P := P) (t := s) (f := f)
  subst h2 h3
  exact er_step (by simp only [ev, hx, fieldAddrPV, h1, Cel.h (P := P) (t := fd.type), (AggT.h (P := P) (t := fd.type)).2, Bool.not_true, Bool.or_false, decide_eq_false hz, Bool.false_eq_true, if_false, ho]) k
theorem es_fv {s ft : TypeId} {f fo : Nat} [Fld P s f fo ft] [AggT P ft false] {cs : List PV} {p : PV} (k : EvR P rest ⟨n, (d, p) :: tm, S⟩ σ' n') (hx : PS.get ⟨n, tm, S⟩ x = .agg cs := by ((conv => lhs; whnf) <;> fail "no")) (hp : cs[fo]? = some p := by ((conv => lhs; whnf) <;> fail "no")) : EvR P (⟨.field s x f, some d, none⟩ :: rest) ⟨n, tm, S⟩ σ' n' := by
  obtain ⟨fd, h1, h2, h3⟩ := Fld.h (P := P) (t := s) (f := f)
  subst h2 h3
  refine er_step ?_ k
  have ha := AggT.h (P := P) (t := fd.type)
  simp only [ev, hx, fieldPV, h1, ha.2, if_true, partPV, ha.1, Bool.false_eq_true, if_false, hp]
theorem es_fva {s ft : TypeId} {f fo m : Nat} [Fld P s f fo ft] [AggT P ft true] [Cel P ft m] {cs cs' : List PV} (k : EvR P rest ⟨n, (d, .agg cs') :: tm, S⟩ σ' n') (hx : PS.get ⟨n, tm, S⟩ x = .agg cs := by ((conv => lhs; whnf) <;> fail "no")) (hle : fo + m ≤ cs.length := by first | decide | (simp only [List.length_cons, List.length_nil]; omega) | omega) (hp : (cs.drop fo).take m = cs' := by first | (simp only [List.drop_succ_cons, List.drop_zero, List.take_succ_cons, List.take_zero, List.take_nil]; exact rfl) | exact rfl) : EvR P (⟨.field s x f, some d, none⟩ :: rest) ⟨n, tm, S⟩ σ' n' := by
  obtain ⟨fd, h1, h2, h3⟩ := Fld.h (P := P) (t := s) (f := f)
  subst h2 h3
  refine er_step ?_ k
  have ha := AggT.h (P := P) (t := fd.type)
  simp only [ev, hx, fieldPV, h1, ha.2, if_true, partPV, ha.1, Cel.h (P := P) (t := fd.type), hle, hp]
theorem es_nil_ptr {τ g i off : Nat} {blk : Blk} (k : EvR P rest ⟨n, (d, .ptr τ g i off) :: tm, S⟩ σ' n') (hx : PS.get ⟨n, tm, S⟩ x = .ptr τ g i off := by ((conv => lhs; whnf) <;> fail "no")) (hb : S[τ]? = some blk := by first | ((conv => lhs; whnf) <;> fail "no") | assumption) (hg : blk.gen = g := by first | rfl | assumption) : EvR P (⟨.nilCheck x, some d, none⟩ :: rest) ⟨n, tm, S⟩ σ' n' := er_step (by simp only [ev, hx, nilCheckPV, alive, hb, hg, beq_self_eq_true, if_true]) k
theorem es_nil_fn {f : FuncId} {a b : List PV} (k : EvR P rest ⟨n, (d, .fn (.func f) a b) :: tm, S⟩ σ' n') (hx : PS.get ⟨n, tm, S⟩ x = .fn (.func f) a b := by ((conv => lhs; whnf) <;> fail "no")) : EvR P (⟨.nilCheck x, some d, none⟩ :: rest) ⟨n, tm, S⟩ σ' n' := er_step (by simp only [ev, hx, nilCheckPV]) k
theorem es_mf {fn : Fn} {first captured : Array Operand} {a b : List PV} (k : EvR P rest ⟨n, (d, .fn fn a b) :: tm, S⟩ σ' n') (ha : first.toList.map (PS.get ⟨n, tm, S⟩) = a := by simp only [List.map_cons, List.map_nil, PS.get, look, ↓reduceIte, Nat.reduceEqDiff, reduceCtorEq]; exact rfl) (hb : captured.toList.map (PS.get ⟨n, tm, S⟩) = b := by simp only [List.map_cons, List.map_nil, PS.get, look, ↓reduceIte, Nat.reduceEqDiff, reduceCtorEq]; exact rfl) : EvR P (⟨.makeFunc fn first captured, some d, none⟩ :: rest) ⟨n, tm, S⟩ σ' n' := er_step (by simp only [ev, ha, hb]) k
theorem es_sl_h {t e : TypeId} {de : TypeDesc} {sz : Nat} {kk k0 : IntKind} {l l' : List Int} {i : Int} [ht : Und P t (.slice e)] [hd : Und P e de] [hc : Cel P e sz] (k : EvR P rest ⟨n, (d, .ro sz false (ints kk l')) :: tm, S⟩ σ' n') (hx : PS.get ⟨n, tm, S⟩ x = .ro sz false (ints kk l) := by ((conv => lhs; whnf) <;> fail "no")) (hy : PS.get ⟨n, tm, S⟩ y = .v (.int k0 i) := by ((conv => lhs; whnf) <;> fail "no")) (h0 : 0 ≤ i := by omega) (h1 : i ≤ l.length := by omega) (hl : l.take i.toNat = l' := by rfl) : EvR P (⟨.slice t x none (some y) none, some d, none⟩ :: rest) ⟨n, tm, S⟩ σ' n' := by
  refine er_step ?_ k
  have hk : known P e = true := by simp [known, hd.h]
  have hn : ¬ i < 0 := by omega
  have h2 : i.toNat ≤ l.length := by omega
  simp [ev, slicePV, ht.h, hx, hy, boundPV, intPV, hn, ints_length, hk, hc.h, h2, ints_take, hl]
theorem es_sl_l {t e : TypeId} {de : TypeDesc} {sz : Nat} {kk k0 : IntKind} {l l' : List Int} {i : Int} {f : Bool} [ht : Und P t (.slice e)] [hd : Und P e de] [hc : Cel P e sz] (k : EvR P rest ⟨n, (d, .ro sz f (ints kk l')) :: tm, S⟩ σ' n') (hx : PS.get ⟨n, tm, S⟩ x = .ro sz f (ints kk l) := by ((conv => lhs; whnf) <;> fail "no")) (hy : PS.get ⟨n, tm, S⟩ y = .v (.int k0 i) := by ((conv => lhs; whnf) <;> fail "no")) (h0 : 0 ≤ i := by omega) (h1 : i ≤ l.length := by omega) (hl : l.drop i.toNat = l' := by rfl) : EvR P (⟨.slice t x (some y) none none, some d, none⟩ :: rest) ⟨n, tm, S⟩ σ' n' := by
  subst hl
  refine er_step ?_ k
  have hk : known P e = true := by simp [known, hd.h]
  have hn : ¬ i < 0 := by omega
  have h2 : i.toNat ≤ l.length := by omega
  have h3 : List.take (l.length - i.toNat) (ints kk (l.drop i.toNat)) = ints kk (l.drop i.toNat) := by rw [List.take_of_length_le]; simp [ints_length]
  simp [ev, slicePV, ht.h, hx, hy, boundPV, intPV, hn, ints_length, hk, hc.h, h2, ints_drop, h3]
theorem es_sl_b {t e : TypeId} {de : TypeDesc} {sz : Nat} {kk k0 k1 : IntKind} {l l' : List Int} {i j : Int} [ht : Und P t (.slice e)] [hd : Und P e de] [hc : Cel P e sz] (k : EvR P rest ⟨n, (d, .ro sz false (ints kk l')) :: tm, S⟩ σ' n') (hx : PS.get ⟨n, tm, S⟩ x = .ro sz false (ints kk l) := by ((conv => lhs; whnf) <;> fail "no")) (hy : PS.get ⟨n, tm, S⟩ y = .v (.int k0 i) := by ((conv => lhs; whnf) <;> fail "no")) (hz : PS.get ⟨n, tm, S⟩ z = .v (.int k1 j) := by ((conv => lhs; whnf) <;> fail "no")) (h0 : 0 ≤ i := by omega) (h1 : i ≤ j := by omega) (h2 : j ≤ l.length := by omega) (hl : (l.drop i.toNat).take (j.toNat - i.toNat) = l' := by rfl) : EvR P (⟨.slice t x (some y) (some z) none, some d, none⟩ :: rest) ⟨n, tm, S⟩ σ' n' := by
  refine er_step ?_ k
  have hk : known P e = true := by simp [known, hd.h]
  have hn : ¬ i < 0 := by omega
  have hm : ¬ j < 0 := by omega
  have h3 : j.toNat ≤ l.length := by omega
  have h4 : i.toNat ≤ j.toNat := by omega
  simp [ev, slicePV, ht.h, hx, hy, hz, boundPV, intPV, hn, hm, ints_length, hk, hc.h, h3, h4, ints_drop, ints_take, hl]
theorem es_eqn_ro {t t' e : TypeId} {sz : Nat} {f : Bool} {rows : List (List PV)} [ht : Und P t (.slice e)] (k : EvR P rest ⟨n, (d, .v (.bool false)) :: tm, S⟩ σ' n') (hx : PS.get ⟨n, tm, S⟩ x = .ro sz f rows := by ((conv => lhs; whnf) <;> fail "no")) (hy : PS.get ⟨n, tm, S⟩ y = .v (.slice none 0 0) := by ((conv => lhs; whnf) <;> fail "no")) (hl : 0 < rows.length := by first | (simp only [ints_length, List.length_take, List.length_drop, List.length_append, List.length_cons, List.length_nil]; omega) | assumption) : EvR P (⟨.binOp .eql t x y t', some d, none⟩ :: rest) ⟨n, tm, S⟩ σ' n' := by
  refine er_step ?_ k
  simp only [ev, binPV, hx, hy, nilOf, notNil, hl, decide_true, Bool.and_true, if_true, ht.h, nilBin, Option.map_some]
theorem es_nen_ro {t t' e : TypeId} {sz : Nat} {f : Bool} {rows : List (List PV)} [ht : Und P t (.slice e)] (k : EvR P rest ⟨n, (d, .v (.bool true)) :: tm, S⟩ σ' n') (hx : PS.get ⟨n, tm, S⟩ x = .ro sz f rows := by ((conv => lhs; whnf) <;> fail "no")) (hy : PS.get ⟨n, tm, S⟩ y = .v (.slice none 0 0) := by ((conv => lhs; whnf) <;> fail "no")) (hl : 0 < rows.length := by first | (simp only [ints_length, List.length_take, List.length_drop, List.length_append, List.length_cons, List.length_nil]; omega) | assumption) : EvR P (⟨.binOp .neq t x y t', some d, none⟩ :: rest) ⟨n, tm, S⟩ σ' n' := by
  refine er_step ?_ k
  simp only [ev, binPV, hx, hy, nilOf, notNil, hl, decide_true, Bool.and_true, if_true, ht.h, nilBin, Option.map_some, Bool.not_false]
theorem es_eqn_nil {t t' e : TypeId} [ht : Und P t (.slice e)] (k : EvR P rest ⟨n, (d, .v (.bool true)) :: tm, S⟩ σ' n') (hx : PS.get ⟨n, tm, S⟩ x = .v (.slice none 0 0) := by ((conv => lhs; whnf) <;> fail "no")) (hy : PS.get ⟨n, tm, S⟩ y = .v (.slice none 0 0) := by ((conv => lhs; whnf) <;> fail "no")) : EvR P (⟨.binOp .eql t x y t', some d, none⟩ :: rest) ⟨n, tm, S⟩ σ' n' := by
  refine er_step ?_ k
  simp only [ev, binPV, hx, hy, scalarBin, ht.h, nilBin, Option.map_some]
theorem es_nen_nil {t t' e : TypeId} [ht : Und P t (.slice e)] (k : EvR P rest ⟨n, (d, .v (.bool false)) :: tm, S⟩ σ' n') (hx : PS.get ⟨n, tm, S⟩ x = .v (.slice none 0 0) := by ((conv => lhs; whnf) <;> fail "no")) (hy : PS.get ⟨n, tm, S⟩ y = .v (.slice none 0 0) := by ((conv => lhs; whnf) <;> fail "no")) : EvR P (⟨.binOp .neq t x y t', some d, none⟩ :: rest) ⟨n, tm, S⟩ σ' n' := by
  refine er_step ?_ k
  simp only [ev, binPV, hx, hy, scalarBin, ht.h, nilBin, Option.map_some, Bool.not_true]
theorem es_gen {p : PV} (k : EvR P rest ⟨n, (d, p) :: tm, S⟩ σ' n') (h : ev P ⟨n, tm, S⟩ op = some p ) : EvR P (⟨op, some d, none⟩ :: rest) ⟨n, tm, S⟩ σ' n' := er_step h k
end
end Go.Proofs.YtenoecffjfcifaaDoor.Pv

-- Texts, told by lists of numbers; structs compared.
namespace Go.Proofs.YtenoecffjfcifaaDoor.Pv
set_option linter.all false
open Go.RowKit
set_option linter.unusedVariables false

def Oct (l : List Int) : Prop := ∀ x ∈ l, 0 ≤ x ∧ x < 256
instance (l : List Int) : Decidable (Oct l) := by unfold Oct; infer_instance
def str (l : List Int) : ByteArray := ⟨(l.map fun n => UInt8.ofNat n.toNat).toArray⟩
def ofB (b : ByteArray) : List Int := b.data.toList.map fun c => (c.toNat : Int)
theorem oct_ofB (b : ByteArray) : Oct (ofB b) := by
  intro x hx
  simp only [ofB, List.mem_map] at hx
  obtain ⟨c, _, rfl⟩ := hx
  have := c.toNat_lt
  omega
theorem str_ofB (b : ByteArray) : str (ofB b) = b := by
  unfold str ofB
  rw [List.map_map]
  have : ((fun n : Int => UInt8.ofNat n.toNat) ∘ fun c : UInt8 => (c.toNat : Int)) = id := by
    funext c
    simp
  rw [this, List.map_id]
theorem str_ofB' {b : ByteArray} {l : List Int} (h : ofB b = l) : str l = b := by rw [← h, str_ofB]
theorem strlit {v : PV} {b : ByteArray} {l : List Int} (h : v = .v (.string b)) (hl : str l = b) : v = .v (.string (str l)) := by rw [h, hl]
theorem Oct.getD {l : List Int} (h : Oct l) (i : Nat) : 0 ≤ l.getD i 0 ∧ l.getD i 0 < 256 := by
  rcases Nat.lt_or_ge i l.length with hi | hi
  · have : l.getD i 0 = l[i] := by simp [hi]
    rw [this]; exact h _ (List.getElem_mem hi)
  · have : l.getD i 0 = 0 := by simp [hi]
    rw [this]; decide
theorem oct_take {l : List Int} (h : Oct l) (n : Nat) : Oct (l.take n) := fun x hx => h x (List.mem_of_mem_take hx)
theorem oct_drop {l : List Int} (h : Oct l) (n : Nat) : Oct (l.drop n) := fun x hx => h x (List.mem_of_mem_drop hx)
theorem oct_append {a b : List Int} (h : Oct a) (k : Oct b) : Oct (a ++ b) := fun x hx => by
  rcases List.mem_append.1 hx with hx | hx
  · exact h x hx
  · exact k x hx
theorem str_size (l : List Int) : (str l).size = l.length := by simp [str, ByteArray.size]
theorem str_toList (l : List Int) : (str l).toList = l.map fun n => UInt8.ofNat n.toNat := by rw [ByteArray.toList_eq]; simp [str]
theorem str_eq {a b : List Int} (ha : Oct a) (hb : Oct b) : ((str a).toList == (str b).toList) = decide (a = b) := by
  rw [str_toList, str_toList]
  by_cases h : a = b
  · rw [h]; simp
  · rw [decide_eq_false h]
    have : ¬ (a.map fun n => UInt8.ofNat n.toNat) = (b.map fun n => UInt8.ofNat n.toNat) := by
      intro e
      apply h
      apply List.ext_getElem
      · simpa using congrArg List.length e
      · intro i h1 h2
        have e2 := congrArg (fun l => l[i]?) e
        simp only [List.getElem?_map, List.getElem?_eq_getElem h1, List.getElem?_eq_getElem h2, Option.map_some, Option.some.injEq] at e2
        have e3 := congrArg UInt8.toNat e2
        simp only [UInt8.toNat_ofNat'] at e3
        have k1 := ha _ (List.getElem_mem h1)
        have k2 := hb _ (List.getElem_mem h2)
        omega
    simp [this]
theorem str_append (a b : List Int) : str a ++ str b = str (a ++ b) := by
  apply ByteArray.ext
  simp [str]
theorem str_extract (l : List Int) (i j : Nat) : (str l).extract i j = str ((l.drop i).take (j - i)) := by
  apply ByteArray.ext
  simp [str, List.map_take, List.map_drop, List.extract_eq_take_drop]
theorem str_get (l : List Int) (i : Nat) (h : i < l.length) (hb : Oct l) : ((str l).data.toList[i]?).map (fun b => PV.v (.int .u8 b.toNat)) = some (.v (.int .u8 (l.getD i 0))) := by
  have k := hb _ (List.getElem_mem h)
  simp only [str, List.getElem?_map, List.getElem?_eq_getElem h, Option.map_some, Option.some.injEq, PV.v.injEq, Value.int.injEq, true_and, UInt8.toNat_ofNat', List.getD, Option.getD_some]
  omega
/-- Where the parts of a struct or an array lie. -/
def layOf (P : Program) (t : TypeId) : Option (List (Nat × Nat)) :=
  match P.underlying t with
  | some (.struct fs) => if fs.all (fun f => known P f.type) then some (fs.toList.map fun f => (f.offset, P.cellsOf f.type)) else none
  | some (.array n e) => if known P e then some ((List.range n).map fun i => (i * P.cellsOf e, P.cellsOf e)) else none
  | _ => none
class Lay (P : Program) (t : TypeId) (l : outParam (List (Nat × Nat))) : Prop where
  h : layOf P t = some l
theorem fillPV_le {p q : Nat → Option (Nat × Nat)} (h : ∀ i x, p i = some x → q i = some x) : ∀ (ps : List (Nat × PV)) (z out : List PV), fillPV p z ps = some out → fillPV q z ps = some out
  | [], z, out, k => k
  | (i, x) :: ps, z, out, k => by
    unfold fillPV at k ⊢
    split at k
    · rename_i off size cs h1 h2
      rw [h i _ h1, h2]
      simp only
      split at k
      · rename_i hc
        rw [if_pos hc]
        exact fillPV_le h ps _ _ k
      · cases k
    · cases k
theorem build_lay {P : Program} {t : TypeId} {l : List (Nat × Nat)} {z cs : List PV} {ps : List (Nat × PV)} (hl : layOf P t = some l) (hz : zeroRow P t = some z) (h : fillPV (fun i => l[i]?) z ps = some cs) : buildPV P t ps = some (.agg cs) := by
  unfold layOf at hl
  unfold buildPV
  rw [hz]
  split at hl
  · rename_i fs hu
    rw [hu]
    split at hl
    · rename_i ha
      cases hl
      simp only
      rw [if_pos ha, fillPV_le (fun i x hx => ?_) ps z cs h]
      · rfl
      · rw [List.getElem?_map, Array.getElem?_toList] at hx
        exact hx
    · cases hl
  · rename_i n e hu
    rw [hu]
    split at hl
    · rename_i ha
      cases hl
      simp only
      rw [if_pos ha, fillPV_le (fun i x hx => ?_) ps z cs h]
      · rfl
      · rw [List.getElem?_map] at hx
        obtain ⟨j, hj, rfl⟩ := Option.map_eq_some_iff.1 hx
        have := List.getElem?_eq_some_iff.1 hj
        obtain ⟨h1, h2⟩ := this
        simp at h2
        rw [h2]
    · cases hl
  · cases hl
theorem bne_self (a : Bool) : (!(a == a)) = false := by simp
/-- Cells of whole numbers. -/
def ci (k : IntKind) (l : List Int) : List PV := l.map fun n => .v (.int k n)
theorem ci_length (k : IntKind) (l : List Int) : (ci k l).length = l.length := by simp [ci]
theorem ci_get (k : IntKind) (l : List Int) (i : Nat) (h : i < l.length) : (ci k l)[i]? = some (.v (.int k (l.getD i 0))) := by simp [ci, List.getElem?_eq_getElem h]
class EqS (P : Program) (t : TypeId) (l : outParam (List (Nat × SK))) : Prop where
  h : flatOf P t = some l

section
variable {P : Program} {op : Op} {d : Tmp} {rest : List Pr} {n : Nat} {tm : List (Nat × PV)} {S : List Blk} {σ' : PS} {n' : Nat} {x y z : Operand}
theorem es_slen {t : TypeId} [hu : Und P t .string] {l : List Int} {m : Nat} (k : EvR P rest ⟨n, (d, .v (.int .i64 m)) :: tm, S⟩ σ' n') (hx : PS.get ⟨n, tm, S⟩ x = .v (.string (str l)) := by first | ((conv => lhs; whnf) <;> fail "no") | exact strlit (by ((conv => lhs; whnf) <;> fail "no")) (str_ofB' (by simp only [ofB, List.map_cons, List.map_nil, UInt8.reduceToNat, Int.cast_ofNat_Int]; exact rfl))) (hm : l.length = m := by first | (simp only [List.length_cons, List.length_nil, Nat.reduceAdd, Nat.zero_add, List.length_append]; exact rfl) | exact rfl) : EvR P (⟨.call ⟨.builtin .len, #[x], #[t]⟩, some d, none⟩ :: rest) ⟨n, tm, S⟩ σ' n' := by
  refine er_step ?_ k
  simp only [ev, callPV, hx, lenPV, hu.h, str_size, hm]
theorem es_six {t : TypeId} [hu : Und P t .string] {l : List Int} {k0 : IntKind} {i c : Int} (k : EvR P rest ⟨n, (d, .v (.int .u8 c)) :: tm, S⟩ σ' n') (hx : PS.get ⟨n, tm, S⟩ x = .v (.string (str l)) := by first | ((conv => lhs; whnf) <;> fail "no") | exact strlit (by ((conv => lhs; whnf) <;> fail "no")) (str_ofB' (by simp only [ofB, List.map_cons, List.map_nil, UInt8.reduceToNat, Int.cast_ofNat_Int]; exact rfl))) (hy : PS.get ⟨n, tm, S⟩ y = .v (.int k0 i) := by ((conv => lhs; whnf) <;> fail "no")) (h0 : 0 ≤ i := by omega) (h1 : i < (l.length : Int) := by first | omega | (simp only [List.length_cons, List.length_nil]; omega)) (hb : Oct l := by first | assumption | decide | exact oct_take (by assumption) _ | exact oct_drop (by assumption) _) (hc : l.getD i.toNat 0 = c := by exact rfl) : EvR P (⟨.index t x y, some d, none⟩ :: rest) ⟨n, tm, S⟩ σ' n' := by
  refine er_step ?_ k
  have hn : ¬ i < 0 := by omega
  have := str_get l i.toNat (by omega) hb
  rw [hc] at this
  simp only [ev, indexPV, hx, hy, intPV, if_neg hn, hu.h, this]
theorem es_seq_t {t t' : TypeId} {a b : List Int} (k : EvR P rest ⟨n, (d, .v (.bool true)) :: tm, S⟩ σ' n') (hx : PS.get ⟨n, tm, S⟩ x = .v (.string (str a)) := by first | ((conv => lhs; whnf) <;> fail "no") | exact strlit (by ((conv => lhs; whnf) <;> fail "no")) (str_ofB' (by simp only [ofB, List.map_cons, List.map_nil, UInt8.reduceToNat, Int.cast_ofNat_Int]; exact rfl))) (hy : PS.get ⟨n, tm, S⟩ y = .v (.string (str b)) := by first | ((conv => lhs; whnf) <;> fail "no") | exact strlit (by ((conv => lhs; whnf) <;> fail "no")) (str_ofB' (by simp only [ofB, List.map_cons, List.map_nil, UInt8.reduceToNat, Int.cast_ofNat_Int]; exact rfl))) (ha : Oct a := by first | assumption | decide | exact oct_take (by assumption) _ | exact oct_drop (by assumption) _) (hb : Oct b := by first | assumption | decide | exact oct_take (by assumption) _ | exact oct_drop (by assumption) _) (h : a = b := by first | assumption | rfl) : EvR P (⟨.binOp .eql t x y t', some d, none⟩ :: rest) ⟨n, tm, S⟩ σ' n' := by
  refine er_step ?_ k
  simp only [ev, binPV, hx, hy, scalarBin, strBin, str_eq ha hb, decide_eq_true h, Option.map_some, Bool.not_true]
theorem es_seq_f {t t' : TypeId} {a b : List Int} (k : EvR P rest ⟨n, (d, .v (.bool false)) :: tm, S⟩ σ' n') (hx : PS.get ⟨n, tm, S⟩ x = .v (.string (str a)) := by first | ((conv => lhs; whnf) <;> fail "no") | exact strlit (by ((conv => lhs; whnf) <;> fail "no")) (str_ofB' (by simp only [ofB, List.map_cons, List.map_nil, UInt8.reduceToNat, Int.cast_ofNat_Int]; exact rfl))) (hy : PS.get ⟨n, tm, S⟩ y = .v (.string (str b)) := by first | ((conv => lhs; whnf) <;> fail "no") | exact strlit (by ((conv => lhs; whnf) <;> fail "no")) (str_ofB' (by simp only [ofB, List.map_cons, List.map_nil, UInt8.reduceToNat, Int.cast_ofNat_Int]; exact rfl))) (ha : Oct a := by first | assumption | decide | exact oct_take (by assumption) _ | exact oct_drop (by assumption) _) (hb : Oct b := by first | assumption | decide | exact oct_take (by assumption) _ | exact oct_drop (by assumption) _) (h : ¬ a = b := by first | assumption | decide) : EvR P (⟨.binOp .eql t x y t', some d, none⟩ :: rest) ⟨n, tm, S⟩ σ' n' := by
  refine er_step ?_ k
  simp only [ev, binPV, hx, hy, scalarBin, strBin, str_eq ha hb, decide_eq_false h, Option.map_some, Bool.not_false]
theorem es_seq {t t' : TypeId} {a b : List Int} (k : EvR P rest ⟨n, (d, .v (.bool (decide (a = b)))) :: tm, S⟩ σ' n') (hx : PS.get ⟨n, tm, S⟩ x = .v (.string (str a)) := by first | ((conv => lhs; whnf) <;> fail "no") | exact strlit (by ((conv => lhs; whnf) <;> fail "no")) (str_ofB' (by simp only [ofB, List.map_cons, List.map_nil, UInt8.reduceToNat, Int.cast_ofNat_Int]; exact rfl))) (hy : PS.get ⟨n, tm, S⟩ y = .v (.string (str b)) := by first | ((conv => lhs; whnf) <;> fail "no") | exact strlit (by ((conv => lhs; whnf) <;> fail "no")) (str_ofB' (by simp only [ofB, List.map_cons, List.map_nil, UInt8.reduceToNat, Int.cast_ofNat_Int]; exact rfl))) (ha : Oct a := by first | assumption | decide | exact oct_take (by assumption) _ | exact oct_drop (by assumption) _) (hb : Oct b := by first | assumption | decide | exact oct_take (by assumption) _ | exact oct_drop (by assumption) _) : EvR P (⟨.binOp .eql t x y t', some d, none⟩ :: rest) ⟨n, tm, S⟩ σ' n' := by
  refine er_step ?_ k
  simp only [ev, binPV, hx, hy, scalarBin, strBin, str_eq ha hb, Option.map_some]
theorem es_sne_t {t t' : TypeId} {a b : List Int} (k : EvR P rest ⟨n, (d, .v (.bool false)) :: tm, S⟩ σ' n') (hx : PS.get ⟨n, tm, S⟩ x = .v (.string (str a)) := by first | ((conv => lhs; whnf) <;> fail "no") | exact strlit (by ((conv => lhs; whnf) <;> fail "no")) (str_ofB' (by simp only [ofB, List.map_cons, List.map_nil, UInt8.reduceToNat, Int.cast_ofNat_Int]; exact rfl))) (hy : PS.get ⟨n, tm, S⟩ y = .v (.string (str b)) := by first | ((conv => lhs; whnf) <;> fail "no") | exact strlit (by ((conv => lhs; whnf) <;> fail "no")) (str_ofB' (by simp only [ofB, List.map_cons, List.map_nil, UInt8.reduceToNat, Int.cast_ofNat_Int]; exact rfl))) (ha : Oct a := by first | assumption | decide | exact oct_take (by assumption) _ | exact oct_drop (by assumption) _) (hb : Oct b := by first | assumption | decide | exact oct_take (by assumption) _ | exact oct_drop (by assumption) _) (h : a = b := by first | assumption | rfl) : EvR P (⟨.binOp .neq t x y t', some d, none⟩ :: rest) ⟨n, tm, S⟩ σ' n' := by
  refine er_step ?_ k
  simp only [ev, binPV, hx, hy, scalarBin, strBin, str_eq ha hb, decide_eq_true h, Option.map_some, Bool.not_true]
theorem es_sne_f {t t' : TypeId} {a b : List Int} (k : EvR P rest ⟨n, (d, .v (.bool true)) :: tm, S⟩ σ' n') (hx : PS.get ⟨n, tm, S⟩ x = .v (.string (str a)) := by first | ((conv => lhs; whnf) <;> fail "no") | exact strlit (by ((conv => lhs; whnf) <;> fail "no")) (str_ofB' (by simp only [ofB, List.map_cons, List.map_nil, UInt8.reduceToNat, Int.cast_ofNat_Int]; exact rfl))) (hy : PS.get ⟨n, tm, S⟩ y = .v (.string (str b)) := by first | ((conv => lhs; whnf) <;> fail "no") | exact strlit (by ((conv => lhs; whnf) <;> fail "no")) (str_ofB' (by simp only [ofB, List.map_cons, List.map_nil, UInt8.reduceToNat, Int.cast_ofNat_Int]; exact rfl))) (ha : Oct a := by first | assumption | decide | exact oct_take (by assumption) _ | exact oct_drop (by assumption) _) (hb : Oct b := by first | assumption | decide | exact oct_take (by assumption) _ | exact oct_drop (by assumption) _) (h : ¬ a = b := by first | assumption | decide) : EvR P (⟨.binOp .neq t x y t', some d, none⟩ :: rest) ⟨n, tm, S⟩ σ' n' := by
  refine er_step ?_ k
  simp only [ev, binPV, hx, hy, scalarBin, strBin, str_eq ha hb, decide_eq_false h, Option.map_some, Bool.not_false]
theorem es_sne {t t' : TypeId} {a b : List Int} (k : EvR P rest ⟨n, (d, .v (.bool (!decide (a = b)))) :: tm, S⟩ σ' n') (hx : PS.get ⟨n, tm, S⟩ x = .v (.string (str a)) := by first | ((conv => lhs; whnf) <;> fail "no") | exact strlit (by ((conv => lhs; whnf) <;> fail "no")) (str_ofB' (by simp only [ofB, List.map_cons, List.map_nil, UInt8.reduceToNat, Int.cast_ofNat_Int]; exact rfl))) (hy : PS.get ⟨n, tm, S⟩ y = .v (.string (str b)) := by first | ((conv => lhs; whnf) <;> fail "no") | exact strlit (by ((conv => lhs; whnf) <;> fail "no")) (str_ofB' (by simp only [ofB, List.map_cons, List.map_nil, UInt8.reduceToNat, Int.cast_ofNat_Int]; exact rfl))) (ha : Oct a := by first | assumption | decide | exact oct_take (by assumption) _ | exact oct_drop (by assumption) _) (hb : Oct b := by first | assumption | decide | exact oct_take (by assumption) _ | exact oct_drop (by assumption) _) : EvR P (⟨.binOp .neq t x y t', some d, none⟩ :: rest) ⟨n, tm, S⟩ σ' n' := by
  refine er_step ?_ k
  simp only [ev, binPV, hx, hy, scalarBin, strBin, str_eq ha hb, Option.map_some]
theorem es_sadd {t t' : TypeId} {a b c : List Int} (k : EvR P rest ⟨n, (d, .v (.string (str c))) :: tm, S⟩ σ' n') (hx : PS.get ⟨n, tm, S⟩ x = .v (.string (str a)) := by first | ((conv => lhs; whnf) <;> fail "no") | exact strlit (by ((conv => lhs; whnf) <;> fail "no")) (str_ofB' (by simp only [ofB, List.map_cons, List.map_nil, UInt8.reduceToNat, Int.cast_ofNat_Int]; exact rfl))) (hy : PS.get ⟨n, tm, S⟩ y = .v (.string (str b)) := by first | ((conv => lhs; whnf) <;> fail "no") | exact strlit (by ((conv => lhs; whnf) <;> fail "no")) (str_ofB' (by simp only [ofB, List.map_cons, List.map_nil, UInt8.reduceToNat, Int.cast_ofNat_Int]; exact rfl))) (hl : ((a.length + b.length : Nat) : Int) ≤ 9223372036854775807 := by first | omega | (simp only [List.length_cons, List.length_nil, List.length_append]; omega)) (hc : a ++ b = c := by first | (simp only [List.nil_append, List.cons_append, List.append_nil]; exact rfl) | exact rfl) : EvR P (⟨.binOp .add t x y t', some d, none⟩ :: rest) ⟨n, tm, S⟩ σ' n' := by
  refine er_step ?_ k
  have hl' : ¬ (((str a).size + (str b).size : Nat) : Int) > 9223372036854775807 := by rw [str_size, str_size]; omega
  simp only [ev, binPV, hx, hy, scalarBin, strBin, if_neg hl', str_append, hc, Option.map_some]
theorem es_ssl_h {t : TypeId} [hu : Und P t .string] {l l' : List Int} {k0 : IntKind} {i : Int} (k : EvR P rest ⟨n, (d, .v (.string (str l'))) :: tm, S⟩ σ' n') (hx : PS.get ⟨n, tm, S⟩ x = .v (.string (str l)) := by first | ((conv => lhs; whnf) <;> fail "no") | exact strlit (by ((conv => lhs; whnf) <;> fail "no")) (str_ofB' (by simp only [ofB, List.map_cons, List.map_nil, UInt8.reduceToNat, Int.cast_ofNat_Int]; exact rfl))) (hy : PS.get ⟨n, tm, S⟩ y = .v (.int k0 i) := by ((conv => lhs; whnf) <;> fail "no")) (h0 : 0 ≤ i := by omega) (h1 : i ≤ (l.length : Int) := by first | omega | (simp only [List.length_cons, List.length_nil]; omega)) (hl : l.take i.toNat = l' := by first | (simp only [Int.reduceToNat, List.take_succ_cons, List.take_zero]; exact rfl) | exact rfl) : EvR P (⟨.slice t x none (some y) none, some d, none⟩ :: rest) ⟨n, tm, S⟩ σ' n' := by
  refine er_step ?_ k
  have hn : ¬ i < 0 := by omega
  have h2 : i.toNat ≤ l.length := by omega
  simp [ev, slicePV, hu.h, hx, hy, boundPV, intPV, hn, str_size, h2, str_extract, hl]
theorem es_ssl_l {t : TypeId} [hu : Und P t .string] {l l' : List Int} {k0 : IntKind} {i : Int} (k : EvR P rest ⟨n, (d, .v (.string (str l'))) :: tm, S⟩ σ' n') (hx : PS.get ⟨n, tm, S⟩ x = .v (.string (str l)) := by first | ((conv => lhs; whnf) <;> fail "no") | exact strlit (by ((conv => lhs; whnf) <;> fail "no")) (str_ofB' (by simp only [ofB, List.map_cons, List.map_nil, UInt8.reduceToNat, Int.cast_ofNat_Int]; exact rfl))) (hy : PS.get ⟨n, tm, S⟩ y = .v (.int k0 i) := by ((conv => lhs; whnf) <;> fail "no")) (h0 : 0 ≤ i := by omega) (h1 : i ≤ (l.length : Int) := by first | omega | (simp only [List.length_cons, List.length_nil]; omega)) (hl : l.drop i.toNat = l' := by first | (simp only [Int.reduceToNat, List.drop_succ_cons, List.drop_zero]; exact rfl) | exact rfl) : EvR P (⟨.slice t x (some y) none none, some d, none⟩ :: rest) ⟨n, tm, S⟩ σ' n' := by
  refine er_step ?_ k
  subst hl
  have hn : ¬ i < 0 := by omega
  have h2 : i.toNat ≤ l.length := by omega
  have h3 : (l.drop i.toNat).take (l.length - i.toNat) = l.drop i.toNat := List.take_of_length_le (by simp)
  simp [ev, slicePV, hu.h, hx, hy, boundPV, intPV, hn, str_size, h2, str_extract, h3]
theorem es_ssl_b {t : TypeId} [hu : Und P t .string] {l l' : List Int} {k0 k1 : IntKind} {i j : Int} (k : EvR P rest ⟨n, (d, .v (.string (str l'))) :: tm, S⟩ σ' n') (hx : PS.get ⟨n, tm, S⟩ x = .v (.string (str l)) := by first | ((conv => lhs; whnf) <;> fail "no") | exact strlit (by ((conv => lhs; whnf) <;> fail "no")) (str_ofB' (by simp only [ofB, List.map_cons, List.map_nil, UInt8.reduceToNat, Int.cast_ofNat_Int]; exact rfl))) (hy : PS.get ⟨n, tm, S⟩ y = .v (.int k0 i) := by ((conv => lhs; whnf) <;> fail "no")) (hz : PS.get ⟨n, tm, S⟩ z = .v (.int k1 j) := by ((conv => lhs; whnf) <;> fail "no")) (h0 : 0 ≤ i := by omega) (h1 : i ≤ j := by omega) (h2 : j ≤ (l.length : Int) := by first | omega | (simp only [List.length_cons, List.length_nil]; omega)) (hl : (l.drop i.toNat).take (j.toNat - i.toNat) = l' := by first | (simp only [Int.reduceToNat, Nat.reduceSub, List.drop_succ_cons, List.drop_zero, List.take_succ_cons, List.take_zero]; exact rfl) | exact rfl) : EvR P (⟨.slice t x (some y) (some z) none, some d, none⟩ :: rest) ⟨n, tm, S⟩ σ' n' := by
  refine er_step ?_ k
  have hn : ¬ i < 0 := by omega
  have hm : ¬ j < 0 := by omega
  have h3 : j.toNat ≤ l.length := by omega
  have h4 : i.toNat ≤ j.toNat := by omega
  simp [ev, slicePV, hu.h, hx, hy, hz, boundPV, intPV, hn, hm, str_size, h3, h4, str_extract, hl]
theorem es_aeq_t {t t' : TypeId} {fs : List (Nat × SK)} [hq : EqS P t fs] {xs ys : List PV} (k : EvR P rest ⟨n, (d, .v (.bool true)) :: tm, S⟩ σ' n') (hx : PS.get ⟨n, tm, S⟩ x = .agg xs := by ((conv => lhs; whnf) <;> fail "no")) (hy : PS.get ⟨n, tm, S⟩ y = .agg ys := by ((conv => lhs; whnf) <;> fail "no")) (hr : eqCells xs ys fs = some true := by ((simp only [eqCells, skEq, List.getElem?_cons_zero, List.getElem?_cons_succ, if_true, decide_true, Bool.and_self, beq_self_eq_true]) <;> fail "no")) : EvR P (⟨.binOp .eql t x y t', some d, none⟩ :: rest) ⟨n, tm, S⟩ σ' n' := by
  refine er_step ?_ k
  simp only [ev, binPV, hx, hy, aggBin, hq.h, hr, Bool.not_true]
theorem es_ane_f {t t' : TypeId} {fs : List (Nat × SK)} [hq : EqS P t fs] {xs ys : List PV} (k : EvR P rest ⟨n, (d, .v (.bool false)) :: tm, S⟩ σ' n') (hx : PS.get ⟨n, tm, S⟩ x = .agg xs := by ((conv => lhs; whnf) <;> fail "no")) (hy : PS.get ⟨n, tm, S⟩ y = .agg ys := by ((conv => lhs; whnf) <;> fail "no")) (hr : eqCells xs ys fs = some true := by ((simp only [eqCells, skEq, List.getElem?_cons_zero, List.getElem?_cons_succ, if_true, decide_true, Bool.and_self, beq_self_eq_true]) <;> fail "no")) : EvR P (⟨.binOp .neq t x y t', some d, none⟩ :: rest) ⟨n, tm, S⟩ σ' n' := by
  refine er_step ?_ k
  simp only [ev, binPV, hx, hy, aggBin, hq.h, hr, Bool.not_true]
theorem es_aeq {t t' : TypeId} {fs : List (Nat × SK)} [hq : EqS P t fs] {xs ys : List PV} {r : Bool} (k : EvR P rest ⟨n, (d, .v (.bool (r))) :: tm, S⟩ σ' n') (hx : PS.get ⟨n, tm, S⟩ x = .agg xs := by ((conv => lhs; whnf) <;> fail "no")) (hy : PS.get ⟨n, tm, S⟩ y = .agg ys := by ((conv => lhs; whnf) <;> fail "no")) (hr : eqCells xs ys fs = some r := by (simp only [eqCells, skEq, List.getElem?_cons_zero, List.getElem?_cons_succ, if_true, Bool.and_true]; exact rfl)) : EvR P (⟨.binOp .eql t x y t', some d, none⟩ :: rest) ⟨n, tm, S⟩ σ' n' := by
  refine er_step ?_ k
  simp only [ev, binPV, hx, hy, aggBin, hq.h, hr]
theorem es_ane {t t' : TypeId} {fs : List (Nat × SK)} [hq : EqS P t fs] {xs ys : List PV} {r : Bool} (k : EvR P rest ⟨n, (d, .v (.bool (!r))) :: tm, S⟩ σ' n') (hx : PS.get ⟨n, tm, S⟩ x = .agg xs := by ((conv => lhs; whnf) <;> fail "no")) (hy : PS.get ⟨n, tm, S⟩ y = .agg ys := by ((conv => lhs; whnf) <;> fail "no")) (hr : eqCells xs ys fs = some r := by (simp only [eqCells, skEq, List.getElem?_cons_zero, List.getElem?_cons_succ, if_true, Bool.and_true]; exact rfl)) : EvR P (⟨.binOp .neq t x y t', some d, none⟩ :: rest) ⟨n, tm, S⟩ σ' n' := by
  refine er_step ?_ k
  simp only [ev, binPV, hx, hy, aggBin, hq.h, hr]
theorem es_beq {t t' : TypeId} [hu : Und P t .bool] {a b : Bool} {c : Bool} (k : EvR P rest ⟨n, (d, .v (.bool c)) :: tm, S⟩ σ' n') (hx : PS.get ⟨n, tm, S⟩ x = .v (.bool a) := by ((conv => lhs; whnf) <;> fail "no")) (hy : PS.get ⟨n, tm, S⟩ y = .v (.bool b) := by ((conv => lhs; whnf) <;> fail "no")) (hc : (a == b) = c := by first | exact beq_self_eq_true _ | (simp only [beq_self_eq_true, Bool.beq_true, Bool.true_beq, Bool.beq_false, Bool.false_beq]; exact rfl) | exact rfl) : EvR P (⟨.binOp .eql t x y t', some d, none⟩ :: rest) ⟨n, tm, S⟩ σ' n' := by
  refine er_step ?_ k
  simp only [ev, binPV, hx, hy, scalarBin, hu.h, boolBin, hc, Option.map_some]
theorem es_bne {t t' : TypeId} [hu : Und P t .bool] {a b : Bool} {c : Bool} (k : EvR P rest ⟨n, (d, .v (.bool c)) :: tm, S⟩ σ' n') (hx : PS.get ⟨n, tm, S⟩ x = .v (.bool a) := by ((conv => lhs; whnf) <;> fail "no")) (hy : PS.get ⟨n, tm, S⟩ y = .v (.bool b) := by ((conv => lhs; whnf) <;> fail "no")) (hc : (!(a == b)) = c := by first | exact bne_self _ | (simp only [beq_self_eq_true, Bool.beq_true, Bool.true_beq, Bool.beq_false, Bool.false_beq]; exact rfl) | exact rfl) : EvR P (⟨.binOp .neq t x y t', some d, none⟩ :: rest) ⟨n, tm, S⟩ σ' n' := by
  refine er_step ?_ k
  simp only [ev, binPV, hx, hy, scalarBin, hu.h, boolBin, hc, Option.map_some]
theorem es_bld {t : TypeId} {l : List (Nat × Nat)} {zr cs0 cs : List PV} {parts : Array (Nat × Operand)} {ps : List (Nat × PV)} [hl : Lay P t l] [hz : Zer P t zr] (k : EvR P rest ⟨n, (d, .agg cs) :: tm, S⟩ σ' n') (hp : (parts.toList.map fun p => (p.1, PS.get ⟨n, tm, S⟩ p.2)) = ps := by first | (simp only [List.map_cons, List.map_nil, PS.get, look, ofValue, ↓reduceIte, Nat.reduceEqDiff, reduceCtorEq]; exact rfl) | rfl) (hb : fillPV (fun i => l[i]?) zr ps = some cs0 := by rfl) (hn : cs0 = cs := by first | (simp only [List.take_succ_cons, List.take_zero, List.drop_succ_cons, List.drop_zero, List.cons_append, List.nil_append, List.append_nil, Nat.reduceAdd, Nat.zero_add, List.length_cons, List.length_nil, List.drop_nil, List.take_nil]; exact rfl) | exact rfl) : EvR P (⟨.build t parts, some d, none⟩ :: rest) ⟨n, tm, S⟩ σ' n' := by
  refine er_step ?_ k
  subst hn
  simp only [ev, hp]
  exact build_lay hl.h hz.h hb
theorem es_aix {t e : TypeId} {m c : Nat} [hu : Und P t (.array m e)] [ha : AggT P e false] [hc : Cel P e c] {cs : List PV} {p : PV} {k0 : IntKind} {i : Int} (k : EvR P rest ⟨n, (d, p) :: tm, S⟩ σ' n') (hx : PS.get ⟨n, tm, S⟩ x = .agg cs := by ((conv => lhs; whnf) <;> fail "no")) (hy : PS.get ⟨n, tm, S⟩ y = .v (.int k0 i) := by ((conv => lhs; whnf) <;> fail "no")) (h0 : 0 ≤ i := by omega) (h1 : i < (m : Int) := by omega) (hp : cs[i.toNat * c]? = some p := by ((conv => lhs; whnf) <;> fail "no")) : EvR P (⟨.index t x y, some d, none⟩ :: rest) ⟨n, tm, S⟩ σ' n' := by
  refine er_step ?_ k
  have hn : ¬ i < 0 := by omega
  simp only [ev, indexPV, hx, hy, intPV, if_neg hn, hu.h, ha.h.2, h1, decide_true, Bool.and_self, if_true, partPV, ha.h.1, Bool.false_eq_true, if_false, hc.h, hp]
theorem es_eqp_nil {t t' e : TypeId} [ht : Und P t (.pointer e)] (k : EvR P rest ⟨n, (d, .v (.bool true)) :: tm, S⟩ σ' n') (hx : PS.get ⟨n, tm, S⟩ x = .v (.pointer none) := by ((conv => lhs; whnf) <;> fail "no")) (hy : PS.get ⟨n, tm, S⟩ y = .v (.pointer none) := by ((conv => lhs; whnf) <;> fail "no")) : EvR P (⟨.binOp .eql t x y t', some d, none⟩ :: rest) ⟨n, tm, S⟩ σ' n' := by
  refine er_step ?_ k
  simp only [ev, binPV, hx, hy, scalarBin, ht.h, nilBin, Option.map_some, Bool.not_true]
theorem es_eqp_ptr {t t' e : TypeId} {τ g i off : Nat} {blk : Blk} [ht : Und P t (.pointer e)] (k : EvR P rest ⟨n, (d, .v (.bool false)) :: tm, S⟩ σ' n') (hx : PS.get ⟨n, tm, S⟩ x = .ptr τ g i off := by ((conv => lhs; whnf) <;> fail "no")) (hy : PS.get ⟨n, tm, S⟩ y = .v (.pointer none) := by ((conv => lhs; whnf) <;> fail "no")) (hb : S[τ]? = some blk := by first | ((conv => lhs; whnf) <;> fail "no") | exact rfl | assumption) (hg : blk.gen = g := by rfl) : EvR P (⟨.binOp .eql t x y t', some d, none⟩ :: rest) ⟨n, tm, S⟩ σ' n' := by
  refine er_step ?_ k
  have hal : alive S τ g = true := by simp [alive, hb, hg]
  simp only [ev, binPV, hx, hy, nilOf, notNil, hal, Bool.and_self, if_true, ht.h, nilBin, Option.map_some, Bool.not_false]
theorem es_nep_nil {t t' e : TypeId} [ht : Und P t (.pointer e)] (k : EvR P rest ⟨n, (d, .v (.bool false)) :: tm, S⟩ σ' n') (hx : PS.get ⟨n, tm, S⟩ x = .v (.pointer none) := by ((conv => lhs; whnf) <;> fail "no")) (hy : PS.get ⟨n, tm, S⟩ y = .v (.pointer none) := by ((conv => lhs; whnf) <;> fail "no")) : EvR P (⟨.binOp .neq t x y t', some d, none⟩ :: rest) ⟨n, tm, S⟩ σ' n' := by
  refine er_step ?_ k
  simp only [ev, binPV, hx, hy, scalarBin, ht.h, nilBin, Option.map_some, Bool.not_true]
theorem es_nep_ptr {t t' e : TypeId} {τ g i off : Nat} {blk : Blk} [ht : Und P t (.pointer e)] (k : EvR P rest ⟨n, (d, .v (.bool true)) :: tm, S⟩ σ' n') (hx : PS.get ⟨n, tm, S⟩ x = .ptr τ g i off := by ((conv => lhs; whnf) <;> fail "no")) (hy : PS.get ⟨n, tm, S⟩ y = .v (.pointer none) := by ((conv => lhs; whnf) <;> fail "no")) (hb : S[τ]? = some blk := by first | ((conv => lhs; whnf) <;> fail "no") | exact rfl | assumption) (hg : blk.gen = g := by rfl) : EvR P (⟨.binOp .neq t x y t', some d, none⟩ :: rest) ⟨n, tm, S⟩ σ' n' := by
  refine er_step ?_ k
  have hal : alive S τ g = true := by simp [alive, hb, hg]
  simp only [ev, binPV, hx, hy, nilOf, notNil, hal, Bool.and_self, if_true, ht.h, nilBin, Option.map_some, Bool.not_false]
theorem es_vsl_h {t e : TypeId} {de : TypeDesc} {sz : Nat} {τ g off len o' ln : Nat} {blk : Blk} [ht : Und P t (.slice e)] [hd : Und P e de] [hc : Cel P e sz] {k0 : IntKind} {i : Int} (k : EvR P rest ⟨n, (d, .vw τ g o' ln) :: tm, S⟩ σ' n') (hx : PS.get ⟨n, tm, S⟩ x = .vw τ g off len := by ((conv => lhs; whnf) <;> fail "no")) (hy : PS.get ⟨n, tm, S⟩ y = .v (.int k0 i) := by ((conv => lhs; whnf) <;> fail "no")) (h0 : 0 ≤ i := by omega) (h1 : i ≤ (len : Int) := by omega) (hb : S[τ]? = some blk := by first | ((conv => lhs; whnf) <;> fail "no") | exact rfl | assumption) (hg : blk.gen = g := by rfl) (hsz : blk.sz = sz := by rfl) (ho : off + 0 = o' := by first | (simp only [Nat.zero_add, Nat.add_zero]; exact rfl) | exact rfl) (hln : i.toNat - 0 = ln := by first | (simp only [Nat.sub_zero]; exact rfl) | exact rfl) : EvR P (⟨.slice t x none (some y) none, some d, none⟩ :: rest) ⟨n, tm, S⟩ σ' n' := by
  refine er_step ?_ k
  have hk : known P e = true := by simp [known, hd.h]
  have hal : alive S τ g = true := by simp [alive, hb, hg]
  have hmap : S[τ]?.map (·.sz) = some sz := by rw [hb, ← hsz]; rfl
  subst ho hln
  have hn : ¬ i < 0 := by omega
  have h2 : i.toNat ≤ len := by omega
  simp [ev, slicePV, ht.h, hx, hy, boundPV, intPV, hn, hk, hc.h, hal, hmap, h2]
theorem es_vsl_l {t e : TypeId} {de : TypeDesc} {sz : Nat} {τ g off len o' ln : Nat} {blk : Blk} [ht : Und P t (.slice e)] [hd : Und P e de] [hc : Cel P e sz] {k0 : IntKind} {i : Int} (k : EvR P rest ⟨n, (d, .vw τ g o' ln) :: tm, S⟩ σ' n') (hx : PS.get ⟨n, tm, S⟩ x = .vw τ g off len := by ((conv => lhs; whnf) <;> fail "no")) (hy : PS.get ⟨n, tm, S⟩ y = .v (.int k0 i) := by ((conv => lhs; whnf) <;> fail "no")) (h0 : 0 ≤ i := by omega) (h1 : i ≤ (len : Int) := by omega) (hb : S[τ]? = some blk := by first | ((conv => lhs; whnf) <;> fail "no") | exact rfl | assumption) (hg : blk.gen = g := by rfl) (hsz : blk.sz = sz := by rfl) (ho : off + i.toNat = o' := by first | (simp only [Nat.zero_add, Nat.add_zero]; exact rfl) | exact rfl) (hln : len - i.toNat = ln := by first | (simp only [Nat.sub_zero]; exact rfl) | exact rfl) : EvR P (⟨.slice t x (some y) none none, some d, none⟩ :: rest) ⟨n, tm, S⟩ σ' n' := by
  refine er_step ?_ k
  have hk : known P e = true := by simp [known, hd.h]
  have hal : alive S τ g = true := by simp [alive, hb, hg]
  have hmap : S[τ]?.map (·.sz) = some sz := by rw [hb, ← hsz]; rfl
  subst ho hln
  have hn : ¬ i < 0 := by omega
  have h2 : i.toNat ≤ len := by omega
  simp [ev, slicePV, ht.h, hx, hy, boundPV, intPV, hn, hk, hc.h, hal, hmap, h2]
theorem es_vsl_b {t e : TypeId} {de : TypeDesc} {sz : Nat} {τ g off len o' ln : Nat} {blk : Blk} [ht : Und P t (.slice e)] [hd : Und P e de] [hc : Cel P e sz] {k0 k1 : IntKind} {i j : Int} (k : EvR P rest ⟨n, (d, .vw τ g o' ln) :: tm, S⟩ σ' n') (hx : PS.get ⟨n, tm, S⟩ x = .vw τ g off len := by ((conv => lhs; whnf) <;> fail "no")) (hy : PS.get ⟨n, tm, S⟩ y = .v (.int k0 i) := by ((conv => lhs; whnf) <;> fail "no")) (hz : PS.get ⟨n, tm, S⟩ z = .v (.int k1 j) := by ((conv => lhs; whnf) <;> fail "no")) (h0 : 0 ≤ i := by omega) (h1 : i ≤ j := by omega) (h2 : j ≤ (len : Int) := by omega) (hb : S[τ]? = some blk := by first | ((conv => lhs; whnf) <;> fail "no") | exact rfl | assumption) (hg : blk.gen = g := by rfl) (hsz : blk.sz = sz := by rfl) (ho : off + i.toNat = o' := by first | (simp only [Nat.zero_add, Nat.add_zero]; exact rfl) | exact rfl) (hln : j.toNat - i.toNat = ln := by first | (simp only [Nat.sub_zero]; exact rfl) | exact rfl) : EvR P (⟨.slice t x (some y) (some z) none, some d, none⟩ :: rest) ⟨n, tm, S⟩ σ' n' := by
  refine er_step ?_ k
  have hk : known P e = true := by simp [known, hd.h]
  have hal : alive S τ g = true := by simp [alive, hb, hg]
  have hmap : S[τ]?.map (·.sz) = some sz := by rw [hb, ← hsz]; rfl
  subst ho hln
  have hn : ¬ i < 0 := by omega
  have hm : ¬ j < 0 := by omega
  have h3 : j.toNat ≤ len := by omega
  have h4 : i.toNat ≤ j.toNat := by omega
  simp [ev, slicePV, ht.h, hx, hy, hz, boundPV, intPV, hn, hm, hk, hc.h, hal, hmap, h3, h4]
theorem es_vsl_3 {t e : TypeId} {de : TypeDesc} {sz : Nat} {τ g off len o' ln : Nat} {blk : Blk} [ht : Und P t (.slice e)] [hd : Und P e de] [hc : Cel P e sz] {u : Operand} {k0 k1 k2 : IntKind} {i j k' : Int} (k : EvR P rest ⟨n, (d, .vw τ g o' ln) :: tm, S⟩ σ' n') (hx : PS.get ⟨n, tm, S⟩ x = .vw τ g off len := by ((conv => lhs; whnf) <;> fail "no")) (hy : PS.get ⟨n, tm, S⟩ y = .v (.int k0 i) := by ((conv => lhs; whnf) <;> fail "no")) (hz : PS.get ⟨n, tm, S⟩ z = .v (.int k1 j) := by ((conv => lhs; whnf) <;> fail "no")) (hu : PS.get ⟨n, tm, S⟩ u = .v (.int k2 k') := by ((conv => lhs; whnf) <;> fail "no")) (h0 : 0 ≤ i := by omega) (h1 : i ≤ j := by omega) (h2 : j ≤ k' := by omega) (h5 : k' ≤ (len : Int) := by omega) (hb : S[τ]? = some blk := by first | ((conv => lhs; whnf) <;> fail "no") | exact rfl | assumption) (hg : blk.gen = g := by rfl) (hsz : blk.sz = sz := by rfl) (ho : off + i.toNat = o' := by first | (simp only [Nat.zero_add, Nat.add_zero]; exact rfl) | exact rfl) (hln : j.toNat - i.toNat = ln := by first | (simp only [Nat.sub_zero]; exact rfl) | exact rfl) : EvR P (⟨.slice t x (some y) (some z) (some u), some d, none⟩ :: rest) ⟨n, tm, S⟩ σ' n' := by
  refine er_step ?_ k
  have hk : known P e = true := by simp [known, hd.h]
  have hal : alive S τ g = true := by simp [alive, hb, hg]
  have hmap : S[τ]?.map (·.sz) = some sz := by rw [hb, ← hsz]; rfl
  subst ho hln
  have hn : ¬ i < 0 := by omega
  have hm : ¬ j < 0 := by omega
  have hq : ¬ k' < 0 := by omega
  have h3 : j.toNat ≤ k'.toNat := by omega
  have h4 : i.toNat ≤ j.toNat := by omega
  have h6 : k'.toNat ≤ len := by omega
  simp [ev, slicePV, ht.h, hx, hy, hz, hu, boundPV, intPV, hn, hm, hq, hk, hc.h, hal, hmap, h3, h4, h6]
theorem es_aixc {t e : TypeId} {m : Nat} [hu : Und P t (.array m e)] [ha : AggT P e false] [hc : Cel P e 1] {kk : IntKind} {l : List Int} {k0 : IntKind} {i v : Int} (k : EvR P rest ⟨n, (d, .v (.int kk v)) :: tm, S⟩ σ' n') (hx : PS.get ⟨n, tm, S⟩ x = .agg (ci kk l) := by ((conv => lhs; whnf) <;> fail "no")) (hy : PS.get ⟨n, tm, S⟩ y = .v (.int k0 i) := by ((conv => lhs; whnf) <;> fail "no")) (hl : l.length = m := by first | assumption | rfl) (h0 : 0 ≤ i := by omega) (h1 : i < (m : Int) := by omega) (hv : l.getD i.toNat 0 = v := by exact rfl) : EvR P (⟨.index t x y, some d, none⟩ :: rest) ⟨n, tm, S⟩ σ' n' := by
  refine er_step ?_ k
  have hn : ¬ i < 0 := by omega
  have hg := ci_get kk l i.toNat (by omega)
  rw [hv] at hg
  simp only [ev, indexPV, hx, hy, intPV, if_neg hn, hu.h, ha.h.2, h1, decide_true, Bool.and_self, if_true, partPV, ha.h.1, Bool.false_eq_true, if_false, hc.h, Nat.mul_one, hg]
theorem es_rsl_h {t e : TypeId} {de : TypeDesc} {sz : Nat} {rows rows' : List (List PV)} {k0 : IntKind} {i : Int} [ht : Und P t (.slice e)] [hd : Und P e de] [hc : Cel P e sz] (k : EvR P rest ⟨n, (d, .ro sz false rows') :: tm, S⟩ σ' n') (hx : PS.get ⟨n, tm, S⟩ x = .ro sz false rows := by ((conv => lhs; whnf) <;> fail "no")) (hy : PS.get ⟨n, tm, S⟩ y = .v (.int k0 i) := by ((conv => lhs; whnf) <;> fail "no")) (h0 : 0 ≤ i := by omega) (h1 : i ≤ (rows.length : Int) := by first | omega | (simp only [List.length_map, List.length_cons, List.length_nil, List.length_append, List.length_take, List.length_drop]; omega)) (hl : rows.take i.toNat = rows' := by first | assumption | rfl) : EvR P (⟨.slice t x none (some y) none, some d, none⟩ :: rest) ⟨n, tm, S⟩ σ' n' := by
  refine er_step ?_ k
  subst hl
  have hk : known P e = true := by simp [known, hd.h]
  have hn : ¬ i < 0 := by omega
  have h2 : i.toNat ≤ rows.length := by omega
  simp [ev, slicePV, ht.h, hx, hy, boundPV, intPV, hn, hk, hc.h, h2]
theorem es_rsl_l {t e : TypeId} {de : TypeDesc} {sz : Nat} {rows rows' : List (List PV)} {k0 : IntKind} {i : Int} [ht : Und P t (.slice e)] [hd : Und P e de] [hc : Cel P e sz] {f : Bool} (k : EvR P rest ⟨n, (d, .ro sz f rows') :: tm, S⟩ σ' n') (hx : PS.get ⟨n, tm, S⟩ x = .ro sz f rows := by ((conv => lhs; whnf) <;> fail "no")) (hy : PS.get ⟨n, tm, S⟩ y = .v (.int k0 i) := by ((conv => lhs; whnf) <;> fail "no")) (h0 : 0 ≤ i := by omega) (h1 : i ≤ (rows.length : Int) := by first | omega | (simp only [List.length_map, List.length_cons, List.length_nil, List.length_append, List.length_take, List.length_drop]; omega)) (hl : rows.drop i.toNat = rows' := by first | assumption | rfl) : EvR P (⟨.slice t x (some y) none none, some d, none⟩ :: rest) ⟨n, tm, S⟩ σ' n' := by
  refine er_step ?_ k
  subst hl
  have hk : known P e = true := by simp [known, hd.h]
  have hn : ¬ i < 0 := by omega
  have h2 : i.toNat ≤ rows.length := by omega
  have h3 : List.take (rows.length - i.toNat) (rows.drop i.toNat) = rows.drop i.toNat := by rw [List.take_of_length_le]; simp
  simp [ev, slicePV, ht.h, hx, hy, boundPV, intPV, hn, hk, hc.h, h2, h3]
theorem es_rsl_b {t e : TypeId} {de : TypeDesc} {sz : Nat} {rows rows' : List (List PV)} {k0 : IntKind} {i : Int} [ht : Und P t (.slice e)] [hd : Und P e de] [hc : Cel P e sz] {k1 : IntKind} {j : Int} (k : EvR P rest ⟨n, (d, .ro sz false rows') :: tm, S⟩ σ' n') (hx : PS.get ⟨n, tm, S⟩ x = .ro sz false rows := by ((conv => lhs; whnf) <;> fail "no")) (hy : PS.get ⟨n, tm, S⟩ y = .v (.int k0 i) := by ((conv => lhs; whnf) <;> fail "no")) (hz : PS.get ⟨n, tm, S⟩ z = .v (.int k1 j) := by ((conv => lhs; whnf) <;> fail "no")) (h0 : 0 ≤ i := by omega) (h1 : i ≤ j := by omega) (h2 : j ≤ (rows.length : Int) := by first | omega | (simp only [List.length_map, List.length_cons, List.length_nil, List.length_append, List.length_take, List.length_drop]; omega)) (hl : (rows.drop i.toNat).take (j.toNat - i.toNat) = rows' := by first | assumption | rfl) : EvR P (⟨.slice t x (some y) (some z) none, some d, none⟩ :: rest) ⟨n, tm, S⟩ σ' n' := by
  refine er_step ?_ k
  subst hl
  have hk : known P e = true := by simp [known, hd.h]
  have hn : ¬ i < 0 := by omega
  have hn2 : ¬ j < 0 := by omega
  have h4 : i.toNat ≤ j.toNat := by omega
  have h5 : j.toNat ≤ rows.length := by omega
  simp [ev, slicePV, ht.h, hx, hy, hz, boundPV, intPV, hn, hn2, h4, h5, hk, hc.h]
theorem es_andh {t t' : TypeId} {k0 : IntKind} {a b c : Int} (k : EvR P rest ⟨n, (d, .v (.int k0 c)) :: tm, S⟩ σ' n') (hx : PS.get ⟨n, tm, S⟩ x = .v (.int k0 a) := by ((conv => lhs; whnf) <;> fail "no")) (hy : PS.get ⟨n, tm, S⟩ y = .v (.int k0 b) := by ((conv => lhs; whnf) <;> fail "no")) (hc : Go.bits .and k0 a b = c := by assumption) : EvR P (⟨.binOp .and t x y t', some d, none⟩ :: rest) ⟨n, tm, S⟩ σ' n' := by
  refine er_step ?_ k
  rw [← hc]
  simp only [ev, hx, hy, binPV, scalarBin, intBin, if_true, Option.map_some]
theorem es_orh {t t' : TypeId} {k0 : IntKind} {a b c : Int} (k : EvR P rest ⟨n, (d, .v (.int k0 c)) :: tm, S⟩ σ' n') (hx : PS.get ⟨n, tm, S⟩ x = .v (.int k0 a) := by ((conv => lhs; whnf) <;> fail "no")) (hy : PS.get ⟨n, tm, S⟩ y = .v (.int k0 b) := by ((conv => lhs; whnf) <;> fail "no")) (hc : Go.bits .or k0 a b = c := by assumption) : EvR P (⟨.binOp .or t x y t', some d, none⟩ :: rest) ⟨n, tm, S⟩ σ' n' := by
  refine er_step ?_ k
  rw [← hc]
  simp only [ev, hx, hy, binPV, scalarBin, intBin, if_true, Option.map_some]
theorem es_xorh {t t' : TypeId} {k0 : IntKind} {a b c : Int} (k : EvR P rest ⟨n, (d, .v (.int k0 c)) :: tm, S⟩ σ' n') (hx : PS.get ⟨n, tm, S⟩ x = .v (.int k0 a) := by ((conv => lhs; whnf) <;> fail "no")) (hy : PS.get ⟨n, tm, S⟩ y = .v (.int k0 b) := by ((conv => lhs; whnf) <;> fail "no")) (hc : Go.bits .xor k0 a b = c := by assumption) : EvR P (⟨.binOp .xor t x y t', some d, none⟩ :: rest) ⟨n, tm, S⟩ σ' n' := by
  refine er_step ?_ k
  rw [← hc]
  simp only [ev, hx, hy, binPV, scalarBin, intBin, if_true, Option.map_some]
theorem es_andnh {t t' : TypeId} {k0 : IntKind} {a b c : Int} (k : EvR P rest ⟨n, (d, .v (.int k0 c)) :: tm, S⟩ σ' n') (hx : PS.get ⟨n, tm, S⟩ x = .v (.int k0 a) := by ((conv => lhs; whnf) <;> fail "no")) (hy : PS.get ⟨n, tm, S⟩ y = .v (.int k0 b) := by ((conv => lhs; whnf) <;> fail "no")) (hc : Go.bits .andNot k0 a b = c := by assumption) : EvR P (⟨.binOp .andNot t x y t', some d, none⟩ :: rest) ⟨n, tm, S⟩ σ' n' := by
  refine er_step ?_ k
  rw [← hc]
  simp only [ev, hx, hy, binPV, scalarBin, intBin, if_true, Option.map_some]
theorem ca_get {kk : IntKind} {l : List Int} {tl : List PV} {i : Nat} (h : i < l.length) : (ci kk l ++ tl)[i]? = some (.v (.int kk (l.getD i 0))) := by
  rw [List.getElem?_append_left (by rw [ci_length]; exact h)]
  exact ci_get kk l i h
theorem ct_get {kk : IntKind} {l : List Int} {tl : List PV} {m off : Nat} (hl : l.length = m) (h : m ≤ off) : (ci kk l ++ tl)[off]? = tl[off - m]? := by
  rw [List.getElem?_append_right (by rw [ci_length, hl]; exact h), ci_length, hl]
theorem es_ld_ca {t : TypeId} [ha : AggT P t false] {τ g off j gg sz : Nat} {o : Bool} {kk : IntKind} {l : List Int} {tl : List PV} (k : EvR P rest ⟨n, (d, .v (.int kk (l.getD j 0))) :: tm, S⟩ σ' n') (hx : PS.get ⟨n, tm, S⟩ x = .ptr τ g 0 off := by ((conv => lhs; whnf) <;> fail "no")) (hb : S[τ]? = some ⟨gg, o, sz, [ci kk l ++ tl]⟩ := by first | ((conv => lhs; whnf) <;> fail "no") | exact rfl | assumption) (hg : gg = g := by rfl) (hj : off = j := by first | (simp only [Int.toNat_natCast, Nat.zero_add, Nat.mul_one, Nat.add_zero] <;> exact rfl) | exact rfl) (hlt : j < l.length := by omega) : EvR P (⟨.load t x, some d, none⟩ :: rest) ⟨n, tm, S⟩ σ' n' := by
  refine er_step ?_ k
  subst hg hj
  have hr : rowAt? S τ gg 0 = some (ci kk l ++ tl) := by simp [rowAt?, hb]
  simp only [ev, hx, loadPV, hr, loadRow_one ha.h (ca_get hlt)]
theorem es_ld_ct {t : TypeId} [ha : AggT P t false] {τ g off m gg sz : Nat} {o : Bool} {kk : IntKind} {l : List Int} {tl : List PV} {p : PV} (k : EvR P rest ⟨n, (d, p) :: tm, S⟩ σ' n') (hx : PS.get ⟨n, tm, S⟩ x = .ptr τ g 0 off := by ((conv => lhs; whnf) <;> fail "no")) (hb : S[τ]? = some ⟨gg, o, sz, [ci kk l ++ tl]⟩ := by first | ((conv => lhs; whnf) <;> fail "no") | exact rfl | assumption) (hg : gg = g := by rfl) (hl : l.length = m := by assumption) (hm : m ≤ off := by decide) (hp : tl[off - m]? = some p := by ((conv => lhs; whnf) <;> fail "no")) : EvR P (⟨.load t x, some d, none⟩ :: rest) ⟨n, tm, S⟩ σ' n' := by
  refine er_step ?_ k
  subst hg
  have hr : rowAt? S τ gg 0 = some (ci kk l ++ tl) := by simp [rowAt?, hb]
  simp only [ev, hx, loadPV, hr, loadRow_one ha.h ((ct_get hl hm).trans hp)]
theorem es_lda_row {t : TypeId} {m : Nat} [ha : AggT P t true] [hc : Cel P t m] {τ g gg sz : Nat} {o : Bool} {row : List PV} (k : EvR P rest ⟨n, (d, .agg row) :: tm, S⟩ σ' n') (hx : PS.get ⟨n, tm, S⟩ x = .ptr τ g 0 0 := by ((conv => lhs; whnf) <;> fail "no")) (hb : S[τ]? = some ⟨gg, o, sz, [row]⟩ := by first | ((conv => lhs; whnf) <;> fail "no") | exact rfl | assumption) (hg : gg = g := by rfl) (hm : row.length = m := by (simp only [List.length_append, ci_length, List.length_cons, List.length_nil, List.length_replicate] <;> first | rfl | omega)) : EvR P (⟨.load t x, some d, none⟩ :: rest) ⟨n, tm, S⟩ σ' n' := by
  refine er_step ?_ k
  subst hg
  have hr : rowAt? S τ gg 0 = some row := by simp [rowAt?, hb]
  simp only [ev, hx, loadPV, hr, loadRow_agg ha.h hc.h (show 0 + m ≤ row.length by omega) (show (row.drop 0).take m = row by rw [List.drop_zero, ← hm, List.take_length])]
theorem es_sl_3 {t e : TypeId} {de : TypeDesc} {sz : Nat} {kk k0 k1 k2 : IntKind} {l l' : List Int} {i j q : Int} {u : Operand} {f : Bool} [ht : Und P t (.slice e)] [hd : Und P e de] [hc : Cel P e sz] (k : EvR P rest ⟨n, (d, .ro sz true (ints kk l')) :: tm, S⟩ σ' n') (hx : PS.get ⟨n, tm, S⟩ x = .ro sz f (ints kk l) := by ((conv => lhs; whnf) <;> fail "no")) (hy : PS.get ⟨n, tm, S⟩ y = .v (.int k0 i) := by ((conv => lhs; whnf) <;> fail "no")) (hz : PS.get ⟨n, tm, S⟩ z = .v (.int k1 j) := by ((conv => lhs; whnf) <;> fail "no")) (hu : PS.get ⟨n, tm, S⟩ u = .v (.int k2 q) := by ((conv => lhs; whnf) <;> fail "no")) (h0 : 0 ≤ i := by omega) (h1 : i ≤ j := by omega) (h2 : j = q := by omega) (h3 : j ≤ l.length := by omega) (hl : (l.drop i.toNat).take (j.toNat - i.toNat) = l' := by rfl) : EvR P (⟨.slice t x (some y) (some z) (some u), some d, none⟩ :: rest) ⟨n, tm, S⟩ σ' n' := by
  refine er_step ?_ k
  subst h2 hl
  have hn : ¬ i < 0 := by omega
  have hn2 : ¬ j < 0 := by omega
  have h4 : i.toNat ≤ j.toNat := by omega
  have h5 : j.toNat ≤ l.length := by omega
  have hk : known P e = true := by simp [known, hd.h]
  simp [ev, slicePV, ht.h, hx, hy, hz, hu, boundPV, intPV, hn, hn2, h4, h5, hk, hc.h, ints_length, ints_drop, ints_take]
/-- What an operation is: looked at once, ahead of its laws. -/
theorem is_c {d : Option Tmp} {g : Option (Tmp × Bool)} {σ : PS} (h : EvR P (⟨op, d, g⟩ :: rest) σ σ' n') : EvR P (⟨op, d, g⟩ :: rest) σ σ' n' := h
theorem is_u {d : Option Tmp} {σ : PS} (h : EvR P (⟨op, d, none⟩ :: rest) σ σ' n') : EvR P (⟨op, d, none⟩ :: rest) σ σ' n' := h
theorem is_mv  {d : Option Tmp} {σ : PS} (h : EvR P (⟨.move x, d, none⟩ :: rest) σ σ' n') : EvR P (⟨.move x, d, none⟩ :: rest) σ σ' n' := h
theorem is_as  {d : Option Tmp} {σ : PS} (h : EvR P (⟨.assign x, d, none⟩ :: rest) σ σ' n') : EvR P (⟨.assign x, d, none⟩ :: rest) σ σ' n' := h
theorem is_pick  {d : Option Tmp} {σ : PS} (h : EvR P (⟨.pick x y z, d, none⟩ :: rest) σ σ' n') : EvR P (⟨.pick x y z, d, none⟩ :: rest) σ σ' n' := h
theorem is_bin {bo : BinOp} {t t' : TypeId} {d : Option Tmp} {σ : PS} (h : EvR P (⟨.binOp bo t x y t', d, none⟩ :: rest) σ σ' n') : EvR P (⟨.binOp bo t x y t', d, none⟩ :: rest) σ σ' n' := h
theorem is_un {u : UnOp} {t : TypeId} {d : Option Tmp} {σ : PS} (h : EvR P (⟨.unOp u t x, d, none⟩ :: rest) σ σ' n') : EvR P (⟨.unOp u t x, d, none⟩ :: rest) σ σ' n' := h
theorem is_conv {s t : TypeId} {d : Option Tmp} {σ : PS} (h : EvR P (⟨.convert s t x, d, none⟩ :: rest) σ σ' n') : EvR P (⟨.convert s t x, d, none⟩ :: rest) σ σ' n' := h
theorem is_call {c : Call} {d : Option Tmp} {σ : PS} (h : EvR P (⟨.call c, d, none⟩ :: rest) σ σ' n') : EvR P (⟨.call c, d, none⟩ :: rest) σ σ' n' := h
theorem is_ix {t : TypeId} {d : Option Tmp} {σ : PS} (h : EvR P (⟨.index t x y, d, none⟩ :: rest) σ σ' n') : EvR P (⟨.index t x y, d, none⟩ :: rest) σ σ' n' := h
theorem is_ixa {t : TypeId} {d : Option Tmp} {σ : PS} (h : EvR P (⟨.indexAddr t x y, d, none⟩ :: rest) σ σ' n') : EvR P (⟨.indexAddr t x y, d, none⟩ :: rest) σ σ' n' := h
theorem is_ld {t : TypeId} {d : Option Tmp} {σ : PS} (h : EvR P (⟨.load t x, d, none⟩ :: rest) σ σ' n') : EvR P (⟨.load t x, d, none⟩ :: rest) σ σ' n' := h
theorem is_ext {i : Nat} {d : Option Tmp} {σ : PS} (h : EvR P (⟨.extract x i, d, none⟩ :: rest) σ σ' n') : EvR P (⟨.extract x i, d, none⟩ :: rest) σ σ' n' := h
theorem is_lk {t : TypeId} {b : Bool} {d : Option Tmp} {σ : PS} (h : EvR P (⟨.lookup t x y b, d, none⟩ :: rest) σ σ' n') : EvR P (⟨.lookup t x y b, d, none⟩ :: rest) σ σ' n' := h
theorem is_fa {t : TypeId} {i : Nat} {d : Option Tmp} {σ : PS} (h : EvR P (⟨.fieldAddr t x i, d, none⟩ :: rest) σ σ' n') : EvR P (⟨.fieldAddr t x i, d, none⟩ :: rest) σ σ' n' := h
theorem is_fv {t : TypeId} {i : Nat} {d : Option Tmp} {σ : PS} (h : EvR P (⟨.field t x i, d, none⟩ :: rest) σ σ' n') : EvR P (⟨.field t x i, d, none⟩ :: rest) σ σ' n' := h
theorem is_nil  {d : Option Tmp} {σ : PS} (h : EvR P (⟨.nilCheck x, d, none⟩ :: rest) σ σ' n') : EvR P (⟨.nilCheck x, d, none⟩ :: rest) σ σ' n' := h
theorem is_mf {fn : Fn} {a b : Array Operand} {d : Option Tmp} {σ : PS} (h : EvR P (⟨.makeFunc fn a b, d, none⟩ :: rest) σ σ' n') : EvR P (⟨.makeFunc fn a b, d, none⟩ :: rest) σ σ' n' := h
theorem is_sl {t : TypeId} {a b c : Option Operand} {d : Option Tmp} {σ : PS} (h : EvR P (⟨.slice t x a b c, d, none⟩ :: rest) σ σ' n') : EvR P (⟨.slice t x a b c, d, none⟩ :: rest) σ σ' n' := h
theorem is_bld {t : TypeId} {p : Array (Nat × Operand)} {d : Option Tmp} {σ : PS} (h : EvR P (⟨.build t p, d, none⟩ :: rest) σ σ' n') : EvR P (⟨.build t p, d, none⟩ :: rest) σ σ' n' := h
theorem is_b_add {t t' : TypeId} {d : Option Tmp} {σ : PS} (h : EvR P (⟨.binOp .add t x y t', d, none⟩ :: rest) σ σ' n') : EvR P (⟨.binOp .add t x y t', d, none⟩ :: rest) σ σ' n' := h
theorem is_b_sub {t t' : TypeId} {d : Option Tmp} {σ : PS} (h : EvR P (⟨.binOp .sub t x y t', d, none⟩ :: rest) σ σ' n') : EvR P (⟨.binOp .sub t x y t', d, none⟩ :: rest) σ σ' n' := h
theorem is_b_mul {t t' : TypeId} {d : Option Tmp} {σ : PS} (h : EvR P (⟨.binOp .mul t x y t', d, none⟩ :: rest) σ σ' n') : EvR P (⟨.binOp .mul t x y t', d, none⟩ :: rest) σ σ' n' := h
theorem is_b_quo {t t' : TypeId} {d : Option Tmp} {σ : PS} (h : EvR P (⟨.binOp .quo t x y t', d, none⟩ :: rest) σ σ' n') : EvR P (⟨.binOp .quo t x y t', d, none⟩ :: rest) σ σ' n' := h
theorem is_b_rem {t t' : TypeId} {d : Option Tmp} {σ : PS} (h : EvR P (⟨.binOp .rem t x y t', d, none⟩ :: rest) σ σ' n') : EvR P (⟨.binOp .rem t x y t', d, none⟩ :: rest) σ σ' n' := h
theorem is_b_and {t t' : TypeId} {d : Option Tmp} {σ : PS} (h : EvR P (⟨.binOp .and t x y t', d, none⟩ :: rest) σ σ' n') : EvR P (⟨.binOp .and t x y t', d, none⟩ :: rest) σ σ' n' := h
theorem is_b_or {t t' : TypeId} {d : Option Tmp} {σ : PS} (h : EvR P (⟨.binOp .or t x y t', d, none⟩ :: rest) σ σ' n') : EvR P (⟨.binOp .or t x y t', d, none⟩ :: rest) σ σ' n' := h
theorem is_b_xor {t t' : TypeId} {d : Option Tmp} {σ : PS} (h : EvR P (⟨.binOp .xor t x y t', d, none⟩ :: rest) σ σ' n') : EvR P (⟨.binOp .xor t x y t', d, none⟩ :: rest) σ σ' n' := h
theorem is_b_andNot {t t' : TypeId} {d : Option Tmp} {σ : PS} (h : EvR P (⟨.binOp .andNot t x y t', d, none⟩ :: rest) σ σ' n') : EvR P (⟨.binOp .andNot t x y t', d, none⟩ :: rest) σ σ' n' := h
theorem is_b_shl {t t' : TypeId} {d : Option Tmp} {σ : PS} (h : EvR P (⟨.binOp .shl t x y t', d, none⟩ :: rest) σ σ' n') : EvR P (⟨.binOp .shl t x y t', d, none⟩ :: rest) σ σ' n' := h
theorem is_b_shr {t t' : TypeId} {d : Option Tmp} {σ : PS} (h : EvR P (⟨.binOp .shr t x y t', d, none⟩ :: rest) σ σ' n') : EvR P (⟨.binOp .shr t x y t', d, none⟩ :: rest) σ σ' n' := h
theorem is_b_eql {t t' : TypeId} {d : Option Tmp} {σ : PS} (h : EvR P (⟨.binOp .eql t x y t', d, none⟩ :: rest) σ σ' n') : EvR P (⟨.binOp .eql t x y t', d, none⟩ :: rest) σ σ' n' := h
theorem is_b_neq {t t' : TypeId} {d : Option Tmp} {σ : PS} (h : EvR P (⟨.binOp .neq t x y t', d, none⟩ :: rest) σ σ' n') : EvR P (⟨.binOp .neq t x y t', d, none⟩ :: rest) σ σ' n' := h
theorem is_b_lss {t t' : TypeId} {d : Option Tmp} {σ : PS} (h : EvR P (⟨.binOp .lss t x y t', d, none⟩ :: rest) σ σ' n') : EvR P (⟨.binOp .lss t x y t', d, none⟩ :: rest) σ σ' n' := h
theorem is_b_leq {t t' : TypeId} {d : Option Tmp} {σ : PS} (h : EvR P (⟨.binOp .leq t x y t', d, none⟩ :: rest) σ σ' n') : EvR P (⟨.binOp .leq t x y t', d, none⟩ :: rest) σ σ' n' := h
theorem is_b_gtr {t t' : TypeId} {d : Option Tmp} {σ : PS} (h : EvR P (⟨.binOp .gtr t x y t', d, none⟩ :: rest) σ σ' n') : EvR P (⟨.binOp .gtr t x y t', d, none⟩ :: rest) σ σ' n' := h
theorem is_b_geq {t t' : TypeId} {d : Option Tmp} {σ : PS} (h : EvR P (⟨.binOp .geq t x y t', d, none⟩ :: rest) σ σ' n') : EvR P (⟨.binOp .geq t x y t', d, none⟩ :: rest) σ σ' n' := h
theorem is_c_len {a : Array Operand} {ts : Array TypeId} {d : Option Tmp} {σ : PS} (h : EvR P (⟨.call ⟨.builtin .len, a, ts⟩, d, none⟩ :: rest) σ σ' n') : EvR P (⟨.call ⟨.builtin .len, a, ts⟩, d, none⟩ :: rest) σ σ' n' := h
theorem is_c_min {a : Array Operand} {ts : Array TypeId} {d : Option Tmp} {σ : PS} (h : EvR P (⟨.call ⟨.builtin .min, a, ts⟩, d, none⟩ :: rest) σ σ' n') : EvR P (⟨.call ⟨.builtin .min, a, ts⟩, d, none⟩ :: rest) σ σ' n' := h
theorem is_c_max {a : Array Operand} {ts : Array TypeId} {d : Option Tmp} {σ : PS} (h : EvR P (⟨.call ⟨.builtin .max, a, ts⟩, d, none⟩ :: rest) σ σ' n') : EvR P (⟨.call ⟨.builtin .max, a, ts⟩, d, none⟩ :: rest) σ σ' n' := h
theorem is_u_not {t : TypeId} {d : Option Tmp} {σ : PS} (h : EvR P (⟨.unOp .not t x, d, none⟩ :: rest) σ σ' n') : EvR P (⟨.unOp .not t x, d, none⟩ :: rest) σ σ' n' := h
theorem is_u_neg {t : TypeId} {d : Option Tmp} {σ : PS} (h : EvR P (⟨.unOp .neg t x, d, none⟩ :: rest) σ σ' n') : EvR P (⟨.unOp .neg t x, d, none⟩ :: rest) σ σ' n' := h
theorem is_u_xor {t : TypeId} {d : Option Tmp} {σ : PS} (h : EvR P (⟨.unOp .xor t x, d, none⟩ :: rest) σ σ' n') : EvR P (⟨.unOp .xor t x, d, none⟩ :: rest) σ σ' n' := h
end
end Go.Proofs.YtenoecffjfcifaaDoor.Pv

