-- Tenth text: slices made, appended to, copied.
import Derived.Test.YtaaealngifkaeaaPvI
import Derived.Lib.Strings
namespace Go.Proofs.Ytaaealngifkaeaa.Pv
set_option linter.all false
open Go.RowKit
set_option linter.unusedVariables false

/-- Rows, laid one behind the other, as cells. -/
structure Flat (c : Cx) (sz : Nat) (rows : List (List PV)) (vs : List Value) : Prop where
  len : ∀ (i : Nat) (row : List PV), rows[i]? = some row → row.length = sz
  size : vs.length = rows.length * sz
  one : ∀ v ∈ vs, v.oneCell' = true
  rel : ∀ (i : Nat) (row : List PV) (j : Nat) (x : PV) (v : Value), rows[i]? = some row → row[j]? = some x → vs[i * sz + j]? = some v → RelV c x v

theorem idx_lt {i n sz j : Nat} (hi : i < n) (hj : j < sz) : i * sz + j < n * sz := by
  have : (i + 1) * sz ≤ n * sz := Nat.mul_le_mul_right _ hi
  rw [Nat.succ_mul] at this
  omega

theorem Flat.nil (c : Cx) (sz : Nat) : Flat c sz [] [] := ⟨fun i row h => (by simp at h), by simp, fun v h => (by cases h), fun i row j x v h => (by simp at h)⟩

theorem Flat.append {c : Cx} {sz : Nat} {r1 r2 : List (List PV)} {v1 v2 : List Value} (h1 : Flat c sz r1 v1) (h2 : Flat c sz r2 v2) : Flat c sz (r1 ++ r2) (v1 ++ v2) := by
  refine ⟨fun i row h => ?_, by rw [List.length_append, List.length_append, h1.size, h2.size, Nat.add_mul], fun v h => ?_, fun i row j x v hr hx hv => ?_⟩
  · rcases Nat.lt_or_ge i r1.length with hi | hi
    · rw [List.getElem?_append_left hi] at h; exact h1.len i row h
    · rw [List.getElem?_append_right hi] at h; exact h2.len _ row h
  · rcases List.mem_append.1 h with h | h
    · exact h1.one v h
    · exact h2.one v h
  · rcases Nat.lt_or_ge i r1.length with hi | hi
    · rw [List.getElem?_append_left hi] at hr
      have hj : j < sz := by rw [← h1.len i row hr]; exact (List.getElem?_eq_some_iff.1 hx).1
      rw [List.getElem?_append_left (by rw [h1.size]; exact idx_lt hi hj)] at hv
      exact h1.rel i row j x v hr hx hv
    · rw [List.getElem?_append_right hi] at hr
      have hge : v1.length ≤ i * sz + j := by
        rw [h1.size]
        have : r1.length * sz ≤ i * sz := Nat.mul_le_mul_right _ hi
        omega
      rw [List.getElem?_append_right hge] at hv
      refine h2.rel _ row j x v hr hx ?_
      rw [← hv]
      congr 1
      rw [h1.size, Nat.sub_mul]
      have : r1.length * sz ≤ i * sz := Nat.mul_le_mul_right _ hi
      omega

theorem Flat.rowsIn {c : Cx} {sz : Nat} {rows : List (List PV)} {vs : List Value} (h : Flat c sz rows vs) {cs : Array Value} {o : Nat} (hc : ∀ k v, vs[k]? = some v → cs[o + k]? = some v) : RowsIn c sz rows o cs := by
  intro i row j x hr hx
  have hi : i < rows.length := (List.getElem?_eq_some_iff.1 hr).1
  have hj : j < sz := by rw [← h.len i row hr]; exact (List.getElem?_eq_some_iff.1 hx).1
  have hlt : i * sz + j < vs.length := by rw [h.size]; exact idx_lt hi hj
  have hv := List.getElem?_eq_getElem hlt
  exact ⟨_, hc _ _ hv, h.one _ (List.mem_of_getElem? hv), h.rel i row j x _ hr hx hv⟩

theorem Flat.take {c : Cx} {sz : Nat} {rows : List (List PV)} {vs : List Value} (h : Flat c sz rows vs) {n : Nat} (hn : n ≤ rows.length) : Flat c sz (rows.take n) (vs.take (n * sz)) := by
  have hle : n * sz ≤ rows.length * sz := Nat.mul_le_mul_right _ hn
  refine ⟨fun i row hr => ?_, by rw [List.length_take, List.length_take, h.size]; rw [Nat.min_eq_left hle, Nat.min_eq_left hn], fun v hv => h.one v (List.mem_of_mem_take hv), fun i row j x v hr hx hv => ?_⟩
  · rw [List.getElem?_take] at hr
    split at hr
    · exact h.len i row hr
    · cases hr
  · rw [List.getElem?_take] at hr hv
    split at hr
    · split at hv
      · exact h.rel i row j x v hr hx hv
      · cases hv
    · cases hr

/-- The cells of rows that lie in a heap's block. -/
theorem flat_of_cells {c : Cx} {sz : Nat} {rows : List (List PV)} (b o : Nat) (hlen : ∀ (i : Nat) (row : List PV), rows[i]? = some row → row.length = sz)
    (hc : ∀ (i : Nat) (row : List PV) (j : Nat) (x : PV), rows[i]? = some row → row[j]? = some x → ∃ v, c.w.cell? ⟨b, o + (i * sz + j), none⟩ = some v ∧ v.oneCell' = true ∧ RelV c x v) :
    ∃ vs, Flat c sz rows vs ∧ ∀ (j : Nat) (v : Value), vs[j]? = some v → c.w.cell? ⟨b, o + j, none⟩ = some v := by
  have get : ∀ k, k < rows.length * sz → ∃ v, c.w.cell? ⟨b, o + k, none⟩ = some v ∧ v.oneCell' = true ∧ ∀ i row j x, k = i * sz + j → rows[i]? = some row → row[j]? = some x → RelV c x v := by
    intro k hk
    have hsz : 0 < sz := by rcases Nat.eq_zero_or_pos sz with h | h; · rw [h, Nat.mul_zero] at hk; omega
                            · exact h
    have hi : k / sz < rows.length := Nat.div_lt_of_lt_mul (by rw [Nat.mul_comm]; exact hk)
    have hj : k % sz < sz := Nat.mod_lt _ hsz
    obtain ⟨row0, hrow⟩ : ∃ r, rows[k / sz]? = some r := ⟨_, List.getElem?_eq_getElem hi⟩
    have hl := hlen _ _ hrow
    obtain ⟨x0, hx⟩ : ∃ x, row0[k % sz]? = some x := ⟨_, List.getElem?_eq_getElem (by rw [hl]; exact hj)⟩
    obtain ⟨v, h1, h2, h3⟩ := hc _ _ _ _ hrow hx
    have hdm : k / sz * sz + k % sz = k := by have := Nat.div_add_mod k sz; rw [Nat.mul_comm] at this; exact this
    refine ⟨v, by rw [hdm] at h1; exact h1, h2, fun i row j x hk' hr hxx => ?_⟩
    have hj' : j < sz := by rw [← hlen i row hr]; exact (List.getElem?_eq_some_iff.1 hxx).1
    have e1 : k / sz = i := by rw [hk', Nat.mul_comm, Nat.mul_add_div hsz, Nat.div_eq_of_lt hj', Nat.add_zero]
    have e2 : k % sz = j := by rw [hk', Nat.mul_comm, Nat.mul_add_mod, Nat.mod_eq_of_lt hj']
    rw [e1, hr] at hrow
    cases hrow
    rw [e2, hxx] at hx
    cases hx
    exact h3
  obtain ⟨V, hV⟩ : ∃ V : Nat → Value, ∀ k, k < rows.length * sz → c.w.cell? ⟨b, o + k, none⟩ = some (V k) ∧ (V k).oneCell' = true ∧ ∀ i row j x, k = i * sz + j → rows[i]? = some row → row[j]? = some x → RelV c x (V k) :=
    ⟨fun k => if hk : k < rows.length * sz then (get k hk).choose else default, fun k hk => by simp only [dif_pos hk]; exact (get k hk).choose_spec⟩
  refine ⟨(List.range (rows.length * sz)).map V, ⟨hlen, by simp, fun v hv => ?_, fun i row j x v hr hx hv => ?_⟩, fun j v hv => ?_⟩
  · obtain ⟨k, hk, rfl⟩ := List.mem_map.1 hv
    exact (hV k (List.mem_range.1 hk)).2.1
  · rw [List.getElem?_map] at hv
    obtain ⟨k, hk, rfl⟩ := Option.map_eq_some_iff.1 hv
    have hlt : i * sz + j < rows.length * sz := by
      have := (List.getElem?_eq_some_iff.1 hk).1
      simpa using this
    rw [List.getElem?_range hlt] at hk
    cases hk
    exact (hV _ hlt).2.2 i row j x rfl hr hx
  · rw [List.getElem?_map] at hv
    obtain ⟨k, hk, rfl⟩ := Option.map_eq_some_iff.1 hv
    have hlt : j < rows.length * sz := by
      have := (List.getElem?_eq_some_iff.1 hk).1
      simpa using this
    rw [List.getElem?_range hlt] at hk
    cases hk
    exact (hV _ hlt).1

/-- The rows of what is appended, or copied. -/
def srcRows (S : List Blk) (sz : Nat) : PV → Option (List (List PV))
  | .vw τ g off len => match S[τ]? with
    | some blk => if blk.gen = g ∧ blk.sz = sz then some ((blk.rows.drop off).take len) else none
    | none => none
  | .ro sz' _ rows => if sz' = sz then some rows else none
  | .v (.slice none 0 _) => some []
  | .v (.string s) => if sz = 1 then some (s.data.toList.map fun b => [.v (.int .u8 b.toNat)]) else none
  | _ => none

/-- Is a value's type one that may be appended? -/
def srcKind (P : Program) (t : TypeId) (x : PV) : Bool :=
  match P.underlying t, x with
  | some .string, .v (.string _) => true
  | some (.slice _), .v (.slice none 0 _) => true
  | some (.slice _), .vw _ _ _ _ => true
  | some (.slice _), .ro _ _ _ => true
  | _, _ => false

theorem src_rel {P : Program} {c : Cx} (hi : Inv c) {sz : Nat} {t : TypeId} {x : PV} {v : Value} {rows : List (List PV)} (h : srcRows c.S sz x = some rows) (hk : srcKind P t x = true) (hr : RelV c x v) :
    ∃ news, Flat c sz rows news ∧ Src P sz t v rows.length news c.w ∧ ∀ n, n ≤ rows.length → (Builtin.firstCells sz n v).run P c.w = .ok (news.take (n * sz)).toArray c.w := by
  unfold srcRows at h
  split at h
  · rename_i τ g off len
    split at h
    · rename_i blk hb
      split at h
      · rename_i hg
        cases h
        have hu : ∃ e, P.underlying t = some (.slice e) := by
          unfold srcKind at hk
          split at hk <;> first | (exact ⟨_, by assumption⟩) | (rename_i he; cases he) | cases hk
        obtain ⟨e, hu⟩ := hu
        cases hr with
        | vw _ _ _ _ y hy hN hv =>
          obtain ⟨h1, a, cap, rfl, h2, h3, h4⟩ := hv blk hb hg.1
          have hlen : ((blk.rows.drop off).take len).length = len := by simp; omega
          rw [hlen]
          rcases h4 with ⟨p, hp, rfl, _⟩ | ⟨h4, rfl⟩
          · have hB := hi.blk τ blk hb
            obtain ⟨cs, e', fz, k1, k2, k3, k4⟩ := hB.heap p hp
            obtain ⟨news, f1, f2⟩ := flat_of_cells (c := c) (sz := sz) (rows := (blk.rows.drop off).take len) p.1 (p.2 + off * sz) (fun i row hr => by rw [← hg.2]; exact hB.len _ row (drop_take_get hr).1) (fun i row j x hr hx => by
              obtain ⟨v, v1, v2, v3⟩ := k3 _ row j x (drop_take_get hr).1 hx
              refine ⟨v, ?_, v2, v3⟩
              rw [cell_of k1, ← v1, ← hg.2, Nat.add_mul]
              congr 1
              omega)
            have hcell : ∀ (j : Nat) (u : Value), news[j]? = some u → c.w.cell? ((⟨p.1, p.2 + off * blk.sz, none⟩ : Addr).add j) = some u := fun j u hu => by rw [Addr.add_mid, hg.2]; exact f2 j u hu
            have hnl : news.length = len * sz := by rw [f1.size, hlen]
            refine ⟨news, f1, Src.ofSlice c.w hu _ len cap news hnl hcell f1.one, fun n hn => ?_⟩
            have hle : n * sz ≤ len * sz := Nat.mul_le_mul_right _ hn
            exact run_firstCells_some c.w sz n _ len cap _ (by rw [List.length_take, hnl]; omega) (fun j u hu => hcell j u (by
              rw [List.getElem?_take] at hu
              split at hu
              · exact hu
              · cases hu))
          · subst h4
            have hnil : (blk.rows.drop off).take 0 = [] := by simp
            rw [hnil]
            cases a with
            | none => exact ⟨[], Flat.nil c sz, Src.ofNil c.w hu 0, fun n hn => by (have hn0 : n = 0 := (by omega)); subst hn0; simp [Builtin.firstCells]⟩
            | some ad => exact ⟨[], Flat.nil c sz, Src.ofSlice c.w hu ad 0 0 [] (by simp) (fun j u h => by simp at h) (fun u h => (by cases h)), fun n hn => by (have hn0 : n = 0 := (by omega)); subst hn0; simp [Builtin.firstCells, loadCells, loadCellsFrom]⟩
      · cases h
    · cases h
  · rename_i sz' full rows
    split at h
    · rename_i hsz
      subst hsz
      cases h
      have hu : ∃ e, P.underlying t = some (.slice e) := by
        unfold srcKind at hk
        split at hk <;> first | (exact ⟨_, by assumption⟩) | (rename_i he; cases he) | cases hk
      obtain ⟨e, hu⟩ := hu
      cases hr with
      | ro _ _ _ a cap vals hcap hmax hfull hnone hlen hcell hpure hrel =>
        cases a with
        | none =>
          have h0 := hnone rfl
          subst h0
          exact ⟨[], Flat.nil c _, Src.ofNil c.w hu cap, fun n hn => by (have hn0 : n = 0 := (by simpa using hn)); subst hn0; simp [Builtin.firstCells]⟩
        | some ad =>
          by_cases hsp : ad.spot = none
          · obtain ⟨b, o, s⟩ := ad
            simp only at hsp
            subst hsp
            obtain ⟨news, f1, f2⟩ := flat_of_cells (c := c) (sz := sz') (rows := rows) b o hlen (fun i row j x hr hx => by
              obtain ⟨k1, k2, k3, k4⟩ := hcell _ rfl i row j x hr hx
              exact ⟨_, k3, k4, hrel i row j x hr hx⟩)
            have hcl : ∀ (j : Nat) (u : Value), news[j]? = some u → c.w.cell? ((⟨b, o, none⟩ : Addr).add j) = some u := fun j u hu => by rw [Addr.add_mid]; exact f2 j u hu
            refine ⟨news, f1, Src.ofSlice c.w hu _ _ cap news f1.size hcl f1.one, fun n hn => ?_⟩
            have hle : n * sz' ≤ rows.length * sz' := Nat.mul_le_mul_right _ hn
            exact run_firstCells_some c.w sz' n _ _ cap _ (by rw [List.length_take, f1.size]; omega) (fun j u hu => hcl j u (by
              rw [List.getElem?_take] at hu
              split at hu
              · exact hu
              · cases hu))
          · have hno : ∀ (i : Nat) (row : List PV) (j : Nat) (x : PV), rows[i]? = some row → row[j]? = some x → False := fun i row j x hr hx => hsp (hcell ad rfl i row j x hr hx).1
            have hz : rows.length * sz' = 0 := by
              rcases Nat.eq_zero_or_pos rows.length with h | h
              · rw [h, Nat.zero_mul]
              · have hr0 := List.getElem?_eq_getElem h
                rcases Nat.eq_zero_or_pos sz' with h' | h'
                · rw [h', Nat.mul_zero]
                · exact (hno _ _ 0 _ hr0 (List.getElem?_eq_getElem (by rw [hlen _ _ hr0]; exact h'))).elim
            refine ⟨[], ⟨hlen, by rw [hz]; rfl, fun v h => (by cases h), fun i row j x v hr hx => (hno i row j x hr hx).elim⟩, Src.ofSlice c.w hu ad _ cap [] (by rw [hz]; rfl) (fun j u h => by simp at h) (fun u h => (by cases h)), fun n hn => ?_⟩
            have hle : n * sz' ≤ rows.length * sz' := Nat.mul_le_mul_right _ hn
            exact run_firstCells_some c.w sz' n _ _ cap _ (by simp; omega) (fun j u h => by simp at h)
    · cases h
  · rename_i cc
    cases h
    cases hr
    have hu : ∃ e, P.underlying t = some (.slice e) := by
      unfold srcKind at hk
      split at hk <;> first | (exact ⟨_, by assumption⟩) | (rename_i he; cases he) | cases hk
    obtain ⟨e, hu⟩ := hu
    exact ⟨[], Flat.nil c sz, Src.ofNil c.w hu cc, fun n hn => by (have hn0 : n = 0 := (by simpa using hn)); subst hn0; simp [Builtin.firstCells]⟩
  · rename_i s
    split at h
    · rename_i hsz
      subst hsz
      cases h
      cases hr
      have hu : P.underlying t = some .string := by
        unfold srcKind at hk
        split at hk <;> first | assumption | (rename_i he; cases he) | cases hk
      have hl : (s.data.toList.map fun b => [PV.v (.int .u8 b.toNat)]).length = s.size := by rw [List.length_map, Array.length_toList]; rfl
      rw [hl]
      have hg : ∀ (i : Nat) (row : List PV) (j : Nat) (x : PV), (s.data.toList.map fun b => [PV.v (.int .u8 b.toNat)])[i]? = some row → row[j]? = some x → j = 0 ∧ ∃ b, s.data.toList[i]? = some b ∧ x = .v (.int .u8 b.toNat) := by
        intro i row j x hr hx
        rw [List.getElem?_map] at hr
        obtain ⟨b, hb, rfl⟩ := Option.map_eq_some_iff.1 hr
        cases j with
        | zero => simp at hx; exact ⟨rfl, b, hb, hx.symm⟩
        | succ j => simp at hx
      refine ⟨byteCells s, ⟨fun i row hr => ?_, by rw [byteCells_length, hl, Nat.mul_one], (Src.ofString c.w hu s).one, fun i row j x v hr hx hv => ?_⟩, Src.ofString c.w hu s, fun n hn => ?_⟩
      · rw [List.getElem?_map] at hr
        obtain ⟨b, hb, rfl⟩ := Option.map_eq_some_iff.1 hr
        rfl
      · obtain ⟨rfl, b, hb, rfl⟩ := hg i row j x hr hx
        unfold byteCells at hv
        rw [List.getElem?_map, Nat.mul_one, Nat.add_zero, hb] at hv
        cases hv
        exact .v _
      · simp only [Builtin.firstCells, Sem.run_pure]
        congr 1
        apply Array.ext'
        rw [Array.toList_map, Lib.extract_data]
        unfold byteCells
        rw [Nat.mul_one, ← List.map_take]
        simp
    · cases h
  · cases h
end Go.Proofs.Ytaaealngifkaeaa.Pv
