-- Fourth text: places and parts: fields, elements, slices, loads.
import Derived.Test.YtaaealngifkaeaaPvC
import Derived.Laws.Slices
import Derived.Deep.MidRow
namespace Go.Proofs.Ytaaealngifkaeaa.Pv
set_option linter.all false
open Go.RowKit
set_option linter.unusedVariables false

def intPV : PV → Option Int
  | .v (.int _ i) => some i
  | _ => none

theorem intPV_rel {c : Cx} {x : PV} {v : Value} {i : Int} (h : intPV x = some i) (hr : RelV c x v) : ∃ k, v = .int k i := by
  unfold intPV at h
  split at h
  · cases h; cases hr; exact ⟨_, rfl⟩
  · cases h

def fieldOf (P : Program) (t : TypeId) (f : Nat) : Option Field :=
  match P.underlying t with
  | some (.struct fs) => fs[f]?
  | _ => none

theorem fieldOf_run {P : Program} {t : TypeId} {f : Nat} {fd : Field} (h : fieldOf P t f = some fd) : ∃ fs, P.underlying t = some (.struct fs) ∧ fs[f]? = some fd := by
  unfold fieldOf at h
  split at h
  · exact ⟨_, by assumption, h⟩
  · cases h

def fieldAddrPV (P : Program) (s : TypeId) (x : PV) (f : Nat) (S : List Blk) : Option PV :=
  match fieldOf P s f with
  | some fd => if P.cellsOf fd.type = 0 || !known P fd.type then none else
    match x with
    | .ptr τ g i off => if alive S τ g then some (.ptr τ g i (off + fd.offset)) else none
    | .rp row off => some (.rp row (off + fd.offset))
    | _ => none
  | none => none

theorem fieldAddrPV_sound {P : Program} {c : Cx} {s : TypeId} {x z : PV} {f : Nat} {a : Value} (h : fieldAddrPV P s x f c.S = some z) (ha : RelV c x a) :
    ∃ v, (Instr.fieldAt s a f).run P c.w = .ok v c.w ∧ RelV c z v := by
  unfold fieldAddrPV at h
  split at h
  · rename_i fd hf
    obtain ⟨fs, hu, hfd⟩ := fieldOf_run hf
    split at h
    · cases h
    · rename_i hz
      simp only [Bool.or_eq_true, decide_eq_true_eq, Bool.not_eq_true', not_or, Bool.not_eq_false] at hz
      obtain ⟨d, hd⟩ := Option.isSome_iff_exists.1 hz.2
      have key : ∀ ad : Addr, (Instr.fieldAt s (.pointer (some ad)) f).run P c.w = .ok (.pointer (some (ad.add fd.offset))) c.w := by
        intro ad
        unfold Instr.fieldAt
        rw [Sem.run_bind, run_underlying hu, Result.andThen_ok]
        simp only [hfd, Instr.sureAddr, Sem.run_bind, Sem.run_pure, Result.andThen_ok, fieldPlace, sizeOf_run hd]
        rw [if_neg hz.1]
        rfl
      split at h
      · rename_i τ g i off
        split at h
        · rename_i hal
          cases h
          obtain ⟨blk, h1, h2⟩ := alive_spec hal
          cases ha with
          | ptr _ _ _ _ y hy hN hv =>
            obtain ⟨h3, p, hp, rfl⟩ := hv blk h1 h2
            refine ⟨_, key _, .ptr _ _ _ _ _ rfl hN (fun blk' h4 h5 => ?_)⟩
            rw [h1] at h4
            cases h4
            exact ⟨h3, p, hp, by simp [Addr.add_mid, Nat.add_assoc]⟩
        · cases h
      · cases h
        cases ha with
        | rp row off b o vals hc hp hr =>
          refine ⟨_, key _, ?_⟩
          rw [Addr.add_mid, Nat.add_assoc]
          exact .rp _ _ _ _ vals hc hp hr
      · cases h
  · cases h

def fieldPV (P : Program) (t : TypeId) (x : PV) (f : Nat) : Option PV :=
  match fieldOf P t f, x with
  | some fd, .agg cs => if known P fd.type then partPV P fd.type cs fd.offset else none
  | _, _ => none

theorem rel_agg {c : Cx} {cs : List PV} {a : Value} (h : RelV c (.agg cs) a) : ∃ vs, a = .agg vs := by cases h; exact ⟨_, rfl⟩

theorem fieldPV_sound {P : Program} {c : Cx} {t : TypeId} {x z : PV} {f : Nat} {a : Value} (h : fieldPV P t x f = some z) (ha : RelV c x a) :
    ∃ v, (Instr.field t a f).run P c.w = .ok v c.w ∧ RelV c z v := by
  unfold fieldPV at h
  split at h
  · rename_i fd cs hf
    obtain ⟨fs, hu, hfd⟩ := fieldOf_run hf
    split at h
    · rename_i hk
      obtain ⟨vs, rfl⟩ := rel_agg ha
      obtain ⟨v, h1, h2⟩ := partPV_sound h hk ha
      refine ⟨v, ?_, h2⟩
      unfold Instr.field
      rw [Sem.run_bind, run_underlying hu, Result.andThen_ok]
      simp only [hfd, asAgg, Sem.run_bind, Sem.run_pure, Result.andThen_ok]
      exact h1
    · cases h
  · cases h

/-- The row of a block at an element. -/
def rowAt? (S : List Blk) (τ g i : Nat) : Option (List PV) :=
  match S[τ]? with
  | some blk => if blk.gen = g then blk.rows[i]? else none
  | none => none

def loadRow (P : Program) (t : TypeId) (row : List PV) (off : Nat) : Option PV := if known P t then partPV P t row off else none

def loadPV (P : Program) (S : List Blk) (t : TypeId) (x : PV) : Option PV :=
  match x with
  | .ptr τ g i off => match rowAt? S τ g i with
    | some row => loadRow P t row off
    | none => none
  | .rp row off => loadRow P t row off
  | _ => none

theorem cell_of {w : World} {b : Nat} {cs : Array Value} {e : TypeId} {fz : Nat × Nat} (h : w.heap[b]? = some (.cells cs e fz)) (o : Nat) : w.cell? ⟨b, o, none⟩ = cs[o]? := by
  simp [World.cell?, h]

theorem loadRow_sound {P : Program} {c : Cx} {t : TypeId} {row : List PV} {off : Nat} {z : PV} (b o : Nat) (h : loadRow P t row off = some z)
    (hc : ∀ (j : Nat) (x : PV), row[j]? = some x → ∃ v, c.w.cell? ⟨b, o + j, none⟩ = some v ∧ v.oneCell' = true ∧ RelV c x v) :
    ∃ v, (Instr.loadAt t (.pointer (some ⟨b, o + off, none⟩))).run P c.w = .ok v c.w ∧ RelV c z v := by
  unfold loadRow at h
  split at h
  · rename_i hk
    obtain ⟨d, hd⟩ := Option.isSome_iff_exists.1 hk
    unfold partPV at h
    simp only [Instr.loadAt, Instr.sureAddr, Sem.run_bind, Sem.run_pure, Result.andThen_ok, loadVar, isAgg_run hd]
    cases hA : isAggT P t
    · rw [hA] at h
      simp only [Bool.false_eq_true, if_false] at h ⊢
      obtain ⟨v, h1, h2, h3⟩ := hc off z h
      refine ⟨v, ?_, h3⟩
      rw [run_load, h1]
    · rw [hA] at h
      simp only [if_true] at h ⊢
      split at h
      · rename_i hle
        cases h
        have hget : ∀ j, j < P.cellsOf t → ∃ v, c.w.cell? ⟨b, o + (off + j), none⟩ = some v ∧ v.oneCell' = true ∧ RelV c (row.getD (off + j) .undef) v := by
          intro j hj
          refine hc (off + j) _ ?_
          rw [List.getD_eq_getElem?_getD, List.getElem?_eq_getElem (by omega)]
          rfl
        obtain ⟨V, hV⟩ : ∃ V : Nat → Value, ∀ j, j < P.cellsOf t → c.w.cell? ⟨b, o + (off + j), none⟩ = some (V j) ∧ (V j).oneCell' = true ∧ RelV c (row.getD (off + j) .undef) (V j) :=
          ⟨fun j => if hj : j < P.cellsOf t then (hget j hj).choose else default, fun j hj => by simp only [dif_pos hj]; exact (hget j hj).choose_spec⟩
        have hl := run_loadCells (P := P) c.w ⟨b, o + off, none⟩ (P.cellsOf t) V (fun j hj => by rw [Addr.add_mid, Nat.add_assoc]; exact (hV j hj).1)
        refine ⟨.agg ((List.range (P.cellsOf t)).map V).toArray, by simp [sizeOf_run hd, hl], .agg _ _ ?_ (fun i v hv => ?_) (fun i x v hx hv => ?_)⟩
        · simp only [List.size_toArray, List.length_map, List.length_range, List.length_take, List.length_drop]; omega
        · simp only [List.getElem?_toArray, List.getElem?_map] at hv
          obtain ⟨j, hj, rfl⟩ := Option.map_eq_some_iff.1 hv
          have : j < P.cellsOf t := by have := List.mem_of_getElem? hj; simpa using this
          exact (hV j this).2.1
        · simp only [List.getElem?_toArray, List.getElem?_map] at hv
          obtain ⟨j, hj, rfl⟩ := Option.map_eq_some_iff.1 hv
          obtain ⟨k1, k2⟩ := drop_take_get hx
          rw [List.getElem?_range k2] at hj
          cases hj
          have := (hV i k2).2.2
          rw [List.getD_eq_getElem?_getD, k1] at this
          exact this
      · cases h
  · cases h

theorem rowAt?_spec {S : List Blk} {τ g i : Nat} {row : List PV} (h : rowAt? S τ g i = some row) : ∃ blk, S[τ]? = some blk ∧ blk.gen = g ∧ blk.rows[i]? = some row := by
  unfold rowAt? at h
  split at h
  · rename_i blk hb
    split at h
    · exact ⟨blk, hb, by assumption, h⟩
    · cases h
  · cases h

theorem loadPV_sound {P : Program} {c : Cx} {t : TypeId} {x z : PV} {a : Value} (hi : Inv c) (h : loadPV P c.S t x = some z) (ha : RelV c x a) :
    ∃ v, (Instr.loadAt t a).run P c.w = .ok v c.w ∧ RelV c z v := by
  unfold loadPV at h
  split at h
  · rename_i τ g i off
    split at h
    · rename_i row hrow
      obtain ⟨blk, h1, h2, h3⟩ := rowAt?_spec hrow
      cases ha with
      | ptr _ _ _ _ y hy hN hv =>
        obtain ⟨_, p, hp, rfl⟩ := hv blk h1 h2
        obtain ⟨cs, e, fz, k1, k2, k3, k4⟩ := (hi.blk τ blk h1).heap p hp
        have := loadRow_sound (P := P) (c := c) p.1 (p.2 + i * blk.sz) h (fun j x hx => by
          obtain ⟨v, h4, h5, h6⟩ := k3 i row j x h3 hx
          exact ⟨v, by rw [cell_of k1, Nat.add_assoc]; exact h4, h5, h6⟩)
        rw [Nat.add_assoc] at this
        exact this
    · cases h
  · cases ha with
    | rp row off b o vals hc hp hr => exact loadRow_sound b o h (fun j x hx => ⟨vals j, (hc j x hx).2.1, (hc j x hx).2.2, hr j x hx⟩)
  · cases h

def indexAddrPV (P : Program) (S : List Blk) (t : TypeId) (x ix : PV) : Option PV :=
  match intPV ix with
  | some i => if i < 0 then none else
    match P.underlying t, x with
    | some (.slice e), .vw τ g off len => if alive S τ g && known P e && (S[τ]?.map (·.sz) == some (P.cellsOf e)) && decide (i < (len : Int)) then some (.ptr τ g (off + i.toNat) 0) else none
    | some (.slice e), .ro sz _ rows => if known P e && decide (sz = P.cellsOf e) && decide (0 < sz) then (rows[i.toNat]?).map (.rp · 0) else none
    | some (.array n e), .ptr τ g r off => if alive S τ g && known P e && decide (i < (n : Int)) then some (.ptr τ g r (off + i.toNat * P.cellsOf e)) else none
    | some (.array n e), .rp row off => if known P e && decide (i < (n : Int)) then some (.rp row (off + i.toNat * P.cellsOf e)) else none
    | _, _ => none
  | none => none

theorem indexAddrPV_sound {P : Program} {c : Cx} {t : TypeId} {x ix z : PV} {a b : Value} (hi : Inv c) (h : indexAddrPV P c.S t x ix = some z) (ha : RelV c x a) (hb : RelV c ix b) :
    ∃ v, (Instr.indexAt t a b).run P c.w = .ok v c.w ∧ RelV c z v := by
  unfold indexAddrPV at h
  split at h
  · rename_i i hix
    obtain ⟨k, rfl⟩ := intPV_rel hix hb
    split at h
    · cases h
    · rename_i h0
      have h0' : 0 ≤ i := by omega
      split at h
      · rename_i e τ g off len hu
        split at h
        · rename_i hh
          simp only [Bool.and_eq_true, beq_iff_eq, decide_eq_true_eq] at hh
          obtain ⟨⟨⟨h1, h2⟩, h3⟩, h4⟩ := hh
          cases h
          obtain ⟨d, hd⟩ := Option.isSome_iff_exists.1 h2
          obtain ⟨blk, h5, h6⟩ := alive_spec h1
          rw [h5] at h3
          simp only [Option.map_some, Option.some.injEq] at h3
          cases ha with
          | vw _ _ _ _ y hy hN hv =>
            obtain ⟨h7, ad, cap, rfl, h8, h9, h10⟩ := hv blk h5 h6
            rcases h10 with ⟨p, hp, rfl, _⟩ | ⟨h10, _⟩
            · refine ⟨.pointer (some (Addr.add ⟨p.1, p.2 + off * blk.sz, none⟩ (i.toNat * P.cellsOf e))), ?_, ?_⟩
              · simp only [Instr.indexAt, asIntOf, Sem.run_bind, Sem.run_pure, Result.andThen_ok, run_underlying hu, if_pos (And.intro h0' h4), sizeOf_run hd]
              · refine .ptr _ _ _ _ _ rfl hN (fun blk' k1 k2 => ?_)
                rw [h5] at k1
                cases k1
                refine ⟨by omega, p, hp, ?_⟩
                rw [← h3]
                simp only [Addr.add_mid, Nat.add_zero, Nat.add_mul, Nat.add_assoc]
            · omega
        · cases h
      · rename_i e sz full rows hu
        split at h
        · rename_i hh
          simp only [Bool.and_eq_true, decide_eq_true_eq] at hh
          obtain ⟨⟨h2, rfl⟩, hpos⟩ := hh
          obtain ⟨d, hd⟩ := Option.isSome_iff_exists.1 h2
          obtain ⟨row, hrow, rfl⟩ := Option.map_eq_some_iff.1 h
          cases ha with
          | ro _ _ _ ad cap vals hcap hmax hfull hnone hlen hcell hpure hrel =>
            have hlt : i.toNat < rows.length := (List.getElem?_eq_some_iff.1 hrow).1
            cases ad with
            | none => rw [hnone rfl] at hlt; simp at hlt
            | some ad =>
              by_cases hz : row = []
              · subst hz
                have hsz := hlen _ _ hrow
                simp only [List.length_nil] at hsz
                omega
              · obtain ⟨x0, rest, rfl⟩ : ∃ x0 rest, row = x0 :: rest := by cases row with | nil => exact absurd rfl hz | cons a l => exact ⟨a, l, rfl⟩
                have hsp := (hcell ad rfl i.toNat _ 0 x0 hrow rfl).1
                have hadd : ad.add (i.toNat * P.cellsOf e) = ⟨ad.block, ad.off + i.toNat * P.cellsOf e + 0, none⟩ := by
                  cases ad with | mk b o s => simp only at hsp; subst hsp; rw [Addr.add_mid]; rfl
                refine ⟨.pointer (some (ad.add (i.toNat * P.cellsOf e))), ?_, ?_⟩
                · simp only [Instr.indexAt, asIntOf, Sem.run_bind, Sem.run_pure, Result.andThen_ok, run_underlying hu, if_pos (And.intro h0' (show i < (rows.length : Int) by omega)), sizeOf_run hd]
                · rw [hadd]
                  exact .rp _ 0 ad.block _ (vals i.toNat) (fun j x hx => by
                    obtain ⟨k1, k2, k3, k4⟩ := hcell ad rfl i.toNat _ j x hrow hx
                    exact ⟨k2, by rw [Nat.add_assoc]; exact k3, k4⟩) (fun j x hx => hpure _ _ j x hrow hx) (fun j x hx => hrel _ _ j x hrow hx)
        · cases h
      · rename_i n e τ g r off hu
        split at h
        · rename_i hh
          simp only [Bool.and_eq_true, decide_eq_true_eq] at hh
          obtain ⟨⟨h1, h2⟩, h4⟩ := hh
          cases h
          obtain ⟨d, hd⟩ := Option.isSome_iff_exists.1 h2
          obtain ⟨blk, h5, h6⟩ := alive_spec h1
          cases ha with
          | ptr _ _ _ _ y hy hN hv =>
            obtain ⟨h7, p, hp, rfl⟩ := hv blk h5 h6
            refine ⟨.pointer (some (Addr.add ⟨p.1, p.2 + (r * blk.sz + off), none⟩ (i.toNat * P.cellsOf e))), ?_, ?_⟩
            · simp only [Instr.indexAt, asIntOf, Sem.run_bind, Sem.run_pure, Result.andThen_ok, run_underlying hu, Instr.sureAddr, if_pos (And.intro h0' h4), sizeOf_run hd]
            · refine .ptr _ _ _ _ _ rfl hN (fun blk' k1 k2 => ?_)
              rw [h5] at k1
              cases k1
              exact ⟨h7, p, hp, by simp only [Addr.add_mid, Nat.add_assoc]⟩
        · cases h
      · rename_i n e row off hu
        split at h
        · rename_i hh
          simp only [Bool.and_eq_true, decide_eq_true_eq] at hh
          obtain ⟨h2, h4⟩ := hh
          cases h
          obtain ⟨d, hd⟩ := Option.isSome_iff_exists.1 h2
          cases ha with
          | rp row off b o vals hc hp hr =>
            refine ⟨.pointer (some (Addr.add ⟨b, o + off, none⟩ (i.toNat * P.cellsOf e))), ?_, ?_⟩
            · simp only [Instr.indexAt, asIntOf, Sem.run_bind, Sem.run_pure, Result.andThen_ok, run_underlying hu, Instr.sureAddr, if_pos (And.intro h0' h4), sizeOf_run hd]
            · rw [Addr.add_mid, Nat.add_assoc]
              exact .rp _ _ b o vals hc hp hr
        · cases h
      · cases h
  · cases h
end Go.Proofs.Ytaaealngifkaeaa.Pv
