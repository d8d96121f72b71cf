-- Fifth text: indexes of values, slices, lengths, conversions, what is built.
import Derived.Test.YtaaealngifkaeaaPvD
import Derived.Laws.BytesArg
namespace Go.Proofs.Ytaaealngifkaeaa.Pv
set_option linter.all false
open Go.RowKit
set_option linter.unusedVariables false

theorem bytes_get? (s : ByteArray) (i : Nat) : s[i]? = s.data.toList[i]? := by
  rcases Nat.lt_or_ge i s.size with h | h
  · rw [getElem?_pos s i h, List.getElem?_eq_getElem (by rw [Array.length_toList]; exact h)]
    rfl
  · rw [getElem?_neg s i (by omega), List.getElem?_eq_none (by rw [Array.length_toList]; exact h)]

def indexPV (P : Program) (t : TypeId) (x ix : PV) : Option PV :=
  match intPV ix with
  | some i => if i < 0 then none else
    match P.underlying t, x with
    | some (.array n e), .agg cs => if known P e && decide (i < (n : Int)) then partPV P e cs (i.toNat * P.cellsOf e) else none
    | some .string, .v (.string s) => (s.data.toList[i.toNat]?).map fun b => .v (.int .u8 b.toNat)
    | _, _ => none
  | none => none

theorem indexPV_sound {P : Program} {c : Cx} {t : TypeId} {x ix z : PV} {a b : Value} (h : indexPV P t x ix = some z) (ha : RelV c x a) (hb : RelV c ix b) :
    ∃ v, (Instr.index t a b).run P c.w = .ok v c.w ∧ RelV c z v := by
  unfold indexPV at h
  split at h
  · rename_i i hix
    obtain ⟨k, rfl⟩ := intPV_rel hix hb
    split at h
    · cases h
    · rename_i h0
      have h0' : 0 ≤ i := by omega
      split at h
      · rename_i n e cs hu
        split at h
        · rename_i hh
          simp only [Bool.and_eq_true, decide_eq_true_eq] at hh
          obtain ⟨vs, rfl⟩ := rel_agg ha
          obtain ⟨v, h1, h2⟩ := partPV_sound h hh.1 ha
          obtain ⟨d, hd⟩ := Option.isSome_iff_exists.1 hh.1
          refine ⟨v, ?_, h2⟩
          simp only [Instr.index, asIntOf, Sem.run_bind, Sem.run_pure, Result.andThen_ok, run_underlying hu, if_pos (And.intro h0' hh.2), sizeOf_run hd]
          exact h1
        · cases h
      · rename_i s hu
        obtain ⟨u, h1, rfl⟩ := Option.map_eq_some_iff.1 h
        cases ha
        refine ⟨.int .u8 u.toNat, ?_, .v _⟩
        simp only [Instr.index, asIntOf, Sem.run_bind, Sem.run_pure, Result.andThen_ok, run_underlying hu, if_pos h0', bytes_get?, h1]
      · cases h
  · cases h

def lenPV (P : Program) (S : List Blk) (t : TypeId) (x : PV) : Option PV :=
  match P.underlying t, x with
  | some .string, .v (.string s) => some (.v (.int .i64 s.size))
  | some (.slice _), .vw τ g _ len => if alive S τ g then some (.v (.int .i64 len)) else none
  | some (.slice _), .ro _ _ rows => some (.v (.int .i64 rows.length))
  | some (.slice _), .v (.slice _ n _) => some (.v (.int .i64 n))
  | some (.array n _), _ => some (.v (.int .i64 n))
  | _, _ => none

theorem lenPV_sound {P : Program} {c : Cx} {t ty : TypeId} {x z : PV} {a : Value} (h : lenPV P c.S t x = some z) (ha : RelV c x a) :
    ∃ v, (Builtin.len_ #[t] ty #[a]).run P c.w = .ok v c.w ∧ RelV c z v := by
  unfold lenPV at h
  split at h
  · rename_i s hu
    cases h; cases ha
    exact ⟨_, by simp [Builtin.len_, run_underlying hu, goInt], .v _⟩
  · rename_i hu
    split at h
    · rename_i hal
      obtain ⟨blk, h1, h2⟩ := alive_spec hal
      cases h
      cases ha with
      | vw _ _ _ _ y hy hN hv =>
        obtain ⟨_, ad, cap, rfl, _⟩ := hv blk h1 h2
        exact ⟨_, by simp [Builtin.len_, run_underlying hu, goInt], .v _⟩
    · cases h
  · rename_i hu
    cases h
    cases ha with
    | ro _ _ _ ad cap vals hcap hmax hfull hnone hlen hcell hpure hrel => exact ⟨_, by simp [Builtin.len_, run_underlying hu, goInt], .v _⟩
  · rename_i hu
    cases h; cases ha
    exact ⟨_, by simp [Builtin.len_, run_underlying hu, goInt], .v _⟩
  · rename_i n e hu
    cases h
    exact ⟨.int .i64 n, by simp [Builtin.len_, run_underlying hu, goInt], .v _⟩
  · cases h

/-- A bound of a slice expression. -/
def boundPV (d : Nat) : Option PV → Option Nat
  | none => some d
  | some x => match intPV x with
    | some i => if i < 0 then none else some i.toNat
    | none => none

theorem boundPV_run {P : Program} {c : Cx} {d y n : Nat} {o : Option PV} {v : Option Value} {code : BoundsCode} (h : boundPV d o = some n) (hr : ∀ x, o = some x → ∃ u, v = some u ∧ RelV c x u) (hn : o = none → v = none) (hy : n ≤ y) (w : World) :
    (o = none ∧ v = none ∧ n = d) ∨ ∃ u, v = some u ∧ (Instr.sliceBound u y code).run P w = .ok n w := by
  cases o with
  | none => cases h; exact .inl ⟨rfl, hn rfl, rfl⟩
  | some x =>
    obtain ⟨u, rfl, hru⟩ := hr x rfl
    simp only [boundPV] at h
    split at h
    · rename_i i hi
      obtain ⟨k, rfl⟩ := intPV_rel hi hru
      split at h
      · cases h
      · cases h
        exact .inr ⟨_, rfl, run_sliceBound w k i y code (by omega) (by omega)⟩
    · cases h

def slicePV (P : Program) (S : List Blk) (t : TypeId) (x : PV) (lo hi mx : Option PV) : Option PV :=
  match P.underlying t, x with
  | some .string, .v (.string s) =>
    match mx, boundPV s.size hi, boundPV 0 lo with
    | none, some h, some l => if l ≤ h ∧ h ≤ s.size then some (.v (.string (s.extract l h))) else none
    | _, _, _ => none
  | some (.slice e), .vw τ g off len =>
    match boundPV len hi, boundPV 0 lo, boundPV len mx with
    | some h, some l, some m => if l ≤ h ∧ h ≤ m ∧ m ≤ len ∧ alive S τ g ∧ known P e ∧ S[τ]?.map (·.sz) = some (P.cellsOf e) ∧ (hi = none → mx = none) then some (.vw τ g (off + l) (h - l)) else none
    | _, _, _ => none
  | some (.slice e), .ro sz full rows =>
    match boundPV rows.length hi, boundPV 0 lo, boundPV rows.length mx with
    | some h, some l, some m => if l ≤ h ∧ h ≤ m ∧ m ≤ rows.length ∧ known P e ∧ sz = P.cellsOf e ∧ (hi = none → mx = none) then
        some (.ro sz (if mx.isSome then decide (h = m) else full && decide (h = rows.length)) ((rows.drop l).take (h - l))) else none
    | _, _, _ => none
  | some (.slice e), .v (.slice none 0 0) =>
    match boundPV 0 hi, boundPV 0 lo, boundPV 0 mx with
    | some 0, some 0, some 0 => if known P e && (hi.isSome || mx.isNone) then some (.v (.slice none 0 0)) else none
    | _, _, _ => none
  | _, _ => none

/-- What the slice's bounds come to. -/
theorem sliceBounds_run {P : Program} {c : Cx} {is : Bool} {len cap l h m : Nat} {lo hi mx : Option PV} {vl vh vm : Option Value} (w : World)
    (hh : boundPV len hi = some h) (hl : boundPV 0 lo = some l) (hm : boundPV len mx = some m) (h1 : l ≤ h) (h2 : h ≤ m) (h3 : m ≤ len) (h4 : len ≤ cap) (hx : hi = none → mx = none)
    (rl : ∀ x, lo = some x → ∃ u, vl = some u ∧ RelV c x u) (nl : lo = none → vl = none) (rh : ∀ x, hi = some x → ∃ u, vh = some u ∧ RelV c x u) (nh : hi = none → vh = none)
    (rm : ∀ x, mx = some x → ∃ u, vm = some u ∧ RelV c x u) (nm : mx = none → vm = none) :
    ∃ m', (mx = none → m' = cap) ∧ (mx ≠ none → m' = m) ∧ h ≤ m' ∧ m' ≤ cap ∧ (Instr.sliceBounds is len cap vl vh vm).run P w = .ok (l, h, m') w := by
  rcases boundPV_run (P := P) (y := cap) (code := if is then .slice3Acap else .slice3Alen) hm rm nm (by omega) w with ⟨e1, e2, e3⟩ | ⟨um, e2, e3⟩
  · subst e1 e2 e3
    refine ⟨cap, fun _ => rfl, fun h => absurd rfl h, by omega, Nat.le_refl _, ?_⟩
    rcases boundPV_run (P := P) (y := cap) (code := if is then .sliceAcap else .sliceAlen) hh rh nh (by omega) w with ⟨g1, g2, g3⟩ | ⟨uh, g2, g3⟩
    · subst g1 g2 g3
      rcases boundPV_run (P := P) (y := h) (code := .sliceB) hl rl nl (by omega) w with ⟨f1, f2, f3⟩ | ⟨ul, f2, f3⟩
      · subst f1 f2 f3; simp [Instr.sliceBounds]
      · subst f2; simp [Instr.sliceBounds, f3]
    · subst g2
      rcases boundPV_run (P := P) (y := h) (code := .sliceB) hl rl nl (by omega) w with ⟨f1, f2, f3⟩ | ⟨ul, f2, f3⟩
      · subst f1 f2 f3; cases is <;> simp at g3 <;> simp [Instr.sliceBounds, g3]
      · subst f2; cases is <;> simp at g3 <;> simp [Instr.sliceBounds, g3, f3]
  · have hmx : mx ≠ none := by
      intro e
      have := nm e
      rw [this] at e2
      cases e2
    subst e2
    refine ⟨m, fun e => absurd e hmx, fun _ => rfl, h2, by omega, ?_⟩
    rcases boundPV_run (P := P) (y := m) (code := .slice3B) hh rh nh (by omega) w with ⟨g1, g2, g3⟩ | ⟨uh, g2, g3⟩
    · exact absurd (hx g1) hmx
    · subst g2
      rcases boundPV_run (P := P) (y := h) (code := .slice3C) hl rl nl (by omega) w with ⟨f1, f2, f3⟩ | ⟨ul, f2, f3⟩
      · subst f1 f2 f3; cases is <;> simp at e3 <;> simp [Instr.sliceBounds, e3, g3]
      · subst f2; cases is <;> simp at e3 <;> simp [Instr.sliceBounds, e3, g3, f3]
end Go.Proofs.Ytaaealngifkaeaa.Pv
