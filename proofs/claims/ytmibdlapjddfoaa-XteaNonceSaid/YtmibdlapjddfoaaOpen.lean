-- A law's parameters, opened by kinds: what a value reads as, for types of whatever depth.
import Derived.Test.YtmibdlapjddfoaaWWords
import Derived.WalkKit
import Derived.ProofKit
import Derived.OpenShut
import Derived.SizedLaws
import Derived.Deep.Slices
namespace Go.Proofs.Ytmibdlapjddfoaa.Open
open Go.RowKit Go.Proofs.YtmibdlapjddfoaaW.PrintWords Go.WideShapes Go.ChangeShapes

/-- What a type's cells read as: a value of a kind, of which something is known. -/
def Opens {α : Type} (P : Program) (t : TypeId) (d : Kd α) (ok : α → Prop) : Prop :=
  d.sz = P.cellsOf t ∧ ∀ (H : Type) (enc : TypeId × Value → H) (w : World) (spare : Nat → Bool) (held : Bool) (fuel : Nat) (cs : List Value) (x : DataW H × List MemPlace),
    DataW.trod enc P w 0 spare held fuel t cs = some x → (DataW.weights P t x.1).all (· ≤ reachBytes) = true → ∃ v : α, d.K w v cs ∧ ok v

theorem opens_int {P : Program} {t : TypeId} {k : IntKind} (ht : P.underlying t = some (.int k)) (hc : P.cellsOf t = 1) : Opens P t (Kd.int k) (fun n => (Lit.int k n).wf = true) :=
  ⟨hc.symm, fun H enc w spare held fuel cs x h _ => by
    obtain ⟨n, rfl, rfl, hw⟩ := DataW.trod_int ht h
    exact ⟨n, rfl, hw⟩⟩
theorem opens_bool {P : Program} {t : TypeId} (ht : P.underlying t = some .bool) (hc : P.cellsOf t = 1) : Opens P t Kd.bool (fun _ => True) :=
  ⟨hc.symm, fun H enc w spare held fuel cs x h _ => by
    obtain ⟨n, rfl, rfl⟩ := DataW.trod_bool ht h
    exact ⟨n, rfl, trivial⟩⟩
theorem opens_string {P : Program} {t : TypeId} (ht : P.underlying t = some .string) (hc : P.cellsOf t = 1) : Opens P t Kd.string (fun s => s.size ≤ 140737488351232) :=
  ⟨hc.symm, fun H enc w spare held fuel cs x h hs => by
    obtain ⟨n, rfl, rfl, hw⟩ := DataW.trod_string ht h
    refine ⟨n, rfl, ?_⟩
    simp only [DataW.weights, List.all_cons, List.all_nil, Bool.and_true, decide_eq_true_eq] at hs
    have : n.data.toList.length = n.size := by rw [Array.length_toList]; rfl
    unfold reachBytes at hs
    omega⟩
theorem weightsAll_mem {H : Type} {P : Program} {e : TypeId} {l : List (DataW H)} {d : DataW H} (hd : d ∈ l) (h : (DataW.weightsAll P e l).all (· ≤ reachBytes) = true) : (DataW.weights P e d).all (· ≤ reachBytes) = true := by
  induction l with
  | nil => cases hd
  | cons y l ih =>
    simp only [DataW.weightsAll, List.all_append, Bool.and_eq_true] at h
    cases hd with
    | head => exact h.1
    | tail _ hm => exact ih hm h.2
theorem opens_slice {α : Type} [Inhabited α] {P : Program} {t e : TypeId} {d : Kd α} {ok : α → Prop} {B : Nat} (ht : P.underlying t = some (.slice e)) (hc : P.cellsOf t = 1) (hB : P.bytesOf e = B) (ho : Opens P e d ok) :
    Opens P t (Kd.slice e d) (fun xs => xs.length * B ≤ 140737488351232 ∧ xs.length ≤ maxLen ∧ ∀ x ∈ xs, ok x) :=
  ⟨hc.symm, fun H enc w spare held fuel cs x h hs => by
    rcases Go.Deep.open_slice ht h with ⟨rfl, rfl⟩ | ⟨a, len, cap, m, n, D, Pl, rfl, _, hl, hm, hmm, rfl, hx⟩
    · exact ⟨[], ⟨none, 0, rfl, Nat.le_refl _, Kd.C_nil _ _⟩, by simp, by simp, by simp⟩
    simp only [DataW.weights, ht, List.all_cons, List.all_append, Bool.and_eq_true, decide_eq_true_eq, List.length_map, List.length_range] at hs
    obtain ⟨h1, h2, _⟩ := hs
    have hlm : len ≤ m := by rw [hmm]; split <;> omega
    have each : ∀ i, i < len → ∃ v : α, ∃ cs' : List Value, w.cells? 0 (a.add (i * P.cellsOf e)) (P.cellsOf e) = some cs' ∧ d.K w v cs' ∧ ok v := by
      intro i hi
      obtain ⟨cs', hcell, hy⟩ := hx i (by omega)
      obtain ⟨v, hk, hv⟩ := ho.2 H enc w spare held n cs' _ hy (weightsAll_mem (List.mem_map.2 ⟨i, List.mem_range.2 hi, rfl⟩) h2)
      exact ⟨v, cs', hcell, hk, hv⟩
    obtain ⟨V, hV⟩ := Go.Deep.choose_lt each
    refine ⟨(List.range len).map V, ⟨some a, cap, by simp, by simpa using hl, ?_⟩, ?_, ?_, ?_⟩
    · refine ⟨by simp, by simp only [List.length_map, List.length_range]; simp only [maxLen] at hm; omega, fun _ => ⟨a, rfl, fun j p hp => ?_⟩⟩
      have hj : j < len := by
        rcases Nat.lt_or_ge j len with h | h
        · exact h
        · rw [List.getElem?_eq_none (by simpa using h)] at hp
          cases hp
      have hp' : V j = p := by simpa [hj] using hp
      subst hp'
      obtain ⟨cs', hcell, hk, hv⟩ := hV j hj
      refine ⟨cs', d.K_len hk, hk, fun i u hu => ?_⟩
      obtain ⟨_, hlen, hc'⟩ := World.cells?_some hcell
      have hi : i < cs'.length := by
        rcases Nat.lt_or_ge i cs'.length with h | h
        · exact h
        · rw [List.getElem?_eq_none h] at hu
          cases hu
      have := hc' i (by omega)
      rw [Go.Deep.add_add, ← ho.1] at this
      rw [this, hu]
    · simp only [List.length_map, List.length_range]
      unfold reachBytes at h1
      rw [hB] at h1
      exact Nat.le_trans (Nat.mul_le_mul_right _ (Nat.le_add_right _ _)) h1
    · simp only [List.length_map, List.length_range]
      omega
    · intro y hy
      obtain ⟨i, hi, rfl⟩ := List.mem_map.1 hy
      exact (hV i (List.mem_range.1 hi)).choose_spec.2.2⟩

/-- An array of whole numbers (or a struct of them), by its cells. -/
def ints (k : IntKind) (n : Nat) : Kd (List Int) where
  sz := n
  E := []
  K := fun _ xs cs => xs.length = n ∧ cs = xs.map (Value.int k)
  M := fun _ _ _ xs cs => xs.length = n ∧ cs = xs.map (Value.int k)
  K_len := fun h => by rw [h.2, List.length_map]; exact h.1
  K_one := fun h u hu => by
    rw [h.2] at hu
    obtain ⟨x, _, rfl⟩ := List.mem_map.1 hu
    rfl
  K_below := fun _ h => h
  K_of_M := fun h => h
  M_mono := fun _ h => h
  M_bound := fun h => h
  M_move := fun _ h => h
  M_lower := fun _ h => h
theorem opens_array {P : Program} {t e : TypeId} {k : IntKind} {n : Nat} (ht : P.underlying t = some (.array n e)) (he : P.underlying e = some (.int k)) (hc : P.cellsOf e = 1) (hn : P.cellsOf t = n) :
    Opens P t (ints k n) (fun xs => ∀ x ∈ xs, (Lit.int k x).wf = true) :=
  ⟨hn.symm, fun H enc w spare held fuel cs x h _ => by
    obtain ⟨xs, m, rfl, rfl, hl, hx, hget⟩ := DataW.trod_array ht h
    have hl' : cs.length = n := by rw [hl, hn]
    have each : ∀ i, i < n → ∃ v : Int, cs[i]? = some (.int k v) ∧ (Lit.int k v).wf = true := by
      intro i hi
      have hg := hget i hi
      rw [List.getElem?_eq_getElem (by omega), hc, Nat.mul_one] at hg
      obtain ⟨v, h1, _, h3⟩ := DataW.trod_int he hg
      refine ⟨v, ?_, h3⟩
      have h4 : ((cs.drop i).take 1)[0]? = some (.int k v) := by rw [h1]; rfl
      rw [List.getElem?_take] at h4
      simpa using h4
    obtain ⟨V, hV⟩ := Go.Deep.choose_lt each
    refine ⟨(List.range n).map V, ⟨by simp, ?_⟩, ?_⟩
    · apply List.ext_getElem?
      intro i
      rcases Nat.lt_or_ge i n with hi | hi
      · rw [(hV i hi).1]
        simp [hi]
      · rw [List.getElem?_eq_none (by omega), List.getElem?_eq_none (by simpa using hi)]
    · intro y hy
      obtain ⟨i, hi, rfl⟩ := List.mem_map.1 hy
      exact (hV i (List.mem_range.1 hi)).2⟩

/-! Parameters -/
section
variable {P : Program} {W : World} {base : Nat} {H : Type} {enc : TypeId × Value → H} {spare : Nat → Bool} {held : Bool} {t : TypeId} {v : Value} {d : DataW H} {ps : List MemPlace}
theorem weight_at {ts : List TypeId} {ds : List (DataW H)} (h : (DataW.weightsEach P ts ds).all (· ≤ reachBytes) = true) : ∀ {j : Nat} {t : TypeId} {d : DataW H}, ts[j]? = some t → ds[j]? = some d → (DataW.weights P t d).all (· ≤ reachBytes) = true := by
  induction ts generalizing ds with
  | nil => intro j t d ht _; simp at ht
  | cons u ts ih =>
    intro j t d ht hd
    cases ds with
    | nil => simp at hd
    | cons y ds =>
      simp only [DataW.weightsEach, List.all_append, Bool.and_eq_true] at h
      cases j with
      | zero =>
        obtain rfl : u = t := by simpa using ht
        obtain rfl : y = d := by simpa using hd
        exact h.1
      | succ j => exact ih h.2 (by simpa using ht) (by simpa using hd)
theorem par_slice {α : Type} {e : TypeId} {k : Kd α} {ok : List α → Prop} (ht : P.underlying t = some (.slice e)) (ho : Opens P t (Kd.slice e k) ok) (hv : Value.okWide P W .any base t v) (h : DataW.Trod enc P W 0 spare held t v d ps)
    (hs : (DataW.weights P t d).all (· ≤ reachBytes) = true) : ∃ (A : Option Addr) (c : Nat) (xs : List α), v = .slice A xs.length c ∧ xs.length ≤ c ∧ k.C W A xs.length xs ∧ ok xs := by
  obtain ⟨A, l, c, rfl⟩ := okWide_slice ht hv
  obtain ⟨fuel, hf⟩ := h
  obtain ⟨xs, ⟨A', c', he, hl, hr⟩, hok⟩ := ho.2 H enc W spare held fuel _ _ hf hs
  simp [Value.cells] at he
  obtain ⟨rfl, rfl, rfl⟩ := he
  exact ⟨A, c, xs, rfl, hl, hr, hok⟩
theorem par_array {e : TypeId} {k : IntKind} {n : Nat} (ht : P.underlying t = some (.array n e)) (ho : Opens P t (ints k n) (fun xs => ∀ x ∈ xs, (Lit.int k x).wf = true)) (hv : Value.okWide P W .any base t v) (h : DataW.Trod enc P W 0 spare held t v d ps)
    (hs : (DataW.weights P t d).all (· ≤ reachBytes) = true) : ∃ xs : List Int, v = .agg (xs.map (Value.int k)).toArray ∧ xs.length = n ∧ ∀ x ∈ xs, (Lit.int k x).wf = true := by
  unfold Value.okWide at hv
  rw [ht] at hv
  obtain ⟨cs, rfl, _, _⟩ := hv
  obtain ⟨fuel, hf⟩ := h
  obtain ⟨xs, ⟨h1, h2⟩, hok⟩ := ho.2 H enc W spare held fuel _ _ hf hs
  refine ⟨xs, ?_, h1, hok⟩
  have h2' : cs.toList = xs.map (Value.int k) := h2
  rw [← h2']
theorem par_string (ht : P.underlying t = some .string) (hc : P.cellsOf t = 1) (hv : Value.okWide P W .any base t v) (h : DataW.Trod enc P W 0 spare held t v d ps)
    (hs : (DataW.weights P t d).all (· ≤ reachBytes) = true) : ∃ s : ByteArray, v = .string s ∧ s.size ≤ 140737488351232 := by
  obtain ⟨s, rfl⟩ := okWide_string ht hv
  obtain ⟨fuel, hf⟩ := h
  obtain ⟨s', hk, hok⟩ := (opens_string ht hc).2 H enc W spare held fuel _ _ hf hs
  have hk' : [Value.string s] = [Value.string s'] := hk
  simp at hk'
  subst hk'
  exact ⟨s, rfl, hok⟩
end
end Go.Proofs.Ytmibdlapjddfoaa.Open
