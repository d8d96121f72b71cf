-- The document's order is that of Go's own sort; slices.Sort of texts.
import Derived.Test.YtenoecffjfcifaaDoorPtN
import Derived.Sort.EncStr
namespace Go.Proofs.YtenoecffjfcifaaDoor.Pv
set_option linter.all false
set_option linter.unusedVariables false
open Go.RowKit Go.Proofs
set_option maxRecDepth 100000
set_option maxHeartbeats 4000000
theorem lessF_trans : ∀ a b c, lessF a b = true → lessF b c = true → lessF a c = true
  | [], [], _, h, _ => by cases h
  | [], _ :: _, [], _, k => by cases k
  | [], _ :: _, _ :: _, _, _ => rfl
  | _ :: _, [], _, h, _ => by cases h
  | _ :: _, _ :: _, [], _, k => by cases k
  | x :: a, y :: b, z :: c, h, k => by
    rw [lessF] at h k ⊢
    by_cases e1 : x = y
    · subst e1
      rw [if_pos rfl] at h
      by_cases e2 : x = z
      · subst e2
        rw [if_pos rfl] at k ⊢
        exact lessF_trans a b c h k
      · rw [if_neg e2] at k ⊢
        exact k
    · rw [if_neg e1] at h
      have h := of_decide_eq_true h
      by_cases e2 : y = z
      · subst e2
        rw [if_neg e1]
        exact decide_eq_true h
      · rw [if_neg e2] at k
        have k := of_decide_eq_true k
        rw [if_neg (by omega)]
        exact decide_eq_true (by omega)
def leF (a b : List Int) : Prop := lessF b a = false
theorem leF_trans {a b c : List Int} (h : leF a b) (k : leF b c) : leF a c := by
  unfold leF at *
  cases hca : lessF c a with
  | false => rfl
  | true =>
    cases hab : lessF a b with
    | true =>
      have := lessF_trans c a b hca hab
      rw [k] at this
      cases this
    | false =>
      have := lessF_total a b hab h
      subst this
      rw [k] at hca
      cases hca
theorem leF_total (a b : List Int) : leF a b ∨ leF b a := by
  unfold leF
  cases h : lessF b a with
  | false => exact .inl rfl
  | true => exact .inr (lessF_asymm _ _ h)
theorem leF_antisymm {a b : List Int} (h : leF a b) (k : leF b a) : a = b := lessF_total a b k h
theorem insF_sorted (x : List Int) : ∀ {l}, l.Pairwise leF → (insF x l).Pairwise leF
  | [], _ => by simp [insF]
  | y :: l, h => by
    rw [List.pairwise_cons] at h
    rw [insF]
    split
    · rename_i hxy
      rw [List.pairwise_cons]
      refine ⟨fun z hz => ?_, List.pairwise_cons.2 h⟩
      have hxy' : leF x y := lessF_asymm _ _ hxy
      rcases List.mem_cons.1 hz with rfl | hz
      · exact hxy'
      · exact leF_trans hxy' (h.1 z hz)
    · rename_i hxy
      rw [List.pairwise_cons]
      refine ⟨fun z hz => ?_, insF_sorted x h.2⟩
      rcases List.mem_cons.1 ((insF_perm x l).mem_iff.1 hz) with rfl | hz
      · unfold leF; simpa using hxy
      · exact h.1 z hz
theorem rsortF_sorted (L : List (List Int)) : (rsortF L).Pairwise leF := by
  have : ∀ (L out : List (List Int)), out.Pairwise leF → (L.foldl (fun out x => insF x out) out).Pairwise leF := by
    intro L
    induction L with
    | nil => intro out h; exact h
    | cons x L ih => intro out h; exact ih _ (insF_sorted x h)
  exact this L [] .nil
theorem sorted_unique {α : Type} {le : α → α → Prop} (anti : ∀ a b, le a b → le b a → a = b) : ∀ {l m : List α}, l.Pairwise le → m.Pairwise le → l.Perm m → l = m
  | [], m, _, _, hp => by rw [List.nil_perm.1 hp]
  | x :: l, [], _, _, hp => by simp at hp
  | x :: l, y :: m, h, k, hp => by
    rw [List.pairwise_cons] at h k
    have hxy : x = y := by
      have h1 : x ∈ y :: m := hp.mem_iff.1 (by simp)
      have h2 : y ∈ x :: l := hp.mem_iff.2 (by simp)
      rcases List.mem_cons.1 h1 with e | h1
      · exact e
      rcases List.mem_cons.1 h2 with e | h2
      · exact e.symm
      exact anti _ _ (h.1 y h2) (k.1 x h1)
    subst hxy
    rw [sorted_unique anti h.2 k.2 hp.cons_inv]
def u8s (l : List Int) : List UInt8 := l.map fun n => UInt8.ofNat n.toNat
def i64s (l : List UInt8) : List Int := l.map fun c => (c.toNat : Int)
theorem u8s_i64s (l : List UInt8) : u8s (i64s l) = l := by
  induction l with
  | nil => rfl
  | cons c l ih =>
    unfold u8s i64s at ih ⊢
    rw [List.map_cons, List.map_cons, ih]
    simp
theorem oct_i64s (l : List UInt8) : Oct (i64s l) := by
  intro x hx
  obtain ⟨c, _, rfl⟩ := List.mem_map.1 hx
  have := c.toNat_lt
  omega
theorem u8_lt {x y : Int} (hx : 0 ≤ x ∧ x < 256) (hy : 0 ≤ y ∧ y < 256) : UInt8.ofNat x.toNat < UInt8.ofNat y.toNat ↔ x < y := by
  rw [UInt8.lt_iff_toNat_lt]
  simp only [UInt8.toNat_ofNat']
  omega
theorem u8_eq {x y : Int} (hx : 0 ≤ x ∧ x < 256) (hy : 0 ≤ y ∧ y < 256) : UInt8.ofNat x.toNat = UInt8.ofNat y.toNat ↔ x = y := by
  rw [← UInt8.toNat_inj]
  simp only [UInt8.toNat_ofNat']
  omega
theorem u8s_lt : ∀ {a b : List Int}, Oct a → Oct b → (u8s a < u8s b ↔ lessF a b = true)
  | [], [], _, _ => by simp [u8s, lessF]
  | [], _ :: _, _, _ => by simp [u8s, lessF]
  | _ :: _, [], _, _ => by simp [u8s, lessF]
  | x :: a, y :: b, ha, hb => by
    have hx := ha x (by simp)
    have hy := hb y (by simp)
    have ih := u8s_lt (a := a) (b := b) (fun z hz => ha z (by simp [hz])) (fun z hz => hb z (by simp [hz]))
    unfold u8s at ih ⊢
    rw [List.map_cons, List.map_cons, List.cons_lt_cons_iff, u8_lt hx hy, u8_eq hx hy, ih, lessF]
    by_cases e : x = y
    · subst e
      simp
    · rw [if_neg e]
      simp [e]
theorem u8s_le {a b : List Int} (ha : Oct a) (hb : Oct b) : u8s a ≤ u8s b ↔ leF a b := by
  rw [← List.not_lt, u8s_lt hb ha]
  unfold leF
  simp
theorem u8s_inj {a b : List Int} (ha : Oct a) (hb : Oct b) (h : u8s a = u8s b) : a = b := by
  induction a generalizing b with
  | nil => cases b with
    | nil => rfl
    | cons y b => simp [u8s] at h
  | cons x a ih => cases b with
    | nil => simp [u8s] at h
    | cons y b =>
      unfold u8s at h ih
      rw [List.map_cons, List.map_cons, List.cons.injEq] at h
      rw [(u8_eq (ha x (by simp)) (hb y (by simp))).1 h.1, ih (fun z hz => ha z (by simp [hz])) (fun z hz => hb z (by simp [hz])) h.2]
theorem str_u8s (l : List Int) : str l = ⟨(u8s l).toArray⟩ := rfl
/-- Go's sort and the document's. -/
theorem sort_same (L : List (List Int)) (ho : ∀ x ∈ L, Oct x) : (L.map u8s).mergeSort (fun x y => decide (x ≤ y)) = (rsortF L).map u8s := by
  have tot : ∀ a b : List UInt8, a ≤ b ∨ b ≤ a := fun a b => by
    rw [← u8s_i64s a, ← u8s_i64s b, u8s_le (oct_i64s a) (oct_i64s b), u8s_le (oct_i64s b) (oct_i64s a)]
    exact leF_total _ _
  have tr : ∀ a b c : List UInt8, a ≤ b → b ≤ c → a ≤ c := fun a b c => by
    rw [← u8s_i64s a, ← u8s_i64s b, ← u8s_i64s c, u8s_le (oct_i64s a) (oct_i64s b), u8s_le (oct_i64s b) (oct_i64s c), u8s_le (oct_i64s a) (oct_i64s c)]
    exact leF_trans
  have an : ∀ a b : List UInt8, a ≤ b → b ≤ a → a = b := fun a b => by
    rw [← u8s_i64s a, ← u8s_i64s b, u8s_le (oct_i64s a) (oct_i64s b), u8s_le (oct_i64s b) (oct_i64s a)]
    intro h k
    rw [leF_antisymm h k]
  refine sorted_unique (le := fun a b => a ≤ b) an ?_ ?_ ?_
  · have := List.pairwise_mergeSort (le := fun (x y : List UInt8) => decide (x ≤ y)) (fun a b c h k => decide_eq_true (tr a b c (of_decide_eq_true h) (of_decide_eq_true k))) (fun a b => by
      rcases tot a b with h | h
      · simp [h]
      · simp [h]) (L.map u8s)
    exact this.imp fun h => of_decide_eq_true h
  · rw [List.pairwise_map]
    have hs := rsortF_sorted L
    have hm : ∀ x ∈ rsortF L, Oct x := fun x hx => ho x ((rsort_perm L).mem_iff.1 hx)
    exact List.Pairwise.imp_of_mem (fun {a b} ha hb h => (u8s_le (hm a ha) (hm b hb)).2 h) hs
  · exact (List.mergeSort_perm _ _).trans ((rsort_perm L).symm.map u8s)
end Go.Proofs.YtenoecffjfcifaaDoor.Pv
