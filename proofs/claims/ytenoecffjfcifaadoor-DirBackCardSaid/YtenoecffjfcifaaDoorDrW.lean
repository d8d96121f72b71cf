-- Files, entries, bytes: there and back, in plain words.
import Derived.Test.YtenoecffjfcifaaDoorDrY
namespace Go.Proofs.YtenoecffjfcifaaDoor.Pv
set_option linter.all false
set_option linter.unusedVariables false
open Go.RowKit Go.Proofs
set_option maxRecDepth 100000
set_option maxHeartbeats 4000000
theorem sortFi_spec {F : List Fi} (h : (F.map (·.1)).Nodup) : (sortFi F).Perm F ∧ (sortFi F).map (·.1) = rsortF (F.map (·.1)) := by
  obtain ⟨G, h1, h2⟩ := perm_map_inv (f := fun f : Fi => f.1) (rsort_perm (F.map (·.1))) F rfl
  have hs : (G.map (·.1)).Pairwise leF := by
    have := rsortF_sorted (F.map (·.1))
    rwa [← h2] at this
  have e := sortFi_unique h h1 hs
  rw [← e]
  exact ⟨h1, h2⟩
theorem sortFi_perm {F G : List Fi} (h : (F.map (·.1)).Nodup) (hp : G.Perm F) : sortFi G = sortFi F := by
  have hg : (G.map (·.1)).Nodup := (hp.map _).nodup_iff.2 h
  obtain ⟨h1, h2⟩ := sortFi_spec hg
  refine sortFi_unique h (h1.trans hp) ?_
  rw [h2]
  exact rsortF_sorted _
theorem ofF_perm {F G : List Fi} (hp : G.Perm F) : ofF G = ofF F := by
  unfold ofF
  rw [rsetF_perm (hp.map (·.1)), totF_perm hp]
  by_cases q : rsetF (F.map (·.1)) = 0
  · rw [sortFi_perm (rset_nodup q) hp]
  · simp only [q, ne_eq, not_false_eq_true, if_true]
theorem cut_back : ∀ S : List Fi, cutAt (entsOf S) (dataOf S) = S
  | [] => rfl
  | f :: S => by
    have := cut_back S
    simp only [entsOf, dataOf, List.map_cons, List.flatten_cons, cutAt] at this ⊢
    rw [Int.toNat_natCast, List.take_left, List.drop_left, this]
theorem ents_paths (S : List Fi) : (entsOf S).map (·.1) = S.map (·.1) := by simp [entsOf]
theorem ents_sizes (S : List Fi) : ((entsOf S).map (·.2)).sum = totF S := by simp [entsOf, totF, Function.comp_def]
theorem check_of {F : List Fi} (q0 : rsetF (F.map (·.1)) = 0) (q1 : ¬ 65536 < totF F) : checkF (entsOf (sortFi F)) = 0 := by
  obtain ⟨h1, h2⟩ := sortFi_spec (rset_nodup q0)
  unfold checkF
  rw [ents_paths, ents_sizes, h2, rsetF_perm (rsort_perm _), q0, if_neg (fun h => h rfl), if_pos ((sorted_iff _).1 (rsortF_sorted _)), totF_perm h1, if_neg, if_neg q1]
  rintro ⟨e, he, hn⟩
  obtain ⟨f, _, rfl⟩ := List.mem_map.1 he
  simp only at hn
  omega
theorem take_app {l : List Int} {n : Nat} (r : List Int) (h : l.length = n) : (l ++ r).take n = l := by rw [← h, List.take_left]
theorem drop_app {l : List Int} {n : Nat} (r : List Int) (h : l.length = n) : (l ++ r).drop n = r := by rw [← h, List.drop_left]
theorem one_back {e : En} (h1 : e.1.length ≤ 200) (h2 : 0 ≤ e.2) (h3 : e.2 ≤ 65536) (r : List Int) : ¬ oneP (entF e ++ r) ∧ oneE (entF e ++ r) = e ∧ oneR (entF e ++ r) = r := by
  have t2 : Int.toNat 2 = 2 := rfl
  have hN : oneN (entF e ++ r) = e.1.length := by
    unfold oneN entF
    rw [t2, List.append_assoc, List.append_assoc, take_app _ (leN_length _ _), numLE_leN 2 _ (by omega) (by omega)]
  have hD : (entF e ++ r).drop (Int.toNat 2) = e.1 ++ (leN e.2 4 ++ r) := by
    unfold entF
    rw [t2, List.append_assoc, List.append_assoc, drop_app _ (leN_length _ _)]
  have hl : (entF e ++ r).length = 6 + e.1.length + r.length := by simp [entF, leN_length]; omega
  refine ⟨?_, ?_, ?_⟩
  · unfold oneP
    rw [hN, hD]
    simp only [List.length_append, leN_length, hl]
    omega
  · unfold oneE
    rw [hN, hD, Int.toNat_natCast, take_app _ rfl, drop_app _ rfl, show ((e.1.length : Int) + 4).toNat - e.1.length = 4 by omega, take_app _ (leN_length _ _), numLE_leN 4 _ h2 (by omega)]
  · unfold oneR
    rw [hN, hD, show ((e.1.length : Int) + 4).toNat = e.1.length + 4 by omega, ← List.drop_drop, drop_app _ rfl, drop_app _ (leN_length _ _)]
theorem readS_back {E : List En} (h : ∀ e ∈ E, e.1.length ≤ 200 ∧ 0 ≤ e.2 ∧ e.2 ≤ 65536) : ∀ k, k ≤ E.length → readS (entsF E) k = some (E.take k, entsF (E.drop k))
  | 0, _ => rfl
  | k + 1, hk => by
    have hkl : k < E.length := by omega
    have hd : entsF (E.drop k) = entF E[k] ++ entsF (E.drop (k + 1)) := by
      rw [List.drop_eq_getElem_cons hkl, entsF, entsF, List.map_cons, List.flatten_cons]
    obtain ⟨a, b, c⟩ := h E[k] (List.getElem_mem hkl)
    obtain ⟨o1, o2, o3⟩ := one_back a b c (entsF (E.drop (k + 1)))
    rw [readS, readS_back h k (by omega)]
    simp only
    rw [hd, if_neg o1, o2, o3, List.take_succ_eq_append_getElem hkl]
theorem read_back {E : List En} (h : checkF E = 0) : readF (entsF E) E.length = (E, 0) := by
  obtain ⟨h1, h2⟩ := checkF_ents h
  unfold readF
  rw [if_neg (by omega), Int.toNat_natCast, readS_back h2 E.length (Nat.le_refl _), List.take_length, List.drop_length]
  simp only
  rw [if_neg (fun q => q rfl), if_neg (fun q => q h)]
theorem leN_numLE : ∀ {l : List Int}, Oct l → leN (numLE l) l.length = l
  | [], _ => rfl
  | x :: l, h => by
    have hx := h x (by simp)
    have ih := leN_numLE (l := l) fun y hy => h y (by simp [hy])
    rw [numLE, List.length_cons, leN, show (x + 256 * numLE l) % 256 = x by omega, show (x + 256 * numLE l) / 256 = numLE l by omega, ih]
theorem one_fwd {r : List Int} (hr : Oct r) (h : ¬ oneP r) : r = entF (oneE r) ++ oneR r := by
  obtain ⟨q, h2⟩ : ¬ r.length < 2 ∧ ¬ ((r.drop (Int.toNat 2)).length : Int) < oneN r + 4 := ⟨fun h' => h (.inl h'), fun h' => h (.inr h')⟩
  obtain ⟨b1, b2⟩ := oneN_bound hr
  have t2 : Int.toNat 2 = 2 := rfl
  have l2 : (r.take (Int.toNat 2)).length = 2 := by rw [List.length_take, t2]; omega
  have e1 : leN (oneN r) 2 = r.take (Int.toNat 2) := by
    have := leN_numLE (oct_take hr (Int.toNat 2))
    rwa [l2] at this
  have lp : ((r.drop (Int.toNat 2)).take (oneN r).toNat).length = (oneN r).toNat := by rw [List.length_take]; omega
  have x4 : (oneN r + 4).toNat - (oneN r).toNat = 4 := by omega
  have l4 : (((r.drop (Int.toNat 2)).drop (oneN r).toNat).take 4).length = 4 := by rw [List.length_take, List.length_drop]; omega
  have e2 : leN (numLE (((r.drop (Int.toNat 2)).drop (oneN r).toNat).take 4)) 4 = ((r.drop (Int.toNat 2)).drop (oneN r).toNat).take 4 := by
    have := leN_numLE (oct_take (oct_drop (oct_drop hr (Int.toNat 2)) (oneN r).toNat) 4)
    rwa [l4] at this
  unfold entF oneE oneR
  simp only
  rw [lp, show (((oneN r).toNat : Nat) : Int) = oneN r by omega, e1, x4, e2, show (oneN r + 4).toNat = (oneN r).toNat + 4 by omega, ← List.drop_drop, List.append_assoc, List.append_assoc, List.take_append_drop, List.take_append_drop, List.take_append_drop]
theorem readS_fwd {b : List Int} (hb : Oct b) (hl : b.length ≤ 1000000000) : ∀ {i : Nat} {L : List En} {r : List Int}, readS b i = some (L, r) → b = entsF L ++ r
  | 0, L, r, h => by rw [readS] at h; cases h; rfl
  | i + 1, L, r, h => by
    rw [readS] at h
    cases hS : readS b i with
    | none => rw [hS] at h; cases h
    | some p =>
      obtain ⟨M, q⟩ := p
      rw [hS] at h
      simp only at h
      by_cases hq : oneP q
      · rw [if_pos hq] at h; cases h
      · rw [if_neg hq] at h
        cases h
        have e := readS_fwd hb hl hS
        have o := (readS_ok hb hl hS).1
        rw [e, entsF, entsF, List.map_append, List.flatten_append, List.append_assoc]
        congr 1
        rw [List.map_cons, List.map_nil, List.flatten_cons, List.flatten_nil, List.append_nil]
        exact one_fwd o hq
theorem read_fwd {b : List Int} (hb : Oct b) (hl : b.length ≤ 1000000000) {n : Int} (h : (readF b n).2 = 0) : checkF (readF b n).1 = 0 ∧ entsF (readF b n).1 = b ∧ ((readF b n).1.length : Int) = n := by
  unfold readF at h ⊢
  by_cases q : n < 0 ∨ 200 < n
  · rw [if_pos q] at h; cases h
  · rw [if_neg q] at h ⊢
    cases hS : readS b n.toNat with
    | none => rw [hS] at h; cases h
    | some p =>
      obtain ⟨L, r⟩ := p
      rw [hS] at h
      simp only at h ⊢
      by_cases q1 : r = []
      · rw [if_neg (fun h => h q1)] at h ⊢
        by_cases q2 : checkF L = 0
        · rw [if_neg (fun h => h q2)]
          have e := readS_fwd hb hl hS
          have o := (readS_ok hb hl hS).2.2.1
          rw [q1, List.append_nil] at e
          exact ⟨q2, e.symm, by simp only; omega⟩
        · rw [if_pos q2] at h; exact absurd h q2
      · rw [if_pos q1] at h; cases h
theorem read_bad {b : List Int} {n : Int} (h : (readF b n).2 ≠ 0) : (readF b n).1 = [] := by
  unfold readF at h ⊢
  by_cases q : n < 0 ∨ 200 < n
  · rw [if_pos q]
  · rw [if_neg q] at h ⊢
    cases hS : readS b n.toNat with
    | none => rfl
    | some p =>
      obtain ⟨L, r⟩ := p
      rw [hS] at h
      simp only at h ⊢
      by_cases q1 : r = []
      · rw [if_neg (fun h => h q1)] at h ⊢
        by_cases q2 : checkF L = 0
        · rw [if_neg (fun h => h q2)] at h; exact absurd rfl h
        · rw [if_pos q2]
      · rw [if_pos q1]
/-- What the law asks of files that may be. -/
theorem of_good {F : List Fi} (h : (ofF F).2.2 = 0) : (ofF F).1 = entsOf (sortFi F) ∧ (ofF F).2.1 = dataOf (sortFi F) ∧ (sortFi F).length = F.length ∧ (∀ f ∈ sortFi F, f ∈ F) ∧ ((sortFi F).map (·.1)).Pairwise (fun a b => lessF a b = true) ∧ checkF (entsOf (sortFi F)) = 0 ∧ F.length ≤ 200 := by
  unfold ofF at h ⊢
  by_cases q0 : rsetF (F.map (·.1)) = 0
  · rw [if_neg (fun h => h q0)] at h ⊢
    by_cases q1 : 65536 < totF F
    · rw [if_pos q1] at h; cases h
    · rw [if_neg q1]
      obtain ⟨h1, h2⟩ := sortFi_spec (rset_nodup q0)
      have hn : (rsortF (F.map (·.1))).Nodup := (rsort_perm _).nodup_iff.2 (rset_nodup q0)
      refine ⟨rfl, rfl, h1.length_eq, fun f hf => h1.mem_iff.1 hf, ?_, check_of q0 q1, by have := (rsetF_zero.1 q0).1; rwa [List.length_map] at this⟩
      rw [h2]
      have hs := rsortF_sorted (F.map (·.1))
      refine (hs.and hn).imp fun {a b} hab => ?_
      cases e : lessF a b with
      | true => rfl
      | false => exact absurd (leF_antisymm hab.1 e) hab.2
  · rw [if_pos q0] at h; exact absurd h q0
end Go.Proofs.YtenoecffjfcifaaDoor.Pv
