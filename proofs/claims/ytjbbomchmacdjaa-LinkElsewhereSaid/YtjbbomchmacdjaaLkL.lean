-- Linking, in plain terms: what lies side by side.
import Derived.Test.YtjbbomchmacdjaaLkK
namespace Go.Proofs.Ytjbbomchmacdjaa.Pv
set_option linter.all false
open Go.RowKit Go.Proofs
set_option maxRecDepth 100000
theorem getD_left {U V : List Int} {k : Nat} (h : k < U.length) : (U ++ V).getD k 0 = U.getD k 0 := by
  simp only [List.getD_eq_getElem?_getD, List.getElem?_append_left h]
theorem getD_right {U V : List Int} {k : Nat} : (U ++ V).getD (U.length + k) 0 = V.getD k 0 := by
  simp only [List.getD_eq_getElem?_getD, List.getElem?_append_right (Nat.le_add_right _ _), Nat.add_sub_cancel_left]
theorem set_right {U V : List Int} {k : Nat} {x : Int} : (U ++ V).set (U.length + k) x = U ++ V.set k x := by
  rw [List.set_append_right _ _ (Nat.le_add_right _ _), Nat.add_sub_cancel_left]
theorem turn_left (b : Int) (V : List Int) : ∀ (R : List (Int × Bool)) (U : List Int), (∀ r ∈ R, RelIn U r) → turnGo b (U ++ V) R = turnGo b U R ++ V
  | [], _, _ => rfl
  | r :: R, U, hin => by
    obtain ⟨a, p⟩ := r
    have hr := hin (a, p) (by simp)
    obtain ⟨g0, g1⟩ := hr
    simp only at g0 g1
    have e1 := toNat_k1 g0
    have e : ∀ n, setF (U ++ V) (a, p) n = setF U (a, p) n ++ V := fun n => by
      cases p with
      | false =>
        simp only [setF, Bool.false_eq_true, if_false] at g1 ⊢
        rw [List.set_append_left _ _ (by omega)]
      | true =>
        simp only [setF, if_true, e1] at g1 ⊢
        rw [getD_left (by omega), getD_left (by omega), List.set_append_left _ _ (by omega), List.set_append_left _ _ (by rw [List.length_set]; omega)]
    have t : toldF (U ++ V) (a, p) = toldF U (a, p) := by
      cases p with
      | false =>
        simp only [toldF, Bool.false_eq_true, if_false] at g1 ⊢
        rw [getD_left (by omega)]
      | true =>
        simp only [toldF, if_true, e1] at g1 ⊢
        rw [getD_left (by omega), getD_left (by omega)]
    rw [turnGo, turnGo, t, e]
    exact turn_left b V R _ fun q hq => relin_set (hin q (by simp [hq]))
theorem turn_right (b : Int) (U : List Int) : ∀ (R : List (Int × Bool)) (V : List Int), (∀ r ∈ R, RelIn V r) → turnGo b (U ++ V) (shR (4 * (U.length : Int)) R) = U ++ turnGo b V R
  | [], _, _ => rfl
  | r :: R, V, hin => by
    obtain ⟨a, p⟩ := r
    have hr := hin (a, p) (by simp)
    obtain ⟨g0, g1⟩ := hr
    simp only at g0 g1
    have e1 := toNat_k1 g0
    have k0 : ((a + 4 * (U.length : Int)) / 4).toNat = U.length + (a / 4).toNat := by omega
    have k1 : ((a + 4 * (U.length : Int)) / 4 + 1).toNat = U.length + ((a / 4).toNat + 1) := by omega
    have e : ∀ n, setF (U ++ V) (a + 4 * (U.length : Int), p) n = U ++ setF V (a, p) n := fun n => by
      cases p with
      | false =>
        simp only [setF, Bool.false_eq_true, if_false, k0, set_right]
      | true =>
        simp only [setF, if_true, e1, k0, k1, getD_right, set_right]
    have t : toldF (U ++ V) (a + 4 * (U.length : Int), p) = toldF V (a, p) := by
      cases p with
      | false => simp only [toldF, Bool.false_eq_true, if_false, k0, getD_right]
      | true => simp only [toldF, if_true, e1, k0, k1, getD_right]
    rw [turnGo, show shR (4 * (U.length : Int)) ((a, p) :: R) = (a + 4 * (U.length : Int), p) :: shR (4 * (U.length : Int)) R from rfl, turnGo, t, e]
    exact turn_right b U R _ fun q hq => relin_set (hin q (by simp [hq]))
theorem turn_append (b : Int) : ∀ (R S : List (Int × Bool)) (W : List Int), turnGo b W (R ++ S) = turnGo b (turnGo b W R) S
  | [], _, _ => rfl
  | r :: R, S, W => by rw [List.cons_append, turnGo, turnGo]; exact turn_append b R S _
/-- Code, put behind other code. -/
def comb (A c : Cd) : Cd := ⟨A.W ++ turnGo (4 * (A.W.length : Nat)) c.W c.R, A.R ++ shR (4 * (A.W.length : Nat)) c.R⟩
theorem allTo_succ (L : List Cd) (i : Nat) : allTo L (i + 1) = comb (allTo L i) (L.getD i ⟨[], []⟩) := rfl
structure Cd.gd (c : Cd) : Prop where
  w : Wd c.W
  rt : c.right = true
theorem Cd.gd.rin {c : Cd} (h : c.gd) : ∀ r ∈ c.R, RelIn c.W r := fun r hr => (right_in c.W c.R 0 (by decide) h.rt r hr).1
theorem shR_shR (a b : Int) (R : List (Int × Bool)) : shR a (shR b R) = shR (b + a) R := by
  simp only [shR, List.map_map, Function.comp_def, Int.add_assoc]
theorem comb_assoc {A b c : Cd} (hb : b.gd) (hc : c.gd) : comb (comb A b) c = comb A (comb b c) := by
  unfold comb
  simp only [List.length_append, turnGo_length]
  congr 1
  · rw [turn_append, turn_left _ _ _ _ hb.rin]
    have e := turn_right (4 * (A.W.length : Nat)) (turnGo (4 * (A.W.length : Nat)) b.W b.R) c.R (turnGo (4 * (b.W.length : Nat)) c.W c.R) (fun r hr => by
      have := hc.rin r hr
      exact ⟨this.1, by rw [turnGo_length]; exact this.2⟩)
    rw [turnGo_length] at e
    rw [e, turn_turn _ _ c.R 0 c.W (by decide) hc.w (ord_of hc.rt) hc.rin, List.append_assoc]
    congr 3
    omega
  · simp only [shR, List.map_append, List.append_assoc, List.map_map, Function.comp_def]
    congr 2
    refine List.map_congr_left fun r _ => ?_
    simp only [Prod.mk.injEq, and_true]
    omega
theorem comb_nil (A : Cd) : comb A ⟨[], []⟩ = A := by
  unfold comb
  simp [turnGo, shR]
theorem nil_comb {A : Cd} (h : A.gd) : comb ⟨[], []⟩ A = A := by
  unfold comb
  simp only [List.length_nil, List.nil_append]
  rw [show (4 * ((0 : Nat) : Int)) = 0 from rfl, turn_zero A.R A.W h.w h.rin]
  simp [shR]
/-- Pairs stay pairs. -/
theorem wR_pair (w : Int) (h : w / 16777216 = 1 ∨ w / 16777216 = 2) : wR w ↔ w / 65536 % 16 = 0 := by
  have hf : form (w / 16777216) = [97, 117] := by rcases h with h | h <;> rw [h] <;> rfl
  unfold wR rightF wC wI
  rw [hf]
  simp [lo, hi, endsIn]
  omega
theorem two_hi {x y x' y' : Int} (hx : x / 65536 = x' / 65536) (hy : y / 65536 = y' / 65536) : two x y = two x' y' := by
  have a1 : x / 16777216 = x' / 16777216 := by omega
  have a2 : y / 16777216 = y' / 16777216 := by omega
  have a3 : x / 1048576 % 16 = x' / 1048576 % 16 := by omega
  have a4 : y / 1048576 % 16 = y' / 1048576 % 16 := by omega
  unfold two
  rw [← a1, ← a2, ← a3, ← a4]
  by_cases h1 : x / 16777216 = 1
  · by_cases h2 : y / 16777216 = 2
    · have e1 : wR x ↔ wR x' := by rw [wR_pair x (.inl h1), wR_pair x' (.inl (a1 ▸ h1)), hx]
      have e2 : wR y ↔ wR y' := by rw [wR_pair y (.inr h2), wR_pair y' (.inr (a2 ▸ h2)), hy]
      rw [decide_eq_decide.2 e1, decide_eq_decide.2 e2]
    · rw [decide_eq_false h2]; simp
  · rw [decide_eq_false h1]; simp
theorem pair_set {W : List Int} {a : Int} {n : Int} (h : RelIn W (a, true)) (h0 : 0 ≤ n) (h1 : n < 4294967296) : pairF (setF W (a, true) n) (a / 4).toNat = pairF W (a / 4).toNat := by
  obtain ⟨g0, g1⟩ := h
  simp only [if_true] at g0 g1
  unfold pairF
  rw [setF_length]
  congr 1
  simp only [setF, if_true]
  rw [toNat_k1 g0, getD_set_ne' (l := W.set _ _) (by omega), getD_set_eq' (by omega), getD_set_eq' (by rw [List.length_set]; omega)]
  exact two_hi (by omega) (by omega)
theorem rightGo_congr {W W' : List Int} (hl : W.length = W'.length) : ∀ (R : List (Int × Bool)) (fr : Int), (∀ a, (a, true) ∈ R → pairF W' (a / 4).toNat = pairF W (a / 4).toNat) → rightGo W' fr R = rightGo W fr R
  | [], _, _ => rfl
  | r :: R, fr, h => by
    have i8 := rightGo_congr hl R (r.1 + 8) fun a ha => h a (by simp [ha])
    have i4 := rightGo_congr hl R (r.1 + 4) fun a ha => h a (by simp [ha])
    unfold rightGo
    rw [← hl, i8, i4]
    split
    · rfl
    · split
      · rename_i hp
        rw [h r.1 (by simp [← hp])]
      · rfl
theorem right_turn (b : Int) : ∀ (R : List (Int × Bool)) (fr : Int) (W : List Int), 0 ≤ fr → Wd W → rightGo W fr R = true → rightGo (turnGo b W R) fr R = true
  | [], _, _, _, _, _ => rfl
  | r :: R, fr, W, h0, hW, h => by
    have hin := right_in W (r :: R) fr h0 h
    have ho := ord_of h
    obtain ⟨o1, o2, o3⟩ := ho
    have ht := told_in hW r
    have hr := (hin r (by simp)).1
    have hW' := setF_wd hW r (n := (toldF W r + b) % 4294967296) (by omega) (by omega)
    -- the words with the first one set are right as before
    have key : ∀ a, (a, true) ∈ R → pairF (setF W r ((toldF W r + b) % 4294967296)) (a / 4).toNat = pairF W (a / 4).toNat := fun a ha => by
      have hlt : ∀ (S : List (Int × Bool)) (f : Int), Ord f S → (a, true) ∈ S → f ≤ a := by
        intro S
        induction S with
        | nil => intro f _ hm; cases hm
        | cons s S ih =>
          rintro f ⟨k1, k2, k3⟩ hm
          rcases List.mem_cons.1 hm with rfl | hm
          · exact k1
          · have := ih _ k3 hm
            split at this <;> omega
      have hfa := hlt R _ o3 ha
      have ham := (hin (a, true) (by simp [ha])).2
      have ha0 : 0 ≤ a := by split at hfa <;> omega
      have c0 : (((a / 4).toNat : Nat) : Int) = a / 4 := by omega
      unfold pairF
      rw [setF_length, setF_getD W r _ _ (by omega) (by rw [c0]; simp only at ham; omega), setF_getD W r _ _ (by omega) (by push_cast; rw [c0]; simp only at ham; omega)]
    have ih : ∀ f, r.1 ≤ f → rightGo W f R = true → rightGo (turnGo b W (r :: R)) f R = true := fun f hf hg => by
      rw [turnGo]
      exact right_turn b R f _ (by omega) hW' (by rw [rightGo_congr (setF_length _ _ _).symm R f key]; exact hg)
    unfold rightGo at h ⊢
    rw [turnGo_length]
    split at h
    · cases h
    · rename_i hn
      rw [if_neg hn]
      split at h
      · rename_i hp
        rw [if_pos hp]
        simp only [Bool.and_eq_true] at h ⊢
        refine ⟨?_, ih _ (by omega) h.2⟩
        obtain ⟨a, p⟩ := r
        simp only at hp
        subst hp
        rw [turnGo]
        have e1 := turn_ahead b R _ (setF W (a, true) ((toldF W (a, true) + b) % 4294967296)) (by simp only [if_true]; omega) o3 (a / 4).toNat (by simp only [if_true]; omega)
        have e2 := turn_ahead b R _ (setF W (a, true) ((toldF W (a, true) + b) % 4294967296)) (by simp only [if_true]; omega) o3 ((a / 4).toNat + 1) (by simp only [if_true] at hr ⊢; push_cast; omega)
        have e3 := pair_set (n := (toldF W (a, true) + b) % 4294967296) hr (by omega) (by omega)
        unfold pairF at e3 h ⊢
        rw [turnGo_length, e1, e2, e3]
        exact h.1
      · rename_i hp
        rw [if_neg hp]
        exact ih _ (by omega) h
theorem right_less (W : List Int) : ∀ (R : List (Int × Bool)) (f g : Int), f ≤ g → rightGo W g R = true → rightGo W f R = true
  | [], _, _, _, _ => rfl
  | r :: R, f, g, hfg, h => by
    unfold rightGo at h ⊢
    split at h
    · cases h
    · rename_i hn
      rw [if_neg (by omega)]
      exact h
theorem right_shift (U V : List Int) : ∀ (R : List (Int × Bool)) (f : Int), 0 ≤ f → rightGo V f R = true → rightGo (U ++ V) (f + 4 * (U.length : Int)) (shR (4 * (U.length : Int)) R) = true
  | [], _, _, _ => rfl
  | r :: R, f, h0, h => by
    unfold rightGo at h
    rw [show shR (4 * (U.length : Int)) (r :: R) = (r.1 + 4 * (U.length : Int), r.2) :: shR (4 * (U.length : Int)) R from rfl]
    unfold rightGo
    rw [List.length_append]
    split at h
    · cases h
    · rename_i hn
      rw [if_neg (by simp only; push_cast; omega)]
      simp only
      have k0 : ((r.1 + 4 * (U.length : Int)) / 4).toNat = U.length + (r.1 / 4).toNat := by omega
      split at h
      · rename_i hp
        rw [if_pos hp]
        simp only [Bool.and_eq_true] at h ⊢
        refine ⟨?_, ?_⟩
        · have := h.1
          unfold pairF at this ⊢
          rw [k0, List.length_append, getD_right, Nat.add_assoc, getD_right]
          simp only [Bool.and_eq_true, decide_eq_true_eq] at this ⊢
          exact ⟨by omega, this.2⟩
        · have := right_shift U V R (r.1 + 8) (by omega) h.2
          rw [show r.1 + 8 + 4 * (U.length : Int) = r.1 + 4 * (U.length : Int) + 8 by omega] at this
          exact this
      · rename_i hp
        rw [if_neg hp]
        have := right_shift U V R (r.1 + 4) (by omega) h
        rw [show r.1 + 4 + 4 * (U.length : Int) = r.1 + 4 * (U.length : Int) + 4 by omega] at this
        exact this
theorem right_both (U V : List Int) (S : List (Int × Bool)) (hS : rightGo V 0 S = true) : ∀ (R : List (Int × Bool)) (f : Int), 0 ≤ f → f ≤ 4 * (U.length : Int) → rightGo U f R = true → rightGo (U ++ V) f (R ++ shR (4 * (U.length : Int)) S) = true
  | [], f, h0, hf, _ => by
    have := right_shift U V S 0 (by decide) hS
    rw [Int.zero_add] at this
    exact right_less _ _ f _ hf this
  | r :: R, f, h0, hf, h => by
    unfold rightGo at h
    rw [List.cons_append]
    unfold rightGo
    rw [List.length_append]
    split at h
    · cases h
    · rename_i hn
      rw [if_neg (by push_cast; omega)]
      split at h
      · rename_i hp
        rw [if_pos hp]
        simp only [Bool.and_eq_true] at h ⊢
        have hpr := h.1
        unfold pairF at hpr
        simp only [Bool.and_eq_true, decide_eq_true_eq] at hpr
        refine ⟨?_, right_both U V S hS R _ (by omega) (by omega) h.2⟩
        unfold pairF
        rw [List.length_append, getD_left (by omega), getD_left (by omega), hpr.2]
        simp only [Bool.and_true, decide_eq_true_eq]
        omega
      · rename_i hp
        rw [if_neg hp]
        exact right_both U V S hS R _ (by omega) (by omega) h
theorem comb_gd {A c : Cd} (hA : A.gd) (hc : c.gd) : (comb A c).gd := by
  have e := turnGo_length (4 * (A.W.length : Nat)) c.R c.W
  refine ⟨hA.w.append (turnGo_wd _ _ _ hc.w), ?_⟩
  unfold Cd.right comb
  exact right_both A.W _ c.R (right_turn _ c.R 0 c.W (by decide) hc.w hc.rt) A.R 0 (by decide) (by omega) hA.rt
theorem allTo_gd {L : List Cd} (hL : ∀ c ∈ L, c.gd) : ∀ i, i ≤ L.length → (allTo L i).gd
  | 0, _ => ⟨fun x hx => (by cases hx), rfl⟩
  | i + 1, hi => by
    rw [allTo_succ]
    refine comb_gd (allTo_gd hL i (by omega)) (hL _ ?_)
    rw [List.getD_eq_getElem?_getD, List.getElem?_eq_getElem (by omega)]
    exact List.getElem_mem _
theorem allTo_left (L M : List Cd) : ∀ i, i ≤ L.length → allTo (L ++ M) i = allTo L i
  | 0, _ => rfl
  | i + 1, hi => by
    rw [allTo_succ, allTo_succ, allTo_left L M i (by omega)]
    congr 1
    simp only [List.getD_eq_getElem?_getD, List.getElem?_append_left (show i < L.length by omega)]
theorem allTo_right {L M : List Cd} (hM : ∀ c ∈ M, c.gd) : ∀ i, i ≤ M.length → allTo (L ++ M) (L.length + i) = comb (allTo L L.length) (allTo M i)
  | 0, _ => by rw [Nat.add_zero, allTo_left L M _ (Nat.le_refl _)]; exact (comb_nil _).symm
  | i + 1, hi => by
    have hg : (M.getD i ⟨[], []⟩).gd := hM _ (by rw [List.getD_eq_getElem?_getD, List.getElem?_eq_getElem (by omega)]; exact List.getElem_mem _)
    rw [← Nat.add_assoc, allTo_succ, allTo_right hM i (by omega), allTo_succ M i, ← comb_assoc (allTo_gd hM i (by omega)) hg]
    congr 1
    simp only [List.getD_eq_getElem?_getD, List.getElem?_append_right (Nat.le_add_right _ _), Nat.add_sub_cancel_left]
/-- Two steps or one: the same. -/
theorem link_parts {L M : List Cd} (hL : ∀ c ∈ L, c.gd) (hM : ∀ c ∈ M, c.gd) : allTo [allTo L L.length, allTo M M.length] 2 = allTo (L ++ M) (L ++ M).length := by
  rw [List.length_append, allTo_right hM _ (Nat.le_refl _)]
  show comb (comb ⟨[], []⟩ (allTo L L.length)) (allTo M M.length) = _
  rw [nil_comb (allTo_gd hL _ (Nat.le_refl _))]
end Go.Proofs.Ytjbbomchmacdjaa.Pv
