-- rc: there and back (plain).
import Derived.Test.YteocmeidkdhmiaaRcH
namespace Go.Proofs.Yteocmeidkdhmiaa.Pv
set_option linter.all false
open Go.RowKit Go.Proofs
/-- What is laid later lies in what is told now. -/
structure Fut (t : AS) (Vf : Int) (nf : Nat) : Prop where
  n : t.n ≤ nf
  lo : t.V * 256 ^ (nf - t.n) ≤ Vf
  hi : Vf < (t.V + t.wd) * 256 ^ (nf - t.n)
theorem Fut.turn {t : AS} {Vf : Int} {nf a : Nat} {b : Int} (h : Fut (t.bit a b) Vf nf) : Fut (t.turn a b) Vf nf := by
  unfold AS.bit at h
  generalize t.turn a b = s at *
  split at h
  · obtain ⟨h1, h2, h3⟩ := h
    dsimp only at h1 h2 h3
    obtain ⟨k, rfl⟩ : ∃ k, nf = s.n + 1 + k := ⟨nf - (s.n + 1), by omega⟩
    rw [show s.n + 1 + k - (s.n + 1) = k by omega] at h2 h3
    refine ⟨by omega, ?_, ?_⟩
    · rw [show s.n + 1 + k - s.n = k + 1 by omega, Int.pow_succ, Int.mul_comm (256 ^ k), ← Int.mul_assoc]; exact h2
    · rw [show s.n + 1 + k - s.n = k + 1 by omega, Int.pow_succ, Int.mul_comm (256 ^ k), ← Int.mul_assoc, Int.add_mul]; exact h3
  · exact h
theorem Fut.back {t : AS} {Vf : Int} {nf a : Nat} {b : Int} (ht : AOk t) (ha : a < 256) (h : Fut (t.turn a b) Vf nf) : Fut t Vf nf := by
  obtain ⟨q0, q1⟩ := part_b a ht.lik ha ht.w0 ht.w1
  obtain ⟨h1, h2, h3⟩ := h
  unfold AS.turn at h1 h2 h3
  dsimp only at h1 h2 h3
  have hp := Int.le_of_lt (p256 (nf - t.n))
  generalize part t.l t.wd a = p at *
  refine ⟨h1, ?_, ?_⟩
  · have := Int.mul_le_mul_of_nonneg_right (show t.V ≤ (if b = 0 then t.V else t.V + p) by split <;> omega) hp
    omega
  · have := Int.mul_le_mul_of_nonneg_right (show ((if b = 0 then t.V else t.V + p) + (if b = 0 then p else t.wd - p)) ≤ t.V + t.wd by split <;> omega) hp
    omega
theorem Fut.aTo {c Vf : Int} {nf : Nat} {t : AS} (ht : AOk t) : ∀ j, j ≤ 8 → Fut (aTo c t j).1 Vf nf → ∀ k, k ≤ j → Fut (aTo c t k).1 Vf nf
  | 0, _, h, k, hk => by obtain rfl : k = 0 := by omega
                         exact h
  | j + 1, hj, h, k, hk => by
    rcases Nat.lt_or_ge k (j + 1) with h1 | h1
    · exact Fut.aTo ht j (by omega) (Fut.back (aTo_ok c ht j (by omega)) (aTo_m8 c t (by omega)) (Fut.turn h)) k (by omega)
    · obtain rfl : k = j + 1 := by omega
      exact h
theorem Fut.aAll {b : List Int} {Vf : Int} {nf : Nat} : ∀ i, Fut (aAll b i) Vf nf → ∀ k, k ≤ i → Fut (aAll b k) Vf nf
  | 0, h, k, hk => by obtain rfl : k = 0 := by omega
                      exact h
  | i + 1, h, k, hk => by
    rcases Nat.lt_or_ge k (i + 1) with h1 | h1
    · exact Fut.aAll i (Fut.aTo (aAll_ok b i) 8 (by omega) h 0 (by omega)) k (by omega)
    · obtain rfl : k = i + 1 := by omega
      exact h
theorem val_take (C : List Int) (hC : Oct C) (k : Nat) (h : k ≤ C.length) : val C = val (C.take k) * 256 ^ (C.length - k) + val (C.drop k) ∧ 0 ≤ val (C.drop k) ∧ val (C.drop k) < 256 ^ (C.length - k) := by
  have e := val_append (C.take k) (C.drop k)
  rw [List.take_append_drop, List.length_drop] at e
  have := val_in (oct_drop hC k)
  rw [List.length_drop] at this
  exact ⟨e, this.1, this.2⟩
theorem Fut.X {t : AS} {C : List Int} {nf : Nat} (hC : Oct C) (hl : C.length = nf + 4) (h : Fut t (val C) nf) : t.V ≤ val (C.take (t.n + 4)) ∧ val (C.take (t.n + 4)) < t.V + t.wd := by
  obtain ⟨h1, h2, h3⟩ := h
  obtain ⟨e1, e2, e3⟩ := val_take C hC (t.n + 4) (by omega)
  rw [show C.length - (t.n + 4) = nf - t.n by omega] at e1 e3
  have hp := p256 (nf - t.n)
  generalize (256 : Int) ^ (nf - t.n) = q at *
  generalize val (C.take (t.n + 4)) = X at *
  rw [e1] at h2 h3
  constructor
  · rcases Int.lt_or_le X t.V with h | h
    · have := Int.mul_le_mul_of_nonneg_right (show X + 1 ≤ t.V by omega) (Int.le_of_lt hp)
      rw [Int.add_mul, Int.one_mul] at this
      omega
    · exact h
  · rcases Int.lt_or_le X (t.V + t.wd) with h | h
    · exact h
    · have := Int.mul_le_mul_of_nonneg_right h (Int.le_of_lt hp)
      omega
/-- A reader that goes the writer's way. -/
structure DR (C D : List Int) (s : RS) (t : AS) : Prop where
  l : s.l = t.l
  wd : s.wd = t.wd
  nu : s.nu = val (C.take (t.n + 4)) - t.V
  b : s.b = D.drop (t.n + 4)
  sh : s.short = false
  n : t.n + 4 ≤ D.length
def Agree (C D : List Int) : Prop := ∀ k, k ≤ C.length → k ≤ D.length → D.take k = C.take k
theorem take_succ_getD (l : List Int) (k : Nat) (h : k < l.length) : l.take (k + 1) = l.take k ++ [l.getD k 0] := by
  rw [List.take_succ_eq_append_getElem h, List.getD_eq_getElem?_getD, List.getElem?_eq_getElem h]; rfl
theorem drop_getD (l : List Int) (k : Nat) (h : k < l.length) : l.drop k = l.getD k 0 :: l.drop (k + 1) := by
  rw [List.drop_eq_getElem_cons h, List.getD_eq_getElem?_getD, List.getElem?_eq_getElem h]; rfl
theorem bit_n (t : AS) (a : Nat) (b : Int) : t.n ≤ (t.bit a b).n := by
  unfold AS.bit
  split
  · show t.n ≤ t.n + 1; omega
  · exact Nat.le_refl t.n
theorem DR.bit {C D : List Int} {s : RS} {t : AS} {nf a : Nat} {b : Int} (hC : Oct C) (hl : C.length = nf + 4) (hag : Agree C D) (ht : AOk t) (ha : a < 256) (hb0 : 0 ≤ b) (hb1 : b < 2) (hF : Fut (t.bit a b) (val C) nf) (h : DR C D s t) :
    s.took a = b ∧ (DR C D (s.bit a) (t.bit a b) ∨ ((s.bit a).short = true ∧ D.length < (t.bit a b).n + 4)) := by
  have hFt := hF.turn
  obtain ⟨x1, x2⟩ := (Fut.back ht ha hFt).X hC hl
  obtain ⟨y1, y2⟩ := hFt.X hC hl
  have hT := ht.turn ha b
  obtain ⟨h1, h2, h3, h4, h5, h6⟩ := h
  have htk : s.took a = b := by
    unfold RS.took
    rw [h1, h2, h3]
    unfold AS.turn at y1 y2
    dsimp only at y1 y2
    generalize part t.l t.wd a = p at *
    by_cases hb : b = 0
    · simp only [if_pos hb] at y1 y2
      rw [if_pos (by omega), hb]
    · simp only [if_neg hb] at y1 y2
      rw [if_neg (by omega)]
      omega
  refine ⟨htk, ?_⟩
  have e1 : DR C D (s.turn a) (t.turn a b) := by
    have hn : (s.nu < part s.l s.wd a) ↔ b = 0 := by
      unfold RS.took at htk
      by_cases hq : s.nu < part s.l s.wd a
      · rw [if_pos hq] at htk
        exact ⟨fun _ => htk.symm, fun _ => hq⟩
      · rw [if_neg hq] at htk
        exact ⟨fun g => absurd g hq, fun g => by omega⟩
    unfold RS.turn AS.turn
    rw [htk]
    refine ⟨by dsimp only; rw [h1], ?_, ?_, h4, h5, h6⟩
    · dsimp only
      by_cases hb : b = 0
      · rw [if_pos (hn.2 hb), if_pos hb, h1, h2]
      · rw [if_neg (fun g => hb (hn.1 g)), if_neg hb, h1, h2]
    · dsimp only
      by_cases hb : b = 0
      · rw [if_pos (hn.2 hb), if_pos hb, h3]
      · rw [if_neg (fun g => hb (hn.1 g)), if_neg hb, h3, h1, h2]
        (try omega)
  unfold RS.bit AS.bit at *
  generalize s.turn a = u at *
  generalize t.turn a b = v at *
  obtain ⟨g1, g2, g3, g4, g5, g6⟩ := e1
  rw [g2]
  split
  · rename_i hw
    rw [if_pos hw] at hF
    have hnf := hF.n
    dsimp only at hnf
    rcases Nat.lt_or_ge (v.n + 4) D.length with hlt | hge
    · left
      have hd := drop_getD D (v.n + 4) hlt
      rw [hd] at g4
      unfold RS.next
      rw [g4]
      dsimp only
      have hxx := hag (v.n + 4 + 1) (by omega) (by omega)
      have hx0 := hag (v.n + 4) (by omega) (by omega)
      rw [take_succ_getD D _ hlt, take_succ_getD C _ (by omega), hx0] at hxx
      have hc : D.getD (v.n + 4) 0 = C.getD (v.n + 4) 0 := by simpa using hxx
      refine ⟨g1, by dsimp only; rw [g2], ?_, ?_, g5, by dsimp only; omega⟩
      · dsimp only
        rw [show v.n + 1 + 4 = v.n + 4 + 1 by omega, take_succ_getD C _ (by omega), val_snoc, nuF, g3, hc]
        have hv0 := hT.v0
        omega
      · show D.drop (v.n + 4 + 1) = D.drop (v.n + 1 + 4)
        rw [show v.n + 4 + 1 = v.n + 1 + 4 by omega]
    · right
      unfold RS.next
      rw [g4, List.drop_eq_nil_of_le hge]
      dsimp only
      exact ⟨rfl, by omega⟩
  · exact .inl ⟨g1, g2, g3, g4, g5, g6⟩
theorem aTo_n (c : Int) (t : AS) (j : Nat) : (aTo c t j).1.n ≤ (aTo c t (j + 1)).1.n := bit_n _ _ _
theorem DR.aTo {C D : List Int} {s : RS} {t : AS} {nf : Nat} {c : Int} (hC : Oct C) (hl : C.length = nf + 4) (hag : Agree C D) (ht : AOk t) (hF : Fut (Pv.aTo c t 8).1 (val C) nf) (h : DR C D s t) : ∀ j, j ≤ 8 →
    (DR C D (decTo s j).1 (Pv.aTo c t j).1 ∧ (decTo s j).2 = (Pv.aTo c t j).2) ∨ ((decTo s j).1.short = true ∧ D.length < (Pv.aTo c t j).1.n + 4)
  | 0, _ => .inl ⟨h, rfl⟩
  | j + 1, hj => by
    have hn := aTo_n c t j
    rcases DR.aTo hC hl hag ht hF h j (by omega) with ⟨h1, h2⟩ | ⟨h1, h2⟩
    · have hb := bitOf_in c j
      obtain ⟨k1, k2⟩ := h1.bit (a := (Pv.aTo c t j).2) (b := bitOf c j) hC hl hag (aTo_ok c ht j (by omega)) (aTo_m8 c t (by omega)) hb.1 hb.2 (Fut.aTo ht 8 (by omega) hF (j + 1) hj)
      rw [decTo, if_neg (by rw [h1.sh]; decide), h2, k1]
      rcases k2 with k2 | k2
      · exact .inl ⟨k2, rfl⟩
      · exact .inr k2
    · right
      rw [decTo, if_pos h1]
      exact ⟨h1, by omega⟩
theorem aTo_m_eq {c : Int} (t : AS) (h0 : 0 ≤ c) (h1 : c < 256) : ∀ j, j ≤ 8 → ((aTo c t j).2 : Int) = 2 ^ j + c / 2 ^ (8 - j)
  | 0, _ => by
    rw [aTo]
    have : c / 2 ^ 8 = 0 := by
      rw [show (2 : Int) ^ 8 = 256 from rfl]; omega
    simp only [Nat.sub_zero, this]
    decide
  | j + 1, hj => by
    have ih := aTo_m_eq t h0 h1 j (by omega)
    have hb := bitOf_in c j
    rw [aTo]
    dsimp only
    have e : (8 - j) = (7 - j) + 1 := by omega
    have e2 : 8 - (j + 1) = 7 - j := by omega
    rw [e, Int.pow_succ, ← Int.ediv_ediv_of_nonneg (Int.le_of_lt (Int.pow_pos (by decide)))] at ih
    rw [e2, Int.pow_succ]
    have hbe : bitOf c j = c / 2 ^ (7 - j) % 2 := rfl
    omega
theorem aAll_n (b : List Int) (i : Nat) : (aAll b i).n ≤ (aAll b (i + 1)).n := by
  have : ∀ j, (aAll b i).n ≤ (aTo (b.getD i 0) (aAll b i) j).1.n := by
    intro j
    induction j with
    | zero => exact Nat.le_refl _
    | succ j ih => exact Nat.le_trans ih (aTo_n _ _ j)
  exact this 8
theorem DR.aAll {b C D : List Int} {s : RS} {nf N : Nat} (hb : Oct b) (hC : Oct C) (hl : C.length = nf + 4) (hag : Agree C D) (hF : Fut (Pv.aAll b N) (val C) nf) (h : DR C D s A0) (hN : N ≤ b.length) : ∀ i, i ≤ N →
    (DR C D (decN s i).1 (Pv.aAll b i) ∧ (decN s i).2 = b.take i) ∨ ((decN s i).1.short = true ∧ D.length < (Pv.aAll b i).n + 4)
  | 0, _ => .inl ⟨h, by simp [decN]⟩
  | i + 1, hi => by
    have hn := aAll_n b i
    rcases DR.aAll hb hC hl hag hF h hN i (by omega) with ⟨h1, h2⟩ | ⟨h1, h2⟩
    · have hF' := Fut.aAll N hF (i + 1) hi
      have hc := hb.getD i
      have hm := aTo_m_eq (Pv.aAll b i) hc.1 hc.2 8 (by omega)
      rcases DR.aTo hC hl hag (aAll_ok b i) hF' h1 8 (by omega) with ⟨k1, k2⟩ | k2
      · left
        refine ⟨k1, ?_⟩
        rw [decN, h2, k2, hm, take_succ_getD b i (by omega)]
        dsimp only
        congr 2
        have : (2 : Int) ^ 8 = 256 := rfl
        simp only [Nat.sub_self, Int.pow_zero, Int.ediv_one]
        omega
      · exact .inr k2
    · right
      rw [decN, decTo_stop (j := 0) h1 8 (by omega)]
      exact ⟨h1, by omega⟩
/-- What is made of bytes that begin as what was put. -/
theorem rback_put (b D : List Int) (hb : Oct b) (hl : b.length ≤ 65536) (hD : Oct D) (hag : Agree (rput b) D) :
    rback D b.length = if D.length < (rput b).length then ([], 3) else if D.length = (rput b).length then (b, 0) else ([], 2) := by
  obtain ⟨hC, hCl, hCv⟩ := rput_spec b
  have ht := aAll_ok b b.length
  have hF : Fut (aAll b b.length) (val (rput b)) (aAll b b.length).n := ⟨Nat.le_refl _, by rw [Nat.sub_self, hCv]; simp, by rw [Nat.sub_self, hCv]; have := ht.w0; simp; omega⟩
  have hnf := ht.n
  have hv1 := ht.v1
  have hw0 := ht.w0
  have hAll := fun s h => DR.aAll (s := s) hb hC hCl hag hF h (Nat.le_refl _) b.length (Nat.le_refl _)
  rw [List.take_length] at hAll
  generalize hCC : rput b = C at *
  generalize aAll b b.length = t at *
  rw [rback, if_neg (by omega)]
  by_cases h5 : D.length < 5
  · rw [if_pos h5, if_pos (by omega)]
  rw [if_neg h5]
  have hC0 : C.getD 0 0 = 0 := by
    have h := val_take C hC 1 (by omega)
    have e := take_succ_getD C 0 (by omega)
    rw [List.take_zero, List.nil_append] at e
    rw [Nat.zero_add] at e
    rw [e, val_one, hCv, show C.length - 1 = (t.n - 1) + 4 by omega, Int.pow_add] at h
    have hp := p256 (t.n - 1)
    rw [show (256 : Int) ^ 4 = 4294967296 from rfl] at h
    have h0 := (hC.getD 0).1
    rcases Int.lt_or_le 0 (C.getD 0 0) with h1 | h1
    · have hp2 : (0 : Int) ≤ 256 ^ (t.n - 1) * 4294967296 := by omega
      have := Int.mul_le_mul_of_nonneg_right (show 1 ≤ C.getD 0 0 by omega) hp2
      rw [Int.one_mul] at this
      omega
    · omega
  have hD0 : D.getD 0 0 = 0 := by
    have := hag 1 (by omega) (by omega)
    rw [take_succ_getD D 0 (by omega), take_succ_getD C 0 (by omega), List.take_zero, List.take_zero, hC0] at this
    simpa using this
  rw [if_neg (by rw [hD0]; decide)]
  have hR : DR C D (R0 D) A0 := by
    refine ⟨rfl, rfl, ?_, rfl, rfl, by show 1 + 4 ≤ D.length; omega⟩
    show nuTo D 4 = val (C.take 5) - 0
    rw [← hag 5 (by omega) (by omega)]
    rw [take_succ_getD D 4 (by omega), take_succ_getD D 3 (by omega), take_succ_getD D 2 (by omega), take_succ_getD D 1 (by omega), take_succ_getD D 0 (by omega), hD0, List.take_zero]
    rw [val_snoc, val_snoc, val_snoc, val_snoc, List.nil_append, val_one]
    have d1 := hD.getD 1
    have d2 := hD.getD 2
    have d3 := hD.getD 3
    have d4 := hD.getD 4
    simp only [nuTo, nuF, Nat.zero_add, Nat.reduceAdd]
    omega
  rw [Int.toNat_natCast]
  rcases hAll (R0 D) hR with ⟨h1, h2⟩ | ⟨h1, h2⟩
  · have hn := h1.n
    have hbr := h1.b
    have hr : ¬ D.length < C.length := by omega
    rw [if_neg hr, if_neg (by rw [h1.sh]; decide), h2, hbr]
    by_cases he : D.length = C.length
    · rw [if_pos he, List.drop_eq_nil_of_le (by omega), if_neg (by simp)]
    · rw [if_neg he, if_pos (by
        intro h
        have := List.drop_eq_nil_iff.1 h
        omega)]
  · rw [if_pos h1, if_pos (by omega)]
end Go.Proofs.Yteocmeidkdhmiaa.Pv
