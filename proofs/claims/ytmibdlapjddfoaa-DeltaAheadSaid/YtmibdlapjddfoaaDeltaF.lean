-- The differences' plain law.
import Derived.Test.YtmibdlapjddfoaaBv
import Derived.Test.YtmibdlapjddfoaaQDeltax1
import Derived.Test.YtmibdlapjddfoaaQDeltax2
import Derived.Test.YtmibdlapjddfoaaQDeltax3
namespace Go.Proofs.Ytmibdlapjddfoaa.DeltaF
open Go.RowKit Go.Proofs.YtmibdlapjddfoaaW.PrintWords Go.Proofs.Ytmibdlapjddfoaa.Bv Go.Proofs.Ytmibdlapjddfoaa.QDelta
def Bytes (l : List Int) : Prop := ∀ x ∈ l, 0 ≤ x ∧ x < 256
theorem Bytes.at {l : List Int} (h : Bytes l) (j : Nat) : 0 ≤ l.getD j 0 ∧ l.getD j 0 < 256 := by
  rw [List.getD_eq_getElem?_getD]
  rcases Nat.lt_or_ge j l.length with hj | hj
  · rw [List.getElem?_eq_getElem hj]
    exact h _ (List.getElem_mem hj)
  · rw [List.getElem?_eq_none hj]
    decide
theorem getD_set (x : List Int) (i j : Nat) (v : Int) : (x.set i v).getD j 0 = if i = j ∧ j < x.length then v else x.getD j 0 := by
  simp only [List.getD_eq_getElem?_getD, List.getElem?_set]
  by_cases h : i = j
  · subst h
    by_cases h2 : i < x.length
    · simp [h2]
    · simp [h2]
  · simp [h]
theorem ext_getD {x y : List Int} (hl : x.length = y.length) (h : ∀ j, j < x.length → x.getD j 0 = y.getD j 0) : x = y := by
  apply List.ext_getElem hl
  intro j h1 h2
  have := h j h1
  simpa [List.getD_eq_getElem?_getD, List.getElem?_eq_getElem h1, List.getElem?_eq_getElem h2] using this
theorem rdN (x : List Int) (i : Nat) : rd x (i : Int) = x.getD i 0 := by unfold rd; rw [Int.toNat_natCast]
/-- What stands at a place behind m steps. -/
theorem put_get (l : List Int) (n m : Nat) (hm : n + m ≤ l.length) (j : Nat) :
    (deltaStage delta_Put.g true l n m).getD j 0 = if n ≤ j ∧ j < n + m then (l.getD j 0 - l.getD (j - n) 0) % 256 else l.getD j 0 := by
  induction m with
  | zero => rw [if_neg (by omega)]; rfl
  | succ m ih =>
    have ih := ih (by omega)
    unfold deltaStage
    rw [getD_set, deltaStage_length, ih, if_pos rfl]
    by_cases h : n + m = j
    · subst h
      rw [if_pos ⟨rfl, by omega⟩, if_pos (by omega), show n + m - n = m by omega]
      rfl
    · rw [if_neg (fun h' => h h'.1)]
      by_cases h2 : n ≤ j ∧ j < n + m
      · rw [if_pos h2, if_pos (by omega)]
      · rw [if_neg h2, if_neg (by omega)]
theorem back_get (l : List Int) (n m : Nat) (hn : 1 ≤ n) (hm : n + m ≤ l.length) (j : Nat) :
    (deltaStage delta_Back.g false l n m).getD j 0 = if n ≤ j ∧ j < n + m then (l.getD j 0 + (deltaStage delta_Back.g false l n m).getD (j - n) 0) % 256 else l.getD j 0 := by
  induction m generalizing j with
  | zero => rw [if_neg (by omega)]; rfl
  | succ m ih =>
    have hih := fun j => ih (by omega) j
    have hs : ∀ j, (deltaStage delta_Back.g false l n (m + 1)).getD j 0 = if n + m = j then (l.getD (n + m) 0 + (deltaStage delta_Back.g false l n m).getD m 0) % 256 else (deltaStage delta_Back.g false l n m).getD j 0 := by
      intro j
      conv => lhs; unfold deltaStage
      rw [getD_set, deltaStage_length]
      by_cases h : n + m = j
      · rw [if_pos ⟨h, by omega⟩, if_pos h]
        rfl
      · rw [if_neg (fun h' => h h'.1), if_neg h]
    rw [hs j]
    by_cases h : n + m = j
    · rw [if_pos h, if_pos (by omega), hs (j - n), if_neg (by omega), show j - n = m by omega, h]
    · rw [if_neg h, hih j]
      by_cases h2 : n ≤ j ∧ j < n + m
      · rw [if_pos h2, if_pos (by omega), hs (j - n), if_neg (by omega)]
      · rw [if_neg h2, if_neg (by omega)]
/-- The two ways. -/
def put (l : List Int) (a : Int) : List Int := if a < 1 ∨ a > 255 then l else deltaStage delta_Put.g true l a.toNat (l.length - a.toNat)
def back (l : List Int) (a : Int) : List Int := if a < 1 ∨ a > 255 then l else deltaStage delta_Back.g false l a.toNat (l.length - a.toNat)
theorem Put_f (l : List Int) (a : Int) (hn : l.length < 140737488355328) : delta_Put.f l a = some (put l a) := by
  unfold delta_Put.f put
  rw [if_pos hn]
  split <;> rfl
theorem Back_f (l : List Int) (a : Int) (hn : l.length < 140737488355328) : delta_Back.f l a = some (back l a) := by
  unfold delta_Back.f back
  rw [if_pos hn]
  split <;> rfl
theorem put_length (l : List Int) (a : Int) : (put l a).length = l.length := by
  unfold put
  split
  · rfl
  · exact deltaStage_length _ _ _ _ _
theorem back_length (l : List Int) (a : Int) : (back l a).length = l.length := by
  unfold back
  split
  · rfl
  · exact deltaStage_length _ _ _ _ _
theorem put_at (l : List Int) (a : Int) (j : Nat) (hj : j < l.length) : (put l a).getD j 0 = if 1 ≤ a ∧ a ≤ 255 ∧ a.toNat ≤ j then (l.getD j 0 - l.getD (j - a.toNat) 0) % 256 else l.getD j 0 := by
  unfold put
  by_cases h : a < 1 ∨ a > 255
  · rw [if_pos h, if_neg (by omega)]
  · rw [if_neg h]
    by_cases hn : a.toNat ≤ l.length
    · rw [put_get _ _ _ (by omega)]
      by_cases h2 : a.toNat ≤ j
      · rw [if_pos (by omega), if_pos (by omega)]
      · rw [if_neg (by omega), if_neg (by omega)]
    · rw [show l.length - a.toNat = 0 by omega, if_neg (by omega)]
      rfl
theorem back_at (l : List Int) (a : Int) (j : Nat) (hj : j < l.length) : (back l a).getD j 0 = if 1 ≤ a ∧ a ≤ 255 ∧ a.toNat ≤ j then (l.getD j 0 + (back l a).getD (j - a.toNat) 0) % 256 else l.getD j 0 := by
  unfold back
  by_cases h : a < 1 ∨ a > 255
  · rw [if_pos h, if_neg (by omega)]
  · rw [if_neg h]
    by_cases hn : a.toNat ≤ l.length
    · rw [back_get _ _ _ (by omega) (by omega)]
      by_cases h2 : a.toNat ≤ j
      · rw [if_pos (by omega), if_pos (by omega)]
      · rw [if_neg (by omega), if_neg (by omega)]
    · rw [show l.length - a.toNat = 0 by omega, if_neg (by omega)]
      rfl
/-- The reference's. -/
theorem rput_ev (l : List Int) (hn : l.length ≤ 140737488351232) (a : Int) (h1 : 1 ≤ a) (h2 : a ≤ 255) (d : Nat) : ∀ i : Nat, i + d = l.length →
    Ev (fun k => carapaceref03_Put.l0 k l a (deltaStage delta_Put.g true l a.toNat (i - a.toNat)) (i : Int)) (deltaStage delta_Put.g true l a.toNat (l.length - a.toNat)) := by
  induction d with
  | zero =>
    intro i h
    obtain rfl : i = l.length := by omega
    have e : Ev (fun k => carapaceref03_Put.j1 k l a (deltaStage delta_Put.g true l a.toNat (l.length - a.toNat)) (l.length : Int) false) (deltaStage delta_Put.g true l a.toNat (l.length - a.toNat)) :=
      Ev.step (f := fun _ => some (deltaStage delta_Put.g true l a.toNat (l.length - a.toNat))) (fun k => by simp only [carapaceref03_Put.j1]; rw [if_neg (by simp)]) (Ev.now _)
    exact Ev.step (fun k => by simp only [carapaceref03_Put.l0]; rw [if_neg (by omega)]) e
  | succ d ih =>
    intro i h
    have hi : wrap64 ((i : Int) + 1) = ((i + 1 : Nat) : Int) := by rw [w64 (by omega) (by omega)]; rfl
    have e : Ev (fun k => carapaceref03_Put.j1 k l a (deltaStage delta_Put.g true l a.toNat (i - a.toNat)) (i : Int) true) (deltaStage delta_Put.g true l a.toNat (l.length - a.toNat)) := by
      refine Ev.step (fun k => ?_) (ih (i + 1) (by omega))
      simp only [carapaceref03_Put.j1]
      rw [if_pos trivial, hi]
      by_cases hc : (i : Int) ≥ a
      · have hw : wrap64 ((i : Int) - a) = ((i - a.toNat : Nat) : Int) := by rw [w64 (by omega) (by omega)]; omega
        have hlen := deltaStage_length delta_Put.g true l a.toNat (i - a.toNat)
        rw [hw, if_pos hc, if_pos (by omega), if_pos (by omega), if_pos (by omega), if_pos (by omega), if_pos (by omega), rdN, rdN, Int.toNat_natCast]
        have hs : deltaStage delta_Put.g true l a.toNat (i + 1 - a.toNat) = (deltaStage delta_Put.g true l a.toNat (i - a.toNat)).set i ((l.getD i 0 - l.getD (i - a.toNat) 0) % 256) := by
          rw [show i + 1 - a.toNat = (i - a.toNat) + 1 by omega]
          conv => lhs; unfold deltaStage
          rw [if_pos rfl, show a.toNat + (i - a.toNat) = i by omega]
          rfl
        rw [hs]
      · rw [if_neg hc, show i + 1 - a.toNat = i - a.toNat by omega]
    refine Ev.step (fun k => ?_) e
    simp only [carapaceref03_Put.l0]
    rw [if_pos (by omega), if_pos (by omega), decide_eq_true h2]
theorem rback_ev (l : List Int) (hn : l.length ≤ 140737488351232) (a : Int) (h1 : 1 ≤ a) (h2 : a ≤ 255) (d : Nat) : ∀ i : Nat, i + d = l.length →
    Ev (fun k => carapaceref03_Back.l0 k l a (deltaStage delta_Back.g false l a.toNat (i - a.toNat)) (i : Int)) (deltaStage delta_Back.g false l a.toNat (l.length - a.toNat)) := by
  induction d with
  | zero =>
    intro i h
    obtain rfl : i = l.length := by omega
    have e : Ev (fun k => carapaceref03_Back.j1 k l a (deltaStage delta_Back.g false l a.toNat (l.length - a.toNat)) (l.length : Int) false) (deltaStage delta_Back.g false l a.toNat (l.length - a.toNat)) :=
      Ev.step (f := fun _ => some (deltaStage delta_Back.g false l a.toNat (l.length - a.toNat))) (fun k => by simp only [carapaceref03_Back.j1]; rw [if_neg (by simp)]) (Ev.now _)
    exact Ev.step (fun k => by simp only [carapaceref03_Back.l0]; rw [if_neg (by omega)]) e
  | succ d ih =>
    intro i h
    have hi : wrap64 ((i : Int) + 1) = ((i + 1 : Nat) : Int) := by rw [w64 (by omega) (by omega)]; rfl
    have e : Ev (fun k => carapaceref03_Back.j1 k l a (deltaStage delta_Back.g false l a.toNat (i - a.toNat)) (i : Int) true) (deltaStage delta_Back.g false l a.toNat (l.length - a.toNat)) := by
      refine Ev.step (fun k => ?_) (ih (i + 1) (by omega))
      simp only [carapaceref03_Back.j1]
      rw [if_pos trivial, hi]
      by_cases hc : (i : Int) ≥ a
      · have hw : wrap64 ((i : Int) - a) = ((i - a.toNat : Nat) : Int) := by rw [w64 (by omega) (by omega)]; omega
        have hlen := deltaStage_length delta_Back.g false l a.toNat (i - a.toNat)
        rw [hw, if_pos hc, if_pos (by omega), if_pos (by omega), if_pos (by omega), if_pos (by omega), if_pos (by omega), rdN, rdN, Int.toNat_natCast]
        have hs : deltaStage delta_Back.g false l a.toNat (i + 1 - a.toNat) = (deltaStage delta_Back.g false l a.toNat (i - a.toNat)).set i ((l.getD i 0 + (deltaStage delta_Back.g false l a.toNat (i - a.toNat)).getD (i - a.toNat) 0) % 256) := by
          rw [show i + 1 - a.toNat = (i - a.toNat) + 1 by omega]
          conv => lhs; unfold deltaStage
          rw [show a.toNat + (i - a.toNat) = i by omega]
          rfl
        rw [hs]
      · rw [if_neg hc, show i + 1 - a.toNat = i - a.toNat by omega]
    refine Ev.step (fun k => ?_) e
    simp only [carapaceref03_Back.l0]
    rw [if_pos (by omega), if_pos (by omega), decide_eq_true h2]
theorem rout_put (l x : List Int) (a : Int) (h : a < 1 ∨ a > 255) (hl : l.length ≤ 140737488351232) : Ev (fun k => carapaceref03_Put.l0 k l a x 0) x := by
  have e : Ev (fun k => carapaceref03_Put.j1 k l a x 0 false) x := Ev.step (f := fun _ => some x) (fun k => by simp only [carapaceref03_Put.j1]; rw [if_neg (by simp)]) (Ev.now _)
  refine Ev.step (fun k => ?_) e
  simp only [carapaceref03_Put.l0]
  split
  · split
    · rw [decide_eq_false (by omega)]
    · rfl
  · rfl
theorem rout_back (l x : List Int) (a : Int) (h : a < 1 ∨ a > 255) (hl : l.length ≤ 140737488351232) : Ev (fun k => carapaceref03_Back.l0 k l a x 0) x := by
  have e : Ev (fun k => carapaceref03_Back.j1 k l a x 0 false) x := Ev.step (f := fun _ => some x) (fun k => by simp only [carapaceref03_Back.j1]; rw [if_neg (by simp)]) (Ev.now _)
  refine Ev.step (fun k => ?_) e
  simp only [carapaceref03_Back.l0]
  split
  · split
    · rw [decide_eq_false (by omega)]
    · rfl
  · rfl
theorem rPut_ev (l : List Int) (a : Int) (hn : l.length ≤ 140737488351232) : Ev (fun k => carapaceref03_Put.f k l a) (put l a) := by
  have hf : ∀ k, carapaceref03_Put.f k l a = carapaceref03_Put.l0 k l a l 0 := fun k => by
    unfold carapaceref03_Put.f
    rw [Option.bind_some, if_pos (by simp; omega)]
    rfl
  refine Ev.congr hf ?_
  unfold put
  by_cases h : a < 1 ∨ a > 255
  · rw [if_pos h]
    exact rout_put l l a h hn
  · rw [if_neg h]
    have := rput_ev l hn a (by omega) (by omega) l.length 0 (by omega)
    rw [show 0 - a.toNat = 0 by omega] at this
    exact this
theorem rBack_ev (l : List Int) (a : Int) (hn : l.length ≤ 140737488351232) : Ev (fun k => carapaceref03_Back.f k l a) (back l a) := by
  have hf : ∀ k, carapaceref03_Back.f k l a = carapaceref03_Back.l0 k l a l 0 := fun k => by
    unfold carapaceref03_Back.f
    rw [Option.bind_some, if_pos (by simp; omega)]
    rfl
  refine Ev.congr hf ?_
  unfold back
  by_cases h : a < 1 ∨ a > 255
  · rw [if_pos h]
    exact rout_back l l a h hn
  · rw [if_neg h]
    have := rback_ev l hn a (by omega) (by omega) l.length 0 (by omega)
    rw [show 0 - a.toNat = 0 by omega] at this
    exact this
/-- There and back. -/
theorem back_put (l : List Int) (hl : Bytes l) (a : Int) : back (put l a) a = l := by
  refine ext_getD (by rw [back_length, put_length]) ?_
  intro j
  induction j using Nat.strongRecOn with
  | ind j ih =>
    intro hj
    rw [back_length, put_length] at hj
    rw [back_at _ _ _ (by rw [put_length]; exact hj), put_at _ _ _ hj]
    by_cases h : 1 ≤ a ∧ a ≤ 255 ∧ a.toNat ≤ j
    · rw [if_pos h, if_pos h, ih (j - a.toNat) (by omega) (by rw [back_length, put_length]; omega)]
      have h1 := hl.at j
      have h2 := hl.at (j - a.toNat)
      omega
    · rw [if_neg h, if_neg h]
theorem put_back (l : List Int) (hl : Bytes l) (a : Int) : put (back l a) a = l := by
  refine ext_getD (by rw [put_length, back_length]) ?_
  intro j hj
  rw [put_length, back_length] at hj
  rw [put_at _ _ _ (by rw [back_length]; exact hj), back_at _ _ _ hj]
  by_cases h : 1 ≤ a ∧ a ≤ 255 ∧ a.toNat ≤ j
  · rw [if_pos h, if_pos h]
    have h1 := hl.at j
    omega
  · rw [if_neg h, if_neg h]
theorem awake : carapacelaw03_awake.f = some true := by decide +kernel
/-- Are bytes the same? -/
theorem same_l0 (l : List Int) (hn : l.length ≤ 140737488351232) (d : Nat) : ∀ i : Nat, i + d = l.length → Ev (fun k => carapaceref01_Same.l0 k l l (i : Int)) true := by
  induction d with
  | zero =>
    intro i h
    refine Ev.step (f := fun _ => some true) (fun k => ?_) (Ev.now _)
    simp only [carapaceref01_Same.l0]
    rw [if_neg (by omega)]
  | succ d ih =>
    intro i h
    refine Ev.step (fun k => ?_) (ih (i + 1) (by omega))
    simp only [carapaceref01_Same.l0]
    rw [if_pos (by omega), if_pos (by omega), if_pos (by omega), if_pos trivial, w64 (by omega) (by omega)]
    rfl
theorem same_ev (l : List Int) (hn : l.length ≤ 140737488351232) : Ev (fun k => carapaceref01_Same.f k l l) true := by
  refine Ev.congr (fun k => ?_) (same_l0 l hn l.length 0 (by omega))
  unfold carapaceref01_Same.f
  rw [if_pos rfl]
  rfl
end Go.Proofs.Ytmibdlapjddfoaa.DeltaF
