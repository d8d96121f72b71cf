/- DeltaBack: there and back, and back and there, bytes are as they were; equal bytes are differences 0. For every input; no condition. -/
import Derived.Test.YtmibdlapjddfoaaDeltaF
namespace Go.Proofs.Ytmibdlapjddfoaa.Pure
open Go.RowKit Go.Proofs.YtmibdlapjddfoaaW.PrintWords Go.Proofs.Ytmibdlapjddfoaa.Bv Go.Proofs.Ytmibdlapjddfoaa.DeltaF Go.Proofs.Ytmibdlapjddfoaa.QDelta
theorem DeltaBack.l1_ev (n : Nat) (hn : n ≤ 2000) (a c : Int) (hc : 0 ≤ c ∧ c < 256) (d : Nat) : ∀ i : Nat, i + d = n →
    Ev (fun k => carapacelaw03_DeltaBack.l1 k a c true (put (List.replicate n c) a) (i : Int)) true := by
  have hlen : (put (List.replicate n c) a).length = n := by rw [put_length, List.length_replicate]
  have hrep : ∀ j, j < n → (List.replicate n c).getD j 0 = c := fun j hj => by
    rw [List.getD_eq_getElem?_getD, List.getElem?_replicate, if_pos hj]
    rfl
  induction d with
  | zero =>
    intro i h
    refine Ev.step (f := fun _ => some true) (fun k => ?_) (Ev.now _)
    simp only [carapacelaw03_DeltaBack.l1]
    rw [if_neg (by omega)]
  | succ d ih =>
    intro i h
    have hi : wrap64 ((i : Int) + 1) = ((i + 1 : Nat) : Int) := by rw [w64 (by omega) (by omega)]; rfl
    have hat := put_at (List.replicate n c) a i (by rw [List.length_replicate]; omega)
    rw [hrep i (by omega)] at hat
    have hj : ∀ b : Bool, b = decide (1 ≤ a ∧ a ≤ 255 ∧ a.toNat ≤ i) → Ev (fun k => carapacelaw03_DeltaBack.j3 k a c true (put (List.replicate n c) a) (i : Int) c b) true := by
      intro b hb
      refine Ev.step (fun k => ?_) (ih (i + 1) (by omega))
      simp only [carapacelaw03_DeltaBack.j3]
      rw [rdN, hat, hi]
      by_cases h2 : 1 ≤ a ∧ a ≤ 255 ∧ a.toNat ≤ i
      · rw [hb, decide_eq_true h2, if_pos rfl, if_pos (by omega), if_pos (by omega), if_pos h2, hrep _ (by omega), if_pos (by omega)]
      · rw [hb, decide_eq_false h2, if_neg (by simp), if_pos (by omega), if_pos (by omega), if_neg h2, if_pos rfl]
    by_cases h1 : a ≥ 1
    · by_cases h3 : a ≤ 255
      · refine Ev.step (fun k => ?_) (hj (decide ((i : Int) ≥ a)) (by
          by_cases h4 : (i : Int) ≥ a
          · rw [decide_eq_true h4, decide_eq_true (by omega)]
          · rw [decide_eq_false h4, decide_eq_false (by omega)]))
        simp only [carapacelaw03_DeltaBack.l1]
        rw [if_pos (by omega), if_pos h1, if_pos h3]
      · refine Ev.step (fun k => ?_) (hj false (by rw [decide_eq_false (by omega)]))
        simp only [carapacelaw03_DeltaBack.l1]
        rw [if_pos (by omega), if_pos h1, if_neg h3]
    · refine Ev.step (fun k => ?_) (hj false (by rw [decide_eq_false (by omega)]))
      simp only [carapacelaw03_DeltaBack.l1]
      rw [if_pos (by omega), if_neg h1]
theorem DeltaBack.l0_ev (l : List Int) (hn : l.length ≤ 2000) (a c : Int) (hc : 0 ≤ c ∧ c < 256) (d : Nat) : ∀ i : Nat, i + d = l.length →
    Ev (fun k => carapacelaw03_DeltaBack.l0 k l a c true (List.replicate i c ++ List.replicate d 0) (i : Int)) true := by
  induction d with
  | zero =>
    intro i h
    obtain rfl : i = l.length := by omega
    refine Ev.step (fun k => ?_) (DeltaBack.l1_ev l.length hn a c hc l.length 0 (by omega))
    simp only [carapacelaw03_DeltaBack.l0]
    rw [List.replicate_zero, List.append_nil, List.length_replicate, if_neg (by omega), Put_f _ _ (by rw [List.length_replicate]; omega), Option.bind_some, put_length, List.length_replicate, if_pos rfl]
    rfl
  | succ d ih =>
    intro i h
    refine Ev.step (fun k => ?_) (ih (i + 1) (by omega))
    have hs : (List.replicate i c ++ List.replicate (d + 1) 0).set i c = List.replicate (i + 1) c ++ List.replicate d 0 := by
      rw [List.set_append_right _ _ (by simp), List.length_replicate, Nat.sub_self, List.replicate_succ, List.set_cons_zero, List.replicate_succ', List.append_assoc]
      rfl
    simp only [carapacelaw03_DeltaBack.l0]
    rw [if_pos (by simp; omega), if_pos (by omega), w64 (by omega) (by omega), Int.toNat_natCast, hs]
    rfl
theorem DeltaBack : carapacelaw03_DeltaBack.Pure := by
  intro l a c hm hl hw ha hc
  have hb : Bytes l := fun x hx => wf_u8 (hw x hx)
  have hn : l.length < 140737488355328 := by omega
  suffices h : Ev (fun k => carapacelaw03_DeltaBack.f k l a c) true from h.rounds
  by_cases h2 : (l.length : Int) > 2000
  · refine Ev.congr (f := fun _ => some true) (fun k => ?_) (Ev.now _)
    unfold carapacelaw03_DeltaBack.f
    rw [awake, Option.bind_some, if_pos h2]
  · have hp := put_length l a
    have hq := back_length l a
    have e3 : Ev (fun k => carapacelaw03_DeltaBack.j0 k l a c true (!true)) true := by
      refine Ev.step (fun k => ?_) (DeltaBack.l0_ev l (by omega) a c (wf_u8 hc) l.length 0 (by omega))
      simp only [carapacelaw03_DeltaBack.j0]
      rw [if_neg (by simp), if_pos (by omega), if_pos (by omega), Int.toNat_natCast]
      rfl
    have e2 : Ev (fun k => (carapaceref01_Same.f k l l).bind fun t162 => (carapacelaw03_DeltaBack.j0 k l a c true (!t162))) true := Ev.bind (same_ev l (by omega)) e3
    have e1 : Ev (fun k => (carapaceref01_Same.f k l l).bind fun t155 => ((carapaceref01_Same.f k l l).bind fun t162 => (if t155 = true then (carapacelaw03_DeltaBack.j0 k l a c true (!t162)) else (carapacelaw03_DeltaBack.j0 k l a c true true)))) true := Ev.bind (same_ev l (by omega)) (by simpa using e2)
    refine Ev.congr (fun k => ?_) e1
    unfold carapacelaw03_DeltaBack.f
    rw [awake, Option.bind_some, if_neg h2, Put_f l a hn, Option.bind_some, Back_f (put l a) a (by omega), Option.bind_some, back_put l hb, Back_f l a hn]
    simp only [Option.bind_some]
    rw [Put_f (back l a) a (by omega), put_back l hb]
    simp only [Option.bind_some]
end Go.Proofs.Ytmibdlapjddfoaa.Pure
