/- BcjBack: there and back, and back and there, bytes are as they were; what is no jump stays. For every input; no condition. -/
import Derived.Test.YtmibdlapjddfoaaBcjF
import Derived.Test.YtmibdlapjddfoaaQBcjx2
import Derived.Test.YtmibdlapjddfoaaQBcjx3
namespace Go.Proofs.Ytmibdlapjddfoaa.Pure
open Go.RowKit Go.Proofs.YtmibdlapjddfoaaW.PrintWords Go.Proofs.Ytmibdlapjddfoaa.Bv Go.Proofs.Ytmibdlapjddfoaa.BcjF Go.Proofs.Ytmibdlapjddfoaa.QBcj
theorem BcjBack.l0_ev (l : List Int) (hn : l.length ≤ 2000) (d : Nat) : ∀ i : Nat, i + d = l.length → Ev (fun k => carapacelaw08_BcjBack.l0 k l true (put l) (i : Int)) true := by
  induction d with
  | zero =>
    intro i h
    refine Ev.step (f := fun _ => some true) (fun k => ?_) (Ev.now _)
    simp only [carapacelaw08_BcjBack.l0]
    rw [if_neg (by omega)]
  | succ d ih =>
    intro i h
    refine Ev.step (fun k => ?_) (ih (i + 1) (by omega))
    have hp := put_length l
    have hi : wrap64 ((i : Int) + 1) = ((i + 1 : Nat) : Int) := by rw [w64 (by omega) (by omega)]; rfl
    have h3 : wrap64 ((wrap64 ((wrap64 (Int.tdiv (i : Int) 4)) * 4)) + 3) = ((4 * (i / 4) + 3 : Nat) : Int) := by
      rw [Int.tdiv_eq_ediv_of_nonneg (by omega)]
      unfold wrap64
      omega
    have hm : Int.tmod (i : Int) 4 = ((i % 4 : Nat) : Int) := by rw [Int.tmod_eq_emod_of_nonneg (by omega)]; omega
    simp only [carapacelaw08_BcjBack.l0]
    rw [h3, hi, hm]
    have hg := st_get (num 1) l (l.length / 4) (by omega) i
    have hr : ∀ x : List Int, rd x (i : Int) = x.getD i 0 := fun x => by unfold rd; rw [Int.toNat_natCast]
    have hr3 : rd l ((4 * (i / 4) + 3 : Nat) : Int) = l.getD (4 * (i / 4) + 3) 0 := by unfold rd; rw [Int.toNat_natCast]
    rw [hr, hr, hr3, if_pos (by omega)]
    by_cases hc : (i < 4 * (l.length / 4) ∧ l.getD (4 * (i / 4) + 3) 0 = 20 ∧ i % 4 < 2)
    · rw [if_pos (by omega), if_pos (by omega), if_pos hc.2.1, if_pos (by omega)]
    · have he : (put l).getD i 0 = l.getD i 0 := by
        unfold put
        rw [hg, if_neg hc]
      by_cases h4 : ((4 * (i / 4) + 3 : Nat) : Int) < (l.length : Int)
      · rw [if_pos h4, if_pos (by omega)]
        by_cases h20 : l.getD (4 * (i / 4) + 3) 0 = 20
        · rw [if_pos h20, if_neg (by omega), if_pos (by omega), if_pos (by omega), if_pos he]
        · rw [if_neg h20, if_pos (by omega), if_pos (by omega), if_pos he]
      · rw [if_neg h4, if_pos (by omega), if_pos (by omega), if_pos he]
theorem BcjBack : carapacelaw08_BcjBack.Pure := by
  intro l hm hl hw
  have hb : Bytes l := fun x hx => wf_u8 (hw x hx)
  have hn : l.length < 140737488355328 := by omega
  suffices h : Ev (fun k => carapacelaw08_BcjBack.f k l) true from h.rounds
  by_cases h2 : (l.length : Int) > 2000
  · refine Ev.congr (f := fun _ => some true) (fun k => ?_) (Ev.now _)
    unfold carapacelaw08_BcjBack.f
    rw [awake, Option.bind_some, if_pos h2]
  · have hp := put_length l
    have hq := back_length l
    have hbp : Bytes (put l) := st_bytes 1 l hb _ (by omega)
    have hbb : Bytes (back l) := st_bytes (-1) l hb _ (by omega)
    have e3 : Ev (fun k => carapacelaw08_BcjBack.j0 k l true (put l) (((put l).length : Int) != (l.length : Int))) true := by
      refine Ev.step (fun k => ?_) (BcjBack.l0_ev l (by omega) l.length 0 (by omega))
      simp only [carapacelaw08_BcjBack.j0]
      rw [hp, if_neg (by simp)]
      rfl
    have e2 : Ev (fun k => (carapaceref01_Same.f k l l).bind fun t152 => (if t152 = true then (carapacelaw08_BcjBack.j0 k l true (put l) (((put l).length : Int) != (l.length : Int))) else (carapacelaw08_BcjBack.j0 k l true (put l) true))) true :=
      Ev.bind (same_ev l (by omega)) (by simpa using e3)
    have e1 : Ev (fun k => (carapaceref01_Same.f k l l).bind fun t145 => ((carapaceref01_Same.f k l l).bind fun t152 => (if t145 = true then (if t152 = true then (carapacelaw08_BcjBack.j0 k l true (put l) (((put l).length : Int) != (l.length : Int))) else (carapacelaw08_BcjBack.j0 k l true (put l) true)) else (carapacelaw08_BcjBack.j0 k l true (put l) true)))) true :=
      Ev.bind (same_ev l (by omega)) (by simpa using e2)
    refine Ev.congr (fun k => ?_) e1
    unfold carapacelaw08_BcjBack.f
    rw [awake, Option.bind_some, if_neg h2, Put_f l hb hn, Option.bind_some, Back_f (put l) hbp (by omega), Option.bind_some, back_put l hb, Back_f l hb hn]
    simp only [Option.bind_some]
    rw [Put_f (back l) hbb (by omega), put_back l hb]
    simp only [Option.bind_some]
end Go.Proofs.Ytmibdlapjddfoaa.Pure
