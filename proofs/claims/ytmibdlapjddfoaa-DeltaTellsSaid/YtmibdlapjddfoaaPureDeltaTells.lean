/- DeltaTells: the differences of any bytes, and the bytes of any differences, by any number, are the reference's. For every input; no condition. -/
import Derived.Test.YtmibdlapjddfoaaDeltaF
namespace Go.Proofs.Ytmibdlapjddfoaa.Pure
open Go.RowKit Go.Proofs.YtmibdlapjddfoaaW.PrintWords Go.Proofs.Ytmibdlapjddfoaa.Bv Go.Proofs.Ytmibdlapjddfoaa.DeltaF Go.Proofs.Ytmibdlapjddfoaa.QDelta
theorem DeltaTells : carapacelaw03_DeltaTells.Pure := by
  intro l a hm hl hw ha
  have hn : l.length < 140737488355328 := by omega
  suffices h : Ev (fun k => carapacelaw03_DeltaTells.f k l a) true from h.rounds
  by_cases h2 : (l.length : Int) > 2000
  · refine Ev.congr (f := fun _ => some true) (fun k => ?_) (Ev.now _)
    unfold carapacelaw03_DeltaTells.f
    rw [awake, Option.bind_some, if_pos h2]
  · have hp := put_length l a
    have hq := back_length l a
    have e3 : Ev (fun k => (carapaceref01_Same.f k (back l a) (back l a)).bind fun t147 => (some t147)) true := Ev.bind (same_ev _ (by omega)) (Ev.now _)
    have e2 : Ev (fun k => (carapaceref03_Back.f k l a).bind fun t144 => ((carapaceref01_Same.f k (back l a) t144).bind fun t147 => (some t147))) true := Ev.bind (rBack_ev l a (by omega)) e3
    have e1 : Ev (fun k => (carapaceref01_Same.f k (put l a) (put l a)).bind fun t140 => ((carapaceref03_Back.f k l a).bind fun t144 => ((carapaceref01_Same.f k (back l a) t144).bind fun t147 => (if t140 = true then (some t147) else (some false))))) true := Ev.bind (same_ev _ (by omega)) (by simpa using e2)
    have e0 : Ev (fun k => (carapaceref03_Put.f k l a).bind fun t137 => ((carapaceref01_Same.f k (put l a) t137).bind fun t140 => ((carapaceref03_Back.f k l a).bind fun t144 => ((carapaceref01_Same.f k (back l a) t144).bind fun t147 => (if t140 = true then (some t147) else (some false)))))) true := Ev.bind (rPut_ev l a (by omega)) e1
    refine Ev.congr (fun k => ?_) e0
    unfold carapacelaw03_DeltaTells.f
    rw [awake, Option.bind_some, if_neg h2, Put_f l a hn, Back_f l a hn]
    simp only [Option.bind_some, if_true]
end Go.Proofs.Ytmibdlapjddfoaa.Pure
