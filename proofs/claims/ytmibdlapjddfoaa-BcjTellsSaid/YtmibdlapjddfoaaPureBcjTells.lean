/- BcjTells: any bytes, put, and back, are the reference's. For every input; no condition. -/
import Derived.Test.YtmibdlapjddfoaaBcjF
import Derived.Test.YtmibdlapjddfoaaQBcjx2
namespace Go.Proofs.Ytmibdlapjddfoaa.Pure
open Go.RowKit Go.Proofs.YtmibdlapjddfoaaW.PrintWords Go.Proofs.Ytmibdlapjddfoaa.Bv Go.Proofs.Ytmibdlapjddfoaa.BcjF Go.Proofs.Ytmibdlapjddfoaa.QBcj
theorem BcjTells : carapacelaw08_BcjTells.Pure := by
  intro l hm hl hw
  have hb : Bytes l := fun x hx => wf_u8 (hw x hx)
  have hn : l.length < 140737488355328 := by omega
  suffices h : Ev (fun k => carapacelaw08_BcjTells.f k l) true from h.rounds
  by_cases h2 : (l.length : Int) > 2000
  · refine Ev.congr (f := fun _ => some true) (fun k => ?_) (Ev.now _)
    unfold carapacelaw08_BcjTells.f
    rw [awake, Option.bind_some, if_pos h2]
  · have e2 : Ev (fun k => (carapaceref01_Same.f k (back l) (back l)).bind fun t137 => (some t137)) true := Ev.bind (same_ev (back l) (by rw [back_length]; omega)) (Ev.now _)
    have e1 : Ev (fun k => (carapaceref01_Same.f k (put l) (put l)).bind fun t130 => ((carapaceref01_Same.f k (back l) (back l)).bind fun t137 => (if t130 = true then (some t137) else (some false)))) true :=
      Ev.bind (same_ev (put l) (by rw [put_length]; omega)) (by simpa using e2)
    refine Ev.congr (fun k => ?_) e1
    unfold carapacelaw08_BcjTells.f
    rw [awake, Option.bind_some, if_neg h2, Put_f l hb hn, Option.bind_some, rPut_f l hb hn, Option.bind_some, Back_f l hb hn, rBack_f l hb hn]
    simp only [Option.bind_some, if_true]
end Go.Proofs.Ytmibdlapjddfoaa.Pure
