-- '==' of small arrays of whole numbers as one Bool: the steps.
import Derived.Test.YtmibdlapjddfoaaBase
import Derived.Test.YtmibdlapjddfoaaWMore
import Derived.Test.YtmibdlapjddfoaaWEqStruct
import Derived.ChangeKeysEq
namespace Go.Proofs.Ytmibdlapjddfoaa.Base
open Go.RowKit Go.Proofs.YtmibdlapjddfoaaW.PrintWords Go.Proofs.YtmibdlapjddfoaaW.PrintLast Go.Proofs.YtmibdlapjddfoaaW.PrintMore
theorem eqi_nil {P : Program} {d : Nat} {e : TypeId} {c : Nat} {xs ys : Array Value} {w : World} : (Op.eqItems d e c xs ys []).run P w = .ok true w := rfl
theorem eqi_last {P : Program} {d : Nat} {e : TypeId} {c : Nat} {xs ys : Array Value} {w : World} {i : Nat} {a b : Value} {r : Bool} (ha : (part e xs (i * c)).run P w = .ok a w) (hb : (part e ys (i * c)).run P w = .ok b w) (he : (Op.equalIn d e a b).run P w = .ok r w) : (Op.eqItems d e c xs ys [i]).run P w = .ok r w := by
  simp only [Op.eqItems, Sem.run_bind, ha, hb, he, Result.andThen_ok]
  cases r <;> simp
theorem eqi_cons {P : Program} {d : Nat} {e : TypeId} {c : Nat} {xs ys : Array Value} {w : World} {i j : Nat} {is : List Nat} {a b : Value} {r s : Bool} (ha : (part e xs (i * c)).run P w = .ok a w) (hb : (part e ys (i * c)).run P w = .ok b w) (he : (Op.equalIn d e a b).run P w = .ok r w) (hr : (Op.eqItems d e c xs ys (j :: is)).run P w = .ok s w) : (Op.eqItems d e c xs ys (i :: j :: is)).run P w = .ok (r && s) w := by
  rw [Op.eqItems]
  simp only [Sem.run_bind, ha, hb, he, Result.andThen_ok]
  cases r
  · simp
  · simpa using hr
theorem eqArr_of {P : Program} {d : Nat} {t e : TypeId} {n : Nat} {xs ys : Array Value} {w : World} {r : Bool} (hu : P.underlying t = some (.array n e)) (hi : (P.info? e).map (·.size) = some 1) (h : (Op.eqItems d e 1 xs ys (List.range n)).run P w = .ok r w) : (Op.equalIn (d + 1) t (.agg xs) (.agg ys)).run P w = .ok r w := by
  obtain ⟨i, h1, h2⟩ := Option.map_eq_some_iff.1 hi
  rw [run_equalIn_array w d xs ys hu h1, show P.cellsOf e = 1 by simp [Program.cellsOf, h1, h2]]
  exact h
end Go.Proofs.Ytmibdlapjddfoaa.Base
