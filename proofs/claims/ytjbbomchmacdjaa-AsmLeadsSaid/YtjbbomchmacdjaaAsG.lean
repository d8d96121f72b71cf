-- carapaceref12.Find.
import Derived.Test.YtjbbomchmacdjaaAsF
import Derived.Test.YtjbbomchmacdjaaLkC
namespace Go.Proofs.Ytjbbomchmacdjaa.Pv
set_option linter.all false
open Go.RowKit Go.Proofs
set_option maxRecDepth 100000
def labRows (L : List (List Int × Int)) : List (List PV) := L.map fun p => [.v (.string (str p.1)), .v (.int .i64 p.2)]
theorem labRows_length (L : List (List Int × Int)) : (labRows L).length = L.length := by simp [labRows]
theorem labRows_get {L : List (List Int × Int)} {i : Nat} {p : List Int × Int} (h : L[i]? = some p) : (labRows L)[((i : Nat) : Int).toNat]? = some [.v (.string (str p.1)), .v (.int .i64 p.2)] := by
  rw [Int.toNat_natCast, labRows, List.getElem?_map, h]; rfl
instance (sz : Nat) (f : Bool) (L : List (List Int × Int)) : PureC (.ro sz f (labRows L)) := ⟨.ro fun row hr x hx => by
  obtain ⟨r, _, rfl⟩ := List.mem_map.1 hr
  simp only [List.mem_cons, List.not_mem_nil, or_false] at hx
  rcases hx with rfl | rfl <;> exact .v _⟩
def findF : List (List Int × Int) → List Int → Int × Bool
  | [], _ => (0, false)
  | p :: L, n => if p.1 = n then (p.2, true) else findF L n
theorem find12 (L : List (List Int × Int)) (hl : L.length ≤ 1000000) (ho : ∀ p ∈ L, Oct p.1) (n : List Int) (hn : Oct n) : PCall Try.prog 41 [.ro 2 false (labRows L), .v (.string (str n))] (.tup [.v (.int .i64 (findF L n).1), .v (.bool (findF L n).2)]) := by
  have hcl := labRows_length L
  refine pcall_mk Try.func41 rfl [.tmp 4, .tmp 5] Try.results41 25 rfl (tk_start ?_)
  (repeat refine ka ?_); refine kr ?_ ?_ (pops_end ?_)
  (repeat refine ka ?_); refine kr ?_ ?_ (pops_end ?_)
  (repeat refine ka ?_); refine kb ?_
  refine kw (fun i : Nat => [(0, PV.ro 2 false (labRows L)), (1, .v (.string (str n))), (6, .v (.int .i64 i))]) (fun _ => []) (fun i => i ≤ L.length ∧ findF L n = findF (L.drop i) n) (fun i => L.length - i) 0 (by simp) (holds 0 (by repeat (first | exact .nil | refine has1 ?_))) ?_
  rintro i ⟨hi, hf⟩
  by_cases g : (i : Int) < L.length
  · obtain ⟨p, hp⟩ : ∃ p, L[i]? = some p := ⟨L[i]'(by omega), by simp [show i < L.length by omega]⟩
    have hrow := labRows_get hp
    have hpo := ho p (List.mem_of_getElem? hp)
    have hd : L.drop i = p :: L.drop (i + 1) := drop_cons hp
    rw [hd, findF] at hf
    by_cases e : p.1 = n
    · rw [if_pos e] at hf
      (repeat refine ka ?_); refine kr ?_ ?_ (pops_end ?_)
      (repeat refine ka ?_); refine kct ?_
      (repeat refine ka ?_); refine ksk ?_
      (repeat refine ka ?_); refine kb ?_
      (repeat refine ka ?_); refine kr ?_ ?_ (pops_end ?_)
      (repeat refine ka ?_); refine kct ?_
      (repeat refine ka ?_); refine kr ?_ ?_ (pops_end ?_)
      (repeat refine ka ?_); refine kret ?_; repeat (first | with_reducible refine beh_r ?_ | with_reducible refine blk_r ?_)
      refine ends_ret ?_ (retPV_2 res_tmp res_tmp)
      rw [hf]
    · rw [if_neg e] at hf
      (repeat refine ka ?_); refine kr ?_ ?_ (pops_end ?_)
      (repeat refine ka ?_); refine kct ?_
      (repeat refine ka ?_); refine ksk ?_
      (repeat refine ka ?_); refine kb ?_
      (repeat refine ka ?_); refine kr ?_ ?_ (pops_end ?_)
      (repeat refine ka ?_); refine kcf ?_
      (repeat refine ka ?_); refine ksk ?_
      refine kn ?_; repeat (first | with_reducible refine blk_n ?_ | with_reducible refine beh_n ?_)
      (repeat refine ka ?_); refine kr ?_ ?_ (pops_end ?_)
      refine kn ?_; repeat (first | with_reducible refine blk_n ?_ | with_reducible refine beh_n ?_)
      exact ⟨i + 1, ⟨by omega, hf⟩, by omega, (holds 0 (by repeat (first | exact .nil | refine has1 ?_)))⟩
  · have hz : L.drop i = [] := List.drop_eq_nil_of_le (by omega)
    rw [hz, findF] at hf
    (repeat refine ka ?_); refine kr ?_ ?_ (pops_end ?_)
    (repeat refine ka ?_); refine kcf ?_
    (repeat refine ka ?_); refine kx ?_; (repeat (first | with_reducible refine beh_x ?_ | with_reducible refine blk_up rfl ?_)); refine blk_here ?_; refine beh_n ?_
    (repeat refine ka ?_); refine kr ?_ ?_ (pops_end ?_)
    (repeat refine ka ?_); refine kret ?_; repeat (first | with_reducible refine beh_r ?_ | with_reducible refine blk_r ?_)
    refine ends_ret ?_ (retPV_2 res_tmp res_tmp)
    rw [hf]
end Go.Proofs.Ytjbbomchmacdjaa.Pv
