-- carapacelaw12.own.
import Derived.Test.YtjbbomchmacdjaaAsD
namespace Go.Proofs.Ytjbbomchmacdjaa.Pv
set_option linter.all false
open Go.RowKit Go.Proofs
set_option maxRecDepth 100000
/-- An item. -/
structure It where
  k : Int
  n : List Int
  op : Int
  a : Int
  b : Int
  c : Int
  imm : Int
  w : Int
def It.row (x : It) : List PV := [.v (.int .i64 x.k), .v (.string (str x.n)), .v (.int .i64 x.op), .v (.int .i64 x.a), .v (.int .i64 x.b), .v (.int .i64 x.c), .v (.int .i64 x.imm), .v (.int .u32 x.w)]
def itRows (L : List It) : List (List PV) := L.map It.row
theorem itRows_length (L : List It) : (itRows L).length = L.length := by simp [itRows]
theorem itRows_get {L : List It} {i : Nat} {x : It} (h : L[i]? = some x) : (itRows L)[((i : Nat) : Int).toNat]? = some [.v (.int .i64 x.k), .v (.string (str x.n)), .v (.int .i64 x.op), .v (.int .i64 x.a), .v (.int .i64 x.b), .v (.int .i64 x.c), .v (.int .i64 x.imm), .v (.int .u32 x.w)] := by
  rw [Int.toNat_natCast, itRows, List.getElem?_map, h]; rfl
theorem itRows_pure (L : List It) : ∀ row ∈ itRows L, ∀ x ∈ row, PV.Pure x := by
  intro row hr x hx
  obtain ⟨r, _, rfl⟩ := List.mem_map.1 hr
  simp only [It.row, List.mem_cons, List.not_mem_nil, or_false] at hx
  rcases hx with rfl | rfl | rfl | rfl | rfl | rfl | rfl | rfl <;> exact .v _
instance (sz : Nat) (f : Bool) (L : List It) : PureC (.ro sz f (itRows L)) := ⟨.ro (itRows_pure L)⟩
theorem own12 (L : List It) (hl : L.length * 72 ≤ 140737488351232) : PCall Try.prog 35 [.ro 8 false (itRows L)] (.ro 8 false (itRows L)) := by
  have hcl := itRows_length L
  refine pcall_mkg Try.func35 rfl [.tmp 2] Try.results35 29 rfl (tk_start ?_)
  (repeat refine ka ?_); refine kr ?_ ?_ (pops_end ?_)
  (repeat refine ka ?_); refine kr ?_ ?_ (pops_end ?_)
  (repeat refine ka ?_); refine kr ?_ ?_ (pops_end ?_)
  refine kvoid 3 8 (fun g0 => ?_)
  (repeat refine ka ?_); refine kb ?_
  refine kw (fun s : Nat × Nat => [(0, .ro 8 false (itRows L)), (3, .vw 0 s.2 0 s.1), (4, .v (.int .i64 s.1))]) (fun s => [⟨s.2, true, 8, itRows (L.take s.1)⟩]) (fun s => s.1 ≤ L.length) (fun s => L.length - s.1) (0, g0) (by simp) (holds 1 (by repeat (first | exact .nil | refine has1 ?_))) ?_
  rintro ⟨i, g0⟩ hi
  simp only at hi ⊢
  have htl : (itRows (L.take i)).length = i := by rw [itRows_length, List.length_take]; omega
  by_cases h : i < L.length
  · obtain ⟨x, hx⟩ : ∃ x, L[i]? = some x := ⟨L[i], by simp [h]⟩
    have hrow := itRows_get hx
    have hts : itRows (L.take (i + 1)) = itRows (L.take i) ++ [[.v (.int .i64 x.k), .v (.string (str x.n)), .v (.int .i64 x.op), .v (.int .i64 x.a), .v (.int .i64 x.b), .v (.int .i64 x.c), .v (.int .i64 x.imm), .v (.int .u32 x.w)]] := by
      obtain ⟨h1, h2⟩ := List.getElem?_eq_some_iff.1 hx
      rw [List.take_succ_eq_append_getElem h1, h2]
      simp [itRows, It.row]
    (repeat refine ka ?_); refine kr ?_ ?_ (pops_end ?_)
    (repeat refine ka ?_); refine kct ?_
    (repeat refine ka ?_); refine ksk ?_
    (repeat refine ka ?_); refine kb ?_
    (repeat refine ka ?_); refine kr ?_ ?_ ?_
    refine ps_alloc fun g1 => ?_
    refine ps_store ?_
    refine pops_nil ?_
    (repeat refine ka ?_); refine kr ?_ ?_ ?_
    refine ps_lit fun g2 => ?_
    refine ps_app_vw (rows' := itRows (L.take (i + 1))) (m := i + 1) (fun g3 => ?_) (hrows := hts.symm)
    refine pops_go ?_ ?_ (pops_end ?_)
    refine kn ?_; repeat (first | with_reducible refine blk_n ?_ | with_reducible refine beh_n ?_)
    (repeat refine ka ?_); refine kr ?_ ?_ (pops_end ?_)
    refine kn ?_; repeat (first | with_reducible refine blk_n ?_ | with_reducible refine beh_n ?_)
    exact ⟨(i + 1, g3), by simp only; omega, by simp only; omega, (holds 1 (by repeat (first | exact .nil | refine has1 ?_)))⟩
  · obtain rfl : i = L.length := by omega
    rw [List.take_length] at htl ⊢
    (repeat refine ka ?_); refine kr ?_ ?_ (pops_end ?_)
    (repeat refine ka ?_); refine kcf ?_
    (repeat refine ka ?_); refine kx ?_; (repeat (first | with_reducible refine beh_x ?_ | with_reducible refine blk_up rfl ?_)); refine blk_here ?_; refine beh_n ?_
    (repeat refine ka ?_); refine kr ?_ ?_ (pops_end ?_)
    (repeat refine ka ?_); refine kret ?_; repeat (first | with_reducible refine beh_r ?_ | with_reducible refine blk_r ?_)
    refine ends_ret ?_ retPV_one
    exact gives_rows rfl rfl htl (itRows_pure _)
end Go.Proofs.Ytjbbomchmacdjaa.Pv
