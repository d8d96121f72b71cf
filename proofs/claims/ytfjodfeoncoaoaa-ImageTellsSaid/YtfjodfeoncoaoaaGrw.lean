-- slices.Grow of nothing; slices.Concat.
import Derived.Test.YtfjodfeoncoaoaaIfc
import Derived.Test.YtfjodfeoncoaoaaCl
namespace Go.Proofs.Ytfjodfeoncoaoaa.Pv
set_option linter.all false
open Go.RowKit Go.Proofs
set_option maxRecDepth 100000
set_option maxHeartbeats 4000000
theorem grow_ok (m : Nat) (h0 : 0 < m) (hm : m ≤ 1000000000) : GCall Try.prog 50 [.v (.slice none 0 0), .v (.int .i64 m)] [] (fun x S' => ∃ g, x = .vw 0 g 0 0 ∧ S' = [⟨g, true, 1, []⟩]) := by
  refine gcall_of_tr Try.func50 rfl [.tmp 4] Try.results50 27 rfl (tk_start ?_)
  (repeat refine ka ?_); refine kr ?_ ?_ (pops_end ?_)
  (repeat refine ka ?_); refine kr ?_ ?_ (pops_end ?_)
  (repeat refine ka ?_); refine kcf ?_
  (repeat refine ka ?_); refine ksk ?_
  (repeat refine ka ?_); refine kr ?_ ?_ ?_
  refine ps_capn ?_
  refine pops_go ?_ ?_ (pops_end ?_)
  (repeat refine ka ?_); refine kr ?_ ?_ (pops_end ?_)
  (repeat refine ka ?_); refine kct ?_
  (repeat refine ka ?_); refine kr ?_ ?_ ?_
  refine ps_capn ?_
  refine pops_go ?_ ?_ ?_
  refine ps_sln ?_
  refine pops_go ?_ ?_ ?_
  refine ps_appz (l := (m : Int) - (0 - ((0 : Nat) : Int))) m (fun g => ?_) (by omega) h0
  refine pops_go ?_ ?_ (pops_end ?_)
  refine kshrink (len := 0) (sz := 1) (rows := List.replicate m [.v (.int .u8 0)]) (rows' := []) 0 (fun g' => ?_) (hne := by rw [List.length_replicate]; exact h0)
  (repeat refine ka ?_); refine kr ?_ ?_ (pops_end ?_)
  (repeat refine ka ?_); refine kret ?_; repeat (first | with_reducible refine beh_r ?_ | with_reducible refine blk_r ?_)
  refine ends_ret ?_ retPV_one
  exact ⟨_, rfl, rfl⟩
def catRows (L : List (List Int)) : List (List PV) := L.map fun l => [.ro 1 false (ints .u8 l)]
theorem catRows_length (L : List (List Int)) : (catRows L).length = L.length := by simp [catRows]
theorem catRows_get (L : List (List Int)) {i : Nat} (h : i < L.length) : (catRows L)[(i : Int).toNat]? = some [.ro 1 false (ints .u8 (L.getD i []))] := by
  simp [catRows, List.getElem?_eq_getElem h, List.getD_eq_getElem?_getD]
theorem flat_one {L : List (List Int)} {i : Nat} (h : i < L.length) : (L.take (i + 1)).flatten = (L.take i).flatten ++ L.getD i [] := by
  rw [List.take_succ, List.getElem?_eq_getElem h, List.flatten_append]
  congr 1
  simp [List.getD_eq_getElem?_getD, List.getElem?_eq_getElem h]
theorem flat_le {L : List (List Int)} (i : Nat) : (L.take i).flatten.length ≤ L.flatten.length := by
  conv => rhs; rw [← List.take_append_drop i L, List.flatten_append, List.length_append]
  omega
theorem concat_own (f : Bool) (L : List (List Int)) (h0 : 0 < L.flatten.length) (hl : L.flatten.length ≤ 1000000000) (hn : L.length ≤ 1000) : GCall Try.prog 27 [.ro 1 f (catRows L)] [] (fun x S' => ∃ g, x = .vw 0 g 0 L.flatten.length ∧ S' = [⟨g, true, 1, ints .u8 L.flatten⟩]) := by
  have hL := catRows_length L
  refine gcall_of_tr Try.func27 rfl [.tmp 2] Try.results27 36 rfl (tk_start ?_)
  (repeat refine ka ?_); refine kr ?_ ?_ (pops_end ?_)
  (repeat refine ka ?_); refine kr ?_ ?_ (pops_end ?_)
  (repeat refine ka ?_); refine kr ?_ ?_ (pops_end ?_)
  (repeat refine ka ?_); refine kb ?_
  refine kw (fun i : Nat => [(0, PV.ro 1 f (catRows L)), (3, .v (.int .i64 (L.take i).flatten.length)), (9, .ro 1 f (catRows L)), (10, .v (.int .i64 L.length)), (11, .v (.int .i64 i))]) (fun _ => []) (fun i => i ≤ L.length) (fun i => L.length - i) 0 (Nat.zero_le _) (holds 0 (by repeat (first | exact .nil | refine has1 ?_))) ?_
  intro i hi
  by_cases g : (i : Int) < L.length
  · have hg := catRows_get L (show i < L.length by omega)
    have hf := flat_one (show i < L.length by omega)
    have hle := flat_le (L := L) (i + 1)
    have hsum : ((L.take (i + 1)).flatten.length : Int) = (L.take i).flatten.length + (L.getD i []).length := by rw [hf, List.length_append]; omega
    generalize L.getD i [] = li at *
    (repeat refine ka ?_); refine kr ?_ ?_ (pops_end ?_)
    (repeat refine ka ?_); refine kct ?_
    (repeat refine ka ?_); refine ksk ?_
    (repeat refine ka ?_); refine kb ?_
    (repeat refine ka ?_); refine kr ?_ ?_ (pops_end ?_)
    (repeat refine ka ?_); refine kr ?_ ?_ (pops_end ?_)
    (repeat refine ka ?_); refine kr ?_ ?_ (pops_end ?_)
    (repeat refine ka ?_); refine kcf ?_
    (repeat refine ka ?_); refine ksk ?_
    refine kn ?_; repeat (first | with_reducible refine blk_n ?_ | with_reducible refine beh_n ?_)
    (repeat refine ka ?_); refine kr ?_ ?_ (pops_end ?_)
    refine kn ?_; repeat (first | with_reducible refine blk_n ?_ | with_reducible refine beh_n ?_)
    refine ⟨i + 1, by omega, by omega, ?_⟩
    rw [hsum]
    exact (holds 0 (by repeat (first | exact .nil | refine has1 ?_)))
  · obtain rfl : i = L.length := by omega
    rw [List.take_length]
    (repeat refine ka ?_); refine kr ?_ ?_ (pops_end ?_)
    (repeat refine ka ?_); refine kcf ?_
    (repeat refine ka ?_); refine kx ?_; (repeat (first | with_reducible refine beh_x ?_ | with_reducible refine blk_up rfl ?_)); refine blk_here ?_; refine beh_n ?_
    (repeat refine ka ?_); refine kr ?_ ?_ ?_
    refine ps_gcall (grow_ok L.flatten.length h0 hl) ?_
    rintro x S' ⟨g0, rfl, rfl⟩
    refine pops_go ?_ ?_ (pops_end ?_)
    (repeat refine ka ?_); refine kr ?_ ?_ (pops_end ?_)
    (repeat refine ka ?_); refine kb ?_
    refine kw (fun p : Nat × Nat => [(6, PV.vw 0 p.2 0 (L.take p.1).flatten.length), (25, .ro 1 f (catRows L)), (26, .v (.int .i64 L.length)), (27, .v (.int .i64 p.1))]) (fun p => [⟨p.2, true, 1, ints .u8 (L.take p.1).flatten⟩]) (fun p => p.1 ≤ L.length) (fun p => L.length - p.1) (0, g0) (Nat.zero_le _) (by simp only [List.take_zero, List.flatten_nil, List.length_nil, ints, List.map_nil]; exact (holds 1 (by repeat (first | exact .nil | refine has1 ?_)))) ?_
    rintro ⟨i, g1⟩ hi
    simp only at hi ⊢
    by_cases g : (i : Int) < L.length
    · have hg := catRows_get L (show i < L.length by omega)
      have hf := flat_one (show i < L.length by omega)
      have hle := flat_le (L := L) (i + 1)
      have hsum : (L.take (i + 1)).flatten.length = (L.take i).flatten.length + (L.getD i []).length := by rw [hf, List.length_append]
      generalize L.getD i [] = li at *
      (repeat refine ka ?_); refine kr ?_ ?_ (pops_end ?_)
      (repeat refine ka ?_); refine kct ?_
      (repeat refine ka ?_); refine ksk ?_
      (repeat refine ka ?_); refine kb ?_
      (repeat refine ka ?_); refine kr ?_ ?_ (pops_end ?_)
      (repeat refine ka ?_); refine kr ?_ ?_ ?_
      refine ps_app_vw (rows' := ints .u8 (L.take (i + 1)).flatten) (m := (L.take (i + 1)).flatten.length) (fun g2 => ?_) (hsrc := rfl) (hm := by rw [ints_length, hsum]) (hrows := (by rw [hf]; simp only [ints, List.map_append] : ints .u8 (L.take i).flatten ++ ints .u8 li = ints .u8 (L.take (i + 1)).flatten))
      refine pops_go ?_ ?_ (pops_end ?_)
      refine kn ?_; repeat (first | with_reducible refine blk_n ?_ | with_reducible refine beh_n ?_)
      (repeat refine ka ?_); refine kr ?_ ?_ (pops_end ?_)
      refine kn ?_; repeat (first | with_reducible refine blk_n ?_ | with_reducible refine beh_n ?_)
      refine ⟨(i + 1, g2), by simp only; omega, by simp only; omega, ?_⟩
      simp only
      exact (holds 1 (by repeat (first | exact .nil | refine has1 ?_)))
    · obtain rfl : i = L.length := by omega
      rw [List.take_length]
      (repeat refine ka ?_); refine kr ?_ ?_ (pops_end ?_)
      (repeat refine ka ?_); refine kcf ?_
      (repeat refine ka ?_); refine kx ?_; (repeat (first | with_reducible refine beh_x ?_ | with_reducible refine blk_up rfl ?_)); refine blk_here ?_; refine beh_n ?_
      (repeat refine ka ?_); refine kr ?_ ?_ (pops_end ?_)
      (repeat refine ka ?_); refine kret ?_; repeat (first | with_reducible refine beh_r ?_ | with_reducible refine blk_r ?_)
      refine ends_ret ?_ retPV_one
      exact ⟨_, rfl, rfl⟩
end Go.Proofs.Ytfjodfeoncoaoaa.Pv
