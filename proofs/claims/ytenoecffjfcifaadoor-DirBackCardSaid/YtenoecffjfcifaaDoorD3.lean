-- Merged of DrP DrQ DrR DrS DrT.
import Derived.Test.YtenoecffjfcifaaDoorD2
import Derived.Test.YtenoecffjfcifaaDoorFrz
import Derived.Test.YtenoecffjfcifaaDoorSameB
-- dir.Cut.
namespace Go.Proofs.YtenoecffjfcifaaDoor.Pv
set_option linter.all false
set_option linter.unusedVariables false
open Go.RowKit Go.Proofs
set_option maxRecDepth 100000
set_option maxHeartbeats 4000000
theorem ints_nilD {k : IntKind} {l : List Int} (h : ints k l = []) : l = [] := by
  cases l with
  | nil => rfl
  | cons a l => simp [ints] at h
theorem clone_b (l : List Int) (hl : l.length ≤ 100000000000) : PCall Tryd.prog 41 [.ro 1 false (ints .u8 l)] (.ro 1 false (ints .u8 l)) := by
  refine pcall_mkg Tryd.func41 rfl [.tmp 2] Tryd.results41 8 rfl (tk_start ?_)
  (repeat refine ka ?_); refine kr ?_ ?_ (pops_end ?_)
  (repeat refine ka ?_); refine kr ?_ ?_ ?_
  refine ps_eqn fun b hb => ?_
  refine pops_go ?_ ?_ (pops_end ?_)
  cases b with
  | true =>
    obtain rfl := ints_nilD (hb rfl)
    (repeat refine ka ?_); refine kct ?_
    (repeat refine ka ?_); refine kr ?_ ?_ (pops_end ?_)
    (repeat refine ka ?_); refine kret ?_; repeat (first | with_reducible refine beh_r ?_ | with_reducible refine blk_r ?_)
    refine ends_ret ?_ retPV_one
    exact .nil
  | false =>
    (repeat refine ka ?_); refine kcf ?_
    (repeat refine ka ?_); refine ksk ?_
    (repeat refine ka ?_); refine kr ?_ ?_ ?_
    refine ps_lit fun g0 => ?_
    refine pops_go ?_ ?_ ?_
    refine ps_app_vw (rows' := ints .u8 l) (m := l.length) (fun g1 => ?_) (hsrc := rfl) (hrows := List.nil_append _)
    refine pops_go ?_ ?_ (pops_end ?_)
    (repeat refine ka ?_); refine kret ?_; repeat (first | with_reducible refine beh_r ?_ | with_reducible refine blk_r ?_)
    refine ends_ret ?_ retPV_one
    exact gives_ints rfl rfl rfl
def cutAt : List En → List Int → List Fi
  | [], _ => []
  | e :: E, b => (e.1, b.take e.2.toNat) :: cutAt E (b.drop e.2.toNat)
theorem cutAt_length : ∀ (E : List En) (b : List Int), (cutAt E b).length = E.length
  | [], _ => rfl
  | e :: E, b => by rw [cutAt, List.length_cons, cutAt_length E, List.length_cons]
theorem cut_snoc (e : En) : ∀ (E : List En) (b : List Int), (∀ x ∈ E, 0 ≤ x.2) → cutAt (E ++ [e]) b = cutAt E b ++ [(e.1, (b.drop (List.sum (E.map fun e : En => e.2)).toNat).take e.2.toNat)]
  | [], b, _ => by simp [cutAt]
  | x :: E, b, h => by
    have h0 := h x (by simp)
    have h1 := sum_nonneg (l := E.map (·.2)) (by intro y hy; obtain ⟨z, hz, rfl⟩ := List.mem_map.1 hy; exact h z (by simp [hz]))
    rw [List.cons_append, cutAt, cut_snoc e E _ (fun y hy => h y (by simp [hy])), cutAt, List.map_cons, List.sum_cons, List.cons_append, List.drop_drop, show (x.2 + (E.map (·.2)).sum).toNat = x.2.toNat + (List.sum (E.map fun e : En => e.2)).toNat by omega]
def cutF (E : List En) (b : List Int) : List Fi × Int :=
  if checkF E ≠ 0 then ([], checkF E) else if (E.map (·.2)).sum ≠ b.length then ([], 2) else (cutAt E b, 0)
theorem filRows_pure1 (p d : List Int) : ∀ row ∈ [[PV.v (.string (str p)), .ro 1 false (ints .u8 d)]], ∀ z ∈ row, PV.Pure z := filRows_pure [(p, d)]
theorem take_snoc {α : Type} {L : List α} {i : Nat} {x : α} (h : L[i]? = some x) : L.take (i + 1) = L.take i ++ [x] := by
  obtain ⟨h1, h2⟩ := List.getElem?_eq_some_iff.1 h
  rw [List.take_succ_eq_append_getElem h1, h2]
theorem dcut_ok (E : List En) (hE : EnsOk E) (hl : E.length ≤ 1000000) (b : List Int) (hbl : b.length ≤ 1000000000) : PCall Tryd.prog 21 [.ro 2 false (entRows E), .ro 1 false (ints .u8 b)] (.tup [.ro 2 false (filRows (cutF E b).1), .v (.int .i64 (cutF E b).2)]) := by
  have la := entRows_length E
  have c1 := dcheck_ok E hE hl
  by_cases q : checkF E = 0
  case neg =>
    rw [cutF, if_pos q]
    refine pcall_mkg Tryd.func21 rfl [.tmp 4, .tmp 5] Tryd.results21 43 rfl (tk_start ?_)
    (repeat refine ka ?_); refine kr ?_ ?_ (pops_end ?_)
    (repeat refine ka ?_); refine kr ?_ ?_ ?_
    refine ps_pcall c1 ?_
    refine pops_go ?_ ?_ (pops_end ?_)
    (repeat refine ka ?_); refine kr ?_ ?_ (pops_end ?_)
    (repeat refine ka ?_); refine kct ?_
    (repeat refine ka ?_); refine kr ?_ ?_ (pops_end ?_)
    (repeat refine ka ?_); refine kret ?_; repeat (first | with_reducible refine beh_r ?_ | with_reducible refine blk_r ?_)
    refine ends_ret ?_ retPV_two
    exact gives_two .nil (.same (.v _))
  rw [cutF, if_neg (fun h => h q)]
  rw [q] at c1
  obtain ⟨_, _, z3, z4⟩ := checkF_zero q
  have hnn : ∀ x ∈ E.map (·.2), 0 ≤ x := by intro x hx; obtain ⟨e, he, rfl⟩ := List.mem_map.1 hx; exact z3 e he
  have c2 := dsumE_ok E (fun e he => ⟨z3 e he, (hE e he).1.2.2⟩) hl
  rw [sumE_eq _ hnn, show min (E.map (·.2)).sum 65537 = (E.map (·.2)).sum by omega] at c2
  by_cases q1 : (E.map (·.2)).sum = b.length
  case neg =>
    rw [if_pos q1]
    refine pcall_mkg Tryd.func21 rfl [.tmp 4, .tmp 5] Tryd.results21 43 rfl (tk_start ?_)
    (repeat refine ka ?_); refine kr ?_ ?_ (pops_end ?_)
    (repeat refine ka ?_); refine kr ?_ ?_ ?_
    refine ps_pcall c1 ?_
    refine pops_go ?_ ?_ (pops_end ?_)
    (repeat refine ka ?_); refine kr ?_ ?_ (pops_end ?_)
    (repeat refine ka ?_); refine kcf ?_
    (repeat refine ka ?_); refine ksk ?_
    (repeat refine ka ?_); refine kr ?_ ?_ ?_
    refine ps_pcall c2 ?_
    refine pops_go ?_ ?_ (pops_end ?_)
    (repeat refine ka ?_); refine kct ?_
    (repeat refine ka ?_); refine kr ?_ ?_ (pops_end ?_)
    (repeat refine ka ?_); refine kret ?_; repeat (first | with_reducible refine beh_r ?_ | with_reducible refine blk_r ?_)
    refine ends_ret ?_ retPV_two
    exact gives_two .nil (.same (.v _))
  rw [if_neg (fun h => h q1)]
  refine pcall_mkg Tryd.func21 rfl [.tmp 4, .tmp 5] Tryd.results21 43 rfl (tk_start ?_)
  (repeat refine ka ?_); refine kr ?_ ?_ (pops_end ?_)
  (repeat refine ka ?_); refine kr ?_ ?_ ?_
  refine ps_pcall c1 ?_
  refine pops_go ?_ ?_ (pops_end ?_)
  (repeat refine ka ?_); refine kr ?_ ?_ (pops_end ?_)
  (repeat refine ka ?_); refine kcf ?_
  (repeat refine ka ?_); refine ksk ?_
  (repeat refine ka ?_); refine kr ?_ ?_ ?_
  refine ps_pcall c2 ?_
  refine pops_go ?_ ?_ (pops_end ?_)
  (repeat refine ka ?_); refine kcf ?_
  (repeat refine ka ?_); refine ksk ?_
  (repeat refine ka ?_); refine kr ?_ ?_ (pops_end ?_)
  (repeat refine ka ?_)
  refine kvoid 7 2 (fun g0 => ?_)
  (repeat refine ka ?_); refine kr ?_ ?_ (pops_end ?_)
  (repeat refine ka ?_); refine kb ?_
  refine kw (fun p : Nat × Nat => [(1, .ro 1 false (ints .u8 (b.drop (List.sum ((E.take p.1).map fun e : En => e.2)).toNat))), (7, .vw 0 p.2 0 p.1), (20, .ro 2 false (entRows E)), (21, .v (.int .i64 (entRows E).length)), (22, .v (.int .i64 p.1))]) (fun p => [⟨p.2, true, 2, filRows (cutAt (E.take p.1) b)⟩]) (fun p => p.1 ≤ E.length) (fun p => E.length - p.1) (0, g0) (Nat.zero_le _) (holds 1 (by repeat (first | exact .nil | refine has1 ?_))) ?_
  rintro ⟨i, g⟩ hi
  simp only at hi ⊢
  have hcl : (cutAt (E.take i) b).length = i := by rw [cutAt_length, List.length_take]; omega
  by_cases h : i < E.length
  · obtain ⟨e, he⟩ : ∃ e, E[i]? = some e := ⟨E[i], by simp [h]⟩
    have r1 := entRows_get he
    have e0 := z3 e (List.mem_of_getElem? he)
    have ts := take_snoc he
    have s1 : ((E.take (i + 1)).map (·.2)).sum = ((E.take i).map (·.2)).sum + e.2 := by rw [ts]; simp
    have s0 : 0 ≤ ((E.take i).map (·.2)).sum := sum_nonneg (by intro y hy; obtain ⟨z, hz, rfl⟩ := List.mem_map.1 hy; exact z3 z (List.mem_of_mem_take hz))
    have s2 : ((E.take (i + 1)).map (·.2)).sum ≤ (E.map (·.2)).sum := by rw [List.map_take]; exact sum_take_le hnn _
    have cs := cut_snoc e (E.take i) b (fun x hx => z3 x (List.mem_of_mem_take hx))
    rw [← ts] at cs
    have ed : b.drop (List.sum ((E.take (i + 1)).map fun e : En => e.2)).toNat = (b.drop (List.sum ((E.take i).map fun e : En => e.2)).toNat).drop e.2.toNat := by
      rw [List.drop_drop, s1, show (((E.take i).map (·.2)).sum + e.2).toNat = (List.sum ((E.take i).map fun e : En => e.2)).toNat + e.2.toNat by omega]
    have hrl : ((b.drop (List.sum ((E.take i).map fun e : En => e.2)).toNat).length : Int) = b.length - ((E.take i).map (·.2)).sum := by rw [List.length_drop]; omega
    generalize ((E.take i).map (·.2)).sum = a at *
    generalize b.drop a.toNat = r at *
    generalize cutAt (E.take i) b = C at *
    have c3 := clone_b (r.take e.2.toNat) (by rw [List.length_take]; omega)
    have hpf := filRows_pure1 e.1 (r.take e.2.toNat)
    (repeat refine ka ?_); refine kr ?_ ?_ (pops_end ?_)
    (repeat refine ka ?_); refine kct ?_
    (repeat refine ka ?_); refine ksk ?_
    (repeat refine ka ?_); refine kb ?_
    (repeat refine ka ?_); refine kr ?_ ?_ ?_
    refine ps_alloc fun g1 => ?_
    refine ps_store ?_
    refine pops_nil ?_
    (repeat refine ka ?_); refine kds [0, 1, 2, 3, 4, 5, 6, 7, 8, 9] [10, 11] ?_
    refine pstl_go ?_ ?_ ?_; refine pd_pcall c3 ?_; refine pstl_go ?_ ?_ ?_; refine pd_litg (rows := [[.v (.string (str e.1)), .ro 1 false (ints .u8 (r.take e.2.toNat))]]) ?_ hpf; refine pstl_nil ?_
    refine hs_w [0, 1, 2, 3, 4, 5, 6, 7, 8, 9] [] ?_ (by refine pstl_go ?_ ?_ ?_; refine pd_pcall c3 ?_; refine pstl_go ?_ ?_ ?_; refine pd_litg (rows := [[.v (.string (str e.1)), .ro 1 false (ints .u8 (r.take e.2.toNat))]]) ?_ hpf; refine pstl_nil ?_; exact rfl); refine pstl_go ?_ ?_ ?_; refine pd_pcall c3 ?_; refine pstl_go ?_ ?_ ?_; refine pd_litg (rows := [[.v (.string (str e.1)), .ro 1 false (ints .u8 (r.take e.2.toNat))]]) ?_ hpf; refine pstl_nil ?_; refine ⟨rfl, ?_⟩
    refine ps_app_vw (rows' := filRows (C ++ [(e.1, r.take e.2.toNat)])) (m := i + 1) (fun g5 => ?_) (hsrc := rfl) (hrows := by rw [filRows_app]; rfl) (hlen := by rw [filRows_length, hcl]) (hm := by rfl)
    refine pops_nil ?_
    refine hs_w [] [] ?_ (by refine pstl_nil ?_; exact rfl); refine pstl_nil ?_; refine ⟨rfl, ?_⟩
    refine ps_ev (p := .vw 0 g5 0 (i + 1)) ?_ rfl
    refine pops_nil ?_
    refine hs_end ?_; refine pstl_nil ?_; refine ⟨rfl, ?_⟩
    (repeat refine ka ?_); refine kr ?_ ?_ (pops_end ?_)
    refine kn ?_; repeat (first | with_reducible refine blk_n ?_ | with_reducible refine beh_n ?_)
    (repeat refine ka ?_); refine kr ?_ ?_ (pops_end ?_)
    refine kn ?_; repeat (first | with_reducible refine blk_n ?_ | with_reducible refine beh_n ?_)
    refine ⟨(i + 1, g5), by simp only; omega, by simp only; omega, ?_⟩
    simp only
    rw [cs, ed]
    exact (holds 1 (by repeat (first | exact .nil | refine has1 ?_)))
  · obtain rfl : i = E.length := by omega
    rw [List.take_length] at hcl ⊢
    (repeat refine ka ?_); refine kr ?_ ?_ (pops_end ?_)
    (repeat refine ka ?_); refine kcf ?_
    (repeat refine ka ?_); refine kx ?_; (repeat (first | with_reducible refine beh_x ?_ | with_reducible refine blk_up rfl ?_)); refine blk_here ?_; refine beh_n ?_
    (repeat refine ka ?_); refine kr ?_ ?_ (pops_end ?_)
    (repeat refine ka ?_); refine kret ?_; repeat (first | with_reducible refine beh_r ?_ | with_reducible refine blk_r ?_)
    refine ends_ret ?_ retPV_two
    exact gives_two (gives_rows15 rfl rfl (by rw [filRows_length, hcl]) (filRows_pure _)) (.same (.v _))
end Go.Proofs.YtenoecffjfcifaaDoor.Pv
-- carapaceref15.Cut.
namespace Go.Proofs.YtenoecffjfcifaaDoor.Pv
set_option linter.all false
set_option linter.unusedVariables false
open Go.RowKit Go.Proofs
set_option maxRecDepth 100000
set_option maxHeartbeats 4000000
theorem rcut_ok (E : List En) (hE : EnsOk E) (hl : E.length ≤ 1000000) (b : List Int) (hbl : b.length ≤ 1000000000) : PCall Tryd.prog 22 [.ro 2 false (entRows E), .ro 1 false (ints .u8 b)] (.tup [.ro 2 false (filRows (cutF E b).1), .v (.int .i64 (cutF E b).2)]) := by
  have la := entRows_length E
  have c1 := rcheck_ok E hE hl
  by_cases q : checkF E = 0
  case neg =>
    rw [cutF, if_pos q]
    refine pcall_mkg Tryd.func22 rfl [.tmp 4, .tmp 5] Tryd.results22 69 rfl (tk_start ?_)
    (repeat refine ka ?_); refine kr ?_ ?_ (pops_end ?_)
    (repeat refine ka ?_); refine kr ?_ ?_ ?_
    refine ps_pcall c1 ?_
    refine pops_go ?_ ?_ (pops_end ?_)
    (repeat refine ka ?_); refine kr ?_ ?_ (pops_end ?_)
    (repeat refine ka ?_); refine kct ?_
    (repeat refine ka ?_); refine kr ?_ ?_ (pops_end ?_)
    (repeat refine ka ?_); refine kret ?_; repeat (first | with_reducible refine beh_r ?_ | with_reducible refine blk_r ?_)
    refine ends_ret ?_ retPV_two
    exact gives_two .nil (.same (.v _))
  rw [cutF, if_neg (fun h => h q)]
  rw [q] at c1
  obtain ⟨_, _, z3, z4⟩ := checkF_zero q
  have hnn : ∀ x ∈ E.map (·.2), 0 ≤ x := by intro x hx; obtain ⟨e, he, rfl⟩ := List.mem_map.1 hx; exact z3 e he
  have step : ∀ i e, E[i]? = some e → List.sum ((E.take (i + 1)).map fun e : En => e.2) = List.sum ((E.take i).map fun e : En => e.2) + e.2 := fun i e he => by rw [take_snoc he]; simp
  have s0 : ∀ i, 0 ≤ List.sum ((E.take i).map fun e : En => e.2) := fun i => sum_nonneg (by intro y hy; obtain ⟨z, hz, rfl⟩ := List.mem_map.1 hy; exact z3 z (List.mem_of_mem_take hz))
  have s2 : ∀ i, List.sum ((E.take i).map fun e : En => e.2) ≤ (E.map (·.2)).sum := fun i => by rw [List.map_take]; exact sum_take_le hnn _
  refine pcall_mkg Tryd.func22 rfl [.tmp 4, .tmp 5] Tryd.results22 69 rfl (tk_start ?_)
  (repeat refine ka ?_); refine kr ?_ ?_ (pops_end ?_)
  (repeat refine ka ?_); refine kr ?_ ?_ ?_
  refine ps_pcall c1 ?_
  refine pops_go ?_ ?_ (pops_end ?_)
  (repeat refine ka ?_); refine kr ?_ ?_ (pops_end ?_)
  (repeat refine ka ?_); refine kcf ?_
  (repeat refine ka ?_); refine ksk ?_
  (repeat refine ka ?_); refine kr ?_ ?_ (pops_end ?_)
  (repeat refine ka ?_); refine kr ?_ ?_ (pops_end ?_)
  (repeat refine ka ?_); refine kb ?_
  refine kw (fun i : Nat => [(0, .ro 2 false (entRows E)), (1, .ro 1 false (ints .u8 b)), (7, .v (.int .i64 (List.sum ((E.take i).map fun e : En => e.2)))), (8, .v (.int .i64 i))]) (fun _ => []) (fun i => i ≤ E.length) (fun i => E.length - i) 0 (Nat.zero_le _) (holds 0 (by repeat (first | exact .nil | refine has1 ?_))) ?_
  intro i hi
  by_cases h : i < E.length
  · obtain ⟨e, he⟩ : ∃ e, E[i]? = some e := ⟨E[i], by simp [h]⟩
    have r1 := entRows_get he
    have e0 := z3 e (List.mem_of_getElem? he)
    have s1 := step i e he
    have t1 := s0 i
    have t2 := s2 (i + 1)
    generalize List.sum ((E.take i).map fun e : En => e.2) = a at *
    (repeat refine ka ?_); refine kr ?_ ?_ (pops_end ?_)
    (repeat refine ka ?_); refine kct ?_
    (repeat refine ka ?_); refine ksk ?_
    (repeat refine ka ?_); refine kb ?_
    (repeat refine ka ?_); refine kr ?_ ?_ (pops_end ?_)
    refine kn ?_; repeat (first | with_reducible refine blk_n ?_ | with_reducible refine beh_n ?_)
    (repeat refine ka ?_); refine kr ?_ ?_ (pops_end ?_)
    refine kn ?_; repeat (first | with_reducible refine blk_n ?_ | with_reducible refine beh_n ?_)
    refine ⟨i + 1, by omega, by omega, ?_⟩
    rw [s1]
    exact (holds 0 (by repeat (first | exact .nil | refine has1 ?_)))
  obtain rfl : i = E.length := by omega
  rw [List.take_length]
  by_cases q1 : (E.map (·.2)).sum = b.length
  case neg =>
    rw [if_pos q1]
    (repeat refine ka ?_); refine kr ?_ ?_ (pops_end ?_)
    (repeat refine ka ?_); refine kcf ?_
    (repeat refine ka ?_); refine kx ?_; (repeat (first | with_reducible refine beh_x ?_ | with_reducible refine blk_up rfl ?_)); refine blk_here ?_; refine beh_n ?_
    (repeat refine ka ?_); refine kr ?_ ?_ (pops_end ?_)
    (repeat refine ka ?_); refine kct ?_
    (repeat refine ka ?_); refine kr ?_ ?_ (pops_end ?_)
    (repeat refine ka ?_); refine kret ?_; repeat (first | with_reducible refine beh_r ?_ | with_reducible refine blk_r ?_)
    refine ends_ret ?_ retPV_two
    exact gives_two .nil (.same (.v _))
  rw [if_neg (fun h => h q1)]
  (repeat refine ka ?_); refine kr ?_ ?_ (pops_end ?_)
  (repeat refine ka ?_); refine kcf ?_
  (repeat refine ka ?_); refine kx ?_; (repeat (first | with_reducible refine beh_x ?_ | with_reducible refine blk_up rfl ?_)); refine blk_here ?_; refine beh_n ?_
  (repeat refine ka ?_); refine kr ?_ ?_ (pops_end ?_)
  (repeat refine ka ?_); refine kcf ?_
  (repeat refine ka ?_); refine ksk ?_
  (repeat refine ka ?_); refine kr ?_ ?_ (pops_end ?_)
  (repeat refine ka ?_)
  refine kvoid 9 2 (fun g0 => ?_)
  (repeat refine ka ?_); refine kr ?_ ?_ (pops_end ?_)
  (repeat refine ka ?_); refine kr ?_ ?_ (pops_end ?_)
  (repeat refine ka ?_); refine kb ?_
  refine kw (fun p : Nat × Nat => [(0, .ro 2 false (entRows E)), (1, .ro 1 false (ints .u8 b)), (9, .vw 0 p.2 0 p.1), (10, .v (.int .i64 (List.sum ((E.take p.1).map fun e : En => e.2)))), (11, .v (.int .i64 p.1))]) (fun p => [⟨p.2, true, 2, filRows (cutAt (E.take p.1) b)⟩]) (fun p => p.1 ≤ E.length) (fun p => E.length - p.1) (0, g0) (Nat.zero_le _) (holds 1 (by repeat (first | exact .nil | refine has1 ?_))) ?_
  rintro ⟨i, g⟩ hi
  simp only at hi ⊢
  have hcl : (cutAt (E.take i) b).length = i := by rw [cutAt_length, List.length_take]; omega
  by_cases h : i < E.length
  · obtain ⟨e, he⟩ : ∃ e, E[i]? = some e := ⟨E[i], by simp [h]⟩
    have r1 := entRows_get he
    have e0 := z3 e (List.mem_of_getElem? he)
    have s1 := step i e he
    have t1 := s0 i
    have t2 := s2 (i + 1)
    have cs := cut_snoc e (E.take i) b (fun x hx => z3 x (List.mem_of_mem_take hx))
    rw [← take_snoc he] at cs
    generalize List.sum ((E.take i).map fun e : En => e.2) = a at *
    generalize cutAt (E.take i) b = C at *
    have ep : (a + e.2).toNat - a.toNat = e.2.toNat := by omega
    have hpl : ((b.drop a.toNat).take e.2.toNat).length ≤ 1000000000 := by rw [List.length_take, List.length_drop]; omega
    (repeat refine ka ?_); refine kr ?_ ?_ (pops_end ?_)
    (repeat refine ka ?_); refine kct ?_
    (repeat refine ka ?_); refine ksk ?_
    (repeat refine ka ?_); refine kb ?_
    (repeat refine ka ?_); refine kds [0, 1, 2, 3, 4, 5, 7, 8, 9, 10, 11, 12, 13, 14, 15, 16] [6, 17, 18, 19, 20, 21] ?_
    refine pstl_go ?_ ?_ (pstl_end ?_)
    refine hs_w [] [0, 1, 2, 3, 4, 5, 7, 8, 9, 10, 11, 12, 13, 14, 15, 16] ?_ (by refine pstl_go ?_ ?_ (pstl_end ?_); exact rfl); refine pstl_nil ?_; refine ⟨rfl, ?_⟩
    refine ps_lit fun g2 => ?_
    refine pops_nil ?_
    refine hs_w [7, 8, 9, 10, 11, 12, 13, 14, 15, 16] [0, 1, 2, 3, 4, 5] ?_ (by refine pstl_go ?_ ?_ (pstl_end ?_); exact rfl); refine pstl_go ?_ ?_ (pstl_end ?_); refine ⟨rfl, ?_⟩
    rw [ep]
    generalize (b.drop a.toNat).take e.2.toNat = D at *
    have hpf := filRows_pure1 e.1 D
    apply ps_frz (τ := 1) (len := D.length) (sz := 1) (rows := ints .u8 D) rfl rfl
    · refine ps_app_vw (rows' := ints .u8 D) (m := D.length) (fun g => ?_) (hsrc := rfl) (hrows := List.nil_append _) (hm := by rw [ints_length]; omega) (h63 := by simp only [maxLen]; omega) (hbt := by omega)
      refine pops_nil ?_
      exact ⟨g, rfl, rfl, rfl⟩
    · exact ints_length _ _
    · exact intsP _
    intro g3
    simp only [List.set_cons_succ, List.set_cons_zero]
    refine pops_nil ?_
    refine hs_w [1, 2, 3, 4, 5] [0] ?_ (by refine pstl_go ?_ ?_ (pstl_end ?_); exact rfl); refine pstl_go ?_ ?_ (pstl_end ?_); refine ⟨rfl, ?_⟩
    refine pops_go ?_ ?_ (pops_end ?_)
    refine hs_w [] [0] ?_ (by refine pstl_go ?_ ?_ (pstl_end ?_); exact rfl); refine pstl_nil ?_; refine ⟨rfl, ?_⟩
    refine ps_litg (rows := [[.v (.string (str e.1)), .ro 1 false (ints .u8 D)]]) ?_ hpf
    refine pops_nil ?_
    refine hs_w [0] [] ?_ (by refine pstl_go ?_ ?_ (pstl_end ?_); exact rfl); refine pstl_go ?_ ?_ (pstl_end ?_); refine ⟨rfl, ?_⟩
    refine ps_app_vw (rows' := filRows (C ++ [(e.1, D)])) (m := i + 1) (fun g5 => ?_) (hsrc := rfl) (hrows := by rw [filRows_app]; rfl) (hlen := by rw [filRows_length, hcl]) (hm := by rfl)
    refine pops_nil ?_
    refine hs_w [] [] ?_ (by refine pstl_nil ?_; exact rfl); refine pstl_nil ?_; refine ⟨rfl, ?_⟩
    refine ps_ev (p := .vw 0 g5 0 (i + 1)) ?_ rfl
    refine pops_nil ?_
    refine hs_end ?_; refine pstl_nil ?_; refine ⟨rfl, ?_⟩
    (repeat refine ka ?_); refine kr ?_ ?_ (pops_end ?_)
    refine kn ?_; repeat (first | with_reducible refine blk_n ?_ | with_reducible refine beh_n ?_)
    (repeat refine ka ?_); refine kr ?_ ?_ (pops_end ?_)
    refine kn ?_; repeat (first | with_reducible refine blk_n ?_ | with_reducible refine beh_n ?_)
    refine ⟨(i + 1, g5), by simp only; omega, by simp only; omega, ?_⟩
    simp only
    rw [cs, s1]
    exact (holds 1 (by repeat (first | exact .nil | refine has1 ?_)))
  · obtain rfl : i = E.length := by omega
    rw [List.take_length] at hcl ⊢
    (repeat refine ka ?_); refine kr ?_ ?_ (pops_end ?_)
    (repeat refine ka ?_); refine kcf ?_
    (repeat refine ka ?_); refine kx ?_; (repeat (first | with_reducible refine beh_x ?_ | with_reducible refine blk_up rfl ?_)); refine blk_here ?_; refine beh_n ?_
    (repeat refine ka ?_); refine kr ?_ ?_ (pops_end ?_)
    (repeat refine ka ?_); refine kret ?_; repeat (first | with_reducible refine beh_r ?_ | with_reducible refine blk_r ?_)
    refine ends_ret ?_ retPV_two
    exact gives_two (gives_rows15 rfl rfl (by rw [filRows_length, hcl]) (filRows_pure _)) (.same (.v _))
end Go.Proofs.YtenoecffjfcifaaDoor.Pv
-- carapaceref15.Same, Files, Large; the law's own, paths.
namespace Go.Proofs.YtenoecffjfcifaaDoor.Pv
set_option linter.all false
set_option linter.unusedVariables false
open Go.RowKit Go.Proofs
set_option maxRecDepth 100000
set_option maxHeartbeats 4000000
theorem same15 (A B : List En) (hA : EnsOk A) (hB : EnsOk B) (hl : A.length ≤ 1000000000) (hl2 : B.length ≤ 1000000000) : PCall Tryd.prog 15 [.ro 2 false (entRows A), .ro 2 false (entRows B)] (.v (.bool (decide (A = B)))) := by
  have la := entRows_length A
  have lb := entRows_length B
  by_cases hn : (A.length : Int) = B.length
  case neg =>
    rw [decide_eq_false (fun h => hn (by rw [h]))]
    refine pcall_mk Tryd.func15 rfl [.tmp 4] Tryd.results15 26 rfl (tk_start ?_)
    (repeat refine ka ?_); refine kr ?_ ?_ (pops_end ?_)
    (repeat refine ka ?_); refine kr ?_ ?_ (pops_end ?_)
    (repeat refine ka ?_); refine kct ?_
    (repeat refine ka ?_); refine kr ?_ ?_ (pops_end ?_)
    (repeat refine ka ?_); refine kret ?_; repeat (first | with_reducible refine beh_r ?_ | with_reducible refine blk_r ?_)
    refine ends_ret ?_ retPV_one
    rfl
  refine pcall_mk Tryd.func15 rfl [.tmp 4] Tryd.results15 26 rfl (tk_start ?_)
  (repeat refine ka ?_); refine kr ?_ ?_ (pops_end ?_)
  (repeat refine ka ?_); refine kr ?_ ?_ (pops_end ?_)
  (repeat refine ka ?_); refine kcf ?_
  (repeat refine ka ?_); refine ksk ?_
  (repeat refine ka ?_); refine kr ?_ ?_ (pops_end ?_)
  (repeat refine ka ?_); refine kb ?_
  refine kw (fun i : Nat => [(0, .ro 2 false (entRows A)), (1, .ro 2 false (entRows B)), (5, .v (.int .i64 i))]) (fun _ => []) (fun i => i ≤ A.length ∧ ∀ j, j < i → A[j]? = B[j]?) (fun i => A.length - i) 0 ⟨Nat.zero_le _, by intro j hj; omega⟩ (holds 0 (by repeat (first | exact .nil | refine has1 ?_))) ?_
  rintro i ⟨hi, hj⟩
  by_cases h : i < A.length
  · obtain ⟨x, hx⟩ : ∃ x, A[i]? = some x := ⟨A[i], by simp [h]⟩
    obtain ⟨y, hy⟩ : ∃ y, B[i]? = some y := ⟨B[i]'(by omega), by simp [show i < B.length by omega]⟩
    have r1 := entRows_get hx
    have r2 := entRows_get hy
    have o1 := (hA x (List.mem_of_getElem? hx)).1.1
    have o2 := (hB y (List.mem_of_getElem? hy)).1.1
    by_cases k : x = y
    · obtain ⟨y1, y2⟩ := y
      subst k
      (repeat refine ka ?_); refine kr ?_ ?_ (pops_end ?_)
      (repeat refine ka ?_); refine kct ?_
      (repeat refine ka ?_); refine ksk ?_
      (repeat refine ka ?_); refine kb ?_
      (repeat refine ka ?_); refine kd ?_ ?_ (pstl_end ?_)
      (repeat refine ka ?_); refine kcf ?_
      (repeat refine ka ?_); refine ksk ?_
      refine kn ?_; repeat (first | with_reducible refine blk_n ?_ | with_reducible refine beh_n ?_)
      (repeat refine ka ?_); refine kr ?_ ?_ (pops_end ?_)
      refine kn ?_; repeat (first | with_reducible refine blk_n ?_ | with_reducible refine beh_n ?_)
      refine ⟨i + 1, ⟨by omega, fun j hj' => ?_⟩, by omega, (holds 0 (by repeat (first | exact .nil | refine has1 ?_)))⟩
      by_cases hji : j = i
      · subst hji
        rw [hx, hy]
      · exact hj j (by omega)
    · rw [decide_eq_false (fun hAB => k (by rw [hAB, hy] at hx; exact (Option.some.inj hx).symm))]
      have hq : ((str x.1).toList == (str y.1).toList && decide (x.2 = y.2)) = false := by
        rw [str_eq o1 o2]
        by_cases h1 : x.1 = y.1
        · have h2 : x.2 ≠ y.2 := fun h2 => k (Prod.ext h1 h2)
          simp [h2]
        · simp [h1]
      (repeat refine ka ?_); refine kr ?_ ?_ (pops_end ?_)
      (repeat refine ka ?_); refine kct ?_
      (repeat refine ka ?_); refine ksk ?_
      (repeat refine ka ?_); refine kb ?_
      (repeat refine ka ?_); refine kd ?_ ?_ (pstl_end ?_)
      rw [hq, Bool.not_false]
      (repeat refine ka ?_); refine kct ?_
      (repeat refine ka ?_); refine kr ?_ ?_ (pops_end ?_)
      (repeat refine ka ?_); refine kret ?_; repeat (first | with_reducible refine beh_r ?_ | with_reducible refine blk_r ?_)
      refine ends_ret ?_ retPV_one
      rfl
  · obtain rfl : i = A.length := by omega
    have e : A = B := by
      apply List.ext_getElem?
      intro j
      by_cases hjl : j < A.length
      · exact hj j hjl
      · rw [List.getElem?_eq_none (by omega), List.getElem?_eq_none (by omega)]
    rw [decide_eq_true e]
    (repeat refine ka ?_); refine kr ?_ ?_ (pops_end ?_)
    (repeat refine ka ?_); refine kcf ?_
    (repeat refine ka ?_); refine kx ?_; (repeat (first | with_reducible refine beh_x ?_ | with_reducible refine blk_up rfl ?_)); refine blk_here ?_; refine beh_n ?_
    (repeat refine ka ?_); refine kr ?_ ?_ (pops_end ?_)
    (repeat refine ka ?_); refine kret ?_; repeat (first | with_reducible refine beh_r ?_ | with_reducible refine blk_r ?_)
    refine ends_ret ?_ retPV_one
    rfl
theorem own_ok (E : List En) (hl : E.length ≤ 10000000) : PCall Tryd.prog 11 [.ro 2 false (entRows E)] (.ro 2 false (entRows E)) := by
  have la := entRows_length E
  refine pcall_mkg Tryd.func11 rfl [.tmp 2] Tryd.results11 19 rfl (tk_start ?_)
  (repeat refine ka ?_); refine kr ?_ ?_ (pops_end ?_)
  (repeat refine ka ?_); refine kr ?_ ?_ (pops_end ?_)
  (repeat refine ka ?_)
  refine kvoid 3 2 (fun g0 => ?_)
  (repeat refine ka ?_); refine kr ?_ ?_ (pops_end ?_)
  (repeat refine ka ?_); refine kb ?_
  refine kw (fun p : Nat × Nat => [(0, .ro 2 false (entRows E)), (3, .vw 0 p.2 0 p.1), (4, .v (.int .i64 p.1))]) (fun p => [⟨p.2, true, 2, entRows (E.take p.1)⟩]) (fun p => p.1 ≤ E.length) (fun p => E.length - p.1) (0, g0) (Nat.zero_le _) (holds 1 (by repeat (first | exact .nil | refine has1 ?_))) ?_
  rintro ⟨i, g⟩ hi
  simp only at hi ⊢
  by_cases h : i < E.length
  · obtain ⟨e, he⟩ : ∃ e, E[i]? = some e := ⟨E[i], by simp [h]⟩
    have r1 := entRows_get he
    have ts := take_snoc he
    (repeat refine ka ?_); refine kr ?_ ?_ (pops_end ?_)
    (repeat refine ka ?_); refine kct ?_
    (repeat refine ka ?_); refine ksk ?_
    (repeat refine ka ?_); refine kb ?_
    (repeat refine ka ?_); refine kr ?_ ?_ ?_
    refine ps_lit fun g2 => ?_
    refine ps_app_vw (rows' := entRows (E.take (i + 1))) (m := i + 1) (rows := [[.v (.string (str e.1)), .v (.int .i64 e.2)]]) (fun g3 => ?_) (hrows := by rw [ts, entRows_app]; rfl) (hlen := by rw [entRows_length, List.length_take]; omega) (hm := by rfl)
    refine pops_go ?_ ?_ (pops_end ?_)
    refine kn ?_; repeat (first | with_reducible refine blk_n ?_ | with_reducible refine beh_n ?_)
    (repeat refine ka ?_); refine kr ?_ ?_ (pops_end ?_)
    refine kn ?_; repeat (first | with_reducible refine blk_n ?_ | with_reducible refine beh_n ?_)
    exact ⟨(i + 1, g3), by simp only; omega, by simp only; omega, (holds 1 (by repeat (first | exact .nil | refine has1 ?_)))⟩
  · obtain rfl : i = E.length := by omega
    rw [List.take_length]
    (repeat refine ka ?_); refine kr ?_ ?_ (pops_end ?_)
    (repeat refine ka ?_); refine kcf ?_
    (repeat refine ka ?_); refine kx ?_; (repeat (first | with_reducible refine beh_x ?_ | with_reducible refine blk_up rfl ?_)); refine blk_here ?_; refine beh_n ?_
    (repeat refine ka ?_); refine kr ?_ ?_ (pops_end ?_)
    (repeat refine ka ?_); refine kret ?_; repeat (first | with_reducible refine beh_r ?_ | with_reducible refine blk_r ?_)
    refine ends_ret ?_ retPV_one
    exact gives_rows15 rfl rfl la (entRows_pure _)
theorem paths_ok (E : List En) (hl : E.length ≤ 5864062014635) : PCall Tryd.prog 8 [.ro 2 false (entRows E)] (.ro 1 false (strRows (E.map (·.1)))) := by
  have la := entRows_length E
  have lm : (E.map (·.1)).length = E.length := List.length_map ..
  refine pcall_mkg Tryd.func8 rfl [.tmp 2] Tryd.results8 20 rfl (tk_start ?_)
  (repeat refine ka ?_); refine kr ?_ ?_ (pops_end ?_)
  (repeat refine ka ?_); refine kr ?_ ?_ (pops_end ?_)
  (repeat refine ka ?_)
  refine kvoid 3 1 (fun g0 => ?_)
  (repeat refine ka ?_); refine kr ?_ ?_ (pops_end ?_)
  (repeat refine ka ?_); refine kb ?_
  refine kw (fun p : Nat × Nat => [(0, .ro 2 false (entRows E)), (3, .vw 0 p.2 0 p.1), (4, .v (.int .i64 p.1))]) (fun p => [⟨p.2, true, 1, strRows ((E.map (·.1)).take p.1)⟩]) (fun p => p.1 ≤ E.length) (fun p => E.length - p.1) (0, g0) (Nat.zero_le _) (holds 1 (by repeat (first | exact .nil | refine has1 ?_))) ?_
  rintro ⟨i, g⟩ hi
  simp only at hi ⊢
  by_cases h : i < E.length
  · obtain ⟨e, he⟩ : ∃ e, E[i]? = some e := ⟨E[i], by simp [h]⟩
    have r1 := entRows_get he
    have hs := strRows_snoc (E.map (·.1)) i e.1 (by rw [List.getElem?_map, he]; rfl)
    (repeat refine ka ?_); refine kr ?_ ?_ (pops_end ?_)
    (repeat refine ka ?_); refine kct ?_
    (repeat refine ka ?_); refine ksk ?_
    (repeat refine ka ?_); refine kb ?_
    (repeat refine ka ?_); refine kr ?_ ?_ ?_
    refine ps_lit fun g2 => ?_
    refine ps_app_vw (rows' := strRows ((E.map (·.1)).take (i + 1))) (m := i + 1) (rows := [[.v (.string (str e.1))]]) (fun g3 => ?_) (hrows := hs) (hlen := by rw [strRows_length, List.length_take, lm]; omega) (hm := by rfl)
    refine pops_go ?_ ?_ (pops_end ?_)
    refine kn ?_; repeat (first | with_reducible refine blk_n ?_ | with_reducible refine beh_n ?_)
    (repeat refine ka ?_); refine kr ?_ ?_ (pops_end ?_)
    refine kn ?_; repeat (first | with_reducible refine blk_n ?_ | with_reducible refine beh_n ?_)
    exact ⟨(i + 1, g3), by simp only; omega, by simp only; omega, (holds 1 (by repeat (first | exact .nil | refine has1 ?_)))⟩
  · obtain rfl : i = E.length := by omega
    rw [List.take_of_length_le (by omega)]
    (repeat refine ka ?_); refine kr ?_ ?_ (pops_end ?_)
    (repeat refine ka ?_); refine kcf ?_
    (repeat refine ka ?_); refine kx ?_; (repeat (first | with_reducible refine beh_x ?_ | with_reducible refine blk_up rfl ?_)); refine blk_here ?_; refine beh_n ?_
    (repeat refine ka ?_); refine kr ?_ ?_ (pops_end ?_)
    (repeat refine ka ?_); refine kret ?_; repeat (first | with_reducible refine beh_r ?_ | with_reducible refine blk_r ?_)
    refine ends_ret ?_ retPV_one
    exact gives_rows15 rfl rfl (by rw [strRows_length, lm]) (strRows_pure _)
end Go.Proofs.YtenoecffjfcifaaDoor.Pv
-- carapaceref15.Files, Large.
namespace Go.Proofs.YtenoecffjfcifaaDoor.Pv
set_option linter.all false
set_option linter.unusedVariables false
open Go.RowKit Go.Proofs
set_option maxRecDepth 100000
set_option maxHeartbeats 4000000
theorem files15 (A B : List Fi) (hA : FisOk A) (hB : FisOk B) (hl : A.length ≤ 1000000000) (hl2 : B.length ≤ 1000000000) : PCall Tryd.prog 23 [.ro 2 false (filRows A), .ro 2 false (filRows B)] (.v (.bool (decide (A = B)))) := by
  have la := filRows_length A
  have lb := filRows_length B
  by_cases hn : (A.length : Int) = B.length
  case neg =>
    rw [decide_eq_false (fun h => hn (by rw [h]))]
    refine pcall_mk Tryd.func23 rfl [.tmp 4] Tryd.results23 43 rfl (tk_start ?_)
    (repeat refine ka ?_); refine kr ?_ ?_ (pops_end ?_)
    (repeat refine ka ?_); refine kr ?_ ?_ (pops_end ?_)
    (repeat refine ka ?_); refine kct ?_
    (repeat refine ka ?_); refine kr ?_ ?_ (pops_end ?_)
    (repeat refine ka ?_); refine kret ?_; repeat (first | with_reducible refine beh_r ?_ | with_reducible refine blk_r ?_)
    refine ends_ret ?_ retPV_one
    rfl
  refine pcall_mk Tryd.func23 rfl [.tmp 4] Tryd.results23 43 rfl (tk_start ?_)
  (repeat refine ka ?_); refine kr ?_ ?_ (pops_end ?_)
  (repeat refine ka ?_); refine kr ?_ ?_ (pops_end ?_)
  (repeat refine ka ?_); refine kcf ?_
  (repeat refine ka ?_); refine ksk ?_
  (repeat refine ka ?_); refine kr ?_ ?_ (pops_end ?_)
  (repeat refine ka ?_); refine kb ?_
  refine kw (fun i : Nat => [(0, .ro 2 false (filRows A)), (1, .ro 2 false (filRows B)), (5, .v (.int .i64 i))]) (fun _ => []) (fun i => i ≤ A.length ∧ ∀ j, j < i → A[j]? = B[j]?) (fun i => A.length - i) 0 ⟨Nat.zero_le _, by intro j hj; omega⟩ (holds 0 (by repeat (first | exact .nil | refine has1 ?_))) ?_
  rintro i ⟨hi, hj⟩
  by_cases h : i < A.length
  · obtain ⟨x, hx⟩ : ∃ x, A[i]? = some x := ⟨A[i], by simp [h]⟩
    obtain ⟨y, hy⟩ : ∃ y, B[i]? = some y := ⟨B[i]'(by omega), by simp [show i < B.length by omega]⟩
    have r1 := filRows_get hx
    have r2 := filRows_get hy
    have o1 := (hA x (List.mem_of_getElem? hx)).1.1
    have o2 := (hB y (List.mem_of_getElem? hy)).1.1
    have o3 := (hA x (List.mem_of_getElem? hx)).1.2
    have o4 := (hB y (List.mem_of_getElem? hy)).1.2
    by_cases k1 : x.1 = y.1
    · by_cases k2 : x.2 = y.2
      · (repeat refine ka ?_); refine kr ?_ ?_ (pops_end ?_)
        (repeat refine ka ?_); refine kct ?_
        (repeat refine ka ?_); refine ksk ?_
        (repeat refine ka ?_); refine kb ?_
        (repeat refine ka ?_); refine kd ?_ ?_ ?_
        refine pd_cst_g ?_
        refine pstl_go ?_ ?_ ?_
        refine pd_cst_g ?_
        refine pstl_go ?_ ?_ (pstl_end ?_)
        (repeat refine ka ?_); refine kcf ?_
        (repeat refine ka ?_); refine ksk ?_
        refine kn ?_; repeat (first | with_reducible refine blk_n ?_ | with_reducible refine beh_n ?_)
        (repeat refine ka ?_); refine kr ?_ ?_ (pops_end ?_)
        refine kn ?_; repeat (first | with_reducible refine blk_n ?_ | with_reducible refine beh_n ?_)
        refine ⟨i + 1, ⟨by omega, fun j hj' => ?_⟩, by omega, (holds 0 (by repeat (first | exact .nil | refine has1 ?_)))⟩
        by_cases hji : j = i
        · subst hji
          rw [hx, hy, Prod.ext k1 k2]
        · exact hj j (by omega)
      · rw [decide_eq_false (fun hAB => k2 (by rw [hAB, hy] at hx; rw [Option.some.inj hx]))]
        (repeat refine ka ?_); refine kr ?_ ?_ (pops_end ?_)
        (repeat refine ka ?_); refine kct ?_
        (repeat refine ka ?_); refine ksk ?_
        (repeat refine ka ?_); refine kb ?_
        (repeat refine ka ?_); refine kd ?_ ?_ ?_
        refine pd_cst_g ?_
        refine pstl_go ?_ ?_ ?_
        refine pd_cst_g ?_
        refine pstl_go ?_ ?_ (pstl_end ?_)
        (repeat refine ka ?_); refine kct ?_
        (repeat refine ka ?_); refine kr ?_ ?_ (pops_end ?_)
        (repeat refine ka ?_); refine kret ?_; repeat (first | with_reducible refine beh_r ?_ | with_reducible refine blk_r ?_)
        refine ends_ret ?_ retPV_one
        rfl
    · rw [decide_eq_false (fun hAB => k1 (by rw [hAB, hy] at hx; rw [Option.some.inj hx]))]
      (repeat refine ka ?_); refine kr ?_ ?_ (pops_end ?_)
      (repeat refine ka ?_); refine kct ?_
      (repeat refine ka ?_); refine ksk ?_
      (repeat refine ka ?_); refine kb ?_
      (repeat refine ka ?_); refine kd ?_ ?_ (pstl_end ?_)
      (repeat refine ka ?_); refine kct ?_
      (repeat refine ka ?_); refine kr ?_ ?_ (pops_end ?_)
      (repeat refine ka ?_); refine kret ?_; repeat (first | with_reducible refine beh_r ?_ | with_reducible refine blk_r ?_)
      refine ends_ret ?_ retPV_one
      rfl
  · obtain rfl : i = A.length := by omega
    have e : A = B := by
      apply List.ext_getElem?
      intro j
      by_cases hjl : j < A.length
      · exact hj j hjl
      · rw [List.getElem?_eq_none (by omega), List.getElem?_eq_none (by omega)]
    rw [decide_eq_true e]
    (repeat refine ka ?_); refine kr ?_ ?_ (pops_end ?_)
    (repeat refine ka ?_); refine kcf ?_
    (repeat refine ka ?_); refine kx ?_; (repeat (first | with_reducible refine beh_x ?_ | with_reducible refine blk_up rfl ?_)); refine blk_here ?_; refine beh_n ?_
    (repeat refine ka ?_); refine kr ?_ ?_ (pops_end ?_)
    (repeat refine ka ?_); refine kret ?_; repeat (first | with_reducible refine beh_r ?_ | with_reducible refine blk_r ?_)
    refine ends_ret ?_ retPV_one
    rfl
/-- All bytes of files, and of their paths. -/
def totL (F : List Fi) : Int := (F.map fun f => (f.2.length : Int) + f.1.length + 1).sum
theorem totL_nn (F : List Fi) : ∀ x ∈ F.map fun f => (f.2.length : Int) + f.1.length + 1, 0 ≤ x := by intro x hx; obtain ⟨e, he, rfl⟩ := List.mem_map.1 hx; omega
theorem totL_nonneg (F : List Fi) : 0 ≤ totL F := sum_nonneg (totL_nn F)
theorem totL_take (F : List Fi) (i : Nat) : totL (F.take i) ≤ totL F := by
  have := sum_take_le (totL_nn F) i
  rw [← List.map_take] at this
  exact this
theorem totL_mem {F : List Fi} {f : Fi} (h : f ∈ F) : (f.2.length : Int) + f.1.length + 1 ≤ totL F := mem_le_sum (totL_nn F) (List.mem_map_of_mem (f := fun f : Fi => (f.2.length : Int) + f.1.length + 1) h)
theorem large15 (L : List Fi) (most : Int) (hm : most ≤ 500000) (hl : L.length ≤ 100000000000000) (hs : ∀ f ∈ L, f.1.length ≤ 140737488351232 ∧ f.2.length ≤ 140737488351232) : ∃ b, (b = false → L.length ≤ 210 ∧ totL L ≤ most) ∧ PCall Tryd.prog 18 [.ro 2 false (filRows L), .v (.int .i64 most)] (.v (.bool b)) := by
  have la := filRows_length L
  refine ⟨decide (¬ (L.length ≤ 210 ∧ totL L ≤ most)), fun h => by simpa using h, ?_⟩
  refine pcall_mk Tryd.func18 rfl [.tmp 4] Tryd.results18 41 rfl (tk_start ?_)
  (repeat refine ka ?_); refine kr ?_ ?_ (pops_end ?_)
  (repeat refine ka ?_); refine kr ?_ ?_ (pops_end ?_)
  (repeat refine ka ?_); refine kr ?_ ?_ (pops_end ?_)
  (repeat refine ka ?_); refine kb ?_
  refine kw (fun i : Nat => [(0, .ro 2 false (filRows L)), (1, .v (.int .i64 most)), (5, .v (.int .i64 (totL (L.take i)))), (6, .v (.int .i64 i))]) (fun _ => []) (fun i => i ≤ L.length ∧ totL (L.take i) ≤ 281474977802464) (fun i => L.length - i) 0 ⟨Nat.zero_le _, by simp [totL]⟩ (holds 0 (by repeat (first | exact .nil | refine has1 ?_))) ?_
  rintro i ⟨hi, ht⟩
  have hnn := totL_nonneg (L.take i)
  have htk := totL_take L i
  by_cases h : i < L.length
  · by_cases k : totL (L.take i) < 1000000
    · obtain ⟨x, hx⟩ : ∃ x, L[i]? = some x := ⟨L[i], by simp [h]⟩
      have r1 := filRows_get hx
      obtain ⟨l1, l2⟩ := hs x (List.mem_of_getElem? hx)
      have e : totL (L.take (i + 1)) = totL (L.take i) + x.2.length + x.1.length + 1 := by
        rw [take_snoc hx]
        simp [totL]
        omega
      generalize totL (L.take i) = T at *
      (repeat refine ka ?_); refine kr ?_ ?_ (pops_end ?_)
      (repeat refine ka ?_); refine kct ?_
      (repeat refine ka ?_); refine ksk ?_
      (repeat refine ka ?_); refine kb ?_
      (repeat refine ka ?_); refine kd ?_ ?_ (pstl_end ?_)
      refine kn ?_; repeat (first | with_reducible refine blk_n ?_ | with_reducible refine beh_n ?_)
      (repeat refine ka ?_); refine kr ?_ ?_ (pops_end ?_)
      refine kn ?_; repeat (first | with_reducible refine blk_n ?_ | with_reducible refine beh_n ?_)
      refine ⟨i + 1, ⟨by omega, by omega⟩, by omega, ?_⟩
      rw [e]
      exact (holds 0 (by repeat (first | exact .nil | refine has1 ?_)))
    · rw [decide_eq_true (show ¬ (L.length ≤ 210 ∧ totL L ≤ most) by omega)]
      (repeat refine ka ?_); refine kr ?_ ?_ (pops_end ?_)
      (repeat refine ka ?_); refine kcf ?_
      (repeat refine ka ?_); refine kx ?_; (repeat (first | with_reducible refine beh_x ?_ | with_reducible refine blk_up rfl ?_)); refine blk_here ?_; refine beh_n ?_
      (repeat refine ka ?_); refine kr ?_ ?_ (pops_end ?_)
      (repeat refine ka ?_); refine kret ?_; repeat (first | with_reducible refine beh_r ?_ | with_reducible refine blk_r ?_)
      refine ends_ret ?_ retPV_one
      rfl
  · obtain rfl : i = L.length := by omega
    rw [List.take_length] at ht hnn htk ⊢
    by_cases k1 : totL L ≤ most
    · by_cases k2 : (L.length : Int) ≤ 210
      · rw [decide_eq_false (show ¬ ¬ (L.length ≤ 210 ∧ totL L ≤ most) by omega)]
        (repeat refine ka ?_); refine kr ?_ ?_ (pops_end ?_)
        (repeat refine ka ?_); refine kcf ?_
        (repeat refine ka ?_); refine kx ?_; (repeat (first | with_reducible refine beh_x ?_ | with_reducible refine blk_up rfl ?_)); refine blk_here ?_; refine beh_n ?_
        (repeat refine ka ?_); refine kr ?_ ?_ (pops_end ?_)
        (repeat refine ka ?_); refine kret ?_; repeat (first | with_reducible refine beh_r ?_ | with_reducible refine blk_r ?_)
        refine ends_ret ?_ retPV_one
        rfl
      · rw [decide_eq_true (show ¬ (L.length ≤ 210 ∧ totL L ≤ most) by omega)]
        (repeat refine ka ?_); refine kr ?_ ?_ (pops_end ?_)
        (repeat refine ka ?_); refine kcf ?_
        (repeat refine ka ?_); refine kx ?_; (repeat (first | with_reducible refine beh_x ?_ | with_reducible refine blk_up rfl ?_)); refine blk_here ?_; refine beh_n ?_
        (repeat refine ka ?_); refine kr ?_ ?_ (pops_end ?_)
        (repeat refine ka ?_); refine kret ?_; repeat (first | with_reducible refine beh_r ?_ | with_reducible refine blk_r ?_)
        refine ends_ret ?_ retPV_one
        rfl
    · rw [decide_eq_true (show ¬ (L.length ≤ 210 ∧ totL L ≤ most) by omega)]
      (repeat refine ka ?_); refine kr ?_ ?_ (pops_end ?_)
      (repeat refine ka ?_); refine kcf ?_
      (repeat refine ka ?_); refine kx ?_; (repeat (first | with_reducible refine beh_x ?_ | with_reducible refine blk_up rfl ?_)); refine blk_here ?_; refine beh_n ?_
      (repeat refine ka ?_); refine kr ?_ ?_ (pops_end ?_)
      (repeat refine ka ?_); refine kret ?_; repeat (first | with_reducible refine beh_r ?_ | with_reducible refine blk_r ?_)
      refine ends_ret ?_ retPV_one
      rfl
end Go.Proofs.YtenoecffjfcifaaDoor.Pv
-- The law's awake.
namespace Go.Proofs.YtenoecffjfcifaaDoor.Pv
set_option linter.all false
set_option linter.unusedVariables false
open Go.RowKit Go.Proofs
set_option maxRecDepth 100000
set_option maxHeartbeats 4000000
theorem dir_awake : PCall Tryd.prog 6 [] (.v (.bool true)) := by
  have ok0 : EnsOk [([97], 258)] := by
    intro e he
    cases List.mem_singleton.1 he
    exact ⟨⟨by decide, by decide, by decide⟩, by decide⟩
  have ok1 : FisOk [([98], [2]), ([97], [1, 1])] := by
    intro f hf
    simp only [List.mem_cons, List.not_mem_nil, or_false] at hf
    rcases hf with rfl | rfl <;> exact ⟨⟨by decide, by decide⟩, by decide, by decide⟩
  have ok2 : EnsOk [([97], 2), ([98], 1)] := by
    intro e he
    simp only [List.mem_cons, List.not_mem_nil, or_false] at he
    rcases he with rfl | rfl <;> exact ⟨⟨by decide, by decide, by decide⟩, by decide⟩
  have c1 := dbytes_ok [([97], 258)] ok0 (by decide)
  have c2 := dread_ok [1, 0, 97, 2, 1, 0, 0] (by decide) (by decide) 1
  have c3 := dread_ok [1, 0, 97, 2, 1, 0, 0] (by decide) (by decide) 2
  have c4 := dof_ok [([98], [2]), ([97], [1, 1])] ok1 (by decide)
  have c5 := dcut_ok [([97], 2), ([98], 1)] ok2 (by decide) [1, 1, 2] (by decide)
  have c6 := dcheck_ok [([97], 258)] ok0 (by decide)
  rw [show bytesF15 [([97], 258)] = [1, 0, 97, 2, 1, 0, 0] by decide +kernel, show checkF [([97], 258)] = 0 by decide +kernel] at c1
  rw [show checkF [([97], 258)] = 0 by decide +kernel] at c6
  rw [show readF [1, 0, 97, 2, 1, 0, 0] 1 = ([([97], 258)], 0) by decide +kernel] at c2
  rw [show readF [1, 0, 97, 2, 1, 0, 0] 2 = ([], 3) by decide +kernel] at c3
  rw [show ofF [([98], [2]), ([97], [1, 1])] = ([([97], 2), ([98], 1)], [1, 1, 2], 0) by decide +kernel] at c4
  rw [show cutF [([97], 2), ([98], 1)] [1, 1, 2] = ([([97], [1, 1]), ([98], [2])], 0) by decide +kernel] at c5
  have p0 := entRows_pure [([97], 258)]
  have p1 := filRows_pure [([98], [2]), ([97], [1, 1])]
  have q1 := intsP (k := .u8) [2]
  have q2 := intsP (k := .u8) [1, 1]
  simp only [entRows, filRows, entRow, filRow, List.map_cons, List.map_nil, ints] at c1 c2 c3 c4 c5 c6 p0 p1 q1 q2
  refine pcall_mk Tryd.func6 rfl [.tmp 0] Tryd.results6 130 rfl (tk_start ?_)
  (repeat refine ka ?_); refine kr ?_ ?_ (pops_end ?_)
  (repeat refine ka ?_); refine kr ?_ ?_ ?_
  refine ps_litg ?_ p0
  refine pops_go ?_ ?_ (pops_end ?_)
  (repeat refine ka ?_); refine kr ?_ ?_ ?_
  refine ps_pcall c1 ?_
  refine pops_go ?_ ?_ (pops_end ?_)
  (repeat refine ka ?_); refine kr ?_ ?_ ?_
  refine ps_pcall c2 ?_
  refine pops_go ?_ ?_ (pops_end ?_)
  (repeat refine ka ?_); refine kr ?_ ?_ ?_
  refine ps_pcall c3 ?_
  refine pops_go ?_ ?_ (pops_end ?_)
  (repeat refine ka ?_); refine kr ?_ ?_ ?_
  refine ps_litg ?_ q1
  refine pops_go ?_ ?_ ?_
  refine ps_litg ?_ q2
  refine pops_go ?_ ?_ ?_
  refine ps_litg ?_ p1
  refine ps_pcall c4 ?_
  refine pops_go ?_ ?_ (pops_end ?_)
  (repeat refine ka ?_); refine kr ?_ ?_ ?_
  refine ps_pcall c5 ?_
  refine pops_go ?_ ?_ (pops_end ?_)
  (repeat refine ka ?_); refine kd ?_ ?_ ?_
  refine pd_pcall_g c6 ?_
  refine pstl_go ?_ ?_ (pstl_end ?_)
  (repeat refine ka ?_); refine kret ?_; repeat (first | with_reducible refine beh_r ?_ | with_reducible refine blk_r ?_)
  refine ends_ret ?_ retPV_one
  rfl
end Go.Proofs.YtenoecffjfcifaaDoor.Pv
