-- asm.Code: lay, item.
import Derived.Test.YtgbfbcbblndnoaaAsM
import Derived.Test.YtgbfbcbblndnoaaInG
namespace Go.Proofs.Ytgbfbcbblndnoaa.Pv
set_option linter.all false
open Go.RowKit Go.Proofs
set_option maxRecDepth 100000
set_option maxHeartbeats 4000000
def wW (op a b c imm : Int) : Int := if rightF (form op) a b c imm then wordOf op a b c imm else 0
def wE (op a b c imm : Int) : Int := if rightF (form op) a b c imm then 0 else 1
theorem lay_ok (W : List Int) (R : List (Int × Bool)) (gc gW gR : Nat) (op a b c imm : Int) (hW : W.length ≤ 1000001) : GCall Try.prog 52 [.ptr 0 gc 0 0, .agg [.v (.int .i64 op), .v (.int .i64 a), .v (.int .i64 b), .v (.int .i64 c), .v (.int .i64 imm)]]
    [⟨gc, true, 2, [[.vw 1 gW 0 W.length, .vw 2 gR 0 R.length]]⟩, ⟨gW, true, 1, ints .u32 W⟩, ⟨gR, true, 2, relRows R⟩]
    (fun x S' => ∃ g, x = .v (.int .i64 (wE op a b c imm)) ∧ S' = [⟨gc, true, 2, [[.vw 1 g 0 (W.length + 1), .vw 2 gR 0 R.length]]⟩, ⟨g, true, 1, ints .u32 (W ++ [wW op a b c imm])⟩, ⟨gR, true, 2, relRows R⟩]) := by
  have c1 : PCall Try.prog 57 [.agg [.v (.int .i64 op), .v (.int .i64 a), .v (.int .i64 b), .v (.int .i64 c), .v (.int .i64 imm)]] (.tup [.v (.int .u32 (wW op a b c imm)), .v (.int .i64 (wE op a b c imm))]) := word_ok op a b c imm
  generalize wW op a b c imm = w at *
  generalize wE op a b c imm = e at *
  refine gcall_drop ?_
  refine gcall_of_tr Try.func52 rfl [.tmp 4] Try.results52 23 rfl (tk_start ?_)
  (repeat refine ka ?_); refine kr ?_ ?_ ?_
  refine ps_box fun g2 => ?_
  refine pops_go ?_ ?_ (pops_end ?_)
  (repeat refine ka ?_); refine kr ?_ ?_ ?_
  refine ps_pcall c1 ?_
  refine pops_go ?_ ?_ (pops_end ?_)
  (repeat refine ka ?_); refine kr ?_ ?_ ?_
  refine ps_lit fun g3 => ?_
  refine ps_app_vw (rows' := ints .u32 (W ++ [w])) (m := W.length + 1) (fun g4 => ?_) (hrows := ints_append _ _ _)
  refine pops_go ?_ ?_ ?_
  refine ps_store ?_
  refine pops_nil ?_
  (repeat refine ka ?_); refine kr ?_ ?_ (pops_end ?_)
  (repeat refine ka ?_); refine kret ?_; repeat (first | with_reducible refine beh_r ?_ | with_reducible refine blk_r ?_)
  refine ends_ret ?_ retPV_one
  exact ⟨3, g4, rfl, rfl⟩
section
variable {P : Program} {rest : List Pr} {n : Nat} {tm : List (Nat × PV)} {S : List Blk} {d : Tmp} {x y : Operand} {σ' : PS} {n' : Nat}
theorem es_quoz {t t' : TypeId} {k0 : IntKind} {a b : Int} {c : Int} (k : EvR P rest ⟨n, (d, .v (.int k0 c)) :: tm, S⟩ σ' n') (hx : PS.get ⟨n, tm, S⟩ x = .v (.int k0 a)) (hy : PS.get ⟨n, tm, S⟩ y = .v (.int k0 b)) (h1 : b ≠ 0) (hc : k0.wrap (Int.tdiv a b) = c) : EvR P (⟨.binOp .quo t x y t', some d, none⟩ :: rest) ⟨n, tm, S⟩ σ' n' := es_bin hx hy (by simp only [intBin]; rw [if_neg h1, hc]) (by simp) k
end
def layF (x : It) (to at_ : Int) : (List Int × List (Int × Bool)) × Int :=
  if x.k = 1 then (([wW x.op x.a x.b x.c x.imm], []), wE x.op x.a x.b x.c x.imm)
  else if x.k = 2 then (([wW x.op x.a x.b x.c (Int.tdiv (to - at_ - 4) 4)], []), if wE x.op x.a x.b x.c (Int.tdiv (to - at_ - 4) 4) = 0 then 0 else 4)
  else if x.k = 3 then (([wW 1 x.a 0 0 (to % 65536), wW 2 x.a 0 0 (to / 65536)], [(at_, true)]), 0)
  else if x.k = 4 then (([x.w], []), 0)
  else if x.k = 5 then (([to % 4294967296], [(at_, false)]), 0)
  else (([], []), 0)
theorem ren_rels (f : Nat → Nat) (R : List (Int × Bool)) : (relRows R).map (renL f) = relRows R := by
  unfold relRows
  rw [List.map_map]
  exact List.map_congr_left fun r _ => by simp [renL, ren]
theorem wE_01 (op a b c imm : Int) : wE op a b c imm = 0 ∨ wE op a b c imm = 1 := by unfold wE; split; exact .inl rfl; exact .inr rfl
theorem item_ok (W : List Int) (R : List (Int × Bool)) (gc gW gR : Nat) (x : It) (to : Int) (hW : W.length ≤ 1000000) (hR : R.length ≤ 1000000) (h0 : 0 ≤ to) (h1 : to ≤ 1000000000) : GCall Try.prog 47 [.ptr 0 gc 0 0, .agg x.row, .v (.int .i64 to)]
    [⟨gc, true, 2, [[.vw 1 gW 0 W.length, .vw 2 gR 0 R.length]]⟩, ⟨gW, true, 1, ints .u32 W⟩, ⟨gR, true, 2, relRows R⟩]
    (fun y S' => ∃ g g', y = .v (.int .i64 (layF x to (4 * W.length)).2) ∧ S' = [⟨gc, true, 2, [[.vw 1 g 0 (W.length + (layF x to (4 * W.length)).1.1.length), .vw 2 g' 0 (R.length + (layF x to (4 * W.length)).1.2.length)]]⟩, ⟨g, true, 1, ints .u32 (W ++ (layF x to (4 * W.length)).1.1)⟩, ⟨g', true, 2, relRows (R ++ (layF x to (4 * W.length)).1.2)⟩]) := by
  obtain ⟨k, n, op, a, b, c, imm, w⟩ := x
  unfold It.row
  dsimp only
  have hRl := relRows_length R
  refine gcall_drop ?_
  refine gcall_of_tr Try.func47 rfl [.tmp 6] Try.results47 102 rfl (tk_start ?_)
  by_cases k1 : k = 1
  · have hl : layF ⟨k, n, op, a, b, c, imm, w⟩ to (4 * W.length) = (([wW op a b c imm], []), wE op a b c imm) := by simp [layF, k1]
    rw [hl]
    dsimp only
    (repeat refine ka ?_); refine kr ?_ ?_ ?_
    refine ps_box fun g3 => ?_
    refine pops_go ?_ ?_ (pops_end ?_)
    (repeat refine ka ?_); refine kr ?_ ?_ (pops_end ?_)
    (repeat refine ka ?_); refine kr ?_ ?_ (pops_end ?_)
    (repeat refine ka ?_); refine kb ?_
    (repeat refine ka ?_); refine kr ?_ ?_ (pops_end ?_)
    (repeat refine ka ?_); refine kct ?_
    (repeat refine ka ?_); refine kr ?_ ?_ ?_
    refine ps_fcall [0, 1, 2] (lay_ok W R gc gW gR op a b c imm (by omega)) ?_ (by rintro x S' ⟨g, rfl, rfl⟩; exact Nat.le_of_ble_eq_true rfl) (hS := by simp only [List.map_cons, List.map_nil, renB, ren_ints, ren_rels]; rfl)
    rintro x S' ⟨g, rfl, rfl⟩
    (intro x1 S1 hx1 hS1; simp only [List.map_cons, List.map_nil, renB, ren_ints, ren_rels, putB, List.set_cons_zero, List.set_cons_succ, List.cons_append, List.nil_append, List.append_nil, renL, ren, sg, List.length_cons, List.length_nil, Nat.reduceAdd, Nat.zero_add, Nat.add_zero] at hx1 hS1; subst hx1 hS1)
    refine pops_go ?_ ?_ (pops_end ?_)
    (repeat refine ka ?_); refine kret ?_; repeat (first | with_reducible refine beh_r ?_ | with_reducible refine blk_r ?_)
    refine ends_ret ?_ retPV_one
    exact ⟨3, g, gR, rfl, by simp only [List.length_nil, Nat.add_zero, List.append_nil]; rfl⟩
  by_cases k2 : k = 2
  · have hl : layF ⟨k, n, op, a, b, c, imm, w⟩ to (4 * W.length) = (([wW op a b c (Int.tdiv (to - 4 * W.length - 4) 4)], []), if wE op a b c (Int.tdiv (to - 4 * W.length - 4) 4) = 0 then 0 else 4) := by simp [layF, k2]
    rw [hl]
    dsimp only
    have h01 := wE_01 op a b c (Int.tdiv (to - 4 * W.length - 4) 4)
    obtain ⟨q, hqe⟩ : ∃ q, q = Int.tdiv (to - 4 * W.length - 4) 4 := ⟨_, rfl⟩
    have hq : IntKind.i64.wrap (Int.tdiv (to - 4 * W.length - 4) 4) = q := by
      rw [hqe]
      have e1 := @Int.tdiv_eq_ediv (to - 4 * W.length - 4) 4
      have e2 : Int.sign 4 = 1 := rfl
      rw [e2] at e1
      refine wrap_i64 _ ?_ ?_ <;> rw [e1] <;> split <;> omega
    rw [← hqe] at h01 ⊢
    have c1 := lay_ok W R gc gW gR op a b c q (by omega)
    (repeat refine ka ?_); refine kr ?_ ?_ ?_
    refine ps_box fun g3 => ?_
    refine pops_go ?_ ?_ (pops_end ?_)
    (repeat refine ka ?_); refine kr ?_ ?_ (pops_end ?_)
    (repeat refine ka ?_); refine kr ?_ ?_ (pops_end ?_)
    (repeat refine ka ?_); refine kb ?_
    (repeat refine ka ?_); refine kr ?_ ?_ (pops_end ?_)
    (repeat refine ka ?_); refine kcf ?_
    (repeat refine ka ?_); refine kr ?_ ?_ (pops_end ?_)
    (repeat refine ka ?_); refine kct ?_
    (repeat refine ka ?_); refine kr ?_ ?_ ?_
    refine pops_go _ _ ?_ (he := is_u (is_bin (es_quoz (EvR.stop _ _) rfl rfl (by decide) hq)))
    refine pops_go ?_ ?_ ?_
    refine ps_store ?_
    refine pops_nil ?_
    (repeat refine ka ?_); refine kr ?_ ?_ ?_
    refine ps_fcall [0, 1, 2] c1 ?_ (by rintro x S' ⟨g, rfl, rfl⟩; exact Nat.le_of_ble_eq_true rfl) (hS := by simp only [List.map_cons, List.map_nil, renB, ren_ints, ren_rels]; rfl)
    rintro x S' ⟨g, rfl, rfl⟩
    (intro x1 S1 hx1 hS1; simp only [List.map_cons, List.map_nil, renB, ren_ints, ren_rels, putB, List.set_cons_zero, List.set_cons_succ, List.cons_append, List.nil_append, List.append_nil, renL, ren, sg, List.length_cons, List.length_nil, Nat.reduceAdd, Nat.zero_add, Nat.add_zero] at hx1 hS1; subst hx1 hS1)
    rcases h01 with h01 | h01
    · rw [h01]
      refine pops_go ?_ ?_ (pops_end ?_)
      (repeat refine ka ?_); refine kcf ?_
      (repeat refine ka ?_); refine ksk ?_
      refine kn ?_; repeat (first | with_reducible refine blk_n ?_ | with_reducible refine beh_n ?_)
      (repeat refine ka ?_); refine kr ?_ ?_ (pops_end ?_)
      (repeat refine ka ?_); refine kret ?_; repeat (first | with_reducible refine beh_r ?_ | with_reducible refine blk_r ?_)
      refine ends_ret ?_ retPV_one
      exact ⟨3, g, gR, rfl, by simp only [List.length_nil, Nat.add_zero, List.append_nil]; rfl⟩
    · rw [h01]
      refine pops_go ?_ ?_ (pops_end ?_)
      (repeat refine ka ?_); refine kct ?_
      (repeat refine ka ?_); refine kr ?_ ?_ (pops_end ?_)
      (repeat refine ka ?_); refine kret ?_; repeat (first | with_reducible refine beh_r ?_ | with_reducible refine blk_r ?_)
      refine ends_ret ?_ retPV_one
      exact ⟨3, g, gR, rfl, by simp only [List.length_nil, Nat.add_zero, List.append_nil]; rfl⟩
  by_cases k3 : k = 3
  · have hl : layF ⟨k, n, op, a, b, c, imm, w⟩ to (4 * W.length) = (([wW 1 a 0 0 (to % 65536), wW 2 a 0 0 (to / 65536)], [(4 * (W.length : Int), true)]), 0) := by simp [layF, k3]
    rw [hl]
    dsimp only
    have ha := and16_i64 to
    (repeat refine ka ?_); refine kr ?_ ?_ ?_
    refine ps_box fun g3 => ?_
    refine pops_go ?_ ?_ (pops_end ?_)
    (repeat refine ka ?_); refine kr ?_ ?_ (pops_end ?_)
    (repeat refine ka ?_); refine kr ?_ ?_ (pops_end ?_)
    (repeat refine ka ?_); refine kb ?_
    (repeat refine ka ?_); refine kr ?_ ?_ (pops_end ?_)
    (repeat refine ka ?_); refine kcf ?_
    (repeat refine ka ?_); refine kr ?_ ?_ (pops_end ?_)
    (repeat refine ka ?_); refine kcf ?_
    (repeat refine ka ?_); refine kr ?_ ?_ (pops_end ?_)
    (repeat refine ka ?_); refine kct ?_
    (repeat refine ka ?_); refine kr ?_ ?_ ?_
    refine ps_lit fun g4 => ?_
    refine ps_app_vw (rows' := relRows (R ++ [(4 * (W.length : Int), true)])) (m := R.length + 1) (fun g5 => ?_) (hrows := relRows_snoc R (4 * (W.length : Int), true))
    refine pops_go ?_ ?_ ?_
    refine ps_store ?_
    refine pops_nil ?_
    have c1 := lay_ok W (R ++ [(4 * (W.length : Int), true)]) gc gW g5 1 a 0 0 (to % 65536) (by omega)
    simp only [List.length_append, List.length_cons, List.length_nil, Nat.zero_add] at c1
    (repeat refine ka ?_); refine kr ?_ ?_ ?_
    refine ps_fcall [0, 1, 2] c1 ?_ (by rintro x S' ⟨g, rfl, rfl⟩; exact Nat.le_of_ble_eq_true rfl) (hS := by simp only [List.map_cons, List.map_nil, renB, ren_ints, ren_rels]; rfl)
    rintro x S' ⟨g, rfl, rfl⟩
    (intro x1 S1 hx1 hS1; simp only [List.map_cons, List.map_nil, renB, ren_ints, ren_rels, putB, List.set_cons_zero, List.set_cons_succ, List.cons_append, List.nil_append, List.append_nil, renL, ren, sg, List.length_cons, List.length_nil, Nat.reduceAdd, Nat.zero_add, Nat.add_zero] at hx1 hS1; subst hx1 hS1)
    refine pops_go ?_ ?_ (pops_end ?_)
    have c2 := lay_ok (W ++ [wW 1 a 0 0 (to % 65536)]) (R ++ [(4 * (W.length : Int), true)]) gc g g5 2 a 0 0 (to / 65536) (by rw [List.length_append]; simp only [List.length_cons, List.length_nil]; omega)
    simp only [List.length_append, List.length_cons, List.length_nil, Nat.zero_add] at c2
    (repeat refine ka ?_); refine kr ?_ ?_ ?_
    refine ps_fcall [0, 1, 2] c2 ?_ (by rintro x S' ⟨g, rfl, rfl⟩; exact Nat.le_of_ble_eq_true rfl) (hS := by simp only [List.map_cons, List.map_nil, renB, ren_ints, ren_rels]; rfl)
    rintro x S' ⟨g', rfl, rfl⟩
    (intro x1 S1 hx1 hS1; simp only [List.map_cons, List.map_nil, renB, ren_ints, ren_rels, putB, List.set_cons_zero, List.set_cons_succ, List.cons_append, List.nil_append, List.append_nil, renL, ren, sg, List.length_cons, List.length_nil, Nat.reduceAdd, Nat.zero_add, Nat.add_zero] at hx1 hS1; subst hx1 hS1)
    refine pops_go ?_ ?_ (pops_end ?_)
    refine kn ?_; repeat (first | with_reducible refine blk_n ?_ | with_reducible refine beh_n ?_)
    (repeat refine ka ?_); refine kr ?_ ?_ (pops_end ?_)
    (repeat refine ka ?_); refine kret ?_; repeat (first | with_reducible refine beh_r ?_ | with_reducible refine blk_r ?_)
    refine ends_ret ?_ retPV_one
    exact ⟨3, g', g5, rfl, by simp only [List.length_append, List.length_cons, List.length_nil, List.append_assoc, List.cons_append, List.nil_append]; rfl⟩
  by_cases k4 : k = 4
  · have hl : layF ⟨k, n, op, a, b, c, imm, w⟩ to (4 * W.length) = (([w], []), 0) := by simp [layF, k4]
    rw [hl]
    dsimp only
    (repeat refine ka ?_); refine kr ?_ ?_ ?_
    refine ps_box fun g3 => ?_
    refine pops_go ?_ ?_ (pops_end ?_)
    (repeat refine ka ?_); refine kr ?_ ?_ (pops_end ?_)
    (repeat refine ka ?_); refine kr ?_ ?_ (pops_end ?_)
    (repeat refine ka ?_); refine kb ?_
    (repeat refine ka ?_); refine kr ?_ ?_ (pops_end ?_)
    (repeat refine ka ?_); refine kcf ?_
    (repeat refine ka ?_); refine kr ?_ ?_ (pops_end ?_)
    (repeat refine ka ?_); refine kcf ?_
    (repeat refine ka ?_); refine kr ?_ ?_ (pops_end ?_)
    (repeat refine ka ?_); refine kcf ?_
    (repeat refine ka ?_); refine kr ?_ ?_ (pops_end ?_)
    (repeat refine ka ?_); refine kct ?_
    (repeat refine ka ?_); refine kds [0, 1, 2, 3, 4, 5, 6, 9, 10] [7, 8, 11] ?_
    refine pstl_go ?_ ?_ (pstl_end ?_)
    refine hs_w [5, 6] [0, 1, 2, 3, 4, 9, 10] ?_ (by refine pstl_go ?_ ?_ (pstl_end ?_); exact rfl); refine pstl_go ?_ ?_ (pstl_end ?_); refine ⟨rfl, ?_⟩
    refine ps_lit fun g4 => ?_
    refine pops_nil ?_
    refine hs_w [1, 2, 3, 4] [0, 9, 10] ?_ (by refine pstl_go ?_ ?_ (pstl_end ?_); exact rfl); refine pstl_go ?_ ?_ (pstl_end ?_); refine ⟨rfl, ?_⟩
    refine ps_app_vw (rows' := ints .u32 (W ++ [w])) (m := W.length + 1) (fun g5 => ?_) (hrows := ints_append _ _ _)
    refine pops_nil ?_
    refine hs_w [0, 9, 10] [] ?_ (by refine pstl_go ?_ ?_ (pstl_end ?_); exact rfl); refine pstl_go ?_ ?_ (pstl_end ?_); refine ⟨rfl, ?_⟩
    refine ps_store ?_
    refine pops_nil ?_
    refine hs_end ?_; refine pstl_go ?_ ?_ (pstl_end ?_); refine ⟨rfl, ?_⟩
    refine kn ?_; repeat (first | with_reducible refine blk_n ?_ | with_reducible refine beh_n ?_)
    (repeat refine ka ?_); refine kr ?_ ?_ (pops_end ?_)
    (repeat refine ka ?_); refine kret ?_; repeat (first | with_reducible refine beh_r ?_ | with_reducible refine blk_r ?_)
    refine ends_ret ?_ retPV_one
    exact ⟨3, g5, gR, rfl, by simp only [List.length_nil, Nat.add_zero, List.append_nil]; rfl⟩
  by_cases k5 : k = 5
  · have hl : layF ⟨k, n, op, a, b, c, imm, w⟩ to (4 * W.length) = (([to % 4294967296], [(4 * (W.length : Int), false)]), 0) := by simp [layF, k5]
    rw [hl]
    dsimp only
    (repeat refine ka ?_); refine kr ?_ ?_ ?_
    refine ps_box fun g3 => ?_
    refine pops_go ?_ ?_ (pops_end ?_)
    (repeat refine ka ?_); refine kr ?_ ?_ (pops_end ?_)
    (repeat refine ka ?_); refine kr ?_ ?_ (pops_end ?_)
    (repeat refine ka ?_); refine kb ?_
    (repeat refine ka ?_); refine kr ?_ ?_ (pops_end ?_)
    (repeat refine ka ?_); refine kcf ?_
    (repeat refine ka ?_); refine kr ?_ ?_ (pops_end ?_)
    (repeat refine ka ?_); refine kcf ?_
    (repeat refine ka ?_); refine kr ?_ ?_ (pops_end ?_)
    (repeat refine ka ?_); refine kcf ?_
    (repeat refine ka ?_); refine kr ?_ ?_ (pops_end ?_)
    (repeat refine ka ?_); refine kcf ?_
    (repeat refine ka ?_); refine kr ?_ ?_ (pops_end ?_)
    (repeat refine ka ?_); refine kct ?_
    (repeat refine ka ?_); refine kr ?_ ?_ ?_
    refine ps_lit fun g4 => ?_
    refine ps_app_vw (rows' := relRows (R ++ [(4 * (W.length : Int), false)])) (m := R.length + 1) (fun g5 => ?_) (hrows := relRows_snoc R (4 * (W.length : Int), false))
    refine pops_go ?_ ?_ ?_
    refine ps_store ?_
    refine pops_nil ?_
    have hw := wrap_u32m to
    (repeat refine ka ?_); refine kr ?_ ?_ ?_
    refine ps_lit fun g6 => ?_
    refine ps_app_vw (rows' := ints .u32 (W ++ [to % 4294967296])) (m := W.length + 1) (fun g7 => ?_) (hrows := ints_append _ _ _)
    refine pops_go ?_ ?_ ?_
    refine ps_store ?_
    refine pops_nil ?_
    refine kn ?_; repeat (first | with_reducible refine blk_n ?_ | with_reducible refine beh_n ?_)
    (repeat refine ka ?_); refine kr ?_ ?_ (pops_end ?_)
    (repeat refine ka ?_); refine kret ?_; repeat (first | with_reducible refine beh_r ?_ | with_reducible refine blk_r ?_)
    refine ends_ret ?_ retPV_one
    exact ⟨3, g7, g5, rfl, rfl⟩
  · have hl : layF ⟨k, n, op, a, b, c, imm, w⟩ to (4 * W.length) = (([], []), 0) := by simp [layF, k1, k2, k3, k4, k5]
    rw [hl]
    dsimp only
    (repeat refine ka ?_); refine kr ?_ ?_ ?_
    refine ps_box fun g3 => ?_
    refine pops_go ?_ ?_ (pops_end ?_)
    (repeat refine ka ?_); refine kr ?_ ?_ (pops_end ?_)
    (repeat refine ka ?_); refine kr ?_ ?_ (pops_end ?_)
    (repeat refine ka ?_); refine kb ?_
    (repeat refine ka ?_); refine kr ?_ ?_ (pops_end ?_)
    (repeat refine ka ?_); refine kcf ?_
    (repeat refine ka ?_); refine kr ?_ ?_ (pops_end ?_)
    (repeat refine ka ?_); refine kcf ?_
    (repeat refine ka ?_); refine kr ?_ ?_ (pops_end ?_)
    (repeat refine ka ?_); refine kcf ?_
    (repeat refine ka ?_); refine kr ?_ ?_ (pops_end ?_)
    (repeat refine ka ?_); refine kcf ?_
    (repeat refine ka ?_); refine kr ?_ ?_ (pops_end ?_)
    (repeat refine ka ?_); refine kcf ?_
    (repeat refine ka ?_); refine ksk ?_
    refine kn ?_; repeat (first | with_reducible refine blk_n ?_ | with_reducible refine beh_n ?_)
    (repeat refine ka ?_); refine kr ?_ ?_ (pops_end ?_)
    (repeat refine ka ?_); refine kret ?_; repeat (first | with_reducible refine beh_r ?_ | with_reducible refine blk_r ?_)
    refine ends_ret ?_ retPV_one
    exact ⟨3, gW, gR, rfl, by simp only [List.length_nil, Nat.add_zero, List.append_nil]; rfl⟩
end Go.Proofs.Ytgbfbcbblndnoaa.Pv
