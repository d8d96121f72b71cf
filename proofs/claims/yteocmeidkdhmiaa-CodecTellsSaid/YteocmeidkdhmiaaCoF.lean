-- carapaceref16.Back.
import Derived.Test.YteocmeidkdhmiaaCoE
namespace Go.Proofs.Yteocmeidkdhmiaa.Pv
set_option linter.all false
open Go.RowKit Go.Proofs
set_option maxRecDepth 100000
set_option maxHeartbeats 4000000
theorem back_lz2 (o : Op5) (st : List Int → List Int) (mid raw : Int) {b : List Int} (hb : Oct b) (hst : Oct (e1 o st b) ∧ (e1 o st b).length ≤ 1000000) :
    (Oct (e2 o st mid b).1 ∧ (e2 o st mid b).1.length ≤ 1000000) ∧ (Oct (e3 o st mid raw b).1 ∧ (e3 o st mid raw b).1.length ≤ 1000000) := by
  have h2 : Oct (e2 o st mid b).1 ∧ (e2 o st mid b).1.length ≤ 1000000 := by
    unfold e2
    split
    · have := rback_rc (e1 o st b) mid
      exact ⟨this.1, by omega⟩
    · exact hst
  refine ⟨h2, ?_⟩
  unfold e3
  split
  · have := back_lz raw h2.1
    exact ⟨this.1, by omega⟩
  · exact h2
theorem e4_ok (o : Op5) (st : List Int → List Int) (mid raw : Int) {b : List Int} (h : Oct (e3 o st mid raw b).1 ∧ (e3 o st mid raw b).1.length ≤ 1000000) : Oct (e4 o st mid raw b) ∧ (e4 o st mid raw b).length ≤ 1000000 :=
  ⟨deltaB_oct h.1 _, by rw [e4, deltaB_length]; exact h.2⟩
theorem rback16_ok (o : Op5) (K N : List PV) [hK : PureL K] [hN : PureL N] (hk : K.length = 16) (hn : N.length = 2) (b : List Int) (mid raw : Int) (st : List Int → List Int) (hb : Oct b) (hl : b.length ≤ 1000000) (hst : Oct (e1 o st b) ∧ (e1 o st b).length ≤ 1000000)
    (hs : PCall Try.prog 22 [.agg K, .agg N, .ro 1 false (ints .u8 b)] (.ro 1 false (ints .u8 (st b)))) :
    PCall Try.prog 10 [.agg o.cells, .agg K, .agg N, .agg [.ro 1 false (ints .u8 b), .v (.int .i64 mid)], .v (.int .i64 raw)] (.tup [.ro 1 false (ints .u8 (cback o st mid raw b).1), .v (.int .i64 (cback o st mid raw b).2)]) := by
  have oc : o.cells.length = 5 := rfl
  have hrt := rright_ok o
  have k2 := (back_lz2 o st mid raw hb hst).1
  have k3 := (back_lz2 o st mid raw hb hst).2
  have k4 := e4_ok o st mid raw k3
  have ek : K.take 16 = K := by rw [← hk, List.take_length]
  have en : N.take 2 = N := by rw [← hn, List.take_length]
  refine pcall_mkg Try.func10 rfl [.tmp 10, .tmp 11] Try.results10 102 rfl (tk_start ?_)
  (repeat refine ka ?_); refine kr ?_ ?_ ?_
  refine ps_box (c := o.cells) (sz := 5) (fun g0 => ?_)
  refine ps_box (c := K) (sz := 16) (fun g1 => ?_) (hs := hk)
  refine ps_box (c := N) (sz := 2) (fun g2 => ?_) (hs := hn)
  refine ps_box (fun g3 => ?_)
  refine pops_go ?_ ?_ (pops_end ?_)
  (repeat refine ka ?_)
  refine kcut (fun _ : Unit => [(4, PV.v (.int .i64 raw)), (5, .ptr 0 g0 0 0), (6, .ptr 1 g1 0 0), (7, .ptr 2 g2 0 0), (8, .ptr 3 g3 0 0), (27, PV.v (.bool (bad1 o raw)))]) (fun _ => [⟨g0, true, 5, [o.cells]⟩, ⟨g1, true, 16, [K]⟩, ⟨g2, true, 2, [N]⟩, ⟨g3, true, 2, [[.ro 1 false (ints .u8 b), .v (.int .i64 mid)]]⟩]) (fun _ => True) ?_ ?_ (by simp)
  · cases hr : o.right
    · rw [hr] at hrt
      have hz : bad1 o raw = true := by unfold bad1; rw [hr]; rfl
      (repeat refine ka ?_); refine kr ?_ ?_ ?_
      refine ps_pcall hrt ?_
      refine pops_go ?_ ?_ (pops_end ?_)
      refine kn ?_; repeat (first | with_reducible refine blk_n ?_ | with_reducible refine beh_n ?_)
      refine ⟨(), trivial, ?_⟩
      rw [hz]
      exact (holds 4 (by repeat (first | exact .nil | refine has1 ?_)))
    · rw [hr] at hrt
      by_cases h0 : raw < 0
      · have hz : bad1 o raw = true := by unfold bad1; rw [hr, decide_eq_true h0]; rfl
        (repeat refine ka ?_); refine kr ?_ ?_ ?_
        refine ps_pcall hrt ?_
        refine pops_go ?_ ?_ (pops_end ?_)
        refine kn ?_; repeat (first | with_reducible refine blk_n ?_ | with_reducible refine beh_n ?_)
        refine ⟨(), trivial, ?_⟩
        rw [hz]
        exact (holds 4 (by repeat (first | exact .nil | refine has1 ?_)))
      · have hz : bad1 o raw = decide (65536 < raw) := by unfold bad1; rw [hr, decide_eq_false h0]; rfl
        (repeat refine ka ?_); refine kr ?_ ?_ ?_
        refine ps_pcall hrt ?_
        refine pops_go ?_ ?_ (pops_end ?_)
        refine kn ?_; repeat (first | with_reducible refine blk_n ?_ | with_reducible refine beh_n ?_)
        refine ⟨(), trivial, ?_⟩
        rw [hz]
        exact (holds 4 (by repeat (first | exact .nil | refine has1 ?_)))
  intro _ _
  by_cases hb1 : bad1 o raw = true
  · rw [hb1]
    (repeat refine ka ?_); refine kct ?_
    (repeat refine ka ?_); refine kr ?_ ?_ (pops_end ?_)
    (repeat refine ka ?_); refine kret ?_; repeat (first | with_reducible refine beh_r ?_ | with_reducible refine blk_r ?_)
    refine ends_ret ?_ retPV_two
    have hz : cback o st mid raw b = ([], 1) := by unfold cback; rw [if_pos hb1]
    rw [hz]
    exact gives_two .nil (.same (.v _))
  have hb1 : bad1 o raw = false := by simpa using hb1
  rw [hb1]
  (repeat refine ka ?_); refine kcf ?_
  (repeat refine ka ?_); refine ksk ?_
  (repeat refine ka ?_)
  refine kcut (fun _ : Unit => [(4, PV.v (.int .i64 raw)), (5, .ptr 0 g0 0 0), (6, .ptr 1 g1 0 0), (7, .ptr 2 g2 0 0), (8, .ptr 3 g3 0 0), (59, PV.v (.bool (bad2 o mid raw b.length)))]) (fun _ => [⟨g0, true, 5, [o.cells]⟩, ⟨g1, true, 16, [K]⟩, ⟨g2, true, 2, [N]⟩, ⟨g3, true, 2, [[.ro 1 false (ints .u8 b), .v (.int .i64 mid)]]⟩]) (fun _ => True) ?_ ?_ (by simp)
  · clear k2 k3 k4 hst hs hrt oc hb1
    obtain ⟨bcj, del, lz, rng, cry⟩ := o
    unfold Op5.cells
    have hz : bad2 ⟨bcj, del, lz, rng, cry⟩ mid raw b.length = (decide (mid < 0) || decide (131072 < mid) || (!lz && !decide (mid = raw)) || (!rng && !decide ((b.length : Int) = mid))) := rfl
    by_cases h1 : mid = raw <;> by_cases h2 : (b.length : Int) = mid <;> by_cases h3 : mid < 0 <;> cases lz <;> cases rng <;>
    · first | rw [decide_eq_true h1] at hz | rw [decide_eq_false h1] at hz
      first | rw [decide_eq_true h2] at hz | rw [decide_eq_false h2] at hz
      first | rw [decide_eq_true h3] at hz | rw [decide_eq_false h3] at hz
      simp only [Bool.not_true, Bool.not_false, Bool.and_true, Bool.and_false, Bool.or_true, Bool.or_false, Bool.true_or, Bool.false_or, Bool.true_and, Bool.false_and] at hz
      (repeat refine ka ?_); refine kr ?_ ?_ (pops_end ?_)
      refine kn ?_; repeat (first | with_reducible refine blk_n ?_ | with_reducible refine beh_n ?_)
      refine ⟨(), trivial, ?_⟩
      rw [hz]
      exact (holds 4 (by repeat (first | exact .nil | refine has1 ?_)))
  intro _ _
  by_cases hb2 : bad2 o mid raw b.length = true
  · rw [hb2]
    (repeat refine ka ?_); refine kct ?_
    (repeat refine ka ?_); refine kr ?_ ?_ (pops_end ?_)
    (repeat refine ka ?_); refine kret ?_; repeat (first | with_reducible refine beh_r ?_ | with_reducible refine blk_r ?_)
    refine ends_ret ?_ retPV_two
    have hz : cback o st mid raw b = ([], 2) := by unfold cback; rw [if_neg (by rw [hb1]; decide), if_pos hb2]
    rw [hz]
    exact gives_two .nil (.same (.v _))
  have hb2 : bad2 o mid raw b.length = false := by simpa using hb2
  rw [hb2]
  (repeat refine ka ?_); refine kcf ?_
  (repeat refine ka ?_); refine ksk ?_
  have hcb : cback o st mid raw b = if (e2 o st mid b).2 ≠ 0 then ([], 2) else if (e3 o st mid raw b).2 ≠ 0 then ([], 2) else (e5 o st mid raw b, 0) := by
    unfold cback
    rw [if_neg (by rw [hb1]; decide), if_neg (by rw [hb2]; decide)]
  (repeat refine ka ?_); refine kr ?_ ?_ ?_
  refine ps_lit fun g4 => ?_
  refine pops_go ?_ ?_ ?_
  refine ps_app_vw (rows' := ints .u8 b) (m := b.length) (fun g => ?_) (hsrc := rfl) (hrows := List.nil_append _)
  refine pops_go ?_ ?_ (pops_end ?_)
  refine kfreeze 4 ?_
  refine kfzT 12 [4] (y := .ro 1 false (ints .u8 b)) ?_ (lend_ints (List.mem_singleton.2 rfl) rfl rfl rfl) (by simp)
  (repeat refine ka ?_); refine kr ?_ ?_ (pops_end ?_)
  (repeat refine ka ?_)
  refine kcut (fun _ : Unit => [(4, PV.v (.int .i64 raw)), (5, .ptr 0 g0 0 0), (6, .ptr 1 g1 0 0), (7, .ptr 2 g2 0 0), (8, .ptr 3 g3 0 0), (12, PV.ro 1 false (ints .u8 (e1 o st b)))]) (fun _ => [⟨g0, true, 5, [o.cells]⟩, ⟨g1, true, 16, [K]⟩, ⟨g2, true, 2, [N]⟩, ⟨g3, true, 2, [[.ro 1 false (ints .u8 b), .v (.int .i64 mid)]]⟩]) (fun _ => True) ?_ ?_ (by simp)
  · by_cases hu : o.cry = true
    · have hz : e1 o st b = st b := by unfold e1; rw [if_pos hu]
      rw [hu]
      (repeat refine ka ?_); refine kct ?_
      (repeat refine ka ?_); refine kr ?_ ?_ ?_
      rw [ek, en]
      refine ps_pcall hs ?_
      refine pops_go ?_ ?_ (pops_end ?_)
      refine kn ?_; repeat (first | with_reducible refine blk_n ?_ | with_reducible refine beh_n ?_)
      refine ⟨(), trivial, ?_⟩
      rw [hz]
      exact (holds 4 (by repeat (first | exact .nil | refine has1 ?_)))
    · have hu2 : o.cry = false := by simpa using hu
      have hz : e1 o st b = b := by unfold e1; rw [if_neg hu]
      rw [hu2]
      (repeat refine ka ?_); refine kcf ?_
      (repeat refine ka ?_); refine ksk ?_
      refine kn ?_; repeat (first | with_reducible refine blk_n ?_ | with_reducible refine beh_n ?_)
      refine ⟨(), trivial, ?_⟩
      rw [hz]
      exact (holds 4 (by repeat (first | exact .nil | refine has1 ?_)))
  intro _ _
  (repeat refine ka ?_); refine kr ?_ ?_ (pops_end ?_)
  (repeat refine ka ?_)
  refine kcut (fun _ : Unit => [(4, PV.v (.int .i64 raw)), (5, .ptr 0 g0 0 0), (6, .ptr 1 g1 0 0), (7, .ptr 2 g2 0 0), (8, .ptr 3 g3 0 0), (12, PV.ro 1 false (ints .u8 ((e2 o st mid b).1)))]) (fun _ => [⟨g0, true, 5, [o.cells]⟩, ⟨g1, true, 16, [K]⟩, ⟨g2, true, 2, [N]⟩, ⟨g3, true, 2, [[.ro 1 false (ints .u8 b), .v (.int .i64 mid)]]⟩]) (fun _ => (e2 o st mid b).2 = 0) ?_ ?_ (by simp)
  · by_cases hu : o.rng = true
    · have hz : e2 o st mid b = rback (e1 o st b) mid := by unfold e2; rw [if_pos hu]
      rw [hu]
      (repeat refine ka ?_); refine kct ?_
      (repeat refine ka ?_); refine kr ?_ ?_ ?_
      refine ps_pcall (ref_back (e1 o st b) mid hst.1 hst.2) ?_
      refine pops_go ?_ ?_ (pops_end ?_)
      rw [← hz]
      by_cases hq : (e2 o st mid b).2 = 0
      · rw [hq]
        (repeat refine ka ?_); refine kr ?_ ?_ (pops_end ?_)
        (repeat refine ka ?_); refine kcf ?_
        (repeat refine ka ?_); refine ksk ?_
        (repeat refine ka ?_); refine kr ?_ ?_ (pops_end ?_)
        refine kn ?_; repeat (first | with_reducible refine blk_n ?_ | with_reducible refine beh_n ?_)
        exact ⟨(), by first | exact hq | rfl, (holds 4 (by repeat (first | exact .nil | refine has1 ?_)))⟩
      · (repeat refine ka ?_); refine kr ?_ ?_ (pops_end ?_)
        (repeat refine ka ?_); refine kct ?_
        (repeat refine ka ?_); refine kr ?_ ?_ (pops_end ?_)
        (repeat refine ka ?_); refine kret ?_; repeat (first | with_reducible refine beh_r ?_ | with_reducible refine blk_r ?_)
        refine ends_ret ?_ retPV_two
        have hz2 : cback o st mid raw b = ([], 2) := by rw [hcb, if_pos hq]
        rw [hz2]
        exact gives_two .nil (.same (.v _))
    · have hu2 : o.rng = false := by simpa using hu
      have hz : e2 o st mid b = (e1 o st b, 0) := by unfold e2; rw [if_neg hu]
      rw [hu2]
      (repeat refine ka ?_); refine kcf ?_
      (repeat refine ka ?_); refine ksk ?_
      refine kn ?_; repeat (first | with_reducible refine blk_n ?_ | with_reducible refine beh_n ?_)
      refine ⟨(), by rw [hz], ?_⟩
      rw [hz]
      exact (holds 4 (by repeat (first | exact .nil | refine has1 ?_)))
  intro _ hq2
  (repeat refine ka ?_); refine kr ?_ ?_ (pops_end ?_)
  (repeat refine ka ?_)
  refine kcut (fun _ : Unit => [(4, PV.v (.int .i64 raw)), (5, .ptr 0 g0 0 0), (6, .ptr 1 g1 0 0), (7, .ptr 2 g2 0 0), (8, .ptr 3 g3 0 0), (12, PV.ro 1 false (ints .u8 ((e3 o st mid raw b).1)))]) (fun _ => [⟨g0, true, 5, [o.cells]⟩, ⟨g1, true, 16, [K]⟩, ⟨g2, true, 2, [N]⟩, ⟨g3, true, 2, [[.ro 1 false (ints .u8 b), .v (.int .i64 mid)]]⟩]) (fun _ => (e3 o st mid raw b).2 = 0) ?_ ?_ (by simp)
  · by_cases hu : o.lz = true
    · have hz : e3 o st mid raw b = back (e2 o st mid b).1 raw := by unfold e3; rw [if_pos hu]
      rw [hu]
      (repeat refine ka ?_); refine kct ?_
      (repeat refine ka ?_); refine kr ?_ ?_ ?_
      refine ps_pcall (rback_ok (e2 o st mid b).1 raw k2.1 k2.2) ?_
      refine pops_go ?_ ?_ (pops_end ?_)
      rw [← hz]
      by_cases hq : (e3 o st mid raw b).2 = 0
      · rw [hq]
        (repeat refine ka ?_); refine kr ?_ ?_ (pops_end ?_)
        (repeat refine ka ?_); refine kcf ?_
        (repeat refine ka ?_); refine ksk ?_
        (repeat refine ka ?_); refine kr ?_ ?_ (pops_end ?_)
        refine kn ?_; repeat (first | with_reducible refine blk_n ?_ | with_reducible refine beh_n ?_)
        exact ⟨(), by first | exact hq | rfl, (holds 4 (by repeat (first | exact .nil | refine has1 ?_)))⟩
      · (repeat refine ka ?_); refine kr ?_ ?_ (pops_end ?_)
        (repeat refine ka ?_); refine kct ?_
        (repeat refine ka ?_); refine kr ?_ ?_ (pops_end ?_)
        (repeat refine ka ?_); refine kret ?_; repeat (first | with_reducible refine beh_r ?_ | with_reducible refine blk_r ?_)
        refine ends_ret ?_ retPV_two
        have hz2 : cback o st mid raw b = ([], 2) := by rw [hcb, if_neg (by simp [hq2]), if_pos hq]
        rw [hz2]
        exact gives_two .nil (.same (.v _))
    · have hu2 : o.lz = false := by simpa using hu
      have hz : e3 o st mid raw b = ((e2 o st mid b).1, 0) := by unfold e3; rw [if_neg hu]
      rw [hu2]
      (repeat refine ka ?_); refine kcf ?_
      (repeat refine ka ?_); refine ksk ?_
      refine kn ?_; repeat (first | with_reducible refine blk_n ?_ | with_reducible refine beh_n ?_)
      refine ⟨(), by rw [hz], ?_⟩
      rw [hz]
      exact (holds 4 (by repeat (first | exact .nil | refine has1 ?_)))
  intro _ hq3
  have hfin : cback o st mid raw b = (e5 o st mid raw b, 0) := by rw [hcb, if_neg (by simp [hq2]), if_neg (by simp [hq3])]
  rw [hfin]
  have e4d : deltaB (e3 o st mid raw b).1 o.del = e4 o st mid raw b := rfl
  (repeat refine ka ?_); refine kr ?_ ?_ ?_
  refine ps_pcall (rdelta_back (e3 o st mid raw b).1 o.del k3.2) ?_
  refine pops_go ?_ ?_ (pops_end ?_)
  rw [e4d]
  (repeat refine ka ?_); refine kr ?_ ?_ (pops_end ?_)
  (repeat refine ka ?_)
  refine kcut (fun _ : Unit => [(4, PV.v (.int .i64 raw)), (5, .ptr 0 g0 0 0), (6, .ptr 1 g1 0 0), (7, .ptr 2 g2 0 0), (8, .ptr 3 g3 0 0), (12, PV.ro 1 false (ints .u8 (e5 o st mid raw b)))]) (fun _ => [⟨g0, true, 5, [o.cells]⟩, ⟨g1, true, 16, [K]⟩, ⟨g2, true, 2, [N]⟩, ⟨g3, true, 2, [[.ro 1 false (ints .u8 b), .v (.int .i64 mid)]]⟩]) (fun _ => True) ?_ ?_ (by simp)
  · by_cases hu : o.bcj = true
    · have hz : e5 o st mid raw b = bcjF (-1) (e4 o st mid raw b) := by unfold e5; rw [if_pos hu]
      rw [hu]
      (repeat refine ka ?_); refine kct ?_
      (repeat refine ka ?_); refine kr ?_ ?_ ?_
      refine ps_pcall (rbcj_back (e4 o st mid raw b) k4.1 k4.2) ?_
      refine pops_go ?_ ?_ (pops_end ?_)
      refine kn ?_; repeat (first | with_reducible refine blk_n ?_ | with_reducible refine beh_n ?_)
      refine ⟨(), trivial, ?_⟩
      rw [hz]
      exact (holds 4 (by repeat (first | exact .nil | refine has1 ?_)))
    · have hu2 : o.bcj = false := by simpa using hu
      have hz : e5 o st mid raw b = e4 o st mid raw b := by unfold e5; rw [if_neg hu]
      rw [hu2]
      (repeat refine ka ?_); refine kcf ?_
      (repeat refine ka ?_); refine ksk ?_
      refine kn ?_; repeat (first | with_reducible refine blk_n ?_ | with_reducible refine beh_n ?_)
      refine ⟨(), trivial, ?_⟩
      rw [hz]
      exact (holds 4 (by repeat (first | exact .nil | refine has1 ?_)))
  intro _ _
  (repeat refine ka ?_); refine kr ?_ ?_ (pops_end ?_)
  (repeat refine ka ?_); refine kret ?_; repeat (first | with_reducible refine beh_r ?_ | with_reducible refine blk_r ?_)
  refine ends_ret ?_ retPV_two
  exact gives_two (.same PureC.h) (.same (.v _))
end Go.Proofs.Yteocmeidkdhmiaa.Pv
