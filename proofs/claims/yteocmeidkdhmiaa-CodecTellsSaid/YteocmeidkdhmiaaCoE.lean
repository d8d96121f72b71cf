-- carapaceref16.Put; what Put refuses.
import Derived.Test.YteocmeidkdhmiaaCoD
namespace Go.Proofs.Yteocmeidkdhmiaa.Pv
set_option linter.all false
open Go.RowKit Go.Proofs
set_option maxRecDepth 100000
set_option maxHeartbeats 4000000
theorem gives_agg2 {S : List Blk} {a b c d : PV} (h : Gives S a c) (k : Gives S b d) : Gives S (.agg [a, b]) (.agg [c, d]) := .agg rfl fun i x y hx hy => by
  match i, hx, hy with
  | 0, hx, hy => simp at hx hy; subst hx hy; exact h
  | 1, hx, hy => simp at hx hy; subst hx hy; exact k
  | i + 2, hx, hy => simp at hx
theorem cput_bad1 (o : Op5) (K N : List PV) [hK : PureL K] [hN : PureL N] (hk : K.length = 16) (hn : N.length = 2) (b : List Int) (hr : o.right = false) : PCall Try.prog 7 [.agg o.cells, .agg K, .agg N, .ro 1 false (ints .u8 b)] (.tup [.agg [.ro 1 false (ints .u8 []), .v (.int .i64 0)], .v (.int .i64 1)]) := by
  have oc : o.cells.length = 5 := rfl
  have hrt := right_ok o
  rw [hr] at hrt
  refine pcall_mkg Try.func7 rfl [.cell 8 33, .tmp 9] Try.results7 51 rfl (tk_start ?_)
  (repeat refine ka ?_); refine kr ?_ ?_ ?_
  refine ps_box (c := o.cells) (sz := 5) (fun g0 => ?_)
  refine ps_box (c := K) (sz := 16) (fun g1 => ?_) (hs := hk)
  refine ps_box (c := N) (sz := 2) (fun g2 => ?_) (hs := hn)
  refine ps_alloc fun g3 => ?_
  refine pops_go ?_ ?_ (pops_end ?_)
  (repeat refine ka ?_); refine kb ?_
  (repeat refine ka ?_); refine kr ?_ ?_ ?_
  refine ps_pcall hrt ?_
  refine pops_go ?_ ?_ (pops_end ?_)
  (repeat refine ka ?_); refine kct ?_
  (repeat refine ka ?_); refine kr ?_ ?_ ?_
  refine ps_store ?_
  refine pops_go ?_ ?_ (pops_end ?_)
  (repeat refine ka ?_); refine kret ?_; repeat (first | with_reducible refine beh_r ?_ | with_reducible refine blk_r ?_)
  refine ends_ret ?_ (retPV_2 res_cella res_tmp)
  exact gives_two (gives_agg2 .nil (.same (.v _))) (.same (.v _))
theorem cput_bad2 (o : Op5) (K N : List PV) [hK : PureL K] [hN : PureL N] (hk : K.length = 16) (hn : N.length = 2) (b : List Int) (hr : o.right = true) (hl : 65536 < (b.length : Int)) (hl2 : b.length ≤ 1000000000) : PCall Try.prog 7 [.agg o.cells, .agg K, .agg N, .ro 1 false (ints .u8 b)] (.tup [.agg [.ro 1 false (ints .u8 []), .v (.int .i64 0)], .v (.int .i64 4)]) := by
  have oc : o.cells.length = 5 := rfl
  have hrt := right_ok o
  rw [hr] at hrt
  refine pcall_mkg Try.func7 rfl [.cell 8 33, .tmp 9] Try.results7 51 rfl (tk_start ?_)
  (repeat refine ka ?_); refine kr ?_ ?_ ?_
  refine ps_box (c := o.cells) (sz := 5) (fun g0 => ?_)
  refine ps_box (c := K) (sz := 16) (fun g1 => ?_) (hs := hk)
  refine ps_box (c := N) (sz := 2) (fun g2 => ?_) (hs := hn)
  refine ps_alloc fun g3 => ?_
  refine pops_go ?_ ?_ (pops_end ?_)
  (repeat refine ka ?_); refine kb ?_
  (repeat refine ka ?_); refine kr ?_ ?_ ?_
  refine ps_pcall hrt ?_
  refine pops_go ?_ ?_ (pops_end ?_)
  (repeat refine ka ?_); refine kcf ?_
  (repeat refine ka ?_); refine kr ?_ ?_ (pops_end ?_)
  (repeat refine ka ?_); refine kct ?_
  (repeat refine ka ?_); refine kr ?_ ?_ ?_
  refine ps_store ?_
  refine pops_go ?_ ?_ (pops_end ?_)
  (repeat refine ka ?_); refine kret ?_; repeat (first | with_reducible refine beh_r ?_ | with_reducible refine blk_r ?_)
  refine ends_ret ?_ (retPV_2 res_cella res_tmp)
  exact gives_two (gives_agg2 .nil (.same (.v _))) (.same (.v _))
theorem rput16_bad1 (o : Op5) (K N : List PV) [hK : PureL K] [hN : PureL N] (hk : K.length = 16) (hn : N.length = 2) (b : List Int) (hr : o.right = false) : PCall Try.prog 8 [.agg o.cells, .agg K, .agg N, .ro 1 false (ints .u8 b)] (.tup [.agg [.ro 1 false (ints .u8 []), .v (.int .i64 0)], .v (.int .i64 1)]) := by
  have oc : o.cells.length = 5 := rfl
  have hrt := rright_ok o
  rw [hr] at hrt
  refine pcall_mkg Try.func8 rfl [.cell 8 38, .tmp 9] Try.results8 50 rfl (tk_start ?_)
  (repeat refine ka ?_); refine kr ?_ ?_ ?_
  refine ps_box (c := o.cells) (sz := 5) (fun g0 => ?_)
  refine ps_box (c := K) (sz := 16) (fun g1 => ?_) (hs := hk)
  refine ps_box (c := N) (sz := 2) (fun g2 => ?_) (hs := hn)
  refine ps_alloc fun g3 => ?_
  refine pops_go ?_ ?_ (pops_end ?_)
  (repeat refine ka ?_); refine kr ?_ ?_ ?_
  refine ps_pcall hrt ?_
  refine pops_go ?_ ?_ (pops_end ?_)
  (repeat refine ka ?_); refine kct ?_
  (repeat refine ka ?_); refine kr ?_ ?_ ?_
  refine ps_store ?_
  refine pops_go ?_ ?_ (pops_end ?_)
  (repeat refine ka ?_); refine kret ?_; repeat (first | with_reducible refine beh_r ?_ | with_reducible refine blk_r ?_)
  refine ends_ret ?_ (retPV_2 res_cella res_tmp)
  exact gives_two (gives_agg2 .nil (.same (.v _))) (.same (.v _))
theorem rput16_bad2 (o : Op5) (K N : List PV) [hK : PureL K] [hN : PureL N] (hk : K.length = 16) (hn : N.length = 2) (b : List Int) (hr : o.right = true) (hl : 65536 < (b.length : Int)) (hl2 : b.length ≤ 1000000000) : PCall Try.prog 8 [.agg o.cells, .agg K, .agg N, .ro 1 false (ints .u8 b)] (.tup [.agg [.ro 1 false (ints .u8 []), .v (.int .i64 0)], .v (.int .i64 4)]) := by
  have oc : o.cells.length = 5 := rfl
  have hrt := rright_ok o
  rw [hr] at hrt
  refine pcall_mkg Try.func8 rfl [.cell 8 38, .tmp 9] Try.results8 50 rfl (tk_start ?_)
  (repeat refine ka ?_); refine kr ?_ ?_ ?_
  refine ps_box (c := o.cells) (sz := 5) (fun g0 => ?_)
  refine ps_box (c := K) (sz := 16) (fun g1 => ?_) (hs := hk)
  refine ps_box (c := N) (sz := 2) (fun g2 => ?_) (hs := hn)
  refine ps_alloc fun g3 => ?_
  refine pops_go ?_ ?_ (pops_end ?_)
  (repeat refine ka ?_); refine kr ?_ ?_ ?_
  refine ps_pcall hrt ?_
  refine pops_go ?_ ?_ (pops_end ?_)
  (repeat refine ka ?_); refine kcf ?_
  (repeat refine ka ?_); refine ksk ?_
  (repeat refine ka ?_); refine kr ?_ ?_ (pops_end ?_)
  (repeat refine ka ?_); refine kct ?_
  (repeat refine ka ?_); refine kr ?_ ?_ ?_
  refine ps_store ?_
  refine pops_go ?_ ?_ (pops_end ?_)
  (repeat refine ka ?_); refine kret ?_; repeat (first | with_reducible refine beh_r ?_ | with_reducible refine blk_r ?_)
  refine ends_ret ?_ (retPV_2 res_cella res_tmp)
  exact gives_two (gives_agg2 .nil (.same (.v _))) (.same (.v _))
theorem rput16_ok (o : Op5) (K N : List PV) [hK : PureL K] [hN : PureL N] (hk : K.length = 16) (hn : N.length = 2) (b : List Int) (st : List Int → List Int) (hb : Oct b) (hl : b.length ≤ 65536) (hr : o.right = true)
    (hs : ∀ l, Oct l → l.length ≤ 1000000 → PCall Try.prog 22 [.agg K, .agg N, .ro 1 false (ints .u8 l)] (.ro 1 false (ints .u8 (st l)))) :
    PCall Try.prog 8 [.agg o.cells, .agg K, .agg N, .ro 1 false (ints .u8 b)] (.tup [.agg [.ro 1 false (ints .u8 (c5 o st b)), .v (.int .i64 (c3 o b).length)], .v (.int .i64 0)]) := by
  have oc : o.cells.length = 5 := rfl
  have hrt := rright_ok o
  rw [hr] at hrt
  have k1 := c1_ok o hb
  have k2 := c2_ok o hb
  have k3 := c3_ok o hb
  have k4 := c4_ok o hb
  have ek : K.take 16 = K := by rw [← hk, List.take_length]
  have en : N.take 2 = N := by rw [← hn, List.take_length]
  refine pcall_mk Try.func8 rfl [.cell 8 38, .tmp 9] Try.results8 50 rfl (tk_start ?_)
  (repeat refine ka ?_); refine kr ?_ ?_ ?_
  refine ps_box (c := o.cells) (sz := 5) (fun g0 => ?_)
  refine ps_box (c := K) (sz := 16) (fun g1 => ?_) (hs := hk)
  refine ps_box (c := N) (sz := 2) (fun g2 => ?_) (hs := hn)
  refine ps_alloc fun g3 => ?_
  refine pops_go ?_ ?_ (pops_end ?_)
  (repeat refine ka ?_); refine kr ?_ ?_ ?_
  refine ps_pcall hrt ?_
  refine pops_go ?_ ?_ (pops_end ?_)
  (repeat refine ka ?_); refine kcf ?_
  (repeat refine ka ?_); refine ksk ?_
  (repeat refine ka ?_); refine kr ?_ ?_ (pops_end ?_)
  (repeat refine ka ?_); refine kcf ?_
  (repeat refine ka ?_); refine ksk ?_
  (repeat refine ka ?_); refine kr ?_ ?_ ?_
  refine ps_lit fun g4 => ?_
  refine pops_go ?_ ?_ ?_
  refine ps_app_vw (rows' := ints .u8 b) (m := b.length) (fun g => ?_) (hsrc := rfl) (hrows := List.nil_append _)
  refine pops_go ?_ ?_ (pops_end ?_)
  refine kfreeze 4 ?_
  refine kfzT 10 [4] (y := .ro 1 false (ints .u8 b)) ?_ (lend_ints (List.mem_singleton.2 rfl) rfl rfl rfl) (by simp)
  (repeat refine ka ?_); refine kr ?_ ?_ (pops_end ?_)
  refine kcut (fun _ : Unit => [(4, PV.ptr 0 g0 0 0), (5, .ptr 1 g1 0 0), (6, .ptr 2 g2 0 0), (8, .ptr 3 g3 0 0), (9, .v (.int .i64 0)), (10, .ro 1 false (ints .u8 (c1 o b)))]) (fun _ => [⟨g0, true, 5, [o.cells]⟩, ⟨g1, true, 16, [K]⟩, ⟨g2, true, 2, [N]⟩, ⟨g3, true, 2, [[.v (.slice none 0 0), .v (.int .i64 0)]]⟩]) (fun _ => True) ?_ ?_ (by simp)
  · by_cases hu : o.bcj = true
    · have hz : c1 o b = bcjF 1 b := by unfold c1; rw [if_pos hu]
      rw [hu]
      (repeat refine ka ?_); refine kct ?_
      (repeat refine ka ?_); refine kr ?_ ?_ ?_
      refine ps_pcall (rbcj_put b hb (by omega)) ?_
      refine pops_go ?_ ?_ (pops_end ?_)
      refine kn ?_; repeat (first | with_reducible refine blk_n ?_ | with_reducible refine beh_n ?_)
      refine ⟨(), trivial, ?_⟩
      rw [hz]
      exact (holds 4 (by repeat (first | exact .nil | refine has1 ?_)))
    · have hu2 : o.bcj = false := by simpa using hu
      have hz : c1 o b = b := by unfold c1; rw [if_neg hu]
      rw [hu2]
      (repeat refine ka ?_); refine kcf ?_
      (repeat refine ka ?_); refine ksk ?_
      refine kn ?_; repeat (first | with_reducible refine blk_n ?_ | with_reducible refine beh_n ?_)
      refine ⟨(), trivial, ?_⟩
      rw [hz]
      exact (holds 4 (by repeat (first | exact .nil | refine has1 ?_)))
  intro _ _
  (repeat refine ka ?_); refine kr ?_ ?_ ?_
  refine ps_pcall (rdelta_put (c1 o b) o.del (by omega)) ?_
  refine pops_go ?_ ?_ (pops_end ?_)
  (repeat refine ka ?_); refine kr ?_ ?_ (pops_end ?_)
  refine kcut (fun _ : Unit => [(4, PV.ptr 0 g0 0 0), (5, .ptr 1 g1 0 0), (6, .ptr 2 g2 0 0), (8, .ptr 3 g3 0 0), (9, .v (.int .i64 0)), (10, .ro 1 false (ints .u8 (c3 o b)))]) (fun _ => [⟨g0, true, 5, [o.cells]⟩, ⟨g1, true, 16, [K]⟩, ⟨g2, true, 2, [N]⟩, ⟨g3, true, 2, [[.v (.slice none 0 0), .v (.int .i64 0)]]⟩]) (fun _ => True) ?_ ?_ (by simp)
  · by_cases hu : o.lz = true
    · have hz : c3 o b = put (c2 o b) := by unfold c3; rw [if_pos hu]
      rw [hu]
      (repeat refine ka ?_); refine kct ?_
      (repeat refine ka ?_); refine kr ?_ ?_ ?_
      refine ps_pcall (rput_ok (c2 o b) k2.1 (by omega)) ?_
      refine pops_go ?_ ?_ (pops_end ?_)
      refine kn ?_; repeat (first | with_reducible refine blk_n ?_ | with_reducible refine beh_n ?_)
      refine ⟨(), trivial, ?_⟩
      rw [hz]
      exact (holds 4 (by repeat (first | exact .nil | refine has1 ?_)))
    · have hu2 : o.lz = false := by simpa using hu
      have hz : c3 o b = c2 o b := by unfold c3; rw [if_neg hu]
      rw [hu2]
      (repeat refine ka ?_); refine kcf ?_
      (repeat refine ka ?_); refine ksk ?_
      refine kn ?_; repeat (first | with_reducible refine blk_n ?_ | with_reducible refine beh_n ?_)
      refine ⟨(), trivial, ?_⟩
      rw [hz]
      exact (holds 4 (by repeat (first | exact .nil | refine has1 ?_)))
  intro _ _
  (repeat refine ka ?_); refine kr ?_ ?_ (pops_end ?_)
  (repeat refine ka ?_); refine kr ?_ ?_ (pops_end ?_)
  refine kcut (fun _ : Unit => [(4, PV.ptr 0 g0 0 0), (5, .ptr 1 g1 0 0), (6, .ptr 2 g2 0 0), (8, .ptr 3 g3 0 0), (9, .v (.int .i64 0)), (10, .ro 1 false (ints .u8 (c4 o b))), (11, .v (.int .i64 (c3 o b).length))]) (fun _ => [⟨g0, true, 5, [o.cells]⟩, ⟨g1, true, 16, [K]⟩, ⟨g2, true, 2, [N]⟩, ⟨g3, true, 2, [[.v (.slice none 0 0), .v (.int .i64 0)]]⟩]) (fun _ => True) ?_ ?_ (by simp)
  · by_cases hu : o.rng = true
    · have hz : c4 o b = rput (c3 o b) := by unfold c4; rw [if_pos hu]
      rw [hu]
      (repeat refine ka ?_); refine kct ?_
      (repeat refine ka ?_); refine kr ?_ ?_ ?_
      refine ps_pcall (ref_put (c3 o b) k3.1 (by omega)) ?_
      refine pops_go ?_ ?_ (pops_end ?_)
      refine kn ?_; repeat (first | with_reducible refine blk_n ?_ | with_reducible refine beh_n ?_)
      refine ⟨(), trivial, ?_⟩
      rw [hz]
      exact (holds 4 (by repeat (first | exact .nil | refine has1 ?_)))
    · have hu2 : o.rng = false := by simpa using hu
      have hz : c4 o b = c3 o b := by unfold c4; rw [if_neg hu]
      rw [hu2]
      (repeat refine ka ?_); refine kcf ?_
      (repeat refine ka ?_); refine ksk ?_
      refine kn ?_; repeat (first | with_reducible refine blk_n ?_ | with_reducible refine beh_n ?_)
      refine ⟨(), trivial, ?_⟩
      rw [hz]
      exact (holds 4 (by repeat (first | exact .nil | refine has1 ?_)))
  intro _ _
  (repeat refine ka ?_); refine kr ?_ ?_ (pops_end ?_)
  refine kcut (fun _ : Unit => [(4, PV.ptr 0 g0 0 0), (5, .ptr 1 g1 0 0), (6, .ptr 2 g2 0 0), (8, .ptr 3 g3 0 0), (9, .v (.int .i64 0)), (10, .ro 1 false (ints .u8 (c5 o st b))), (11, .v (.int .i64 (c3 o b).length))]) (fun _ => [⟨g0, true, 5, [o.cells]⟩, ⟨g1, true, 16, [K]⟩, ⟨g2, true, 2, [N]⟩, ⟨g3, true, 2, [[.v (.slice none 0 0), .v (.int .i64 0)]]⟩]) (fun _ => True) ?_ ?_ (by simp)
  · by_cases hu : o.cry = true
    · have hz : c5 o st b = st (c4 o b) := by unfold c5; rw [if_pos hu]
      rw [hu]
      (repeat refine ka ?_); refine kct ?_
      (repeat refine ka ?_); refine kr ?_ ?_ ?_
      rw [ek, en]
      refine ps_pcall (hs (c4 o b) k4.1 (by omega)) ?_
      refine pops_go ?_ ?_ (pops_end ?_)
      refine kn ?_; repeat (first | with_reducible refine blk_n ?_ | with_reducible refine beh_n ?_)
      refine ⟨(), trivial, ?_⟩
      rw [hz]
      exact (holds 4 (by repeat (first | exact .nil | refine has1 ?_)))
    · have hu2 : o.cry = false := by simpa using hu
      have hz : c5 o st b = c4 o b := by unfold c5; rw [if_neg hu]
      rw [hu2]
      (repeat refine ka ?_); refine kcf ?_
      (repeat refine ka ?_); refine ksk ?_
      refine kn ?_; repeat (first | with_reducible refine blk_n ?_ | with_reducible refine beh_n ?_)
      refine ⟨(), trivial, ?_⟩
      rw [hz]
      exact (holds 4 (by repeat (first | exact .nil | refine has1 ?_)))
  intro _ _
  (repeat refine ka ?_); refine kr ?_ ?_ ?_
  refine ps_store ?_
  refine pops_go ?_ ?_ (pops_end ?_)
  (repeat refine ka ?_); refine kret ?_; repeat (first | with_reducible refine beh_r ?_ | with_reducible refine blk_r ?_)
  refine ends_ret ?_ (retPV_2 res_cella res_tmp)
  rfl
end Go.Proofs.Yteocmeidkdhmiaa.Pv
