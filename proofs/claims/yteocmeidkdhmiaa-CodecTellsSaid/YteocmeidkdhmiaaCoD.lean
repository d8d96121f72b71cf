-- codec.Put.
import Derived.Test.YteocmeidkdhmiaaCoC
namespace Go.Proofs.Yteocmeidkdhmiaa.Pv
set_option linter.all false
open Go.RowKit Go.Proofs
set_option maxRecDepth 100000
set_option maxHeartbeats 4000000
/-- What stands ahead of each coder. -/
def cx (o : Op5) (st : List Int → List Int) (b : List Int) : Nat → List Int
  | 0 => b
  | 1 => c1 o b
  | 2 => c2 o b
  | 3 => c3 o b
  | 4 => c4 o b
  | _ => c5 o st b
def cm (o : Op5) (b : List Int) (j : Nat) : Int := if j < 4 then 0 else (c3 o b).length
theorem coders_length (o : Op5) (K N : List PV) : (coderRows o K N).length = 5 := rfl
theorem cput_ok (o : Op5) (K N : List PV) [hK : PureL K] [hN : PureL N] (hk : K.length = 16) (hn : N.length = 2) (st : List Int → List Int) (b : List Int) (hb : Oct b) (hl : b.length ≤ 65536) (hr : o.right = true)
    (hs : ∀ l, Oct l → l.length ≤ 1000000 → PCall Try.prog 29 [.agg K, .agg N, .ro 1 false (ints .u8 l)] (.ro 1 false (ints .u8 (st l)))) :
    PCall Try.prog 7 [.agg o.cells, .agg K, .agg N, .ro 1 false (ints .u8 b)] (.tup [.agg [.ro 1 false (ints .u8 (c5 o st b)), .v (.int .i64 (c3 o b).length)], .v (.int .i64 0)]) := by
  have oc : o.cells.length = 5 := rfl
  have hrt := right_ok o
  rw [hr] at hrt
  have hcl := clone_ok b (by omega)
  have hcd := coders_ok o K N hk hn
  have hlen := coders_length o K N
  have k1 := c1_ok o hb
  have k2 := c2_ok o hb
  have k3 := c3_ok o hb
  have k4 := c4_ok o hb
  have ek : K.take 16 = K := by rw [← hk, List.take_length]
  have en : N.take 2 = N := by rw [← hn, List.take_length]
  refine pcall_mk Try.func7 rfl [.cell 8 33, .tmp 9] Try.results7 51 rfl (tk_start ?_)
  (repeat refine ka ?_); refine kr ?_ ?_ ?_
  refine ps_box (c := o.cells) (sz := 5) (fun g0 => ?_)
  refine ps_box (c := K) (sz := 16) (fun g1 => ?_) (hs := hk)
  refine ps_box (c := N) (sz := 2) (fun g2 => ?_) (hs := hn)
  refine ps_alloc fun g3 => ?_
  refine pops_go ?_ ?_ (pops_end ?_)
  (repeat refine ka ?_); refine kb ?_
  (repeat refine ka ?_); refine kr ?_ ?_ ?_
  refine ps_pcall hrt ?_
  refine pops_go ?_ ?_ (pops_end ?_)
  (repeat refine ka ?_); refine kcf ?_
  (repeat refine ka ?_); refine kr ?_ ?_ (pops_end ?_)
  (repeat refine ka ?_); refine kcf ?_
  (repeat refine ka ?_); refine ksk ?_
  refine kn ?_; repeat (first | with_reducible refine blk_n ?_ | with_reducible refine beh_n ?_)
  (repeat refine ka ?_); refine kr ?_ ?_ ?_
  refine ps_pcall hcl ?_
  refine pops_go ?_ ?_ ?_
  refine ps_alloc fun g4 => ?_
  refine ps_store ?_
  refine pops_nil ?_
  (repeat refine ka ?_); refine kr ?_ ?_ ?_
  rw [ek, en]
  refine ps_pcall hcd ?_
  refine pops_go ?_ ?_ (pops_end ?_)
  (repeat refine ka ?_); refine kb ?_
  refine kw (fun j : Nat => [(8, PV.ptr 3 g3 0 0), (9, .v (.int .i64 0)), (10, .ptr 4 g4 0 0), (29, .ro 4 false (coderRows o K N)), (30, .v (.int .i64 5)), (31, .v (.int .i64 j))]) (fun j => [⟨g0, true, 5, [o.cells]⟩, ⟨g1, true, 16, [K]⟩, ⟨g2, true, 2, [N]⟩, ⟨g3, true, 2, [[.v (.slice none 0 0), .v (.int .i64 0)]]⟩, ⟨g4, true, 2, [[.ro 1 false (ints .u8 (cx o st b j)), .v (.int .i64 (cm o b j))]]⟩]) (fun j => j ≤ 5) (fun j => 5 - j) 0 (by decide) (holds 5 (by repeat (first | exact .nil | refine has1 ?_))) ?_
  intro j hj
  have hc : j = 0 ∨ j = 1 ∨ j = 2 ∨ j = 3 ∨ j = 4 ∨ j = 5 := by omega
  rcases hc with rfl | rfl | rfl | rfl | rfl | rfl <;> simp only [Int.cast_ofNat_Int]
  · by_cases hu : o.bcj = true
    · have hcall := lbcj_put b hb (by omega)
      have hz : bcjF 1 b = cx o st b 1 := by show _ = c1 o b; unfold c1; rw [if_pos hu]
      rw [hz] at hcall
      (repeat refine ka ?_); refine kr ?_ ?_ (pops_end ?_)
      (repeat refine ka ?_); refine kct ?_
      (repeat refine ka ?_); refine ksk ?_
      (repeat refine ka ?_); refine kb ?_
      (repeat refine ka ?_); refine kr ?_ ?_ ?_
      refine ps_alloc fun g5 => ?_
      refine ps_store ?_
      refine pops_nil ?_
      (repeat refine ka ?_); refine kr ?_ ?_ (pops_end ?_)
      (repeat refine ka ?_); refine kcf ?_
      (repeat refine ka ?_); refine ksk ?_
      (repeat refine ka ?_); refine kr ?_ ?_ (pops_end ?_)
      rw [hu]
      (repeat refine ka ?_); refine kct ?_
      (repeat refine ka ?_); refine kr ?_ ?_ ?_
      refine ps_vpcall hcall ?_
      refine pops_go ?_ ?_ ?_
      refine ps_store ?_
      refine pops_nil ?_
      refine kn ?_; repeat (first | with_reducible refine blk_n ?_ | with_reducible refine beh_n ?_)
      (repeat refine ka ?_); refine kr ?_ ?_ (pops_end ?_)
      refine kn ?_; repeat (first | with_reducible refine blk_n ?_ | with_reducible refine beh_n ?_)
      refine ⟨1, by decide, by decide, ?_⟩
      exact (holds 5 (by repeat (first | exact .nil | refine has1 ?_)))
    · have hu2 : o.bcj = false := by simpa using hu
      have hz : cx o st b 1 = cx o st b 0 := by show c1 o b = b; unfold c1; rw [if_neg hu]
      (repeat refine ka ?_); refine kr ?_ ?_ (pops_end ?_)
      (repeat refine ka ?_); refine kct ?_
      (repeat refine ka ?_); refine ksk ?_
      (repeat refine ka ?_); refine kb ?_
      (repeat refine ka ?_); refine kr ?_ ?_ ?_
      refine ps_alloc fun g5 => ?_
      refine ps_store ?_
      refine pops_nil ?_
      (repeat refine ka ?_); refine kr ?_ ?_ (pops_end ?_)
      (repeat refine ka ?_); refine kcf ?_
      (repeat refine ka ?_); refine ksk ?_
      (repeat refine ka ?_); refine kr ?_ ?_ (pops_end ?_)
      rw [hu2]
      (repeat refine ka ?_); refine kcf ?_
      (repeat refine ka ?_); refine ksk ?_
      refine kn ?_; repeat (first | with_reducible refine blk_n ?_ | with_reducible refine beh_n ?_)
      (repeat refine ka ?_); refine kr ?_ ?_ (pops_end ?_)
      refine kn ?_; repeat (first | with_reducible refine blk_n ?_ | with_reducible refine beh_n ?_)
      refine ⟨1, by decide, by decide, ?_⟩
      rw [hz]
      exact (holds 5 (by repeat (first | exact .nil | refine has1 ?_)))
  · have hcall := dput_ok o (c1 o b) (by omega)
    have hz : cx o st b 2 = deltaP (c1 o b) o.del := rfl
    (repeat refine ka ?_); refine kr ?_ ?_ (pops_end ?_)
    (repeat refine ka ?_); refine kct ?_
    (repeat refine ka ?_); refine ksk ?_
    (repeat refine ka ?_); refine kb ?_
    (repeat refine ka ?_); refine kr ?_ ?_ ?_
    refine ps_alloc fun g5 => ?_
    refine ps_store ?_
    refine pops_nil ?_
    (repeat refine ka ?_); refine kr ?_ ?_ (pops_end ?_)
    (repeat refine ka ?_); refine kcf ?_
    (repeat refine ka ?_); refine ksk ?_
    (repeat refine ka ?_); refine kr ?_ ?_ (pops_end ?_)
    (repeat refine ka ?_); refine kct ?_
    (repeat refine ka ?_); refine kr ?_ ?_ ?_
    refine ps_vpcall hcall ?_
    refine pops_go ?_ ?_ ?_
    refine ps_store ?_
    refine pops_nil ?_
    refine kn ?_; repeat (first | with_reducible refine blk_n ?_ | with_reducible refine beh_n ?_)
    (repeat refine ka ?_); refine kr ?_ ?_ (pops_end ?_)
    refine kn ?_; repeat (first | with_reducible refine blk_n ?_ | with_reducible refine beh_n ?_)
    refine ⟨2, by decide, by decide, ?_⟩
    exact (holds 5 (by repeat (first | exact .nil | refine has1 ?_)))
  · by_cases hu : o.lz = true
    · have hcall := put_ok (c2 o b) k2.1 (by omega)
      have hz : put (c2 o b) = cx o st b 3 := by show _ = c3 o b; unfold c3; rw [if_pos hu]
      rw [hz] at hcall
      (repeat refine ka ?_); refine kr ?_ ?_ (pops_end ?_)
      (repeat refine ka ?_); refine kct ?_
      (repeat refine ka ?_); refine ksk ?_
      (repeat refine ka ?_); refine kb ?_
      (repeat refine ka ?_); refine kr ?_ ?_ ?_
      refine ps_alloc fun g5 => ?_
      refine ps_store ?_
      refine pops_nil ?_
      (repeat refine ka ?_); refine kr ?_ ?_ (pops_end ?_)
      (repeat refine ka ?_); refine kcf ?_
      (repeat refine ka ?_); refine ksk ?_
      (repeat refine ka ?_); refine kr ?_ ?_ (pops_end ?_)
      rw [hu]
      (repeat refine ka ?_); refine kct ?_
      (repeat refine ka ?_); refine kr ?_ ?_ ?_
      refine ps_vpcall hcall ?_
      refine pops_go ?_ ?_ ?_
      refine ps_store ?_
      refine pops_nil ?_
      refine kn ?_; repeat (first | with_reducible refine blk_n ?_ | with_reducible refine beh_n ?_)
      (repeat refine ka ?_); refine kr ?_ ?_ (pops_end ?_)
      refine kn ?_; repeat (first | with_reducible refine blk_n ?_ | with_reducible refine beh_n ?_)
      refine ⟨3, by decide, by decide, ?_⟩
      exact (holds 5 (by repeat (first | exact .nil | refine has1 ?_)))
    · have hu2 : o.lz = false := by simpa using hu
      have hz : cx o st b 3 = cx o st b 2 := by show c3 o b = c2 o b; unfold c3; rw [if_neg hu]
      (repeat refine ka ?_); refine kr ?_ ?_ (pops_end ?_)
      (repeat refine ka ?_); refine kct ?_
      (repeat refine ka ?_); refine ksk ?_
      (repeat refine ka ?_); refine kb ?_
      (repeat refine ka ?_); refine kr ?_ ?_ ?_
      refine ps_alloc fun g5 => ?_
      refine ps_store ?_
      refine pops_nil ?_
      (repeat refine ka ?_); refine kr ?_ ?_ (pops_end ?_)
      (repeat refine ka ?_); refine kcf ?_
      (repeat refine ka ?_); refine ksk ?_
      (repeat refine ka ?_); refine kr ?_ ?_ (pops_end ?_)
      rw [hu2]
      (repeat refine ka ?_); refine kcf ?_
      (repeat refine ka ?_); refine ksk ?_
      refine kn ?_; repeat (first | with_reducible refine blk_n ?_ | with_reducible refine beh_n ?_)
      (repeat refine ka ?_); refine kr ?_ ?_ (pops_end ?_)
      refine kn ?_; repeat (first | with_reducible refine blk_n ?_ | with_reducible refine beh_n ?_)
      refine ⟨3, by decide, by decide, ?_⟩
      rw [hz]
      exact (holds 5 (by repeat (first | exact .nil | refine has1 ?_)))
  · by_cases hu : o.rng = true
    · have hcall := rc_put (c3 o b) k3.1 (by omega)
      have hz : rput (c3 o b) = cx o st b 4 := by show _ = c4 o b; unfold c4; rw [if_pos hu]
      rw [hz] at hcall
      (repeat refine ka ?_); refine kr ?_ ?_ (pops_end ?_)
      (repeat refine ka ?_); refine kct ?_
      (repeat refine ka ?_); refine ksk ?_
      (repeat refine ka ?_); refine kb ?_
      (repeat refine ka ?_); refine kr ?_ ?_ ?_
      refine ps_alloc fun g5 => ?_
      refine ps_store ?_
      refine pops_nil ?_
      (repeat refine ka ?_); refine kr ?_ ?_ (pops_end ?_)
      (repeat refine ka ?_); refine kct ?_
      (repeat refine ka ?_); refine kr ?_ ?_ ?_
      refine ps_store ?_
      refine pops_nil ?_
      (repeat refine ka ?_); refine kr ?_ ?_ (pops_end ?_)
      rw [hu]
      (repeat refine ka ?_); refine kct ?_
      (repeat refine ka ?_); refine kr ?_ ?_ ?_
      refine ps_vpcall hcall ?_
      refine pops_go ?_ ?_ ?_
      refine ps_store ?_
      refine pops_nil ?_
      refine kn ?_; repeat (first | with_reducible refine blk_n ?_ | with_reducible refine beh_n ?_)
      (repeat refine ka ?_); refine kr ?_ ?_ (pops_end ?_)
      refine kn ?_; repeat (first | with_reducible refine blk_n ?_ | with_reducible refine beh_n ?_)
      refine ⟨4, by decide, by decide, ?_⟩
      exact (holds 5 (by repeat (first | exact .nil | refine has1 ?_)))
    · have hu2 : o.rng = false := by simpa using hu
      have hz : cx o st b 4 = cx o st b 3 := by show c4 o b = c3 o b; unfold c4; rw [if_neg hu]
      (repeat refine ka ?_); refine kr ?_ ?_ (pops_end ?_)
      (repeat refine ka ?_); refine kct ?_
      (repeat refine ka ?_); refine ksk ?_
      (repeat refine ka ?_); refine kb ?_
      (repeat refine ka ?_); refine kr ?_ ?_ ?_
      refine ps_alloc fun g5 => ?_
      refine ps_store ?_
      refine pops_nil ?_
      (repeat refine ka ?_); refine kr ?_ ?_ (pops_end ?_)
      (repeat refine ka ?_); refine kct ?_
      (repeat refine ka ?_); refine kr ?_ ?_ ?_
      refine ps_store ?_
      refine pops_nil ?_
      (repeat refine ka ?_); refine kr ?_ ?_ (pops_end ?_)
      rw [hu2]
      (repeat refine ka ?_); refine kcf ?_
      (repeat refine ka ?_); refine ksk ?_
      refine kn ?_; repeat (first | with_reducible refine blk_n ?_ | with_reducible refine beh_n ?_)
      (repeat refine ka ?_); refine kr ?_ ?_ (pops_end ?_)
      refine kn ?_; repeat (first | with_reducible refine blk_n ?_ | with_reducible refine beh_n ?_)
      refine ⟨4, by decide, by decide, ?_⟩
      rw [hz]
      exact (holds 5 (by repeat (first | exact .nil | refine has1 ?_)))
  · by_cases hu : o.cry = true
    · have hcall := crypt_ok K N hK hN _ _ (hs (c4 o b) k4.1 (by omega)) hk hn
      have hz : st (c4 o b) = cx o st b 5 := by show _ = c5 o st b; unfold c5; rw [if_pos hu]
      rw [hz] at hcall
      (repeat refine ka ?_); refine kr ?_ ?_ (pops_end ?_)
      (repeat refine ka ?_); refine kct ?_
      (repeat refine ka ?_); refine ksk ?_
      (repeat refine ka ?_); refine kb ?_
      (repeat refine ka ?_); refine kr ?_ ?_ ?_
      refine ps_alloc fun g5 => ?_
      refine ps_store ?_
      refine pops_nil ?_
      (repeat refine ka ?_); refine kr ?_ ?_ (pops_end ?_)
      (repeat refine ka ?_); refine kcf ?_
      (repeat refine ka ?_); refine ksk ?_
      (repeat refine ka ?_); refine kr ?_ ?_ (pops_end ?_)
      rw [hu]
      (repeat refine ka ?_); refine kct ?_
      (repeat refine ka ?_); refine kr ?_ ?_ ?_
      refine ps_vpcall hcall ?_
      refine pops_go ?_ ?_ ?_
      refine ps_store ?_
      refine pops_nil ?_
      refine kn ?_; repeat (first | with_reducible refine blk_n ?_ | with_reducible refine beh_n ?_)
      (repeat refine ka ?_); refine kr ?_ ?_ (pops_end ?_)
      refine kn ?_; repeat (first | with_reducible refine blk_n ?_ | with_reducible refine beh_n ?_)
      refine ⟨5, by decide, by decide, ?_⟩
      exact (holds 5 (by repeat (first | exact .nil | refine has1 ?_)))
    · have hu2 : o.cry = false := by simpa using hu
      have hz : cx o st b 5 = cx o st b 4 := by show c5 o st b = c4 o b; unfold c5; rw [if_neg hu]
      (repeat refine ka ?_); refine kr ?_ ?_ (pops_end ?_)
      (repeat refine ka ?_); refine kct ?_
      (repeat refine ka ?_); refine ksk ?_
      (repeat refine ka ?_); refine kb ?_
      (repeat refine ka ?_); refine kr ?_ ?_ ?_
      refine ps_alloc fun g5 => ?_
      refine ps_store ?_
      refine pops_nil ?_
      (repeat refine ka ?_); refine kr ?_ ?_ (pops_end ?_)
      (repeat refine ka ?_); refine kcf ?_
      (repeat refine ka ?_); refine ksk ?_
      (repeat refine ka ?_); refine kr ?_ ?_ (pops_end ?_)
      rw [hu2]
      (repeat refine ka ?_); refine kcf ?_
      (repeat refine ka ?_); refine ksk ?_
      refine kn ?_; repeat (first | with_reducible refine blk_n ?_ | with_reducible refine beh_n ?_)
      (repeat refine ka ?_); refine kr ?_ ?_ (pops_end ?_)
      refine kn ?_; repeat (first | with_reducible refine blk_n ?_ | with_reducible refine beh_n ?_)
      refine ⟨5, by decide, by decide, ?_⟩
      rw [hz]
      exact (holds 5 (by repeat (first | exact .nil | refine has1 ?_)))
  · (repeat refine ka ?_); refine kr ?_ ?_ (pops_end ?_)
    (repeat refine ka ?_); refine kcf ?_
    (repeat refine ka ?_); refine kx ?_; (repeat (first | with_reducible refine beh_x ?_ | with_reducible refine blk_up rfl ?_)); refine blk_here ?_; refine beh_n ?_
    (repeat refine ka ?_); refine kr ?_ ?_ ?_
    refine ps_store ?_
    refine pops_go ?_ ?_ (pops_end ?_)
    (repeat refine ka ?_); refine kret ?_; repeat (first | with_reducible refine beh_r ?_ | with_reducible refine blk_r ?_)
    refine ends_ret ?_ (retPV_2 res_cella res_tmp)
    rfl
end Go.Proofs.Yteocmeidkdhmiaa.Pv
