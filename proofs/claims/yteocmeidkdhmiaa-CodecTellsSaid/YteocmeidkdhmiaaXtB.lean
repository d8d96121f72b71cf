-- xtea: From of the program.
import Derived.Test.YteocmeidkdhmiaaXtA
namespace Go.Proofs.Yteocmeidkdhmiaa.Pv
set_option linter.all false
open Go.RowKit Go.Proofs
set_option maxRecDepth 100000
set_option maxHeartbeats 4000000
theorem from_ok (k0 k1 k2 k3 k4 k5 k6 k7 k8 k9 k10 k11 k12 k13 k14 k15 n0 n1 blk : Int) (B : Int → Int → Int × Int) (hB : BlockIs 64 k0 k1 k2 k3 k4 k5 k6 k7 k8 k9 k10 k11 k12 k13 k14 k15 B) (h0 : U32 n0) (h1 : U32 n1) (h2 : U32 blk) (l : List Int) (hl : l.length ≤ 1000000) :
    PCall Try.prog 47 [.agg [.v (.int .u8 k0), .v (.int .u8 k1), .v (.int .u8 k2), .v (.int .u8 k3), .v (.int .u8 k4), .v (.int .u8 k5), .v (.int .u8 k6), .v (.int .u8 k7), .v (.int .u8 k8), .v (.int .u8 k9), .v (.int .u8 k10), .v (.int .u8 k11), .v (.int .u8 k12), .v (.int .u8 k13), .v (.int .u8 k14), .v (.int .u8 k15)], .agg [.v (.int .u32 n0), .v (.int .u32 n1)], .v (.int .u32 blk), .ro 1 false (ints .u8 l)] (.ro 1 false (ints .u8 (pre (xb B n0 n1 blk l) l.length))) := by
  refine pcall_mkg Try.func47 rfl [.tmp 8] Try.results47 67 rfl (tk_start ?_)
  (repeat refine ka ?_); refine kr ?_ ?_ ?_
  refine ps_box fun g0 => ?_
  refine ps_box fun g1 => ?_
  refine pops_go ?_ ?_ (pops_end ?_)
  (repeat refine ka ?_); refine kr ?_ ?_ ?_
  refine ps_make l.length (hl := rfl) fun g2 => ?_
  have hrep : List.replicate l.length [PV.v (.int .u8 0)] = ints .u8 (List.replicate l.length 0) := by simp [ints]
  rw [hrep]
  refine pops_go ?_ ?_ (pops_end ?_)
  (repeat refine ka ?_); refine kr ?_ ?_ ?_
  have hrow : (ints .u8 (List.replicate l.length 0)).take 0 ++ (ints .u8 l).take l.length ++ (ints .u8 (List.replicate l.length 0)).drop (0 + l.length) = ints .u8 l := by
    rw [ints_take, ints_take, ints_drop, List.take_length]
    simp [ints]
  refine ps_copy (m := l.length) (rows := ints .u8 l) (k := ?_) (hsrc := rfl) (hm := by rw [ints_length]; omega) (hS := rfl)
  simp only [List.set_cons_succ, List.set_cons_zero, hrow]
  refine pops_nil ?_
  (repeat refine ka ?_); refine kr ?_ ?_ (pops_end ?_)
  (repeat refine ka ?_); refine kb ?_
  obtain ⟨x, hxd⟩ : ∃ x, x = xb B n0 n1 blk l := ⟨_, rfl⟩
  rw [← hxd]
  refine kw (fun j : Nat => [(2, .v (.int .u32 ((blk + j) % 4294967296))), (4, .ptr 0 g0 0 0), (5, .ptr 1 g1 0 0), (9, .vw 2 g2 0 l.length), (10, .v (.int .i64 (8 * j : Nat)))]) (fun j => [⟨g0, true, 16, [[.v (.int .u8 k0), .v (.int .u8 k1), .v (.int .u8 k2), .v (.int .u8 k3), .v (.int .u8 k4), .v (.int .u8 k5), .v (.int .u8 k6), .v (.int .u8 k7), .v (.int .u8 k8), .v (.int .u8 k9), .v (.int .u8 k10), .v (.int .u8 k11), .v (.int .u8 k12), .v (.int .u8 k13), .v (.int .u8 k14), .v (.int .u8 k15)]]⟩, ⟨g1, true, 2, [[.v (.int .u32 n0), .v (.int .u32 n1)]]⟩, ⟨g2, true, 1, ints .u8 (xpart l x (8 * j))⟩]) (fun j => 8 * j ≤ l.length + 7) (fun j => l.length + 8 - 8 * j) 0 (by omega)
    (by have e1 : xpart l x (8 * 0) = l := xpart_zero l x
        have e2 : (blk + ((0 : Nat) : Int)) % 4294967296 = blk := by have := h2.1; have := h2.2; omega
        simp only [e1, e2]
        exact (holds 3 (by repeat (first | exact .nil | refine has1 ?_)))) ?_
  intro j hj
  by_cases hg : ((8 * j : Nat) : Int) < l.length
  rotate_left
  · rw [xpart_all l x (8 * j) (by omega)]
    (repeat refine ka ?_); refine kr ?_ ?_ (pops_end ?_)
    (repeat refine ka ?_); refine kcf ?_
    (repeat refine ka ?_); refine kx ?_; (repeat (first | with_reducible refine beh_x ?_ | with_reducible refine blk_up rfl ?_)); refine blk_here ?_; refine beh_n ?_
    (repeat refine ka ?_); refine kr ?_ ?_ (pops_end ?_)
    (repeat refine ka ?_); refine kret ?_; repeat (first | with_reducible refine beh_r ?_ | with_reducible refine blk_r ?_)
    refine ends_ret ?_ retPV_one
    exact gives_ints rfl rfl (pre_length _ _)
  have hU : U32 ((n0 + (blk + j) % 4294967296) % 4294967296) := ⟨by omega, by omega⟩
  have ev : (n0 + (blk + (j : Int)) % 4294967296) % 4294967296 = (n0 + blk + (j : Nat)) % 4294967296 := by omega
  obtain ⟨q1, q2, q3⟩ := hB _ n1 hU h1
  have e0 : B ((n0 + (blk + (j : Int)) % 4294967296) % 4294967296) n1 = B ((n0 + blk + (j : Nat)) % 4294967296) n1 := by rw [ev]
  rw [e0] at q1 q2 q3
  clear ev
  have hx : ∀ i : Nat, i < 8 → 8 * j + i < l.length → x (8 * j + i) = Go.bits .xor .u8 (l.getD (8 * j + i) 0) ((if (8 * j + i) / 4 % 2 = 0 then (B ((n0 + blk + (j : Nat)) % 4294967296) n1).1 else (B ((n0 + blk + (j : Nat)) % 4294967296) n1).2) / 256 ^ ((8 * j + i) % 4) % 256) := by
    intro i hi hi2
    rw [hxd]
    unfold xb sb
    rw [show (8 * j + i) / 8 = j by omega]
  generalize B ((n0 + blk + (j : Nat)) % 4294967296) n1 = W at *
  clear hB e0 hxd
  have q1l := q1.1
  have q1h := q1.2
  have q2l := q2.1
  have q2h := q2.2
  (repeat refine ka ?_); refine kr ?_ ?_ (pops_end ?_)
  (repeat refine ka ?_); refine kct ?_
  (repeat refine ka ?_); refine ksk ?_
  (repeat refine ka ?_); refine kb ?_
  (repeat refine ka ?_); refine kr ?_ ?_ ?_
  refine ps_pcall q3 ?_
  refine pops_go ?_ ?_ ?_
  refine ps_alloc fun g3 => ?_
  refine ps_store ?_
  refine pops_nil ?_
  have hlen : (xpart l x (8 * j)).length = l.length := xpart_length _ _ _
  obtain ⟨cnt, hcnt⟩ : ∃ cnt : Nat, cnt = min 8 (l.length - 8 * j) := ⟨_, rfl⟩
  have hsub : (if (l.length : Int) < ((8 * j : Nat) : Int) + 8 then (l.length : Int) else ((8 * j : Nat) : Int) + 8).toNat - (((8 * j : Nat) : Int)).toNat = cnt := by split <;> omega
  (repeat refine ka ?_); refine kr ?_ ?_ (pops_end ?_)
  rw [hsub]
  (repeat refine ka ?_)
  refine kcut (fun _ : Unit => [(2, .v (.int .u32 ((blk + j) % 4294967296))), (4, .ptr 0 g0 0 0), (5, .ptr 1 g1 0 0), (9, .vw 2 g2 0 l.length), (10, .v (.int .i64 (8 * j : Nat)))]) (fun _ => [⟨g0, true, 16, [[.v (.int .u8 k0), .v (.int .u8 k1), .v (.int .u8 k2), .v (.int .u8 k3), .v (.int .u8 k4), .v (.int .u8 k5), .v (.int .u8 k6), .v (.int .u8 k7), .v (.int .u8 k8), .v (.int .u8 k9), .v (.int .u8 k10), .v (.int .u8 k11), .v (.int .u8 k12), .v (.int .u8 k13), .v (.int .u8 k14), .v (.int .u8 k15)]]⟩, ⟨g1, true, 2, [[.v (.int .u32 n0), .v (.int .u32 n1)]]⟩, ⟨g2, true, 1, ints .u8 (xpart l x (8 * j + cnt))⟩]) (fun _ => True) ?_ ?_ (by simp)
  · (repeat refine ka ?_); refine kb ?_
    refine kw (fun i : Nat => [(2, .v (.int .u32 ((blk + j) % 4294967296))), (4, .ptr 0 g0 0 0), (5, .ptr 1 g1 0 0), (9, .vw 2 g2 0 l.length), (10, .v (.int .i64 (8 * j : Nat))), (11, .ptr 3 g3 0 0), (42, .v (.int .i64 cnt)), (43, .v (.int .i64 i))]) (fun i => [⟨g0, true, 16, [[.v (.int .u8 k0), .v (.int .u8 k1), .v (.int .u8 k2), .v (.int .u8 k3), .v (.int .u8 k4), .v (.int .u8 k5), .v (.int .u8 k6), .v (.int .u8 k7), .v (.int .u8 k8), .v (.int .u8 k9), .v (.int .u8 k10), .v (.int .u8 k11), .v (.int .u8 k12), .v (.int .u8 k13), .v (.int .u8 k14), .v (.int .u8 k15)]]⟩, ⟨g1, true, 2, [[.v (.int .u32 n0), .v (.int .u32 n1)]]⟩, ⟨g2, true, 1, ints .u8 (xpart l x (8 * j + i))⟩, ⟨g3, true, 2, [[.v (.int .u32 W.1), .v (.int .u32 W.2)]]⟩]) (fun i => i ≤ cnt) (fun i => cnt - i) 0 (by omega) (holds 4 (by repeat (first | exact .nil | refine has1 ?_))) ?_
    intro i hi
    by_cases hd : i = cnt
    · subst hd
      (repeat refine ka ?_); refine kr ?_ ?_ (pops_end ?_)
      (repeat refine ka ?_); refine kcf ?_
      (repeat refine ka ?_); refine kx ?_; (repeat (first | with_reducible refine beh_x ?_ | with_reducible refine blk_up rfl ?_)); refine blk_here ?_; refine beh_n ?_
      refine kn ?_; repeat (first | with_reducible refine blk_n ?_ | with_reducible refine beh_n ?_)
      exact ⟨(), trivial, (holds 3 (by repeat (first | exact .nil | refine has1 ?_)))⟩
    · obtain rfl | rfl | rfl | rfl | rfl | rfl | rfl | rfl : i = 0 ∨ i = 1 ∨ i = 2 ∨ i = 3 ∨ i = 4 ∨ i = 5 ∨ i = 6 ∨ i = 7 := by omega
      · simp only [Int.cast_ofNat_Int]
        have hpl : (xpart l x (8 * j + 0)).length = l.length := xpart_length _ _ _
        have ei : (((8 * j : Nat) : Int) + 0).toNat = 8 * j + 0 := by omega
        have es : (xpart l x (8 * j + 0)).set (0 + (((8 * j : Nat) : Int) + 0).toNat) (Go.bits .xor .u8 ((xpart l x (8 * j + 0)).getD (0 + (((8 * j : Nat) : Int) + 0).toNat) 0) (W.1 / 1 % 256)) = xpart l x (8 * j + 1) := by
          rw [Nat.zero_add, ei, xpart_get l x _ (by omega), ← xpart_step l x (8 * j + 0) (by omega), hx 0 (by omega) (by omega)]
          congr 2
          have h8 : (8 * j + 0) / 4 % 2 = 0 := by omega
          have h4 : (8 * j + 0) % 4 = 0 := by omega
          rw [h8, h4]
          simp
          try omega
        (repeat refine ka ?_); refine kr ?_ ?_ (pops_end ?_)
        (repeat refine ka ?_); refine kct ?_
        (repeat refine ka ?_); refine ksk ?_
        (repeat refine ka ?_); refine kb ?_
        (repeat refine ka ?_); refine kr ?_ ?_ (pops_end ?_)
        (repeat refine ka ?_); refine kdw ?_ ?_
        refine ps_seti (k0 := .u8) (l := xpart l x (8 * j + 0)) (hi := by rw [xpart_length]; omega) ?_
        refine pops_nil ?_
        refine kn ?_; repeat (first | with_reducible refine blk_n ?_ | with_reducible refine beh_n ?_)
        (repeat refine ka ?_); refine kr ?_ ?_ (pops_end ?_)
        refine kn ?_; repeat (first | with_reducible refine blk_n ?_ | with_reducible refine beh_n ?_)
        refine ⟨1, by omega, by omega, ?_⟩
        rw [← es]
        exact (holds 4 (by repeat (first | exact .nil | refine has1 ?_)))
      · simp only [Int.cast_ofNat_Int]
        have hpl : (xpart l x (8 * j + 1)).length = l.length := xpart_length _ _ _
        have ei : (((8 * j : Nat) : Int) + 1).toNat = 8 * j + 1 := by omega
        have es : (xpart l x (8 * j + 1)).set (0 + (((8 * j : Nat) : Int) + 1).toNat) (Go.bits .xor .u8 ((xpart l x (8 * j + 1)).getD (0 + (((8 * j : Nat) : Int) + 1).toNat) 0) (W.1 / 256 % 256)) = xpart l x (8 * j + 2) := by
          rw [Nat.zero_add, ei, xpart_get l x _ (by omega), ← xpart_step l x (8 * j + 1) (by omega), hx 1 (by omega) (by omega)]
          congr 2
          have h8 : (8 * j + 1) / 4 % 2 = 0 := by omega
          have h4 : (8 * j + 1) % 4 = 1 := by omega
          rw [h8, h4]
          simp
          try omega
        (repeat refine ka ?_); refine kr ?_ ?_ (pops_end ?_)
        (repeat refine ka ?_); refine kct ?_
        (repeat refine ka ?_); refine ksk ?_
        (repeat refine ka ?_); refine kb ?_
        (repeat refine ka ?_); refine kr ?_ ?_ (pops_end ?_)
        (repeat refine ka ?_); refine kdw ?_ ?_
        refine ps_seti (k0 := .u8) (l := xpart l x (8 * j + 1)) (hi := by rw [xpart_length]; omega) ?_
        refine pops_nil ?_
        refine kn ?_; repeat (first | with_reducible refine blk_n ?_ | with_reducible refine beh_n ?_)
        (repeat refine ka ?_); refine kr ?_ ?_ (pops_end ?_)
        refine kn ?_; repeat (first | with_reducible refine blk_n ?_ | with_reducible refine beh_n ?_)
        refine ⟨2, by omega, by omega, ?_⟩
        rw [← es]
        exact (holds 4 (by repeat (first | exact .nil | refine has1 ?_)))
      · simp only [Int.cast_ofNat_Int]
        have hpl : (xpart l x (8 * j + 2)).length = l.length := xpart_length _ _ _
        have ei : (((8 * j : Nat) : Int) + 2).toNat = 8 * j + 2 := by omega
        have es : (xpart l x (8 * j + 2)).set (0 + (((8 * j : Nat) : Int) + 2).toNat) (Go.bits .xor .u8 ((xpart l x (8 * j + 2)).getD (0 + (((8 * j : Nat) : Int) + 2).toNat) 0) (W.1 / 65536 % 256)) = xpart l x (8 * j + 3) := by
          rw [Nat.zero_add, ei, xpart_get l x _ (by omega), ← xpart_step l x (8 * j + 2) (by omega), hx 2 (by omega) (by omega)]
          congr 2
          have h8 : (8 * j + 2) / 4 % 2 = 0 := by omega
          have h4 : (8 * j + 2) % 4 = 2 := by omega
          rw [h8, h4]
          simp
          try omega
        (repeat refine ka ?_); refine kr ?_ ?_ (pops_end ?_)
        (repeat refine ka ?_); refine kct ?_
        (repeat refine ka ?_); refine ksk ?_
        (repeat refine ka ?_); refine kb ?_
        (repeat refine ka ?_); refine kr ?_ ?_ (pops_end ?_)
        (repeat refine ka ?_); refine kdw ?_ ?_
        refine ps_seti (k0 := .u8) (l := xpart l x (8 * j + 2)) (hi := by rw [xpart_length]; omega) ?_
        refine pops_nil ?_
        refine kn ?_; repeat (first | with_reducible refine blk_n ?_ | with_reducible refine beh_n ?_)
        (repeat refine ka ?_); refine kr ?_ ?_ (pops_end ?_)
        refine kn ?_; repeat (first | with_reducible refine blk_n ?_ | with_reducible refine beh_n ?_)
        refine ⟨3, by omega, by omega, ?_⟩
        rw [← es]
        exact (holds 4 (by repeat (first | exact .nil | refine has1 ?_)))
      · simp only [Int.cast_ofNat_Int]
        have hpl : (xpart l x (8 * j + 3)).length = l.length := xpart_length _ _ _
        have ei : (((8 * j : Nat) : Int) + 3).toNat = 8 * j + 3 := by omega
        have es : (xpart l x (8 * j + 3)).set (0 + (((8 * j : Nat) : Int) + 3).toNat) (Go.bits .xor .u8 ((xpart l x (8 * j + 3)).getD (0 + (((8 * j : Nat) : Int) + 3).toNat) 0) (W.1 / 16777216)) = xpart l x (8 * j + 4) := by
          rw [Nat.zero_add, ei, xpart_get l x _ (by omega), ← xpart_step l x (8 * j + 3) (by omega), hx 3 (by omega) (by omega)]
          congr 2
          have h8 : (8 * j + 3) / 4 % 2 = 0 := by omega
          have h4 : (8 * j + 3) % 4 = 3 := by omega
          rw [h8, h4]
          simp
          try omega
        (repeat refine ka ?_); refine kr ?_ ?_ (pops_end ?_)
        (repeat refine ka ?_); refine kct ?_
        (repeat refine ka ?_); refine ksk ?_
        (repeat refine ka ?_); refine kb ?_
        (repeat refine ka ?_); refine kr ?_ ?_ (pops_end ?_)
        (repeat refine ka ?_); refine kdw ?_ ?_
        refine ps_seti (k0 := .u8) (l := xpart l x (8 * j + 3)) (hi := by rw [xpart_length]; omega) ?_
        refine pops_nil ?_
        refine kn ?_; repeat (first | with_reducible refine blk_n ?_ | with_reducible refine beh_n ?_)
        (repeat refine ka ?_); refine kr ?_ ?_ (pops_end ?_)
        refine kn ?_; repeat (first | with_reducible refine blk_n ?_ | with_reducible refine beh_n ?_)
        refine ⟨4, by omega, by omega, ?_⟩
        rw [← es]
        exact (holds 4 (by repeat (first | exact .nil | refine has1 ?_)))
      · simp only [Int.cast_ofNat_Int]
        have hpl : (xpart l x (8 * j + 4)).length = l.length := xpart_length _ _ _
        have ei : (((8 * j : Nat) : Int) + 4).toNat = 8 * j + 4 := by omega
        have es : (xpart l x (8 * j + 4)).set (0 + (((8 * j : Nat) : Int) + 4).toNat) (Go.bits .xor .u8 ((xpart l x (8 * j + 4)).getD (0 + (((8 * j : Nat) : Int) + 4).toNat) 0) (W.2 / 1 % 256)) = xpart l x (8 * j + 5) := by
          rw [Nat.zero_add, ei, xpart_get l x _ (by omega), ← xpart_step l x (8 * j + 4) (by omega), hx 4 (by omega) (by omega)]
          congr 2
          have h8 : (8 * j + 4) / 4 % 2 = 1 := by omega
          have h4 : (8 * j + 4) % 4 = 0 := by omega
          rw [h8, h4]
          simp
          try omega
        (repeat refine ka ?_); refine kr ?_ ?_ (pops_end ?_)
        (repeat refine ka ?_); refine kct ?_
        (repeat refine ka ?_); refine ksk ?_
        (repeat refine ka ?_); refine kb ?_
        (repeat refine ka ?_); refine kr ?_ ?_ (pops_end ?_)
        (repeat refine ka ?_); refine kdw ?_ ?_
        refine ps_seti (k0 := .u8) (l := xpart l x (8 * j + 4)) (hi := by rw [xpart_length]; omega) ?_
        refine pops_nil ?_
        refine kn ?_; repeat (first | with_reducible refine blk_n ?_ | with_reducible refine beh_n ?_)
        (repeat refine ka ?_); refine kr ?_ ?_ (pops_end ?_)
        refine kn ?_; repeat (first | with_reducible refine blk_n ?_ | with_reducible refine beh_n ?_)
        refine ⟨5, by omega, by omega, ?_⟩
        rw [← es]
        exact (holds 4 (by repeat (first | exact .nil | refine has1 ?_)))
      · simp only [Int.cast_ofNat_Int]
        have hpl : (xpart l x (8 * j + 5)).length = l.length := xpart_length _ _ _
        have ei : (((8 * j : Nat) : Int) + 5).toNat = 8 * j + 5 := by omega
        have es : (xpart l x (8 * j + 5)).set (0 + (((8 * j : Nat) : Int) + 5).toNat) (Go.bits .xor .u8 ((xpart l x (8 * j + 5)).getD (0 + (((8 * j : Nat) : Int) + 5).toNat) 0) (W.2 / 256 % 256)) = xpart l x (8 * j + 6) := by
          rw [Nat.zero_add, ei, xpart_get l x _ (by omega), ← xpart_step l x (8 * j + 5) (by omega), hx 5 (by omega) (by omega)]
          congr 2
          have h8 : (8 * j + 5) / 4 % 2 = 1 := by omega
          have h4 : (8 * j + 5) % 4 = 1 := by omega
          rw [h8, h4]
          simp
          try omega
        (repeat refine ka ?_); refine kr ?_ ?_ (pops_end ?_)
        (repeat refine ka ?_); refine kct ?_
        (repeat refine ka ?_); refine ksk ?_
        (repeat refine ka ?_); refine kb ?_
        (repeat refine ka ?_); refine kr ?_ ?_ (pops_end ?_)
        (repeat refine ka ?_); refine kdw ?_ ?_
        refine ps_seti (k0 := .u8) (l := xpart l x (8 * j + 5)) (hi := by rw [xpart_length]; omega) ?_
        refine pops_nil ?_
        refine kn ?_; repeat (first | with_reducible refine blk_n ?_ | with_reducible refine beh_n ?_)
        (repeat refine ka ?_); refine kr ?_ ?_ (pops_end ?_)
        refine kn ?_; repeat (first | with_reducible refine blk_n ?_ | with_reducible refine beh_n ?_)
        refine ⟨6, by omega, by omega, ?_⟩
        rw [← es]
        exact (holds 4 (by repeat (first | exact .nil | refine has1 ?_)))
      · simp only [Int.cast_ofNat_Int]
        have hpl : (xpart l x (8 * j + 6)).length = l.length := xpart_length _ _ _
        have ei : (((8 * j : Nat) : Int) + 6).toNat = 8 * j + 6 := by omega
        have es : (xpart l x (8 * j + 6)).set (0 + (((8 * j : Nat) : Int) + 6).toNat) (Go.bits .xor .u8 ((xpart l x (8 * j + 6)).getD (0 + (((8 * j : Nat) : Int) + 6).toNat) 0) (W.2 / 65536 % 256)) = xpart l x (8 * j + 7) := by
          rw [Nat.zero_add, ei, xpart_get l x _ (by omega), ← xpart_step l x (8 * j + 6) (by omega), hx 6 (by omega) (by omega)]
          congr 2
          have h8 : (8 * j + 6) / 4 % 2 = 1 := by omega
          have h4 : (8 * j + 6) % 4 = 2 := by omega
          rw [h8, h4]
          simp
          try omega
        (repeat refine ka ?_); refine kr ?_ ?_ (pops_end ?_)
        (repeat refine ka ?_); refine kct ?_
        (repeat refine ka ?_); refine ksk ?_
        (repeat refine ka ?_); refine kb ?_
        (repeat refine ka ?_); refine kr ?_ ?_ (pops_end ?_)
        (repeat refine ka ?_); refine kdw ?_ ?_
        refine ps_seti (k0 := .u8) (l := xpart l x (8 * j + 6)) (hi := by rw [xpart_length]; omega) ?_
        refine pops_nil ?_
        refine kn ?_; repeat (first | with_reducible refine blk_n ?_ | with_reducible refine beh_n ?_)
        (repeat refine ka ?_); refine kr ?_ ?_ (pops_end ?_)
        refine kn ?_; repeat (first | with_reducible refine blk_n ?_ | with_reducible refine beh_n ?_)
        refine ⟨7, by omega, by omega, ?_⟩
        rw [← es]
        exact (holds 4 (by repeat (first | exact .nil | refine has1 ?_)))
      · simp only [Int.cast_ofNat_Int]
        have hpl : (xpart l x (8 * j + 7)).length = l.length := xpart_length _ _ _
        have ei : (((8 * j : Nat) : Int) + 7).toNat = 8 * j + 7 := by omega
        have es : (xpart l x (8 * j + 7)).set (0 + (((8 * j : Nat) : Int) + 7).toNat) (Go.bits .xor .u8 ((xpart l x (8 * j + 7)).getD (0 + (((8 * j : Nat) : Int) + 7).toNat) 0) (W.2 / 16777216)) = xpart l x (8 * j + 8) := by
          rw [Nat.zero_add, ei, xpart_get l x _ (by omega), ← xpart_step l x (8 * j + 7) (by omega), hx 7 (by omega) (by omega)]
          congr 2
          have h8 : (8 * j + 7) / 4 % 2 = 1 := by omega
          have h4 : (8 * j + 7) % 4 = 3 := by omega
          rw [h8, h4]
          simp
          try omega
        (repeat refine ka ?_); refine kr ?_ ?_ (pops_end ?_)
        (repeat refine ka ?_); refine kct ?_
        (repeat refine ka ?_); refine ksk ?_
        (repeat refine ka ?_); refine kb ?_
        (repeat refine ka ?_); refine kr ?_ ?_ (pops_end ?_)
        (repeat refine ka ?_); refine kdw ?_ ?_
        refine ps_seti (k0 := .u8) (l := xpart l x (8 * j + 7)) (hi := by rw [xpart_length]; omega) ?_
        refine pops_nil ?_
        refine kn ?_; repeat (first | with_reducible refine blk_n ?_ | with_reducible refine beh_n ?_)
        (repeat refine ka ?_); refine kr ?_ ?_ (pops_end ?_)
        refine kn ?_; repeat (first | with_reducible refine blk_n ?_ | with_reducible refine beh_n ?_)
        refine ⟨8, by omega, by omega, ?_⟩
        rw [← es]
        exact (holds 4 (by repeat (first | exact .nil | refine has1 ?_)))
  rintro - -
  (repeat refine ka ?_); refine kr ?_ ?_ (pops_end ?_)
  refine kn ?_; repeat (first | with_reducible refine blk_n ?_ | with_reducible refine beh_n ?_)
  (repeat refine ka ?_); refine kr ?_ ?_ (pops_end ?_)
  refine kn ?_; repeat (first | with_reducible refine blk_n ?_ | with_reducible refine beh_n ?_)
  refine ⟨j + 1, by omega, by omega, ?_⟩
  have e1 : xpart l x (8 * (j + 1)) = xpart l x (8 * j + cnt) := by
    rcases Nat.lt_or_ge (8 * j + 8) l.length with h | h
    · rw [show 8 * j + cnt = 8 * (j + 1) by omega]
    · rw [xpart_all l x _ (by omega), xpart_all l x _ (by omega)]
  have e2 : ((blk + ((j + 1 : Nat) : Int)) % 4294967296) = ((blk + (j : Int)) % 4294967296 + 1) % 4294967296 := by omega
  have e3 : ((8 * (j + 1) : Nat) : Int) = ((8 * j : Nat) : Int) + 8 := by omega
  rw [e1, e2, e3]
  exact (holds 3 (by repeat (first | exact .nil | refine has1 ?_)))
end Go.Proofs.Yteocmeidkdhmiaa.Pv
