-- carapacelaw09.MemDoes.
import Derived.Test.YtaaealngifkaeaaMmG
namespace Go.Proofs.Ytaaealngifkaeaa.Pv
set_option linter.all false
open Go.RowKit Go.Proofs
set_option maxRecDepth 100000
set_option maxHeartbeats 4000000
theorem oct_putIf {l b : List Int} {a : Int} (hl : Oct l) (hb : Oct b) : Oct (putIf l a b) := by
  unfold putIf putAt
  split
  · exact oct_append (oct_append (oct_take hl _) hb) (oct_drop hl _)
  · exact hl
theorem oct_wb (w : Int) : Oct (wb w) := by
  intro y hy
  simp only [wb, List.mem_cons, List.not_mem_nil, or_false] at hy
  omega
theorem oct_putW {l : List Int} {a w : Int} (hl : Oct l) : Oct (putW l a w) := by
  unfold putW putAt
  split
  · exact oct_append (oct_append (oct_take hl _) (oct_wb w)) (oct_drop hl _)
  · exact hl
theorem does_walk {x0 x1 : PV} (h0 : SInt .i64 [x0]) (h1 : SSl 4 40 (SFs [SInt .i64, SInt .u32, SInt .u32, SSl 1 1 (SInt .u8)]) [x1]) : PCall Try.prog 6 [x0, x1] (.v (.bool true)) := by
  obtain ⟨size, rfl, hs⟩ := one_int h0
  have hs := wf_i64' hs
  obtain ⟨rows, e1, hB, hM, hR⟩ := h1
  simp only [List.cons.injEq, and_true] at e1
  subst e1
  obtain ⟨l, rfl, hl⟩ := acts_of hR
  rw [List.length_map] at hB
  clear h0 hR hM
  obtain ⟨b, hsm, psm⟩ := mem_small l hl (by omega)
  have hrl : (l.map Act4.row).length = l.length := by simp
  refine pcall_mk Try.func6 rfl [.tmp 4] Try.results6 216 rfl (tk_start ?_)
  (repeat refine ka ?_); refine kr ?_ ?_ (pops_end ?_)
  (repeat refine ka ?_); refine kr ?_ ?_ ?_
  refine ps_pcall mem_awake ?_
  refine pops_go ?_ ?_ (pops_end ?_)
  (repeat refine ka ?_); refine kr ?_ ?_ ?_
  refine ps_pcall psm ?_
  refine pops_go ?_ ?_ (pops_end ?_)
  cases b with
  | false =>
    (repeat refine ka ?_); refine kr ?_ ?_ (pops_end ?_)
    (repeat refine ka ?_); refine kct ?_
    (repeat refine ka ?_); refine kr ?_ ?_ (pops_end ?_)
    (repeat refine ka ?_); refine kret ?_; repeat (first | with_reducible refine beh_r ?_ | with_reducible refine blk_r ?_)
    refine ends_ret ?_ retPV_one
    rfl
  | true =>
  have hsm := hsm rfl
  by_cases k1 : 2000 < size
  · by_cases k2 : size ≤ 1048576
    · (repeat refine ka ?_); refine kr ?_ ?_ (pops_end ?_)
      (repeat refine ka ?_); refine kct ?_
      (repeat refine ka ?_); refine kr ?_ ?_ (pops_end ?_)
      (repeat refine ka ?_); refine kret ?_; repeat (first | with_reducible refine beh_r ?_ | with_reducible refine blk_r ?_)
      refine ends_ret ?_ retPV_one
      rfl
    · (repeat refine ka ?_); refine kr ?_ ?_ (pops_end ?_)
      (repeat refine ka ?_); refine kcf ?_
      (repeat refine ka ?_); refine ksk ?_
      (repeat refine ka ?_); refine kr ?_ ?_ ?_
      refine ps_gcall (mem_new size) ?_
      rintro x S' (⟨hb, rfl, rfl⟩ | ⟨hb, g0, g1, rfl, rfl⟩)
      · refine pops_go ?_ ?_ (pops_end ?_)
        (repeat refine ka ?_); refine kr ?_ ?_ ?_
        refine ps_gcall (ref_new size) ?_
        rintro x S' (⟨hb', rfl, rfl⟩ | ⟨hb', g0, g1, rfl, rfl⟩)
        · refine pops_go ?_ ?_ (pops_end ?_)
          (repeat refine ka ?_); refine kr ?_ ?_ (pops_end ?_)
          (repeat refine ka ?_); refine kcf ?_
          (repeat refine ka ?_); refine ksk ?_
          (repeat refine ka ?_); refine kr ?_ ?_ (pops_end ?_)
          (repeat refine ka ?_); refine kct ?_
          (repeat refine ka ?_); refine kr ?_ ?_ (pops_end ?_)
          (repeat refine ka ?_); refine kret ?_; repeat (first | with_reducible refine beh_r ?_ | with_reducible refine blk_r ?_)
          refine ends_ret ?_ retPV_one
          rfl
        · omega
      · omega
  (repeat refine ka ?_); refine kr ?_ ?_ (pops_end ?_)
  (repeat refine ka ?_); refine kcf ?_
  (repeat refine ka ?_); refine ksk ?_
  (repeat refine ka ?_); refine kr ?_ ?_ ?_
  refine ps_gcall (mem_new size) ?_
  rintro x S' (⟨hb, rfl, rfl⟩ | ⟨hb, g0, g1, rfl, rfl⟩)
  · refine pops_go ?_ ?_ (pops_end ?_)
    (repeat refine ka ?_); refine kr ?_ ?_ ?_
    refine ps_gcall (ref_new size) ?_
    rintro x S' (⟨hb', rfl, rfl⟩ | ⟨hb', g0, g1, rfl, rfl⟩)
    · refine pops_go ?_ ?_ (pops_end ?_)
      (repeat refine ka ?_); refine kr ?_ ?_ (pops_end ?_)
      (repeat refine ka ?_); refine kcf ?_
      (repeat refine ka ?_); refine ksk ?_
      (repeat refine ka ?_); refine kr ?_ ?_ (pops_end ?_)
      (repeat refine ka ?_); refine kct ?_
      (repeat refine ka ?_); refine kr ?_ ?_ (pops_end ?_)
      (repeat refine ka ?_); refine kret ?_; repeat (first | with_reducible refine beh_r ?_ | with_reducible refine blk_r ?_)
      refine ends_ret ?_ retPV_one
      rfl
    · omega
  obtain ⟨L0, hL0⟩ : ∃ L, L = List.replicate size.toNat (0 : Int) := ⟨_, rfl⟩
  have hl0 : L0.length = size.toNat := by rw [hL0]; simp
  have o0 : Oct L0 := by rw [hL0]; intro x hx; rw [List.eq_of_mem_replicate hx]; decide
  have hrn := ref_new size
  rw [← hL0] at hrn
  rw [← hL0, ← hl0]
  rw [← hl0] at hrn
  refine pops_go ?_ ?_ (pops_end ?_)
  (repeat refine ka ?_); refine kr ?_ ?_ ?_
  refine ps_fcall [] hrn ?_ (by rintro x S' (⟨h, rfl, rfl⟩ | ⟨h, g0, g1, rfl, rfl⟩) <;> exact Nat.le_of_ble_eq_true rfl)
  rintro x S' (⟨h, _⟩ | ⟨_, h0, h1, rfl, rfl⟩)
  · omega
  (intro x1 S1 hx1 hS1; simp only [List.map_cons, List.map_nil, renB, ren_ints, putB, List.set_cons_zero, List.set_cons_succ, List.cons_append, List.nil_append, List.append_nil, renL, ren, sg, List.length_cons, List.length_nil, Nat.reduceAdd, Nat.zero_add, Nat.add_zero] at hx1 hS1; subst hx1 hS1)
  refine pops_go ?_ ?_ (pops_end ?_)
  (repeat refine ka ?_); refine kr ?_ ?_ (pops_end ?_)
  (repeat refine ka ?_); refine kcf ?_
  (repeat refine ka ?_); refine ksk ?_
  (repeat refine ka ?_); refine kr ?_ ?_ (pops_end ?_)
  (repeat refine ka ?_); refine kcf ?_
  (repeat refine ka ?_); refine ksk ?_
  (repeat refine ka ?_); refine kr ?_ ?_ (pops_end ?_)
  (repeat refine ka ?_); refine kb ?_
  refine kw (fun s : Nat × List Int => [(1, .ro 4 false (l.map Act4.row)), (5, .v (.bool true)), (7, .ptr 1 g0 0 0), (9, .ptr 3 h0 0 0), (11, .v (.int .i64 s.1))])
    (fun s => [⟨g1, true, 1, ints .u8 s.2⟩, ⟨g0, true, 1, [[.vw 0 g1 0 s.2.length]]⟩, ⟨h1, true, 1, ints .u8 s.2⟩, ⟨h0, true, 1, [[.vw 2 h1 0 s.2.length]]⟩])
    (fun s => s.1 ≤ l.length ∧ Oct s.2 ∧ s.2.length ≤ 1048576) (fun s => l.length - s.1) (0, L0) ⟨Nat.zero_le _, o0, show L0.length ≤ 1048576 by omega⟩ (holds 4 (by repeat (first | exact .nil | refine has1 ?_))) ?_
  rintro ⟨i, L'⟩ ⟨hi, hO', hN'⟩
  simp only at hi hO' hN'
  simp only
  obtain ⟨L, hLL⟩ : ∃ L, L = L' := ⟨_, rfl⟩
  rw [← hLL]
  have hO : Oct L := by rw [hLL]; exact hO'
  have hN : L.length ≤ 1048576 := by rw [hLL]; exact hN'
  clear hLL
  by_cases hil : i < l.length
  case neg =>
    obtain rfl : i = l.length := by omega
    (repeat refine ka ?_); refine kr ?_ ?_ (pops_end ?_)
    (repeat refine ka ?_); refine kcf ?_
    (repeat refine ka ?_); refine kx ?_; (repeat (first | with_reducible refine beh_x ?_ | with_reducible refine blk_up rfl ?_)); refine blk_here ?_; refine beh_n ?_
    (repeat refine ka ?_); refine kr ?_ ?_ (pops_end ?_)
    (repeat refine ka ?_); refine kret ?_; repeat (first | with_reducible refine beh_r ?_ | with_reducible refine blk_r ?_)
    refine ends_ret ?_ retPV_one
    rfl
  obtain ⟨⟨d, a, n, B⟩, hx⟩ : ∃ x, l[i]? = some x := ⟨l[i], by simp [hil]⟩
  have hrow : (l.map Act4.row)[((i : Nat) : Int).toNat]? = some [.v (.int .i64 d), .v (.int .u32 a), .v (.int .u32 n), .ro 1 false (ints .u8 B)] := by
    rw [Int.toNat_natCast, List.getElem?_map, hx]; rfl
  obtain ⟨ha, hn, hOB, -⟩ := hl _ (List.mem_of_getElem? hx)
  have hBl := hsm _ (List.mem_of_getElem? hx)
  simp only at ha hn hOB hBl
  clear hx
  (repeat refine ka ?_); refine kr ?_ ?_ (pops_end ?_)
  (repeat refine ka ?_); refine kct ?_
  (repeat refine ka ?_); refine ksk ?_
  (repeat refine ka ?_); refine kb ?_
  (repeat refine ka ?_); refine kr ?_ ?_ ?_
  refine ps_alloc fun gx => ?_
  refine ps_store ?_
  refine pops_nil ?_
  (repeat refine ka ?_); refine kr ?_ ?_ (pops_end ?_)
  (repeat refine ka ?_); refine kr ?_ ?_ (pops_end ?_)
  (repeat refine ka ?_)
  refine kcut (fun M : List Int => [(1, .ro 4 false (l.map Act4.row)), (5, .v (.bool true)), (7, .ptr 1 g0 0 0), (9, .ptr 3 h0 0 0), (11, .v (.int .i64 i)), (12, .ptr 4 gx 0 0), (13, .v (.bool true))])
    (fun M => [⟨g1, true, 1, ints .u8 M⟩, ⟨g0, true, 1, [[.vw 0 g1 0 M.length]]⟩, ⟨h1, true, 1, ints .u8 M⟩, ⟨h0, true, 1, [[.vw 2 h1 0 M.length]]⟩, ⟨gx, true, 4, [[.v (.int .i64 d), .v (.int .u32 a), .v (.int .u32 n), .ro 1 false (ints .u8 B)]]⟩])
    (fun M => Oct M ∧ M.length = L.length) ?_ ?_ (by simp)
  · by_cases d0 : d = 0
    · have q1 := mem_putbyte L g0 g1 a (n % 256) ha hN
      have q2 := ref_putbyte L h0 h1 a ha (n % 256) hN
      have hlen := putIf_length L a [n % 256] ha.1
      have hO1 : Oct (putIf L a [n % 256]) := oct_putIf hO (by intro x hx; simp at hx; omega)
      generalize putIf L a [n % 256] = L1 at *
      (repeat refine ka ?_); refine kb ?_
      (repeat refine ka ?_); refine kr ?_ ?_ (pops_end ?_)
      (repeat refine ka ?_); refine kct ?_
      refine kdu (fun D => [⟨g1, true, 1, ints .u8 (cond (D 7) L1 L)⟩, ⟨g0, true, 1, [[.vw 0 g1 0 L.length]]⟩, ⟨h1, true, 1, ints .u8 (cond (D 15) L1 L)⟩, ⟨h0, true, 1, [[.vw 2 h1 0 L.length]]⟩, ⟨gx, true, 4, [[.v (.int .i64 d), .v (.int .u32 a), .v (.int .u32 n), .ro 1 false (ints .u8 B)]]⟩]) ?_
      (repeat (first | refine pu_ev _ ?_ | refine pu_ev_g _ ?_))
      refine pu_gcall (fun D hD => by rw [hD]; exact mcall (fun _ => rfl) hlen q1 (D 15)) ?_
      (repeat (first | refine pu_ev _ ?_ | refine pu_ev_g _ ?_))
      refine pu_gcall (fun D hD => by rw [hD]; exact rcall (fun _ => rfl) hlen q2 (D 7)) ?_
      (repeat (first | refine pu_ev _ ?_ | refine pu_ev_g _ ?_))
      refine pu_end ?_
      refine kn ?_; repeat (first | with_reducible refine blk_n ?_ | with_reducible refine beh_n ?_)
      rw [← hlen]
      exact ⟨L1, ⟨hO1, rfl⟩, (holds 5 (by repeat (first | exact .nil | refine has1 ?_)))⟩
    · by_cases d1 : d = 1
      · have q1 := mem_putword L g0 g1 a n ha hn hN
        have q2 := ref_putword L h0 h1 a ha n hn hN
        have hlen := putW_length L a n ha.1
        have hO1 : Oct (putW L a n) := oct_putW hO
        generalize putW L a n = L1 at *
        (repeat refine ka ?_); refine kb ?_
        (repeat refine ka ?_); refine kr ?_ ?_ (pops_end ?_)
        (repeat refine ka ?_); refine kcf ?_
        (repeat refine ka ?_); refine kr ?_ ?_ (pops_end ?_)
        (repeat refine ka ?_); refine kct ?_
        refine kdu (fun D => [⟨g1, true, 1, ints .u8 (cond (D 5) L1 L)⟩, ⟨g0, true, 1, [[.vw 0 g1 0 L.length]]⟩, ⟨h1, true, 1, ints .u8 (cond (D 11) L1 L)⟩, ⟨h0, true, 1, [[.vw 2 h1 0 L.length]]⟩, ⟨gx, true, 4, [[.v (.int .i64 d), .v (.int .u32 a), .v (.int .u32 n), .ro 1 false (ints .u8 B)]]⟩]) ?_
        (repeat (first | refine pu_ev _ ?_ | refine pu_ev_g _ ?_))
        refine pu_gcall (fun D hD => by rw [hD]; exact mcall (fun _ => rfl) hlen q1 (D 11)) ?_
        (repeat (first | refine pu_ev _ ?_ | refine pu_ev_g _ ?_))
        refine pu_gcall (fun D hD => by rw [hD]; exact rcall (fun _ => rfl) hlen q2 (D 5)) ?_
        (repeat (first | refine pu_ev _ ?_ | refine pu_ev_g _ ?_))
        refine pu_end ?_
        refine kn ?_; repeat (first | with_reducible refine blk_n ?_ | with_reducible refine beh_n ?_)
        rw [← hlen]
        exact ⟨L1, ⟨hO1, rfl⟩, (holds 5 (by repeat (first | exact .nil | refine has1 ?_)))⟩
      · by_cases d2 : d = 2
        · have q1 := mem_put L B g0 g1 a ha (by omega) hN
          have q2 := ref_put L h0 h1 a ha B (by omega) hN
          have hlen := putIf_length L a B ha.1
          have hO1 : Oct (putIf L a B) := oct_putIf hO hOB
          generalize putIf L a B = L1 at *
          (repeat refine ka ?_); refine kb ?_
          (repeat refine ka ?_); refine kr ?_ ?_ (pops_end ?_)
          (repeat refine ka ?_); refine kcf ?_
          (repeat refine ka ?_); refine kr ?_ ?_ (pops_end ?_)
          (repeat refine ka ?_); refine kcf ?_
          (repeat refine ka ?_); refine kr ?_ ?_ (pops_end ?_)
          (repeat refine ka ?_); refine kct ?_
          refine kdu (fun D => [⟨g1, true, 1, ints .u8 (cond (D 5) L1 L)⟩, ⟨g0, true, 1, [[.vw 0 g1 0 L.length]]⟩, ⟨h1, true, 1, ints .u8 (cond (D 11) L1 L)⟩, ⟨h0, true, 1, [[.vw 2 h1 0 L.length]]⟩, ⟨gx, true, 4, [[.v (.int .i64 d), .v (.int .u32 a), .v (.int .u32 n), .ro 1 false (ints .u8 B)]]⟩]) ?_
          (repeat (first | refine pu_ev _ ?_ | refine pu_ev_g _ ?_))
          refine pu_gcall (fun D hD => by rw [hD]; exact mcall (fun _ => rfl) hlen q1 (D 11)) ?_
          (repeat (first | refine pu_ev _ ?_ | refine pu_ev_g _ ?_))
          refine pu_gcall (fun D hD => by rw [hD]; exact rcall (fun _ => rfl) hlen q2 (D 5)) ?_
          (repeat (first | refine pu_ev _ ?_ | refine pu_ev_g _ ?_))
          refine pu_end ?_
          refine kn ?_; repeat (first | with_reducible refine blk_n ?_ | with_reducible refine beh_n ?_)
          rw [← hlen]
          exact ⟨L1, ⟨hO1, rfl⟩, (holds 5 (by repeat (first | exact .nil | refine has1 ?_)))⟩
        · (repeat refine ka ?_); refine kb ?_
          (repeat refine ka ?_); refine kr ?_ ?_ (pops_end ?_)
          (repeat refine ka ?_); refine kcf ?_
          (repeat refine ka ?_); refine kr ?_ ?_ (pops_end ?_)
          (repeat refine ka ?_); refine kcf ?_
          (repeat refine ka ?_); refine kr ?_ ?_ (pops_end ?_)
          (repeat refine ka ?_); refine kcf ?_
          (repeat refine ka ?_); refine ksk ?_
          refine kn ?_; repeat (first | with_reducible refine blk_n ?_ | with_reducible refine beh_n ?_)
          exact ⟨L, ⟨hO, rfl⟩, (holds 5 (by repeat (first | exact .nil | refine has1 ?_)))⟩
  rintro M ⟨hOM, hM⟩
  rw [← hM] at hN
  clear hM hO L hO' hN' L'
  have p1 := mem_byte M g0 g1 a ha hN
  have p2 := ref_byte M h0 h1 a ha hN
  have p3 := mem_word M hOM g0 g1 a ha hN
  have p4 := ref_word M hOM h0 h1 a ha hN
  have p5 := mem_bytes M g0 g1 a n ha hn hN
  have p6 := ref_bytes M h0 h1 a ha n hn hN
  generalize (if a + 1 ≤ (M.length : Int) then M.getD a.toNat 0 else 0) = vb at *
  generalize (if a % 4 = 0 ∧ a + 4 ≤ (M.length : Int) then word4 M a.toNat else 0) = vw at *
  generalize decide (a + 1 ≤ (M.length : Int)) = bb at *
  generalize decide (a % 4 = 0 ∧ a + 4 ≤ (M.length : Int)) = bw at *
  (repeat refine ka ?_); refine kr ?_ ?_ ?_
  refine ps_fcall [1, 0] p1 ?_ (by rintro x S' ⟨rfl, rfl⟩; exact Nat.le_of_ble_eq_true rfl)
  rintro x S' ⟨rfl, rfl⟩
  (intro x1 S1 hx1 hS1; simp only [List.map_cons, List.map_nil, renB, ren_ints, putB, List.set_cons_zero, List.set_cons_succ, List.cons_append, List.nil_append, List.append_nil, renL, ren, sg, List.length_cons, List.length_nil, Nat.reduceAdd, Nat.zero_add, Nat.add_zero] at hx1 hS1; subst hx1 hS1)
  refine pops_go ?_ ?_ (pops_end ?_)
  (repeat refine ka ?_); refine kr ?_ ?_ ?_
  refine ps_fcall [3, 2] p2 ?_ (by rintro x S' ⟨rfl, rfl⟩; exact Nat.le_of_ble_eq_true rfl)
  rintro x S' ⟨rfl, rfl⟩
  (intro x1 S1 hx1 hS1; simp only [List.map_cons, List.map_nil, renB, ren_ints, putB, List.set_cons_zero, List.set_cons_succ, List.cons_append, List.nil_append, List.append_nil, renL, ren, sg, List.length_cons, List.length_nil, Nat.reduceAdd, Nat.zero_add, Nat.add_zero] at hx1 hS1; subst hx1 hS1)
  refine pops_go ?_ ?_ (pops_end ?_)
  (repeat refine ka ?_); refine kr ?_ ?_ ?_
  refine ps_fcall [1, 0] p3 ?_ (by rintro x S' ⟨rfl, rfl⟩; exact Nat.le_of_ble_eq_true rfl)
  rintro x S' ⟨rfl, rfl⟩
  (intro x1 S1 hx1 hS1; simp only [List.map_cons, List.map_nil, renB, ren_ints, putB, List.set_cons_zero, List.set_cons_succ, List.cons_append, List.nil_append, List.append_nil, renL, ren, sg, List.length_cons, List.length_nil, Nat.reduceAdd, Nat.zero_add, Nat.add_zero] at hx1 hS1; subst hx1 hS1)
  refine pops_go ?_ ?_ (pops_end ?_)
  (repeat refine ka ?_); refine kr ?_ ?_ ?_
  refine ps_fcall [3, 2] p4 ?_ (by rintro x S' ⟨rfl, rfl⟩; exact Nat.le_of_ble_eq_true rfl)
  rintro x S' ⟨rfl, rfl⟩
  (intro x1 S1 hx1 hS1; simp only [List.map_cons, List.map_nil, renB, ren_ints, putB, List.set_cons_zero, List.set_cons_succ, List.cons_append, List.nil_append, List.append_nil, renL, ren, sg, List.length_cons, List.length_nil, Nat.reduceAdd, Nat.zero_add, Nat.add_zero] at hx1 hS1; subst hx1 hS1)
  refine pops_go ?_ ?_ (pops_end ?_)
  (repeat refine ka ?_); refine kr ?_ ?_ ?_
  refine ps_fcall [1, 0] p5 ?_ (by rintro x S' (⟨h, rfl, rfl⟩ | ⟨h, g2, rfl, rfl⟩) <;> exact Nat.le_of_ble_eq_true rfl)
  by_cases hf : a + n ≤ (M.length : Int)
  · rintro x S' (⟨h, rfl, rfl⟩ | ⟨h, g2, rfl, rfl⟩)
    · exact absurd hf h
    (intro x1 S1 hx1 hS1; simp only [List.map_cons, List.map_nil, renB, ren_ints, putB, List.set_cons_zero, List.set_cons_succ, List.cons_append, List.nil_append, List.append_nil, renL, ren, sg, List.length_cons, List.length_nil, Nat.reduceAdd, Nat.zero_add, Nat.add_zero] at hx1 hS1; subst hx1 hS1)
    refine pops_go ?_ ?_ (pops_end ?_)
    (repeat refine ka ?_); refine kr ?_ ?_ ?_
    refine ps_fcall [3, 2] p6 ?_ (by rintro x S' (⟨h, rfl, rfl⟩ | ⟨h, g2, rfl, rfl⟩) <;> exact Nat.le_of_ble_eq_true rfl)
    rintro x S' (⟨h, rfl, rfl⟩ | ⟨h, g3, rfl, rfl⟩)
    · exact absurd hf h
    (intro x1 S1 hx1 hS1; simp only [List.map_cons, List.map_nil, renB, ren_ints, putB, List.set_cons_zero, List.set_cons_succ, List.cons_append, List.nil_append, List.append_nil, renL, ren, sg, List.length_cons, List.length_nil, Nat.reduceAdd, Nat.zero_add, Nat.add_zero] at hx1 hS1; subst hx1 hS1)
    refine pops_go ?_ ?_ (pops_end ?_)
    have hsl : ((M.drop a.toNat).take n.toNat).length = n.toNat := by rw [List.length_take, List.length_drop]; omega
    have psame := sameb_ok ((M.drop a.toNat).take n.toNat) ((M.drop a.toNat).take n.toNat) (by omega) (by omega)
    rw [decide_eq_true rfl] at psame
    (repeat refine ka ?_); refine kr ?_ ?_ ?_
    refine ps_rcall [5, 6] psame (.cons (lend_ints (.head _) rfl rfl hsl) (.cons (lend_ints (.tail _ (.head _)) rfl rfl hsl) .nil)) ?_ (.inl (.v _))
    refine pops_go ?_ ?_ (pops_end ?_)
    (repeat refine ka ?_)
    refine kdu (fun _ => [⟨g1, true, 1, ints .u8 M⟩, ⟨g0, true, 1, [[.vw 0 g1 0 M.length]]⟩, ⟨h1, true, 1, ints .u8 M⟩, ⟨h0, true, 1, [[.vw 2 h1 0 M.length]]⟩, ⟨gx, true, 4, [[.v (.int .i64 d), .v (.int .u32 a), .v (.int .u32 n), .ro 1 false (ints .u8 B)]]⟩, ⟨g2, true, 1, ints .u8 ((M.drop a.toNat).take n.toNat)⟩, ⟨g3, true, 1, ints .u8 ((M.drop a.toNat).take n.toNat)⟩]) ?_
    (repeat (first | refine pu_ev _ ?_ | refine pu_ev_g _ ?_))
    refine pu_gcall_g (fun D hD => gcall_at [1, 0] (mem_len M g0 g1) (by rintro x S' ⟨rfl, rfl⟩; simp only [List.map_cons, List.map_nil, renB, ren_ints, putB, List.set_cons_zero, List.set_cons_succ, renL, ren, sg, List.append_nil]; (repeat' constructor)) (by rintro x S' ⟨rfl, rfl⟩; exact Nat.le_refl _)) ?_
    (repeat (first | refine pu_ev _ ?_ | refine pu_ev_g _ ?_))
    refine pu_end ?_
    (repeat refine ka ?_); refine kcf ?_
    (repeat refine ka ?_); refine ksk ?_
    refine kn ?_; repeat (first | with_reducible refine blk_n ?_ | with_reducible refine beh_n ?_)
    (repeat refine ka ?_); refine kr ?_ ?_ (pops_end ?_)
    refine kn ?_; repeat (first | with_reducible refine blk_n ?_ | with_reducible refine beh_n ?_)
    exact ⟨(i + 1, M), ⟨by simp only; omega, hOM, hN⟩, by simp only; omega, (holds 4 (by repeat (first | exact .nil | refine has1 ?_)))⟩
  · rintro x S' (⟨h, rfl, rfl⟩ | ⟨h, g2, rfl, rfl⟩)
    case inr => exact absurd h hf
    (intro x1 S1 hx1 hS1; simp only [List.map_cons, List.map_nil, renB, ren_ints, putB, List.set_cons_zero, List.set_cons_succ, List.cons_append, List.nil_append, List.append_nil, renL, ren, sg, List.length_cons, List.length_nil, Nat.reduceAdd, Nat.zero_add, Nat.add_zero] at hx1 hS1; subst hx1 hS1)
    refine pops_go ?_ ?_ (pops_end ?_)
    (repeat refine ka ?_); refine kr ?_ ?_ ?_
    refine ps_fcall [3, 2] p6 ?_ (by rintro x S' (⟨h, rfl, rfl⟩ | ⟨h, g2, rfl, rfl⟩) <;> exact Nat.le_of_ble_eq_true rfl)
    rintro x S' (⟨h, rfl, rfl⟩ | ⟨h, g3, rfl, rfl⟩)
    case inr => exact absurd h hf
    (intro x1 S1 hx1 hS1; simp only [List.map_cons, List.map_nil, renB, ren_ints, putB, List.set_cons_zero, List.set_cons_succ, List.cons_append, List.nil_append, List.append_nil, renL, ren, sg, List.length_cons, List.length_nil, Nat.reduceAdd, Nat.zero_add, Nat.add_zero] at hx1 hS1; subst hx1 hS1)
    refine pops_go ?_ ?_ (pops_end ?_)
    have psame := sameb_ok [] [] (by decide) (by decide)
    rw [decide_eq_true rfl] at psame
    (repeat refine ka ?_); refine kr ?_ ?_ ?_
    refine ps_rcall [] psame (.cons .nil (.cons .nil .nil)) ?_ (.inl (.v _))
    refine pops_go ?_ ?_ (pops_end ?_)
    (repeat refine ka ?_)
    refine kdu (fun _ => [⟨g1, true, 1, ints .u8 M⟩, ⟨g0, true, 1, [[.vw 0 g1 0 M.length]]⟩, ⟨h1, true, 1, ints .u8 M⟩, ⟨h0, true, 1, [[.vw 2 h1 0 M.length]]⟩, ⟨gx, true, 4, [[.v (.int .i64 d), .v (.int .u32 a), .v (.int .u32 n), .ro 1 false (ints .u8 B)]]⟩]) ?_
    (repeat (first | refine pu_ev _ ?_ | refine pu_ev_g _ ?_))
    refine pu_gcall_g (fun D hD => gcall_at [1, 0] (mem_len M g0 g1) (by rintro x S' ⟨rfl, rfl⟩; simp only [List.map_cons, List.map_nil, renB, ren_ints, putB, List.set_cons_zero, List.set_cons_succ, renL, ren, sg, List.append_nil]; (repeat' constructor)) (by rintro x S' ⟨rfl, rfl⟩; exact Nat.le_refl _)) ?_
    (repeat (first | refine pu_ev _ ?_ | refine pu_ev_g _ ?_))
    refine pu_end ?_
    (repeat refine ka ?_); refine kcf ?_
    (repeat refine ka ?_); refine ksk ?_
    refine kn ?_; repeat (first | with_reducible refine blk_n ?_ | with_reducible refine beh_n ?_)
    (repeat refine ka ?_); refine kr ?_ ?_ (pops_end ?_)
    refine kn ?_; repeat (first | with_reducible refine blk_n ?_ | with_reducible refine beh_n ?_)
    exact ⟨(i + 1, M), ⟨by simp only; omega, hOM, hN⟩, by simp only; omega, (holds 4 (by repeat (first | exact .nil | refine has1 ?_)))⟩
end Go.Proofs.Ytaaealngifkaeaa.Pv
