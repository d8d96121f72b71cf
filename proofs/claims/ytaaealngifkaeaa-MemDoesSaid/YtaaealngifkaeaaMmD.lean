-- carapacelaw09.MemWords.
import Derived.Test.YtaaealngifkaeaaMmC
namespace Go.Proofs.Ytaaealngifkaeaa.Pv
set_option linter.all false
open Go.RowKit Go.Proofs
set_option maxRecDepth 100000
set_option maxHeartbeats 4000000
theorem putAt_getD (l b : List Int) (a i : Nat) (h : a + b.length ≤ l.length) : (putAt l a b).getD i 0 = if a ≤ i ∧ i < a + b.length then b.getD (i - a) 0 else l.getD i 0 := by
  unfold putAt
  have ht : (l.take a).length = a := by rw [List.length_take]; omega
  rcases Nat.lt_or_ge i a with h1 | h1
  · rw [if_neg (by omega), List.append_assoc]
    simp only [List.getD, List.getElem?_append_left (show i < (l.take a).length by omega), List.getElem?_take, if_pos h1]
  · rcases Nat.lt_or_ge i (a + b.length) with h2 | h2
    · rw [if_pos ⟨h1, h2⟩]
      simp only [List.getD]
      rw [List.append_assoc, List.getElem?_append_right (by omega), ht, List.getElem?_append_left (by omega)]
    · rw [if_neg (by omega)]
      simp only [List.getD]
      rw [List.getElem?_append_right (by rw [List.length_append, ht]; omega), List.length_append, ht, List.getElem?_drop]
      congr 2
      omega
theorem putAt_mid (l b : List Int) (a : Nat) (h : a + b.length ≤ l.length) : ((putAt l a b).drop a).take b.length = b := by
  unfold putAt
  have ht : (l.take a).length = a := by rw [List.length_take]; omega
  rw [List.append_assoc, List.drop_append]
  simp [ht]
theorem getD_rep (n k : Nat) : (List.replicate n (0 : Int)).getD k 0 = 0 := by
  simp only [List.getD, List.getElem?_replicate]
  split <;> rfl
theorem wf_u8 {n : Int} (h : (Lit.int .u8 n).wf = true) : 0 ≤ n ∧ n < 256 := by
  simp [Lit.wf, IntKind.min, IntKind.max, IntKind.bits, IntKind.signed] at h
  omega
theorem wf_u32' {n : Int} (h : (Lit.int .u32 n).wf = true) : 0 ≤ n ∧ n < 4294967296 := by
  simp [Lit.wf, IntKind.min, IntKind.max, IntKind.bits, IntKind.signed] at h
  omega
theorem words_walk {x0 x1 x2 : PV} (h0 : SInt .u32 [x0]) (h1 : SInt .u32 [x1]) (h2 : SInt .u8 [x2]) : PCall Try.prog 8 [x0, x1, x2] (.v (.bool true)) := by
  obtain ⟨t, rfl, ht⟩ := one_int h0
  obtain ⟨w, rfl, hw⟩ := one_int h1
  obtain ⟨c, rfl, hc⟩ := one_int h2
  have ht := wf_u32' ht
  have hw := wf_u32' hw
  have hc := wf_u8 hc
  clear h0 h1 h2
  obtain ⟨a, hA⟩ : ∃ a : Int, a = t % 16 * 4 := ⟨_, rfl⟩
  have ha : 0 ≤ a ∧ a < 4294967296 := by omega
  have ha2 : a % 4 = 0 ∧ a ≤ 60 := by omega
  obtain ⟨L0, hL0⟩ : ∃ L, L = List.replicate (64 : Int).toNat (0 : Int) := ⟨_, rfl⟩
  have hl0 : L0.length = 64 := by rw [hL0]; rfl
  have hn := mem_new 64
  rw [← hL0] at hn
  have o0 : Oct L0 := by rw [hL0]; intro x hx; rw [List.eq_of_mem_replicate hx]; decide
  have fit : a % 4 = 0 ∧ a + 4 ≤ L0.length := ⟨ha2.1, by omega⟩
  have p1 := fun g0 g1 => mem_putword L0 g0 g1 a w ha hw (by omega)
  obtain ⟨L1, hL1⟩ : ∃ L, L = putW L0 a w := ⟨_, rfl⟩
  have hl1 : L1.length = 64 := by rw [hL1, putW_length _ _ _ ha.1, hl0]
  rw [← hL1, decide_eq_true fit] at p1
  have e1 : L1 = putAt L0 a.toNat (wb w) := by rw [hL1, putW, if_pos fit]
  have hwb : (wb w).length = 4 := rfl
  have p2 := fun g0 g1 => mem_bytes L1 g0 g1 a 4 ha (by decide) (by omega)
  have em : (L1.drop a.toNat).take (4 : Int).toNat = wb w := by rw [e1]; exact putAt_mid L0 (wb w) a.toNat (by omega)
  rw [em] at p2
  have p3 := fun g0 g1 => mem_putbyte L1 g0 g1 (a + 3) c (by omega) (by omega)
  have fit3 : a + 3 + 1 ≤ (L1.length : Int) := by omega
  obtain ⟨L2, hL2⟩ : ∃ L, L = putIf L1 (a + 3) [c] := ⟨_, rfl⟩
  have hl2 : L2.length = 64 := by rw [hL2, putIf_length _ _ _ (by omega), hl1]
  rw [← hL2, decide_eq_true fit3] at p3
  have e2 : L2 = putAt L1 (a + 3).toNat [c] := by rw [hL2, putIf, if_pos (by simp only [List.length_singleton]; omega)]
  have g : ∀ k : Nat, k < 64 → L2.getD k 0 = if k = (a + 3).toNat then c else if a.toNat ≤ k ∧ k < a.toNat + 4 then (wb w).getD (k - a.toNat) 0 else 0 := by
    intro k hk
    rw [e2, putAt_getD L1 [c] _ k (by simp only [List.length_singleton]; omega), List.length_singleton]
    by_cases hk1 : k = (a + 3).toNat
    · rw [if_pos (by omega), if_pos hk1, hk1, Nat.sub_self]; rfl
    · rw [if_neg (by omega), if_neg hk1, e1, putAt_getD L0 (wb w) _ k (by omega), hwb]
      split
      · rfl
      · rw [hL0]; exact getD_rep _ _
  have o2 : Oct L2 := by
    intro x hx
    obtain ⟨k, hk, rfl⟩ := List.getElem_of_mem hx
    have hgd : L2[k] = L2.getD k 0 := by simp [hk]
    rw [hgd, g k (by omega)]
    split
    · exact hc
    · split
      · have : Oct (wb w) := by
          intro y hy
          simp only [wb, List.mem_cons, List.not_mem_nil, or_false] at hy
          omega
        exact this.getD _
      · decide
  have p4 := fun g0 g1 => mem_word L2 o2 g0 g1 a ha (by omega)
  have fit4 : a % 4 = 0 ∧ a + 4 ≤ (L2.length : Int) := ⟨ha2.1, by omega⟩
  have hword : word4 L2 a.toNat = w % 16777216 + 16777216 * c := by
    unfold word4
    rw [g _ (by omega), g _ (by omega), g _ (by omega), g _ (by omega)]
    rw [if_neg (by omega), if_pos (by omega), if_neg (by omega), if_pos (by omega), if_neg (by omega), if_pos (by omega), if_pos (by omega)]
    rw [show a.toNat - a.toNat = 0 by omega, show a.toNat + 1 - a.toNat = 1 by omega, show a.toNat + 2 - a.toNat = 2 by omega]
    show w % 256 + w / 256 % 256 * 256 + w / 65536 % 256 * 65536 + c * 16777216 = _
    omega
  rw [if_pos fit4, decide_eq_true fit4, hword] at p4
  clear hword g o2 e2 em e1 hL1 hL2 hL0 o0
  have w0 : (wb w).getD (0 + Int.toNat 0) 0 = w % 256 := rfl
  have w1 : (wb w).getD (0 + Int.toNat 1) 0 = w / 256 % 256 := rfl
  have w2 : (wb w).getD (0 + Int.toNat 2) 0 = w / 65536 % 256 := rfl
  have w3 : (wb w).getD (0 + Int.toNat 3) 0 = w / 16777216 % 256 := rfl
  generalize wb w = W at *
  refine pcall_mk Try.func8 rfl [.tmp 6] Try.results8 103 rfl (tk_start ?_)
  (repeat refine ka ?_); refine kr ?_ ?_ (pops_end ?_)
  (repeat refine ka ?_); refine kr ?_ ?_ ?_
  refine ps_pcall mem_awake ?_
  refine pops_go ?_ ?_ (pops_end ?_)
  (repeat refine ka ?_); refine kr ?_ ?_ ?_
  refine ps_gcall hn ?_
  rintro x S' (⟨h, _⟩ | ⟨_, g0, g1, rfl, rfl⟩)
  · omega
  have e64 : (64 : Int).toNat = L0.length := by rw [hl0]; rfl
  rw [e64]
  refine pops_go ?_ ?_ (pops_end ?_)
  (repeat refine ka ?_); refine kr ?_ ?_ (pops_end ?_)
  (repeat refine ka ?_); refine kcf ?_
  (repeat refine ka ?_); refine ksk ?_
  (repeat refine ka ?_); refine kr ?_ ?_ (pops_end ?_)
  rw [← hA]
  (repeat refine ka ?_); refine kr ?_ ?_ ?_
  refine ps_fcall [1, 0] (p1 g0 g1) ?_ (by rintro x S' ⟨rfl, rfl⟩; exact Nat.le_of_ble_eq_true rfl)
  rintro x S' ⟨rfl, rfl⟩
  (intro x1 S1 hx1 hS1; simp only [List.map_cons, List.map_nil, renB, ren_ints, putB, List.set_cons_zero, List.set_cons_succ, List.cons_append, List.nil_append, List.append_nil, renL, ren, sg, List.length_cons, List.length_nil, Nat.reduceAdd, Nat.zero_add, Nat.add_zero] at hx1 hS1; subst hx1 hS1)
  refine pops_go ?_ ?_ (pops_end ?_)
  (repeat refine ka ?_); refine kr ?_ ?_ ?_
  refine ps_fcall [1, 0] (p2 g0 g1) ?_ (by rintro x S' (⟨h, rfl, rfl⟩ | ⟨h, g2, rfl, rfl⟩) <;> exact Nat.le_of_ble_eq_true rfl)
  rintro x S' (⟨h, rfl, rfl⟩ | ⟨h, g2, rfl, rfl⟩)
  · exact absurd (by omega) h
  (intro x1 S1 hx1 hS1; simp only [List.map_cons, List.map_nil, renB, ren_ints, putB, List.set_cons_zero, List.set_cons_succ, List.cons_append, List.nil_append, List.append_nil, renL, ren, sg, List.length_cons, List.length_nil, Nat.reduceAdd, Nat.zero_add, Nat.add_zero] at hx1 hS1; subst hx1 hS1)
  have e4 : (4 : Int).toNat = W.length := by rw [hwb]; rfl
  rw [e4]
  refine pops_go ?_ ?_ (pops_end ?_)
  (repeat refine ka ?_); refine kr ?_ ?_ (pops_end ?_)
  (repeat refine ka ?_); refine kcf ?_
  (repeat refine ka ?_); refine ksk ?_
  (repeat refine ka ?_); refine kd ?_ ?_ (pstl_end ?_)
  (repeat refine ka ?_); refine kr ?_ ?_ ?_
  refine ps_fcall [1, 0] (p3 g0 g1) ?_ (by rintro x S' ⟨rfl, rfl⟩; exact Nat.le_of_ble_eq_true rfl)
  rintro x S' ⟨rfl, rfl⟩
  (intro x1 S1 hx1 hS1; simp only [List.map_cons, List.map_nil, renB, ren_ints, putB, List.set_cons_zero, List.set_cons_succ, List.cons_append, List.nil_append, List.append_nil, renL, ren, sg, List.length_cons, List.length_nil, Nat.reduceAdd, Nat.zero_add, Nat.add_zero] at hx1 hS1; subst hx1 hS1)
  refine pops_go ?_ ?_ (pops_end ?_)
  (repeat refine ka ?_); refine kr ?_ ?_ ?_
  refine ps_fcall [1, 0] (p4 g0 g1) ?_ (by rintro x S' ⟨rfl, rfl⟩; exact Nat.le_of_ble_eq_true rfl)
  rintro x S' ⟨rfl, rfl⟩
  (intro x1 S1 hx1 hS1; simp only [List.map_cons, List.map_nil, renB, ren_ints, putB, List.set_cons_zero, List.set_cons_succ, List.cons_append, List.nil_append, List.append_nil, renL, ren, sg, List.length_cons, List.length_nil, Nat.reduceAdd, Nat.zero_add, Nat.add_zero] at hx1 hS1; subst hx1 hS1)
  refine pops_go ?_ ?_ (pops_end ?_)
  (repeat refine ka ?_); refine kr ?_ ?_ (pops_end ?_)
  (repeat refine ka ?_); refine kret ?_; repeat (first | with_reducible refine beh_r ?_ | with_reducible refine blk_r ?_)
  refine ends_ret ?_ retPV_one
  rfl
end Go.Proofs.Ytaaealngifkaeaa.Pv
