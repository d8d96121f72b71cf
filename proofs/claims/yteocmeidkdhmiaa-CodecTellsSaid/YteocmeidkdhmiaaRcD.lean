-- rc.Put.
import Derived.Test.YteocmeidkdhmiaaRcC
namespace Go.Proofs.Yteocmeidkdhmiaa.Pv
set_option linter.all false
open Go.RowKit Go.Proofs
set_option maxRecDepth 100000
set_option maxHeartbeats 4000000
/-- A writer, of at most so many bytes. -/
structure WOk (s : WS) (n : Nat) : Prop where
  lik : Lik s.l
  w0 : 16777216 ≤ s.wd
  w1 : s.wd < 4294967296
  l0 : 0 ≤ s.lo
  l1 : s.lo + s.wd < 8589934592
  c0 : 0 ≤ s.ca
  c1 : s.ca < 256
  n : s.out.length + s.be = n
theorem move_wd (s : WS) : s.move.wd = s.wd := by unfold WS.move; split <;> rfl
theorem move_l (s : WS) : s.move.l = s.l := by unfold WS.move; split <;> rfl
theorem move_lo (s : WS) : s.move.lo = s.lo % 16777216 * 256 := by unfold WS.move; split <;> rfl
theorem move_ca (s : WS) (h0 : 0 ≤ s.ca) (h1 : s.ca < 256) : 0 ≤ s.move.ca ∧ s.move.ca < 256 := by
  unfold WS.move
  split
  · simp only; omega
  · exact ⟨h0, h1⟩
theorem move_n (s : WS) : s.move.out.length + s.move.be = s.out.length + s.be + 1 := by
  unfold WS.move
  split
  · simp only [List.length_append, flush_length]
  · simp only; omega
theorem WOk.bit {s : WS} {n : Nat} (h : WOk s n) (a : Nat) (ha : a < 256) (b : Int) : ∃ n', n' ≤ n + 1 ∧ n ≤ n' ∧ WOk (s.bit a b) n' := by
  obtain ⟨hp0, hp1⟩ := h.lik.2 a ha
  have h3 := h.w0
  have h4 := h.w1
  have h5 := h.l0
  have h6 := h.l1
  obtain ⟨q0, q1, q2⟩ := part_in (by omega) h.w1 hp0 hp1
  have hn := lik_set h.lik a b
  have ht : Lik (s.turn a b).l ∧ 65536 ≤ (s.turn a b).wd ∧ (s.turn a b).wd < 4294967296 ∧ 0 ≤ (s.turn a b).lo ∧ (s.turn a b).lo + (s.turn a b).wd < 8589934592 ∧ (s.turn a b).ca = s.ca ∧ (s.turn a b).out = s.out ∧ (s.turn a b).be = s.be := by
    unfold WS.turn
    dsimp only
    refine ⟨hn, ?_, ?_, ?_, ?_, rfl, rfl, rfl⟩ <;> split <;> omega
  unfold WS.bit
  generalize s.turn a b = t at *
  obtain ⟨t1, t2, t3, t4, t5, t6, t7, t8⟩ := ht
  split
  · rename_i hw
    refine ⟨n + 1, Nat.le_refl _, by omega, ?_, ?_, ?_, ?_, ?_, ?_, ?_, ?_⟩
    · rw [move_l]; exact t1
    · rw [move_wd]; dsimp only; omega
    · rw [move_wd]; dsimp only; omega
    · rw [move_lo]; dsimp only; omega
    · rw [move_lo, move_wd]; dsimp only; omega
    · exact (move_ca _ (by dsimp only; rw [t6]; exact h.c0) (by dsimp only; rw [t6]; exact h.c1)).1
    · exact (move_ca _ (by dsimp only; rw [t6]; exact h.c0) (by dsimp only; rw [t6]; exact h.c1)).2
    · rw [move_n]; dsimp only; rw [t7, t8, h.n]
  · rename_i hw
    exact ⟨n, by omega, Nat.le_refl _, t1, by omega, t3, t4, t5, by rw [t6]; exact h.c0, by rw [t6]; exact h.c1, by rw [t7, t8]; exact h.n⟩
/-- A byte's bits, one by one: how many are done. -/
def bitOf (c : Int) (j : Nat) : Int := c / 2 ^ (7 - j) % 2
def encTo (c : Int) (s : WS) : Nat → WS × Nat
  | 0 => (s, 1)
  | j + 1 => ((encTo c s j).1.bit (encTo c s j).2 (bitOf c j), 2 * (encTo c s j).2 + (bitOf c j).toNat)
def W0 : WS := ⟨P0, 4294967295, 0, 0, 1, []⟩
def encAll (b : List Int) : Nat → WS
  | 0 => W0
  | i + 1 => (encTo (b.getD i 0) (encAll b i) 8).1
def moves (s : WS) : Nat → WS
  | 0 => s
  | i + 1 => (moves s i).move
def rput (b : List Int) : List Int := (moves (encAll b b.length) 5).out
theorem bitOf_in (c : Int) (j : Nat) : 0 ≤ bitOf c j ∧ bitOf c j < 2 := by unfold bitOf; omega
theorem encTo_m (c : Int) (s : WS) : ∀ j, 2 ^ j ≤ (encTo c s j).2 ∧ (encTo c s j).2 < 2 ^ (j + 1)
  | 0 => by simp [encTo]
  | j + 1 => by
    have ih := encTo_m c s j
    have := bitOf_in c j
    rw [encTo, Nat.pow_succ, Nat.pow_succ]
    rw [Nat.pow_succ] at ih
    simp only
    omega
theorem encTo_m8 (c : Int) (s : WS) {j : Nat} (h : j < 8) : (encTo c s j).2 < 256 := by
  have := (encTo_m c s j).2
  have h2 : 2 ^ (j + 1) ≤ 2 ^ 8 := Nat.pow_le_pow_right (by decide) h
  omega
theorem encTo_ok (c : Int) {s : WS} {n : Nat} (h : WOk s n) : ∀ j, j ≤ 8 → ∃ n', n' ≤ n + j ∧ n ≤ n' ∧ WOk (encTo c s j).1 n'
  | 0, _ => ⟨n, by omega, Nat.le_refl _, h⟩
  | j + 1, hj => by
    obtain ⟨n1, h1, h2, h3⟩ := encTo_ok c h j (by omega)
    obtain ⟨n2, h4, h5, h6⟩ := h3.bit (encTo c s j).2 (encTo_m8 c s (by omega)) (bitOf c j)
    exact ⟨n2, by omega, by omega, h6⟩
theorem W0_ok : WOk W0 1 := ⟨lik_P0, by decide, by decide, by decide, by decide, by decide, by decide, rfl⟩
theorem encAll_ok (b : List Int) : ∀ i, ∃ n', n' ≤ 1 + 8 * i ∧ 1 ≤ n' ∧ WOk (encAll b i) n'
  | 0 => ⟨1, by omega, by omega, W0_ok⟩
  | i + 1 => by
    obtain ⟨n1, h1, h2, h3⟩ := encAll_ok b i
    obtain ⟨n2, h4, h5, h6⟩ := encTo_ok (b.getD i 0) h3 8 (by omega)
    exact ⟨n2, by omega, by omega, h6⟩
structure MOk (s : WS) (n : Nat) : Prop where
  l : s.l.length = 256
  l0 : 0 ≤ s.lo
  l1 : s.lo < 8589934592
  c0 : 0 ≤ s.ca
  c1 : s.ca < 256
  n : s.out.length + s.be = n
theorem WOk.m {s : WS} {n : Nat} (h : WOk s n) : MOk s n := ⟨h.lik.1, h.l0, by have := h.l1; have := h.w0; omega, h.c0, h.c1, h.n⟩
theorem MOk.move {s : WS} {n : Nat} (h : MOk s n) : MOk s.move (n + 1) :=
  ⟨by rw [move_l]; exact h.l, by rw [move_lo]; omega, by rw [move_lo]; omega, (move_ca s h.c0 h.c1).1, (move_ca s h.c0 h.c1).2, by rw [move_n, h.n]⟩
theorem moves_ok {s : WS} {n : Nat} (h : MOk s n) : ∀ i, MOk (moves s i) (n + i)
  | 0 => h
  | i + 1 => (moves_ok h i).move
theorem rc_bitS {gw g n a : Nat} {s : WS} (b : Int) (h : WOk s n) (hn : n ≤ 100000000) (ha : a < 256) : GCall Try.prog 59 [.ptr 0 gw 0 0, .v (.int .i64 a), .v (.int .i64 b)] (wS gw g s) fun x S' => ∃ g', S' = wS gw g' (s.bit a b) :=
  rc_bit (l := s.l) (out := s.out) (wd := s.wd) (lo := s.lo) (ca := s.ca) (be := s.be) h.lik ha (by have := h.w0; omega) h.w1 h.l0 h.l1 h.c0 h.c1 (by have := h.n; omega)
theorem rc_moveS {gw g n : Nat} {s : WS} (h : MOk s n) (hn : n ≤ 100000000) : GCall Try.prog 60 [.ptr 0 gw 0 0] (wS gw g s) fun x S' => ∃ g', S' = wS gw g' s.move :=
  rc_move (l := s.l) (out := s.out) (wd := s.wd) (lo := s.lo) (ca := s.ca) (be := s.be) h.l h.l0 h.l1 h.c0 h.c1 (by have := h.n; omega)
theorem or1_i64 (m : Nat) (x : Int) (hm : m < 1000000) (h0 : 0 ≤ x) (h1 : x < 2) : Go.bits .or .i64 ((m : Int) * 2) x = ((2 * m + x.toNat : Nat) : Int) := by
  have := or_hi 1 m x (by omega) (by omega) h0 (by omega) (by decide)
  rw [show ((2 : Int) ^ 1) = 2 from rfl] at this
  rw [this]
  omega
theorem rc_put (b : List Int) (hb : Oct b) (hl : b.length ≤ 1000000) : PCall Try.prog 39 [.ro 1 false (ints .u8 b)] (.ro 1 false (ints .u8 (rput b))) := by
  refine pcall_mkg Try.func39 rfl [.tmp 2] Try.results39 48 rfl (tk_start ?_)
  (repeat refine ka ?_); refine kr ?_ ?_ (pops_end ?_)
  (repeat refine ka ?_); refine kr ?_ ?_ ?_
  refine ps_pcall rc_fresh ?_
  refine pops_go ?_ ?_ ?_
  refine ps_box (c := ci .i64 P0 ++ [.v (.int .u32 4294967295), .v (.int .u64 0), .v (.int .u8 0), .v (.int .i64 1), .v (.slice none 0 0)]) (sz := 261) (fun gw => ?_) (hc := by kernel_rfl) (hs := by simp [ci_length, P0_length])
  refine pops_go ?_ ?_ (pops_end ?_)
  have hset : ∀ v, (ci .i64 P0 ++ ([.v (.int .u32 4294967295), .v (.int .u64 0), .v (.int .u8 0), .v (.int .i64 1), .v (.slice none 0 0)] : List PV)).set 260 v = ci .i64 P0 ++ [.v (.int .u32 4294967295), .v (.int .u64 0), .v (.int .u8 0), .v (.int .i64 1), v] := by
    intro v
    rw [List.set_append_right _ _ (by rw [ci_length, P0_length]; decide), ci_length, P0_length]
    rfl
  (repeat refine ka ?_)
  refine kvoidc 0 260 1 (i := 0) (S' := fun g => wS gw g W0) (fun g => ?_) (hx := by rw [List.getElem?_append_right (by rw [ci_length, P0_length]; decide), ci_length, P0_length]; rfl) (hS := by intro g; simp only [hset, List.set_cons_zero]; rfl)
  unfold wS W0
  dsimp only
  (repeat refine ka ?_); refine kr ?_ ?_ (pops_end ?_)
  (repeat refine ka ?_); refine kr ?_ ?_ (pops_end ?_)
  (repeat refine ka ?_); refine kb ?_
  refine kw (fun s : Nat × Nat => [(3, .ptr 0 gw 0 0), (4, .fn (.func 59) [.ptr 0 gw 0 0] []), (15, .ro 1 false (ints .u8 b)), (16, .v (.int .i64 b.length)), (17, .v (.int .i64 s.1))]) (fun s => wS gw s.2 (encAll b s.1)) (fun s => s.1 ≤ b.length) (fun s => b.length - s.1) (0, g) (by simp) (holds 2 (by repeat (first | exact .nil | refine has1 ?_))) ?_
  rintro ⟨i, g⟩ hi
  simp only at hi ⊢
  obtain ⟨n, hn1, hn2, hok⟩ := encAll_ok b i
  by_cases h : i < b.length
  · have hci := hb (b.getD i 0) (by rw [List.getD_eq_getElem?_getD, List.getElem?_eq_getElem h]; exact List.getElem_mem h)
    have hgi : b.getD ((i : Nat) : Int).toNat 0 = b.getD i 0 := by rw [Int.toNat_natCast]
    (repeat refine ka ?_); refine kr ?_ ?_ (pops_end ?_)
    (repeat refine ka ?_); refine kct ?_
    (repeat refine ka ?_); refine ksk ?_
    (repeat refine ka ?_); refine kb ?_
    (repeat refine ka ?_); refine kr ?_ ?_ (pops_end ?_)
    (repeat refine ka ?_); refine kr ?_ ?_ (pops_end ?_)
    (repeat refine ka ?_); refine kr ?_ ?_ (pops_end ?_)
    (repeat refine ka ?_); refine kb ?_
    generalize hc : b.getD i 0 = c at *
    have hc2 : b.getD ((i : Nat) : Int).toNat 0 = c := hgi
    rw [hc2]
    refine kw (fun s : Nat × Nat => [(3, .ptr 0 gw 0 0), (4, .fn (.func 59) [.ptr 0 gw 0 0] []), (6, .v (.int .u8 c)), (7, .v (.int .i64 ((encTo c (encAll b i) s.1).2 : Nat))), (8, .v (.int .i64 (7 - (s.1 : Int)))), (15, .ro 1 false (ints .u8 b)), (16, .v (.int .i64 b.length)), (17, .v (.int .i64 i))]) (fun s => wS gw s.2 (encTo c (encAll b i) s.1).1) (fun s => s.1 ≤ 8) (fun s => 8 - s.1) (0, g) (by simp) (holds 2 (by repeat (first | exact .nil | refine has1 ?_))) ?_
    rintro ⟨j, g⟩ hj
    simp only at hj ⊢
    obtain ⟨nj, hj1, hj2, hokj⟩ := encTo_ok c hok j hj
    by_cases h8 : j < 8
    · have hm := encTo_m8 c (encAll b i) h8
      obtain ⟨hb0, hb1⟩ := bitOf_in c j
      have hsh : (2 : Int) ^ min ((7 - (j : Int)).toNat) IntKind.u8.bits = 2 ^ (7 - j) := by
        congr 1
        simp only [IntKind.bits]
        omega
      have hand : Go.bits .and .u8 (c / 2 ^ (7 - j)) 1 = bitOf c j := by rw [and1_u8']; rfl
      have hor := or1_i64 (encTo c (encAll b i) j).2 (bitOf c j) (by omega) hb0 hb1
      have hbit := rc_bitS (gw := gw) (g := g) (bitOf c j) hokj (by omega) hm
      have e1 : encTo c (encAll b i) (j + 1) = ((encTo c (encAll b i) j).1.bit (encTo c (encAll b i) j).2 (bitOf c j), 2 * (encTo c (encAll b i) j).2 + (bitOf c j).toNat) := rfl
      generalize hq : encTo c (encAll b i) j = q at *
      obtain ⟨s, m⟩ := q
      dsimp only at *
      (repeat refine ka ?_); refine kr ?_ ?_ (pops_end ?_)
      (repeat refine ka ?_); refine kct ?_
      (repeat refine ka ?_); refine ksk ?_
      (repeat refine ka ?_); refine kb ?_
      (repeat refine ka ?_); refine kr ?_ ?_ (pops_end ?_)
      (repeat refine ka ?_); refine kr ?_ ?_ ?_
      refine ps_vcall (us := [.v (.int .i64 m), .v (.int .i64 (bitOf c j))]) hbit ?_
      rintro x S' ⟨g', rfl⟩
      refine pops_go ?_ ?_ (pops_end ?_)
      (repeat refine ka ?_); refine kr ?_ ?_ (pops_end ?_)
      refine kn ?_; repeat (first | with_reducible refine blk_n ?_ | with_reducible refine beh_n ?_)
      (repeat refine ka ?_); refine kr ?_ ?_ (pops_end ?_)
      refine kn ?_; repeat (first | with_reducible refine blk_n ?_ | with_reducible refine beh_n ?_)
      refine ⟨(j + 1, g'), by simp only; omega, by simp only; omega, ?_⟩
      simp only [e1]
      rw [show ((7 : Int) - (j : Int) - 1) = 7 - ((j + 1 : Nat) : Int) by omega]
      exact (holds 2 (by repeat (first | exact .nil | refine has1 ?_)))
    · obtain rfl : j = 8 := by omega
      have e2 : encAll b (i + 1) = (encTo c (encAll b i) 8).1 := by rw [← hc]; rfl
      (repeat refine ka ?_); refine kr ?_ ?_ (pops_end ?_)
      (repeat refine ka ?_); refine kcf ?_
      (repeat refine ka ?_); refine kx ?_; (repeat (first | with_reducible refine beh_x ?_ | with_reducible refine blk_up rfl ?_)); refine blk_here ?_; refine beh_n ?_
      (repeat refine ka ?_); refine kr ?_ ?_ (pops_end ?_)
      refine kn ?_; repeat (first | with_reducible refine blk_n ?_ | with_reducible refine beh_n ?_)
      refine ⟨(i + 1, g), by simp only; omega, by simp only; omega, ?_⟩
      simp only [e2]
      exact (holds 2 (by repeat (first | exact .nil | refine has1 ?_)))
  · obtain rfl : i = b.length := by omega
    (repeat refine ka ?_); refine kr ?_ ?_ (pops_end ?_)
    (repeat refine ka ?_); refine kcf ?_
    (repeat refine ka ?_); refine kx ?_; (repeat (first | with_reducible refine beh_x ?_ | with_reducible refine blk_up rfl ?_)); refine blk_here ?_; refine beh_n ?_
    (repeat refine ka ?_); refine kr ?_ ?_ (pops_end ?_)
    (repeat refine ka ?_); refine kb ?_
    refine kw (fun s : Nat × Nat => [(3, .ptr 0 gw 0 0), (39, .v (.int .i64 s.1))]) (fun s => wS gw s.2 (moves (encAll b b.length) s.1)) (fun s => s.1 ≤ 5) (fun s => 5 - s.1) (0, g) (by simp) (holds 2 (by repeat (first | exact .nil | refine has1 ?_))) ?_
    rintro ⟨i, g⟩ hi
    simp only at hi ⊢
    have hmk := moves_ok hok.m i
    by_cases h5 : i < 5
    · have hmv := rc_moveS (gw := gw) (g := g) hmk (by omega)
      (repeat refine ka ?_); refine kr ?_ ?_ (pops_end ?_)
      (repeat refine ka ?_); refine kct ?_
      (repeat refine ka ?_); refine ksk ?_
      (repeat refine ka ?_); refine kb ?_
      (repeat refine ka ?_); refine kr ?_ ?_ ?_
      refine ps_gcall hmv ?_
      rintro x S' ⟨g', rfl⟩
      refine pops_go ?_ ?_ (pops_end ?_)
      refine kn ?_; repeat (first | with_reducible refine blk_n ?_ | with_reducible refine beh_n ?_)
      (repeat refine ka ?_); refine kr ?_ ?_ (pops_end ?_)
      refine kn ?_; repeat (first | with_reducible refine blk_n ?_ | with_reducible refine beh_n ?_)
      exact ⟨(i + 1, g'), by simp only; omega, by simp only; omega, (holds 2 (by repeat (first | exact .nil | refine has1 ?_)))⟩
    · obtain rfl : i = 5 := by omega
      have hl6 := hmk.l
      unfold wS rput
      generalize moves (encAll b b.length) 5 = s at *
      (repeat refine ka ?_); refine kr ?_ ?_ (pops_end ?_)
      (repeat refine ka ?_); refine kcf ?_
      (repeat refine ka ?_); refine kx ?_; (repeat (first | with_reducible refine beh_x ?_ | with_reducible refine blk_up rfl ?_)); refine blk_here ?_; refine beh_n ?_
      (repeat refine ka ?_); refine kr ?_ ?_ (pops_end ?_)
      (repeat refine ka ?_); refine kret ?_; repeat (first | with_reducible refine beh_r ?_ | with_reducible refine blk_r ?_)
      refine ends_ret ?_ retPV_one
      exact gives_ints rfl rfl rfl
end Go.Proofs.Yteocmeidkdhmiaa.Pv
