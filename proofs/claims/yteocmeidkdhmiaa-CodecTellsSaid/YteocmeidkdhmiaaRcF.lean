-- rc.Back.
import Derived.Test.YteocmeidkdhmiaaRcE
namespace Go.Proofs.Yteocmeidkdhmiaa.Pv
set_option linter.all false
open Go.RowKit Go.Proofs
set_option maxRecDepth 100000
set_option maxHeartbeats 4000000
structure ROk (s : RS) (N : Nat) : Prop where
  lik : Lik s.l
  w0 : 0 ≤ s.wd
  w1 : s.wd < 4294967296
  n0 : 0 ≤ s.nu
  n1 : s.nu < 4294967296
  b : Oct s.b
  n : s.b.length ≤ N
theorem took_in (s : RS) (a : Nat) : 0 ≤ s.took a ∧ s.took a < 2 := by unfold RS.took; split <;> decide
theorem ROk.bit {s : RS} {N : Nat} (h : ROk s N) {a : Nat} (ha : a < 256) : ROk (s.bit a) N := by
  obtain ⟨hp0, hp1⟩ := h.lik.2 a ha
  have h1 := h.w0
  have h2 := h.w1
  have h3 := h.n0
  have h4 := h.n1
  obtain ⟨q0, q1, q2⟩ := part_in h.w0 h.w1 hp0 hp1
  have ht : ROk (s.turn a) N := by
    unfold RS.turn
    refine ⟨lik_set h.lik a _, ?_, ?_, ?_, ?_, h.b, h.n⟩ <;> dsimp only <;> split <;> omega
  unfold RS.bit
  split
  · rename_i hw
    unfold RS.next
    have k1 := ht.lik
    have k2 := ht.w0
    have k3 := ht.w1
    have k4 := ht.n0
    have k5 := ht.n1
    have k6 := ht.b
    have k7 := ht.n
    split
    · exact ⟨k1, k2, k3, k4, k5, k6, k7⟩
    · rename_i c r hbr
      rw [hbr] at k6 k7
      have hc := k6 c (by simp)
      refine ⟨k1, by dsimp only; omega, by dsimp only; omega, ?_, ?_, fun x hx => k6 x (by simp [hx]), by simp at k7; dsimp only; omega⟩ <;> (unfold nuF; dsimp only; omega)
  · exact ht
theorem rc_takeS {gr a N : Nat} {X : List Blk} {f : Bool} {s : RS} (h : ROk s N) (hN : N ≤ 100000000) (ha : a < 256) :
    GCall Try.prog 61 [.ptr 0 gr 0 0, .v (.int .i64 a)] (rB gr f s :: X) fun x S' => x = .v (.int .i64 (s.took a)) ∧ S' = rB gr f (s.bit a) :: X :=
  rc_take (l := s.l) (wd := s.wd) (nu := s.nu) (b := s.b) (sh := s.short) h.lik ha h.w0 h.w1 h.n0 h.n1 h.b (by have := h.n; omega)
def decTo (s : RS) : Nat → RS × Nat
  | 0 => (s, 1)
  | j + 1 => if (decTo s j).1.short then decTo s j else ((decTo s j).1.bit (decTo s j).2, 2 * (decTo s j).2 + ((decTo s j).1.took (decTo s j).2).toNat)
def decN (s : RS) : Nat → RS × List Int
  | 0 => (s, [])
  | i + 1 => ((decTo (decN s i).1 8).1, (decN s i).2 ++ [((decTo (decN s i).1 8).2 : Int) % 256])
def nuTo (b : List Int) : Nat → Int
  | 0 => 0
  | k + 1 => nuF (nuTo b k) (b.getD (k + 1) 0)
def R0 (b : List Int) : RS := ⟨P0, 4294967295, nuTo b 4, b.drop 5, false⟩
def rback (b : List Int) (n : Int) : List Int × Int :=
  if n < 0 ∨ 65536 < n then ([], 1) else if b.length < 5 then ([], 3) else if b.getD 0 0 ≠ 0 then ([], 2) else
  if (decN (R0 b) n.toNat).1.short then ([], 3) else if (decN (R0 b) n.toNat).1.b ≠ [] then ([], 2) else ((decN (R0 b) n.toNat).2, 0)
theorem decTo_m (s : RS) : ∀ j, (decTo s j).1.short = false → 2 ^ j ≤ (decTo s j).2 ∧ (decTo s j).2 < 2 ^ (j + 1)
  | 0, _ => by simp [decTo]
  | j + 1, h => by
    unfold decTo at h ⊢
    split
    · rename_i hs
      rw [if_pos hs, hs] at h
      cases h
    · rename_i hs
      have ih := decTo_m s j (by simpa using hs)
      have := took_in (decTo s j).1 (decTo s j).2
      rw [Nat.pow_succ, Nat.pow_succ]
      rw [Nat.pow_succ] at ih
      simp only
      omega
theorem decTo_m8 {s : RS} {j : Nat} (h : (decTo s j).1.short = false) (hj : j < 8) : (decTo s j).2 < 256 := by
  have := (decTo_m s j h).2
  have h2 : 2 ^ (j + 1) ≤ 2 ^ 8 := Nat.pow_le_pow_right (by decide) hj
  omega
theorem decTo_ok {s : RS} {N : Nat} (h : ROk s N) : ∀ j, j ≤ 8 → ROk (decTo s j).1 N
  | 0, _ => h
  | j + 1, hj => by
    have ih := decTo_ok h j (by omega)
    unfold decTo
    split
    · exact ih
    · rename_i hs
      exact ih.bit (decTo_m8 (by simpa using hs) (by omega))
theorem decTo_stop {s : RS} {j : Nat} (h : (decTo s j).1.short = true) : ∀ k, j ≤ k → decTo s k = decTo s j
  | 0, hk => by obtain rfl : j = 0 := by omega
                rfl
  | k + 1, hk => by
    rcases Nat.lt_or_ge j (k + 1) with hlt | hge
    · have ih := decTo_stop h k (by omega)
      rw [decTo, ih, if_pos h]
    · obtain rfl : j = k + 1 := by omega
      rfl
theorem decN_ok {s : RS} {N : Nat} (h : ROk s N) : ∀ i, ROk (decN s i).1 N
  | 0 => h
  | i + 1 => decTo_ok (decN_ok h i) 8 (by omega)
theorem decN_stop {s : RS} {i : Nat} (h : (decN s i).1.short = true) : ∀ k, i ≤ k → (decN s k).1.short = true
  | 0, hk => by obtain rfl : i = 0 := by omega
                exact h
  | k + 1, hk => by
    rcases Nat.lt_or_ge i (k + 1) with hlt | hge
    · have ih := decN_stop h k (by omega)
      rw [decN, decTo_stop (j := 0) ih 8 (by omega)]
      exact ih
    · obtain rfl : i = k + 1 := by omega
      exact h
theorem decN_length (s : RS) : ∀ i, (decN s i).2.length = i
  | 0 => rfl
  | i + 1 => by rw [decN, List.length_append, decN_length s i]; rfl
theorem nuTo_in {b : List Int} (hb : Oct b) : ∀ k, 0 ≤ nuTo b k ∧ nuTo b k < 4294967296
  | 0 => ⟨Int.le_refl 0, by show (0 : Int) < 4294967296; decide⟩
  | k + 1 => by
    have := hb.getD (k + 1)
    unfold nuTo nuF
    omega
theorem R0_ok {b : List Int} (hb : Oct b) : ROk (R0 b) b.length := ⟨lik_P0, by show (0 : Int) ≤ 4294967295; decide, by show (4294967295 : Int) < 4294967296; decide, (nuTo_in hb 4).1, (nuTo_in hb 4).2, oct_drop hb 5, by simp [R0]⟩
theorem rc_back (b : List Int) (n : Int) (hb : Oct b) (hl : b.length ≤ 1000000) : PCall Try.prog 40 [.ro 1 false (ints .u8 b), .v (.int .i64 n)] (.tup [.ro 1 false (ints .u8 (rback b n).1), .v (.int .i64 (rback b n).2)]) := by
  refine pcall_mkg Try.func40 rfl [.tmp 4, .tmp 5] Try.results40 93 rfl (tk_start ?_)
  (repeat refine ka ?_); refine kr ?_ ?_ (pops_end ?_)
  by_cases h1 : n < 0 ∨ 65536 < n
  · rw [rback, if_pos h1]
    by_cases h0 : n < 0
    · (repeat refine ka ?_); refine kb ?_
      (repeat refine ka ?_); refine kr ?_ ?_ (pops_end ?_)
      (repeat refine ka ?_); refine kct ?_
      (repeat refine ka ?_); refine kr ?_ ?_ (pops_end ?_)
      (repeat refine ka ?_); refine kret ?_; repeat (first | with_reducible refine beh_r ?_ | with_reducible refine blk_r ?_)
      refine ends_ret ?_ retPV_two
      exact gives_two .nil (.same (.v _))
    · have h2 : 65536 < n := by omega
      (repeat refine ka ?_); refine kb ?_
      (repeat refine ka ?_); refine kr ?_ ?_ (pops_end ?_)
      (repeat refine ka ?_); refine kct ?_
      (repeat refine ka ?_); refine kr ?_ ?_ (pops_end ?_)
      (repeat refine ka ?_); refine kret ?_; repeat (first | with_reducible refine beh_r ?_ | with_reducible refine blk_r ?_)
      refine ends_ret ?_ retPV_two
      exact gives_two .nil (.same (.v _))
  by_cases h2 : b.length < 5
  · rw [rback, if_neg h1, if_pos h2]
    (repeat refine ka ?_); refine kb ?_
    (repeat refine ka ?_); refine kr ?_ ?_ (pops_end ?_)
    (repeat refine ka ?_); refine kcf ?_
    (repeat refine ka ?_); refine kr ?_ ?_ (pops_end ?_)
    (repeat refine ka ?_); refine kct ?_
    (repeat refine ka ?_); refine kr ?_ ?_ (pops_end ?_)
    (repeat refine ka ?_); refine kret ?_; repeat (first | with_reducible refine beh_r ?_ | with_reducible refine blk_r ?_)
    refine ends_ret ?_ retPV_two
    exact gives_two .nil (.same (.v _))
  obtain ⟨b0, b1, b2, b3, b4, r, rfl⟩ : ∃ b0 b1 b2 b3 b4 r, b = b0 :: b1 :: b2 :: b3 :: b4 :: r := by
    match b, h2 with
    | b0 :: b1 :: b2 :: b3 :: b4 :: r, _ => exact ⟨b0, b1, b2, b3, b4, r, rfl⟩
    | [], h => simp at h
    | [_], h => simp at h
    | [_, _], h => simp at h
    | [_, _, _], h => simp at h
    | [_, _, _, _], h => simp at h
  generalize hB : b0 :: b1 :: b2 :: b3 :: b4 :: r = B at *
  have hg0 : B.getD (Int.toNat 0) 0 = B.getD 0 0 := rfl
  by_cases h3 : B.getD 0 0 ≠ 0
  · rw [rback, if_neg h1, if_neg h2, if_pos h3]
    (repeat refine ka ?_); refine kb ?_
    (repeat refine ka ?_); refine kr ?_ ?_ (pops_end ?_)
    (repeat refine ka ?_); refine kcf ?_
    (repeat refine ka ?_); refine kr ?_ ?_ (pops_end ?_)
    (repeat refine ka ?_); refine kcf ?_
    (repeat refine ka ?_); refine kr ?_ ?_ (pops_end ?_)
    (repeat refine ka ?_); refine kct ?_
    (repeat refine ka ?_); refine kr ?_ ?_ (pops_end ?_)
    (repeat refine ka ?_); refine kret ?_; repeat (first | with_reducible refine beh_r ?_ | with_reducible refine blk_r ?_)
    refine ends_ret ?_ retPV_two
    exact gives_two .nil (.same (.v _))
  have hsl : (B.drop (Int.toNat 5)).take ((B.length : Int).toNat - Int.toNat 5) = B.drop 5 := by
    rw [List.take_of_length_le]
    · rfl
    · simp only [List.length_drop, Int.toNat_natCast]; exact Nat.le_refl _
  have hs4 : (B.drop (Int.toNat 1)).take (Int.toNat 5 - Int.toNat 1) = [b1, b2, b3, b4] := by rw [← hB]; rfl
  (repeat refine ka ?_); refine kb ?_
  (repeat refine ka ?_); refine kr ?_ ?_ (pops_end ?_)
  (repeat refine ka ?_); refine kcf ?_
  (repeat refine ka ?_); refine kr ?_ ?_ (pops_end ?_)
  (repeat refine ka ?_); refine kcf ?_
  (repeat refine ka ?_); refine kr ?_ ?_ (pops_end ?_)
  (repeat refine ka ?_); refine kcf ?_
  (repeat refine ka ?_); refine ksk ?_
  refine kn ?_; repeat (first | with_reducible refine blk_n ?_ | with_reducible refine beh_n ?_)
  (repeat refine ka ?_); refine kdt 8 ?_
  refine pd_pcall rc_fresh ?_
  refine pstl_go ?_ ?_ (pstl_end ?_)
  refine ps_box (c := ci .i64 P0 ++ [.v (.int .u32 4294967295), .v (.int .u32 0), .ro 1 true (ints .u8 (B.drop 5)), .v (.bool false)]) (sz := 260) (fun gr => ?_) (hc := by rw [hsl]; kernel_rfl) (hs := by simp [ci_length, P0_length])
  refine pops_go ?_ ?_ (pops_end ?_)
  (repeat refine ka ?_); refine kr ?_ ?_ (pops_end ?_)
  rw [hs4]
  have hgk : ∀ k, k < 4 → 0 ≤ [b1, b2, b3, b4].getD k 0 ∧ [b1, b2, b3, b4].getD k 0 < 256 ∧ [b1, b2, b3, b4].getD k 0 = B.getD (k + 1) 0 := by
    intro k hk
    have e : [b1, b2, b3, b4].getD k 0 = B.getD (k + 1) 0 := by
      rw [← hB]
      rcases k with _ | _ | _ | _ | k <;> first | rfl | omega
    have := hb.getD (k + 1)
    rw [← e] at this
    exact ⟨this.1, this.2, e⟩
  generalize hQ : [b1, b2, b3, b4] = Q at *
  have hQl : Q.length = 4 := by rw [← hQ]; rfl
  have hP0 := P0_length
  (repeat refine ka ?_); refine kb ?_
  refine kw (fun k : Nat => [(1, .v (.int .i64 n)), (6, .ptr 0 gr 0 0), (38, .ro 1 false (ints .u8 Q)), (39, .v (.int .i64 4)), (40, .v (.int .i64 k))]) (fun k => [rB gr true ⟨P0, 4294967295, nuTo B k, B.drop 5, false⟩]) (fun k => k ≤ 4) (fun k => 4 - k) 0 (by omega) (holds 1 (by repeat (first | exact .nil | refine has1 ?_))) ?_
  intro k hk
  obtain ⟨hk0, hk1⟩ := nuTo_in hb k
  unfold rB
  dsimp only
  by_cases h4 : k < 4
  · obtain ⟨g0, g1, g2⟩ := hgk k h4
    have hsh : IntKind.u32.wrap (nuTo B k * 256) = nuTo B k * 256 % 4294967296 := wrap_u32m _
    have hor := nu_or hk0 g0 g1
    have hor' : Go.bits .or .u32 (nuTo B k * 256 % 4294967296) (Q.getD ((k : Nat) : Int).toNat 0) = nuTo B (k + 1) := by
      rw [Int.toNat_natCast, hor, g2]; rfl
    have g0' : 0 ≤ Q.getD ((k : Nat) : Int).toNat 0 := by rw [Int.toNat_natCast]; exact g0
    have g1' : Q.getD ((k : Nat) : Int).toNat 0 < 256 := by rw [Int.toNat_natCast]; exact g1
    (repeat refine ka ?_); refine kr ?_ ?_ (pops_end ?_)
    (repeat refine ka ?_); refine kct ?_
    (repeat refine ka ?_); refine ksk ?_
    (repeat refine ka ?_); refine kb ?_
    (repeat refine ka ?_); refine kr ?_ ?_ (pops_end ?_)
    (repeat refine ka ?_); refine kr ?_ ?_ ?_
    refine ps_st_ct ?_
    refine pops_nil ?_
    refine kn ?_; repeat (first | with_reducible refine blk_n ?_ | with_reducible refine beh_n ?_)
    (repeat refine ka ?_); refine kr ?_ ?_ (pops_end ?_)
    refine kn ?_; repeat (first | with_reducible refine blk_n ?_ | with_reducible refine beh_n ?_)
    exact ⟨k + 1, by omega, by omega, (holds 1 (by repeat (first | exact .nil | refine has1 ?_)))⟩
  obtain rfl : k = 4 := by omega
  (repeat refine ka ?_); refine kr ?_ ?_ (pops_end ?_)
  (repeat refine ka ?_); refine kcf ?_
  (repeat refine ka ?_); refine kx ?_; (repeat (first | with_reducible refine beh_x ?_ | with_reducible refine blk_up rfl ?_)); refine blk_here ?_; refine beh_n ?_
  (repeat refine ka ?_); refine kr ?_ ?_ (pops_end ?_)
  (repeat refine ka ?_); refine kr ?_ ?_ (pops_end ?_)
  (repeat refine ka ?_)
  refine kvoid 10 1 (fun g => ?_)
  (repeat refine ka ?_); refine kr ?_ ?_ (pops_end ?_)
  have hR0 := R0_ok hb
  have hn : 0 ≤ n := by omega
  obtain ⟨n, rfl⟩ := Int.eq_ofNat_of_zero_le hn
  rw [rback, if_neg h1, if_neg h2, if_neg h3, Int.toNat_natCast]
  (repeat refine ka ?_); refine kb ?_
  refine kw (fun s : Nat × Nat => [(6, .ptr 0 gr 0 0), (9, .fn (.func 61) [.ptr 0 gr 0 0] []), (10, .vw 1 s.2 0 s.1), (58, .v (.int .i64 n)), (59, .v (.int .i64 s.1))]) (fun s => [rB gr true (decN (R0 B) s.1).1, ⟨s.2, true, 1, ints .u8 (decN (R0 B) s.1).2⟩]) (fun s => s.1 ≤ n ∧ (decN (R0 B) s.1).1.short = false) (fun s => n - s.1) (0, g) ⟨by simp, rfl⟩ (holds 2 (by repeat (first | exact .nil | refine has1 ?_))) ?_
  rintro ⟨i, g⟩ ⟨hi, hsi⟩
  simp only at hi hsi ⊢
  have hok := decN_ok hR0 i
  have hlen := decN_length (R0 B) i
  by_cases h5 : i < n
  · (repeat refine ka ?_); refine kr ?_ ?_ (pops_end ?_)
    (repeat refine ka ?_); refine kct ?_
    (repeat refine ka ?_); refine ksk ?_
    (repeat refine ka ?_); refine kb ?_
    (repeat refine ka ?_); refine kr ?_ ?_ (pops_end ?_)
    (repeat refine ka ?_); refine kb ?_
    have hst := decN_stop (s := R0 B) (i := i + 1)
    have e1 : decN (R0 B) (i + 1) = ((decTo (decN (R0 B) i).1 8).1, (decN (R0 B) i).2 ++ [((decTo (decN (R0 B) i).1 8).2 : Int) % 256]) := rfl
    generalize hq : decN (R0 B) i = q at *
    obtain ⟨s, out⟩ := q
    dsimp only at *
    refine kw (fun j : Nat => [(6, .ptr 0 gr 0 0), (9, .fn (.func 61) [.ptr 0 gr 0 0] []), (10, .vw 1 g 0 i), (58, .v (.int .i64 n)), (59, .v (.int .i64 i)), (11, .v (.int .i64 ((decTo s j).2 : Nat)))]) (fun j => [rB gr true (decTo s j).1, ⟨g, true, 1, ints .u8 out⟩]) (fun j => j ≤ 8 ∧ ∀ k < j, (decTo s k).1.short = false) (fun j => 8 - j) 0 ⟨by simp, by simp⟩ (holds 2 (by repeat (first | exact .nil | refine has1 ?_))) ?_
    rintro j ⟨hj, hjs⟩
    have hokj := decTo_ok hok j hj
    have hlj := hokj.lik.1
    have hmj := decTo_m s j
    have e8 := decTo_stop (s := s) (j := j)
    have hm8 := decTo_m8 (s := s) (j := j)
    have e2 : decTo s (j + 1) = if (decTo s j).1.short then decTo s j else ((decTo s j).1.bit (decTo s j).2, 2 * (decTo s j).2 + ((decTo s j).1.took (decTo s j).2).toNat) := rfl
    have htk := took_in (decTo s j).1 (decTo s j).2
    have hcall := fun (hm : (decTo s j).2 < 256) => rc_takeS (gr := gr) (f := true) (X := [⟨g, true, 1, ints .u8 out⟩]) hokj (by omega) hm
    by_cases hsj : (decTo s j).1.short = true
    · have e9 : (decN (R0 B) n).1.short = true := hst (by rw [e1]; dsimp only; rw [e8 hsj 8 hj]; exact hsj) n (by omega)
      rw [if_pos e9]
      generalize decTo s j = q at *
      obtain ⟨⟨ql, qw, qn, qb, qs⟩, m⟩ := q
      dsimp only at *
      subst hsj
      unfold rB
      dsimp only
      by_cases hm : m < 256
      · (repeat refine ka ?_); refine kr ?_ ?_ (pops_end ?_)
        (repeat refine ka ?_); refine kcf ?_
        (repeat refine ka ?_); refine kx ?_; (repeat (first | with_reducible refine beh_x ?_ | with_reducible refine blk_up rfl ?_)); refine blk_here ?_; refine beh_n ?_
        (repeat refine ka ?_); refine kr ?_ ?_ (pops_end ?_)
        (repeat refine ka ?_); refine kct ?_
        (repeat refine ka ?_); refine kr ?_ ?_ (pops_end ?_)
        (repeat refine ka ?_); refine kret ?_; repeat (first | with_reducible refine beh_r ?_ | with_reducible refine blk_r ?_)
        refine ends_ret ?_ retPV_two
        exact gives_two .nil (.same (.v _))
      · (repeat refine ka ?_); refine kr ?_ ?_ (pops_end ?_)
        (repeat refine ka ?_); refine kcf ?_
        (repeat refine ka ?_); refine kx ?_; (repeat (first | with_reducible refine beh_x ?_ | with_reducible refine blk_up rfl ?_)); refine blk_here ?_; refine beh_n ?_
        (repeat refine ka ?_); refine kr ?_ ?_ (pops_end ?_)
        (repeat refine ka ?_); refine kct ?_
        (repeat refine ka ?_); refine kr ?_ ?_ (pops_end ?_)
        (repeat refine ka ?_); refine kret ?_; repeat (first | with_reducible refine beh_r ?_ | with_reducible refine blk_r ?_)
        refine ends_ret ?_ retPV_two
        exact gives_two .nil (.same (.v _))
    · have hsj' : (decTo s j).1.short = false := by simpa using hsj
      have hmj := hmj hsj'
      by_cases hj8 : j < 8
      · have hm := hm8 hsj' hj8
        have hcall := hcall hm
        have hor := or1_i64 (decTo s j).2 ((decTo s j).1.took (decTo s j).2) (by omega) htk.1 htk.2
        rw [if_neg hsj] at e2
        unfold rB at hcall ⊢
        generalize hq2 : decTo s j = q at *
        obtain ⟨⟨ql, qw, qn, qb, qs⟩, m⟩ := q
        dsimp only at *
        subst hsj'
        (repeat refine ka ?_); refine kr ?_ ?_ (pops_end ?_)
        (repeat refine ka ?_); refine kct ?_
        (repeat refine ka ?_); refine ksk ?_
        (repeat refine ka ?_); refine kb ?_
        (repeat refine ka ?_); refine kr ?_ ?_ ?_
        refine ps_vcall (us := [.v (.int .i64 m)]) hcall ?_
        rintro x S' ⟨rfl, rfl⟩
        refine pops_go ?_ ?_ (pops_end ?_)
        refine kn ?_; repeat (first | with_reducible refine blk_n ?_ | with_reducible refine beh_n ?_)
        refine ⟨j + 1, ⟨by omega, fun k hk => ?_⟩, by omega, ?_⟩
        · rcases Nat.lt_or_ge k j with h | h
          · exact hjs k h
          · obtain rfl : k = j := by omega
            rw [hq2]
        · rw [e2]
          exact (holds 2 (by repeat (first | exact .nil | refine has1 ?_)))
      · obtain rfl : j = 8 := by omega
        unfold rB
        generalize hq2 : decTo s 8 = q at *
        obtain ⟨⟨ql, qw, qn, qb, qs⟩, m⟩ := q
        dsimp only at *
        subst hsj'
        (repeat refine ka ?_); refine kr ?_ ?_ (pops_end ?_)
        (repeat refine ka ?_); refine kcf ?_
        (repeat refine ka ?_); refine kx ?_; (repeat (first | with_reducible refine beh_x ?_ | with_reducible refine blk_up rfl ?_)); refine blk_here ?_; refine beh_n ?_
        (repeat refine ka ?_); refine kr ?_ ?_ (pops_end ?_)
        (repeat refine ka ?_); refine kcf ?_
        (repeat refine ka ?_); refine ksk ?_
        (repeat refine ka ?_); refine kr ?_ ?_ ?_
        refine ps_lit (fun g1 => ?_)
        refine pops_go ?_ ?_ ?_
        refine ps_app_vw (rows' := ints .u8 (out ++ [(m : Int) % 256])) (fun g2 => ?_) (hlen := by rw [ints_length, hlen]) (hrows := by simp [ints])
        refine pops_go ?_ ?_ (pops_end ?_)
        refine kn ?_; repeat (first | with_reducible refine blk_n ?_ | with_reducible refine beh_n ?_)
        (repeat refine ka ?_); refine kr ?_ ?_ (pops_end ?_)
        refine kn ?_; repeat (first | with_reducible refine blk_n ?_ | with_reducible refine beh_n ?_)
        refine ⟨(i + 1, g2), ⟨by simp only; omega, by simp only [e1]⟩, by simp only; omega, ?_⟩
        simp only [e1]
        exact (holds 2 (by repeat (first | exact .nil | refine has1 ?_)))
  · obtain rfl : i = n := by omega
    generalize hq : decN (R0 B) i = q at *
    obtain ⟨⟨ql, qw, qn, qb, qs⟩, out⟩ := q
    dsimp only at *
    subst hsi
    have hlj := hok.lik.1
    unfold rB
    dsimp only at *
    simp only [Bool.false_eq_true, if_false]
    by_cases h6 : qb = []
    · subst h6
      have h00 : (([] : List Int).length : Int) = 0 := rfl
      (repeat refine ka ?_); refine kr ?_ ?_ (pops_end ?_)
      (repeat refine ka ?_); refine kcf ?_
      (repeat refine ka ?_); refine kx ?_; (repeat (first | with_reducible refine beh_x ?_ | with_reducible refine blk_up rfl ?_)); refine blk_here ?_; refine beh_n ?_
      (repeat refine ka ?_); refine kr ?_ ?_ (pops_end ?_)
      (repeat refine ka ?_); refine kcf ?_
      (repeat refine ka ?_); refine ksk ?_
      (repeat refine ka ?_); refine kr ?_ ?_ (pops_end ?_)
      (repeat refine ka ?_); refine kret ?_; repeat (first | with_reducible refine beh_r ?_ | with_reducible refine blk_r ?_)
      refine ends_ret ?_ retPV_two
      rw [if_neg (by simp)]
      exact gives_two (gives_ints rfl rfl hlen) (.same (.v _))
    · have h7 : 0 < qb.length := List.length_pos_iff.2 h6
      (repeat refine ka ?_); refine kr ?_ ?_ (pops_end ?_)
      (repeat refine ka ?_); refine kcf ?_
      (repeat refine ka ?_); refine kx ?_; (repeat (first | with_reducible refine beh_x ?_ | with_reducible refine blk_up rfl ?_)); refine blk_here ?_; refine beh_n ?_
      (repeat refine ka ?_); refine kr ?_ ?_ (pops_end ?_)
      (repeat refine ka ?_); refine kct ?_
      (repeat refine ka ?_); refine kr ?_ ?_ (pops_end ?_)
      (repeat refine ka ?_); refine kret ?_; repeat (first | with_reducible refine beh_r ?_ | with_reducible refine blk_r ?_)
      refine ends_ret ?_ retPV_two
      rw [if_pos h6]
      exact gives_two .nil (.same (.v _))
end Go.Proofs.Yteocmeidkdhmiaa.Pv
