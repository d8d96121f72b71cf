-- mem.Mem: words.
import Derived.Test.YtfjodfeoncoaoaaMcA
namespace Go.Proofs.Ytfjodfeoncoaoaa.Pv
set_option linter.all false
open Go.RowKit Go.Proofs
set_option maxRecDepth 100000
set_option maxHeartbeats 4000000
def wb (w : Int) : List Int := [w % 256, w / 256 % 256, w / 65536 % 256, w / 16777216 % 256]
def setW (l : List Int) (a : Nat) (w : Int) : Nat → List Int
  | 0 => l
  | 1 => l.set a (w % 256)
  | 2 => (l.set a (w % 256)).set (a + 1) (w / 256 % 256)
  | 3 => ((l.set a (w % 256)).set (a + 1) (w / 256 % 256)).set (a + 2) (w / 65536 % 256)
  | _ => (((l.set a (w % 256)).set (a + 1) (w / 256 % 256)).set (a + 2) (w / 65536 % 256)).set (a + 3) (w / 16777216 % 256)
theorem setW_length (l : List Int) (a : Nat) (w : Int) (i : Nat) : (setW l a w i).length = l.length := by
  unfold setW
  split <;> simp
theorem setW_all (l : List Int) (a : Nat) (w : Int) (h : a + 4 ≤ l.length) : setW l a w 4 = putAt l a (wb w) := by
  obtain ⟨A, B, rfl, hA⟩ : ∃ A B, l = A ++ B ∧ A.length = a := ⟨l.take a, l.drop a, by simp, by simp; omega⟩
  obtain ⟨x0, x1, x2, x3, C, rfl⟩ : ∃ x0 x1 x2 x3 C, B = x0 :: x1 :: x2 :: x3 :: C := by
    simp only [List.length_append] at h
    match B, h with
    | x0 :: x1 :: x2 :: x3 :: C, _ => exact ⟨x0, x1, x2, x3, C, rfl⟩
    | [], h => simp at h; omega
    | [_], h => simp at h; omega
    | [_, _], h => simp at h; omega
    | [_, _, _], h => simp at h; omega
  subst hA
  have d : (A ++ x0 :: x1 :: x2 :: x3 :: C).drop (A.length + 4) = C := by
    rw [List.drop_append]; simp
  simp only [setW, putAt, wb, List.length_cons, List.length_nil, Nat.reduceAdd, d]
  simp [List.set_append]
def putW (l : List Int) (a w : Int) : List Int := if (a % 4 = 0 ∧ a + 4 ≤ l.length) then putAt l a.toNat (wb w) else l
theorem putW_length (l : List Int) (a w : Int) (h0 : 0 ≤ a) : (putW l a w).length = l.length := by
  unfold putW
  split
  · exact putAt_length _ _ _ (by simp [wb]; omega)
  · rfl
theorem mem_putword (l : List Int) (g0 g1 : Nat) (a w : Int) (ha : 0 ≤ a ∧ a < 4294967296) (hw : 0 ≤ w ∧ w < 4294967296) (hl : l.length ≤ 1048576) : GCall Try.prog 90 [.ptr 0 g0 0 0, .v (.int .u32 a), .v (.int .u32 w)]
    [⟨g0, true, 1, [[.vw 1 g1 0 l.length]]⟩, ⟨g1, true, 1, ints .u8 l⟩] (fun x S' => x = .v (.bool (decide (a % 4 = 0 ∧ a + 4 ≤ l.length))) ∧ S' = [⟨g0, true, 1, [[.vw 1 g1 0 (putW l a w).length]]⟩, ⟨g1, true, 1, ints .u8 (putW l a w)⟩]) := by
  refine gcall_drop ?_
  refine gcall_of_tr Try.func90 rfl [.tmp 6] Try.results90 31 rfl (tk_start ?_)
  (repeat refine ka ?_); refine kr ?_ ?_ (pops_end ?_)
  (repeat refine ka ?_); refine kr ?_ ?_ ?_
  refine ps_gcall (mem_word_at l g0 g1 a ha hl) ?_
  rintro x S' ⟨rfl, ⟨h, rfl⟩ | ⟨h, rfl⟩⟩
  · rw [decide_eq_true h, putW_length l a w ha.1]
    have s0 : (setW l a.toNat w 0).set (a.toNat + (0 : Int).toNat) (w / 1 % 256) = setW l a.toNat w 1 := by rw [Int.ediv_one]; rfl
    have s1 : (setW l a.toNat w 1).set (a.toNat + (1 : Int).toNat) (w / 256 % 256) = setW l a.toNat w 2 := rfl
    have s2 : (setW l a.toNat w 2).set (a.toNat + (2 : Int).toNat) (w / 65536 % 256) = setW l a.toNat w 3 := rfl
    have s3 : (setW l a.toNat w 3).set (a.toNat + (3 : Int).toNat) (w / 16777216) = setW l a.toNat w 4 := by
      have : w / 16777216 = w / 16777216 % 256 := by omega
      rw [this]; rfl
    refine pops_go ?_ ?_ (pops_end ?_)
    (repeat refine ka ?_); refine kr ?_ ?_ (pops_end ?_)
    (repeat refine ka ?_); refine kb ?_
    refine kw (fun i : Nat => [(2, .v (.int .u32 w)), (7, .vw 1 g1 a.toNat 4), (8, .v (.bool true)), (17, .v (.int .i64 4)), (18, .v (.int .i64 i))]) (fun i => [⟨g0, true, 1, [[.vw 1 g1 0 l.length]]⟩, ⟨g1, true, 1, ints .u8 (setW l a.toNat w i)⟩]) (fun i => i ≤ 4) (fun i => 4 - i) 0 (by omega) (holds 2 (by repeat (first | exact .nil | refine has1 ?_))) ?_
    intro i hi
    obtain rfl | rfl | rfl | rfl | rfl : i = 0 ∨ i = 1 ∨ i = 2 ∨ i = 3 ∨ i = 4 := by omega
    · simp only [Int.cast_ofNat_Int]
      (repeat refine ka ?_); refine kr ?_ ?_ (pops_end ?_)
      (repeat refine ka ?_); refine kct ?_
      (repeat refine ka ?_); refine ksk ?_
      (repeat refine ka ?_); refine kb ?_
      (repeat refine ka ?_); refine kr ?_ ?_ (pops_end ?_)
      (repeat refine ka ?_); refine kr ?_ ?_ ?_
      refine ps_seti (k0 := .u8) (l := setW l a.toNat w 0) (hi := by rw [setW_length]; simp only [Int.reduceToNat]; omega) ?_
      refine pops_nil ?_
      refine kn ?_; repeat (first | with_reducible refine blk_n ?_ | with_reducible refine beh_n ?_)
      (repeat refine ka ?_); refine kr ?_ ?_ (pops_end ?_)
      refine kn ?_; repeat (first | with_reducible refine blk_n ?_ | with_reducible refine beh_n ?_)
      refine ⟨1, by omega, by omega, ?_⟩
      rw [← s0]
      exact (holds 2 (by repeat (first | exact .nil | refine has1 ?_)))
    · simp only [Int.cast_ofNat_Int]
      (repeat refine ka ?_); refine kr ?_ ?_ (pops_end ?_)
      (repeat refine ka ?_); refine kct ?_
      (repeat refine ka ?_); refine ksk ?_
      (repeat refine ka ?_); refine kb ?_
      (repeat refine ka ?_); refine kr ?_ ?_ (pops_end ?_)
      (repeat refine ka ?_); refine kr ?_ ?_ ?_
      refine ps_seti (k0 := .u8) (l := setW l a.toNat w 1) (hi := by rw [setW_length]; simp only [Int.reduceToNat]; omega) ?_
      refine pops_nil ?_
      refine kn ?_; repeat (first | with_reducible refine blk_n ?_ | with_reducible refine beh_n ?_)
      (repeat refine ka ?_); refine kr ?_ ?_ (pops_end ?_)
      refine kn ?_; repeat (first | with_reducible refine blk_n ?_ | with_reducible refine beh_n ?_)
      refine ⟨2, by omega, by omega, ?_⟩
      rw [← s1]
      exact (holds 2 (by repeat (first | exact .nil | refine has1 ?_)))
    · simp only [Int.cast_ofNat_Int]
      (repeat refine ka ?_); refine kr ?_ ?_ (pops_end ?_)
      (repeat refine ka ?_); refine kct ?_
      (repeat refine ka ?_); refine ksk ?_
      (repeat refine ka ?_); refine kb ?_
      (repeat refine ka ?_); refine kr ?_ ?_ (pops_end ?_)
      (repeat refine ka ?_); refine kr ?_ ?_ ?_
      refine ps_seti (k0 := .u8) (l := setW l a.toNat w 2) (hi := by rw [setW_length]; simp only [Int.reduceToNat]; omega) ?_
      refine pops_nil ?_
      refine kn ?_; repeat (first | with_reducible refine blk_n ?_ | with_reducible refine beh_n ?_)
      (repeat refine ka ?_); refine kr ?_ ?_ (pops_end ?_)
      refine kn ?_; repeat (first | with_reducible refine blk_n ?_ | with_reducible refine beh_n ?_)
      refine ⟨3, by omega, by omega, ?_⟩
      rw [← s2]
      exact (holds 2 (by repeat (first | exact .nil | refine has1 ?_)))
    · simp only [Int.cast_ofNat_Int]
      (repeat refine ka ?_); refine kr ?_ ?_ (pops_end ?_)
      (repeat refine ka ?_); refine kct ?_
      (repeat refine ka ?_); refine ksk ?_
      (repeat refine ka ?_); refine kb ?_
      (repeat refine ka ?_); refine kr ?_ ?_ (pops_end ?_)
      (repeat refine ka ?_); refine kr ?_ ?_ ?_
      refine ps_seti (k0 := .u8) (l := setW l a.toNat w 3) (hi := by rw [setW_length]; simp only [Int.reduceToNat]; omega) ?_
      refine pops_nil ?_
      refine kn ?_; repeat (first | with_reducible refine blk_n ?_ | with_reducible refine beh_n ?_)
      (repeat refine ka ?_); refine kr ?_ ?_ (pops_end ?_)
      refine kn ?_; repeat (first | with_reducible refine blk_n ?_ | with_reducible refine beh_n ?_)
      refine ⟨4, by omega, by omega, ?_⟩
      rw [← s3]
      exact (holds 2 (by repeat (first | exact .nil | refine has1 ?_)))
    · simp only [Int.cast_ofNat_Int]
      (repeat refine ka ?_); refine kr ?_ ?_ (pops_end ?_)
      (repeat refine ka ?_); refine kcf ?_
      (repeat refine ka ?_); refine kx ?_; (repeat (first | with_reducible refine beh_x ?_ | with_reducible refine blk_up rfl ?_)); refine blk_here ?_; refine beh_n ?_
      (repeat refine ka ?_); refine kr ?_ ?_ (pops_end ?_)
      (repeat refine ka ?_); refine kret ?_; repeat (first | with_reducible refine beh_r ?_ | with_reducible refine blk_r ?_)
      refine ends_ret ?_ retPV_one
      refine ⟨2, rfl, ?_⟩
      rw [setW_all l a.toNat w (by omega), putW, if_pos h]
      rfl
  · rw [decide_eq_false h, putW, if_neg h]
    refine pops_go ?_ ?_ (pops_end ?_)
    (repeat refine ka ?_); refine kr ?_ ?_ (pops_end ?_)
    (repeat refine ka ?_); refine kb ?_
    refine kw (fun _ : Unit => [(8, .v (.bool false)), (17, .v (.int .i64 (0 : Nat))), (18, .v (.int .i64 0))]) (fun _ => [⟨g0, true, 1, [[.vw 1 g1 0 l.length]]⟩, ⟨g1, true, 1, ints .u8 l⟩]) (fun _ => True) (fun _ => 0) () trivial (holds 2 (by repeat (first | exact .nil | refine has1 ?_))) ?_
    intro _ _
    (repeat refine ka ?_); refine kr ?_ ?_ (pops_end ?_)
    (repeat refine ka ?_); refine kcf ?_
    (repeat refine ka ?_); refine kx ?_; (repeat (first | with_reducible refine beh_x ?_ | with_reducible refine blk_up rfl ?_)); refine blk_here ?_; refine beh_n ?_
    (repeat refine ka ?_); refine kr ?_ ?_ (pops_end ?_)
    (repeat refine ka ?_); refine kret ?_; repeat (first | with_reducible refine beh_r ?_ | with_reducible refine blk_r ?_)
    refine ends_ret ?_ retPV_one
    exact ⟨2, rfl, rfl⟩
theorem or_u32 (x y : Int) (h0 : 0 ≤ x) (h1 : x < 4294967296) (g0 : 0 ≤ y) (g1 : y < 4294967296) : Go.bits .or .u32 x y = ((x.toNat ||| y.toNat : Nat) : Int) := by
  show IntKind.u32.wrap (((BitVec.ofInt 32 x ||| BitVec.ofInt 32 y).toNat : Nat) : Int) = _
  rw [BitVec.toNat_or, ofInt_toNat (n := 32) h0 (by omega), ofInt_toNat (n := 32) g0 (by omega)]
  have := Nat.or_lt_two_pow (n := 32) (x := x.toNat) (y := y.toNat) (by omega) (by omega)
  exact wrap_u32 _ (by omega) (by omega)
theorem or_u32_1 (y : Int) (g0 : 0 ≤ y) (g1 : y < 256) : Go.bits .or .u32 0 (y * 1) = y := by
  rw [or_u32 0 (y * 1) (by decide) (by decide) (by omega) (by omega)]
  simp; omega
theorem or_u32_2 (x y : Int) (h0 : 0 ≤ x) (h1 : x < 256) (g0 : 0 ≤ y) (g1 : y < 256) : Go.bits .or .u32 x (y * 256) = x + y * 256 := by
  rw [or_u32 x (y * 256) h0 (by omega) (by omega) (by omega), show (y * 256).toNat = y.toNat * 2 ^ 8 by omega, nat_or_add 8 x.toNat y.toNat (by omega)]
  omega
theorem or_u32_3 (x y : Int) (h0 : 0 ≤ x) (h1 : x < 65536) (g0 : 0 ≤ y) (g1 : y < 256) : Go.bits .or .u32 x (y * 65536) = x + y * 65536 := by
  rw [or_u32 x (y * 65536) h0 (by omega) (by omega) (by omega), show (y * 65536).toNat = y.toNat * 2 ^ 16 by omega, nat_or_add 16 x.toNat y.toNat (by omega)]
  omega
theorem or_u32_4 (x y : Int) (h0 : 0 ≤ x) (h1 : x < 16777216) (g0 : 0 ≤ y) (g1 : y < 256) : Go.bits .or .u32 x (y * 16777216) = x + y * 16777216 := by
  rw [or_u32 x (y * 16777216) h0 (by omega) (by omega) (by omega), show (y * 16777216).toNat = y.toNat * 2 ^ 24 by omega, nat_or_add 24 x.toNat y.toNat (by omega)]
  omega
def word4 (l : List Int) (a : Nat) : Int := l.getD a 0 + l.getD (a + 1) 0 * 256 + l.getD (a + 2) 0 * 65536 + l.getD (a + 3) 0 * 16777216
def accW (l : List Int) (a : Nat) : Nat → Int
  | 0 => 0
  | 1 => l.getD a 0
  | 2 => l.getD a 0 + l.getD (a + 1) 0 * 256
  | 3 => l.getD a 0 + l.getD (a + 1) 0 * 256 + l.getD (a + 2) 0 * 65536
  | _ => word4 l a
theorem mem_word (l : List Int) (hb : Oct l) (g0 g1 : Nat) (a : Int) (ha : 0 ≤ a ∧ a < 4294967296) (hl : l.length ≤ 1048576) : GCall Try.prog 63 [.ptr 0 g0 0 0, .v (.int .u32 a)]
    [⟨g0, true, 1, [[.vw 1 g1 0 l.length]]⟩, ⟨g1, true, 1, ints .u8 l⟩] (fun x S' => x = .tup [.v (.int .u32 (if (a % 4 = 0 ∧ a + 4 ≤ l.length) then word4 l a.toNat else 0)), .v (.bool (decide (a % 4 = 0 ∧ a + 4 ≤ l.length)))] ∧ S' = [⟨g0, true, 1, [[.vw 1 g1 0 l.length]]⟩, ⟨g1, true, 1, ints .u8 l⟩]) := by
  refine gcall_drop ?_
  refine gcall_of_tr Try.func63 rfl [.tmp 4, .tmp 5] Try.results63 35 rfl (tk_start ?_)
  (repeat refine ka ?_); refine kr ?_ ?_ (pops_end ?_)
  (repeat refine ka ?_); refine kr ?_ ?_ ?_
  refine ps_gcall (mem_word_at l g0 g1 a ha hl) ?_
  rintro x S' ⟨rfl, ⟨h, rfl⟩ | ⟨h, rfl⟩⟩
  · rw [if_pos h, decide_eq_true h]
    have k0 := hb.getD (a.toNat + (0 : Int).toNat)
    have k1 := hb.getD (a.toNat + (1 : Int).toNat)
    have k2 := hb.getD (a.toNat + (2 : Int).toNat)
    have k3 := hb.getD (a.toNat + (3 : Int).toNat)
    have d0 : l.getD (a.toNat + (0 : Int).toNat) 0 = l.getD a.toNat 0 := rfl
    have d1 : l.getD (a.toNat + (1 : Int).toNat) 0 = l.getD (a.toNat + 1) 0 := rfl
    have d2 : l.getD (a.toNat + (2 : Int).toNat) 0 = l.getD (a.toNat + 2) 0 := rfl
    have d3 : l.getD (a.toNat + (3 : Int).toNat) 0 = l.getD (a.toNat + 3) 0 := rfl
    have k0' : 0 ≤ l.getD a.toNat 0 ∧ l.getD a.toNat 0 < 256 := k0
    have k1' : 0 ≤ l.getD (a.toNat + 1) 0 ∧ l.getD (a.toNat + 1) 0 < 256 := k1
    have k2' : 0 ≤ l.getD (a.toNat + 2) 0 ∧ l.getD (a.toNat + 2) 0 < 256 := k2
    have q0 : Go.bits .or .u32 (accW l a.toNat 0) (l.getD (a.toNat + (0 : Int).toNat) 0 * 1) = accW l a.toNat 1 := or_u32_1 _ k0.1 k0.2
    have q1 : Go.bits .or .u32 (accW l a.toNat 1) (l.getD (a.toNat + (1 : Int).toNat) 0 * 256) = accW l a.toNat 2 := or_u32_2 _ _ k0.1 k0.2 k1.1 k1.2
    have q2 : Go.bits .or .u32 (accW l a.toNat 2) (l.getD (a.toNat + (2 : Int).toNat) 0 * 65536) = accW l a.toNat 3 := or_u32_3 _ _ (by simp only [accW]; omega) (by simp only [accW]; omega) k2.1 k2.2
    have q3 : Go.bits .or .u32 (accW l a.toNat 3) (l.getD (a.toNat + (3 : Int).toNat) 0 * 16777216) = accW l a.toNat 4 := or_u32_4 _ _ (by simp only [accW]; omega) (by simp only [accW]; omega) k3.1 k3.2
    clear d0 d1 d2 d3
    refine pops_go ?_ ?_ (pops_end ?_)
    (repeat refine ka ?_); refine kr ?_ ?_ (pops_end ?_)
    (repeat refine ka ?_); refine kcf ?_
    (repeat refine ka ?_); refine ksk ?_
    (repeat refine ka ?_); refine kr ?_ ?_ (pops_end ?_)
    (repeat refine ka ?_); refine kr ?_ ?_ (pops_end ?_)
    (repeat refine ka ?_); refine kb ?_
    refine kw (fun i : Nat => [(8, .v (.int .u32 (accW l a.toNat i))), (19, .vw 1 g1 a.toNat 4), (20, .v (.int .i64 4)), (21, .v (.int .i64 i))]) (fun i => [⟨g0, true, 1, [[.vw 1 g1 0 l.length]]⟩, ⟨g1, true, 1, ints .u8 l⟩]) (fun i => i ≤ 4) (fun i => 4 - i) 0 (by omega) (holds 2 (by repeat (first | exact .nil | refine has1 ?_))) ?_
    intro i hi
    obtain rfl | rfl | rfl | rfl | rfl : i = 0 ∨ i = 1 ∨ i = 2 ∨ i = 3 ∨ i = 4 := by omega
    · simp only [Int.cast_ofNat_Int]
      (repeat refine ka ?_); refine kr ?_ ?_ (pops_end ?_)
      (repeat refine ka ?_); refine kct ?_
      (repeat refine ka ?_); refine ksk ?_
      (repeat refine ka ?_); refine kb ?_
      (repeat refine ka ?_); refine kr ?_ ?_ (pops_end ?_)
      (repeat refine ka ?_); refine kr ?_ ?_ (pops_end ?_)
      refine kn ?_; repeat (first | with_reducible refine blk_n ?_ | with_reducible refine beh_n ?_)
      (repeat refine ka ?_); refine kr ?_ ?_ (pops_end ?_)
      refine kn ?_; repeat (first | with_reducible refine blk_n ?_ | with_reducible refine beh_n ?_)
      refine ⟨1, by omega, by omega, ?_⟩
      rw [← q0]
      exact (holds 2 (by repeat (first | exact .nil | refine has1 ?_)))
    · simp only [Int.cast_ofNat_Int]
      (repeat refine ka ?_); refine kr ?_ ?_ (pops_end ?_)
      (repeat refine ka ?_); refine kct ?_
      (repeat refine ka ?_); refine ksk ?_
      (repeat refine ka ?_); refine kb ?_
      (repeat refine ka ?_); refine kr ?_ ?_ (pops_end ?_)
      (repeat refine ka ?_); refine kr ?_ ?_ (pops_end ?_)
      refine kn ?_; repeat (first | with_reducible refine blk_n ?_ | with_reducible refine beh_n ?_)
      (repeat refine ka ?_); refine kr ?_ ?_ (pops_end ?_)
      refine kn ?_; repeat (first | with_reducible refine blk_n ?_ | with_reducible refine beh_n ?_)
      refine ⟨2, by omega, by omega, ?_⟩
      rw [← q1]
      exact (holds 2 (by repeat (first | exact .nil | refine has1 ?_)))
    · simp only [Int.cast_ofNat_Int]
      (repeat refine ka ?_); refine kr ?_ ?_ (pops_end ?_)
      (repeat refine ka ?_); refine kct ?_
      (repeat refine ka ?_); refine ksk ?_
      (repeat refine ka ?_); refine kb ?_
      (repeat refine ka ?_); refine kr ?_ ?_ (pops_end ?_)
      (repeat refine ka ?_); refine kr ?_ ?_ (pops_end ?_)
      refine kn ?_; repeat (first | with_reducible refine blk_n ?_ | with_reducible refine beh_n ?_)
      (repeat refine ka ?_); refine kr ?_ ?_ (pops_end ?_)
      refine kn ?_; repeat (first | with_reducible refine blk_n ?_ | with_reducible refine beh_n ?_)
      refine ⟨3, by omega, by omega, ?_⟩
      rw [← q2]
      exact (holds 2 (by repeat (first | exact .nil | refine has1 ?_)))
    · simp only [Int.cast_ofNat_Int]
      (repeat refine ka ?_); refine kr ?_ ?_ (pops_end ?_)
      (repeat refine ka ?_); refine kct ?_
      (repeat refine ka ?_); refine ksk ?_
      (repeat refine ka ?_); refine kb ?_
      (repeat refine ka ?_); refine kr ?_ ?_ (pops_end ?_)
      (repeat refine ka ?_); refine kr ?_ ?_ (pops_end ?_)
      refine kn ?_; repeat (first | with_reducible refine blk_n ?_ | with_reducible refine beh_n ?_)
      (repeat refine ka ?_); refine kr ?_ ?_ (pops_end ?_)
      refine kn ?_; repeat (first | with_reducible refine blk_n ?_ | with_reducible refine beh_n ?_)
      refine ⟨4, by omega, by omega, ?_⟩
      rw [← q3]
      exact (holds 2 (by repeat (first | exact .nil | refine has1 ?_)))
    · simp only [Int.cast_ofNat_Int]
      (repeat refine ka ?_); refine kr ?_ ?_ (pops_end ?_)
      (repeat refine ka ?_); refine kcf ?_
      (repeat refine ka ?_); refine kx ?_; (repeat (first | with_reducible refine beh_x ?_ | with_reducible refine blk_up rfl ?_)); refine blk_here ?_; refine beh_n ?_
      (repeat refine ka ?_); refine kr ?_ ?_ (pops_end ?_)
      (repeat refine ka ?_); refine kret ?_; repeat (first | with_reducible refine beh_r ?_ | with_reducible refine blk_r ?_)
      refine ends_ret ?_ retPV_two
      exact ⟨2, rfl, rfl⟩
  · rw [if_neg h, decide_eq_false h]
    (repeat' (first | refine ka ?_ | refine ksk ?_ | (refine kr ?_ ?_ ?_; first | refine pops_end ?_ | (refine ps_split (fun hb => ?_) (fun hb => ?_); (fail_if_success (guard_hyp hb : true = true)); (fail_if_success (guard_hyp hb : false = true)); all_goals (have hp := hb; (try simp only [decide_eq_true_eq, Bool.eq_false_iff, ne_eq, Bool.not_eq_true', Bool.not_eq_false', Bool.and_eq_true, Bool.or_eq_true, decide_true, decide_false, Bool.and_true, Bool.true_and, Bool.false_eq_true, not_false_eq_true, true_and, and_true] at hp); (try rw [hb]); (try clear hb))) | refine ps_alloc fun g => ?_ | refine ps_box fun g => ?_ | refine ps_store ?_ | refine ps_lit fun g => ?_ | refine pops_nil ?_ | skip) | (refine kd ?_ ?_ ?_; first | refine pstl_end ?_ | (refine pd_split (fun hb => ?_) (fun hb => ?_); (fail_if_success (guard_hyp hb : true = true)); (fail_if_success (guard_hyp hb : false = true)); all_goals (have hp := hb; (try simp only [decide_eq_true_eq, Bool.eq_false_iff, ne_eq, Bool.not_eq_true', Bool.not_eq_false', Bool.and_eq_true, Bool.or_eq_true, decide_true, decide_false, Bool.and_true, Bool.true_and, Bool.false_eq_true, not_false_eq_true, true_and, and_true] at hp); (try rw [hb]); (try clear hb))) | skip) | refine kct ?_ | refine kcf ?_ | (refine kcs (fun hb => ?_) (fun hb => ?_) <;> (have hp := hb; (try simp only [decide_eq_true_eq, Bool.eq_false_iff, ne_eq, Bool.not_eq_true', Bool.not_eq_false', Bool.and_eq_true, Bool.or_eq_true, decide_true, decide_false, Bool.and_true, Bool.true_and, Bool.false_eq_true, not_false_eq_true, true_and, and_true] at hp); (try rw [hb]); (try clear hb))) | (refine kret ?_; repeat (first | with_reducible refine beh_r ?_ | with_reducible refine blk_r ?_)) | refine kb ?_ | (refine ps_split (fun hb => ?_) (fun hb => ?_); (fail_if_success (guard_hyp hb : true = true)); (fail_if_success (guard_hyp hb : false = true)); all_goals (have hp := hb; (try simp only [decide_eq_true_eq, Bool.eq_false_iff, ne_eq, Bool.not_eq_true', Bool.not_eq_false', Bool.and_eq_true, Bool.or_eq_true, decide_true, decide_false, Bool.and_true, Bool.true_and, Bool.false_eq_true, not_false_eq_true, true_and, and_true] at hp); (try rw [hb]); (try clear hb))) | refine ps_alloc fun g => ?_ | refine ps_box fun g => ?_ | refine ps_store ?_ | refine ps_lit fun g => ?_ | refine pops_nil ?_ | (refine pd_split (fun hb => ?_) (fun hb => ?_); (fail_if_success (guard_hyp hb : true = true)); (fail_if_success (guard_hyp hb : false = true)); all_goals (have hp := hb; (try simp only [decide_eq_true_eq, Bool.eq_false_iff, ne_eq, Bool.not_eq_true', Bool.not_eq_false', Bool.and_eq_true, Bool.or_eq_true, decide_true, decide_false, Bool.and_true, Bool.true_and, Bool.false_eq_true, not_false_eq_true, true_and, and_true] at hp); (try rw [hb]); (try clear hb))) | (refine pops_go ?_ ?_ ?_; first | refine pops_end ?_ | (refine ps_split (fun hb => ?_) (fun hb => ?_); (fail_if_success (guard_hyp hb : true = true)); (fail_if_success (guard_hyp hb : false = true)); all_goals (have hp := hb; (try simp only [decide_eq_true_eq, Bool.eq_false_iff, ne_eq, Bool.not_eq_true', Bool.not_eq_false', Bool.and_eq_true, Bool.or_eq_true, decide_true, decide_false, Bool.and_true, Bool.true_and, Bool.false_eq_true, not_false_eq_true, true_and, and_true] at hp); (try rw [hb]); (try clear hb))) | refine ps_alloc fun g => ?_ | refine ps_box fun g => ?_ | refine ps_store ?_ | refine ps_lit fun g => ?_ | refine pops_nil ?_) | (refine pstl_go ?_ ?_ ?_; first | refine pstl_end ?_ | (refine pd_split (fun hb => ?_) (fun hb => ?_); (fail_if_success (guard_hyp hb : true = true)); (fail_if_success (guard_hyp hb : false = true)); all_goals (have hp := hb; (try simp only [decide_eq_true_eq, Bool.eq_false_iff, ne_eq, Bool.not_eq_true', Bool.not_eq_false', Bool.and_eq_true, Bool.or_eq_true, decide_true, decide_false, Bool.and_true, Bool.true_and, Bool.false_eq_true, not_false_eq_true, true_and, and_true] at hp); (try rw [hb]); (try clear hb)))) | (refine kn ?_; repeat (first | with_reducible refine blk_n ?_ | with_reducible refine beh_n ?_)) | (refine kx ?_; (repeat (first | with_reducible refine beh_x ?_ | with_reducible refine blk_up rfl ?_)); refine blk_here ?_; refine beh_n ?_)))
    refine ends_ret ?_ retPV_two
    exact ⟨2, rfl, rfl⟩
end Go.Proofs.Ytfjodfeoncoaoaa.Pv
