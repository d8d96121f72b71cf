-- Text written by a program of this session (wip/tools).
import Derived.Test.YtaaealngifkaeaaQAlux0
namespace Go.Proofs.Ytaaealngifkaeaa.QAlu
open Go.RowKit Go.Proofs.YtaaealngifkaeaaW.PrintWords Go.Proofs.YtaaealngifkaeaaW.PrintLast Go.Proofs.YtaaealngifkaeaaW.PrintMore
attribute [local go_sem] max2_int min2_int max_two min_two max_three min_three max_four min_four   -- for this text's walks alone
set_option linter.unusedVariables false
set_option linter.unusedSimpArgs false

-- NOT PRINTED: function 56 (alu_made)

/-! ### alu_Alu: function 16 -/
def alu_Alu.f (op x y : Int) : Option (Int × Bool) :=
  if op = 3 then some ((x + y) % 4294967296, true) else
  if op = 11 then some ((x + y) % 4294967296, true) else
  if op = 4 then some ((x - y) % 4294967296, true) else
  if op = 5 then some ((x * y) % 4294967296, true) else
  if op = 6 then some (Go.bits .and .u32 x y, true) else
  if op = 7 then some (Go.bits .or .u32 x y, true) else
  if op = 8 then some (Go.bits .xor .u32 x y, true) else
  if op = 9 then some ((x * 2 ^ (Go.bits .and .u32 y 31).toNat) % 4294967296, true) else
  if op = 10 then some (x / 2 ^ (Go.bits .and .u32 y 31).toNat, true) else
  some (0, false)
set_option maxHeartbeats 1600000 in
set_option maxRecDepth 100000 in
theorem alu_Alu.c3 (x y : Int) (w : World) : Calls Try.prog 16 #[.int .i64 3, .int .u32 x, .int .u32 y] w fun e w' => e = .returned (.tuple #[.int .u32 ((x + y) % 4294967296), .bool true]) ∧ Below w.heap.size w w' := by
  go_enter Try.func16, Try.ntmps16
  go_wp2
  refine bodyPost_ret (v := .tuple #[.agg #[.func (.func 72) #[] #[]], .bool true]) (by simp [results, Try.results56, go_sem]) rfl ?_
  go_wp2
  go_ret2
  exact ⟨by simp, by repeat (first | exact Below.refl _ _ | apply below_alloc)⟩
set_option maxHeartbeats 1600000 in
set_option maxRecDepth 100000 in
theorem alu_Alu.c11 (x y : Int) (w : World) : Calls Try.prog 16 #[.int .i64 11, .int .u32 x, .int .u32 y] w fun e w' => e = .returned (.tuple #[.int .u32 ((x + y) % 4294967296), .bool true]) ∧ Below w.heap.size w w' := by
  go_enter Try.func16, Try.ntmps16
  go_wp2
  refine bodyPost_ret (v := .tuple #[.agg #[.func (.func 72) #[] #[]], .bool true]) (by simp [results, Try.results56, go_sem]) rfl ?_
  go_wp2
  go_ret2
  exact ⟨by simp, by repeat (first | exact Below.refl _ _ | apply below_alloc)⟩
set_option maxHeartbeats 1600000 in
set_option maxRecDepth 100000 in
theorem alu_Alu.c4 (x y : Int) (w : World) : Calls Try.prog 16 #[.int .i64 4, .int .u32 x, .int .u32 y] w fun e w' => e = .returned (.tuple #[.int .u32 ((x - y) % 4294967296), .bool true]) ∧ Below w.heap.size w w' := by
  go_enter Try.func16, Try.ntmps16
  go_wp2
  refine bodyPost_ret (v := .tuple #[.agg #[.func (.func 73) #[] #[]], .bool true]) (by simp [results, Try.results56, go_sem]) rfl ?_
  go_wp2
  go_ret2
  exact ⟨by simp, by repeat (first | exact Below.refl _ _ | apply below_alloc)⟩
set_option maxHeartbeats 1600000 in
set_option maxRecDepth 100000 in
theorem alu_Alu.c5 (x y : Int) (w : World) : Calls Try.prog 16 #[.int .i64 5, .int .u32 x, .int .u32 y] w fun e w' => e = .returned (.tuple #[.int .u32 ((x * y) % 4294967296), .bool true]) ∧ Below w.heap.size w w' := by
  go_enter Try.func16, Try.ntmps16
  go_wp2
  refine bodyPost_ret (v := .tuple #[.agg #[.func (.func 74) #[] #[]], .bool true]) (by simp [results, Try.results56, go_sem]) rfl ?_
  go_wp2
  go_ret2
  exact ⟨by simp, by repeat (first | exact Below.refl _ _ | apply below_alloc)⟩
set_option maxHeartbeats 1600000 in
set_option maxRecDepth 100000 in
theorem alu_Alu.c6 (x y : Int) (w : World) : Calls Try.prog 16 #[.int .i64 6, .int .u32 x, .int .u32 y] w fun e w' => e = .returned (.tuple #[.int .u32 (Go.bits .and .u32 x y), .bool true]) ∧ Below w.heap.size w w' := by
  go_enter Try.func16, Try.ntmps16
  go_wp2
  refine bodyPost_ret (v := .tuple #[.agg #[.func (.func 75) #[] #[]], .bool true]) (by simp [results, Try.results56, go_sem]) rfl ?_
  go_wp2
  go_ret2
  exact ⟨by simp, by repeat (first | exact Below.refl _ _ | apply below_alloc)⟩
set_option maxHeartbeats 1600000 in
set_option maxRecDepth 100000 in
theorem alu_Alu.c7 (x y : Int) (w : World) : Calls Try.prog 16 #[.int .i64 7, .int .u32 x, .int .u32 y] w fun e w' => e = .returned (.tuple #[.int .u32 (Go.bits .or .u32 x y), .bool true]) ∧ Below w.heap.size w w' := by
  go_enter Try.func16, Try.ntmps16
  go_wp2
  refine bodyPost_ret (v := .tuple #[.agg #[.func (.func 76) #[] #[]], .bool true]) (by simp [results, Try.results56, go_sem]) rfl ?_
  go_wp2
  go_ret2
  exact ⟨by simp, by repeat (first | exact Below.refl _ _ | apply below_alloc)⟩
set_option maxHeartbeats 1600000 in
set_option maxRecDepth 100000 in
theorem alu_Alu.c8 (x y : Int) (w : World) : Calls Try.prog 16 #[.int .i64 8, .int .u32 x, .int .u32 y] w fun e w' => e = .returned (.tuple #[.int .u32 (Go.bits .xor .u32 x y), .bool true]) ∧ Below w.heap.size w w' := by
  go_enter Try.func16, Try.ntmps16
  go_wp2
  refine bodyPost_ret (v := .tuple #[.agg #[.func (.func 77) #[] #[]], .bool true]) (by simp [results, Try.results56, go_sem]) rfl ?_
  go_wp2
  go_ret2
  exact ⟨by simp, by repeat (first | exact Below.refl _ _ | apply below_alloc)⟩
set_option maxHeartbeats 1600000 in
set_option maxRecDepth 100000 in
theorem alu_Alu.c9 (x y : Int) (w : World) : Calls Try.prog 16 #[.int .i64 9, .int .u32 x, .int .u32 y] w fun e w' => e = .returned (.tuple #[.int .u32 ((x * 2 ^ (Go.bits .and .u32 y 31).toNat) % 4294967296), .bool true]) ∧ Below w.heap.size w w' := by
  obtain ⟨n0, n1⟩ := Bv.and31 y
  go_enter Try.func16, Try.ntmps16
  go_wp2
  refine bodyPost_ret (v := .tuple #[.agg #[.func (.func 78) #[] #[]], .bool true]) (by simp [results, Try.results56, go_sem]) rfl ?_
  go_wp2
  go_ret2
  exact ⟨by simp, by repeat (first | exact Below.refl _ _ | apply below_alloc)⟩
set_option maxHeartbeats 1600000 in
set_option maxRecDepth 100000 in
theorem alu_Alu.c10 (x y : Int) (w : World) : Calls Try.prog 16 #[.int .i64 10, .int .u32 x, .int .u32 y] w fun e w' => e = .returned (.tuple #[.int .u32 (x / 2 ^ (Go.bits .and .u32 y 31).toNat), .bool true]) ∧ Below w.heap.size w w' := by
  obtain ⟨n0, n1⟩ := Bv.and31 y
  go_enter Try.func16, Try.ntmps16
  go_wp2
  refine bodyPost_ret (v := .tuple #[.agg #[.func (.func 79) #[] #[]], .bool true]) (by simp [results, Try.results56, go_sem]) rfl ?_
  go_wp2
  go_ret2
  exact ⟨by simp, by repeat (first | exact Below.refl _ _ | apply below_alloc)⟩
set_option maxHeartbeats 1600000 in
set_option maxRecDepth 100000 in
theorem alu_Alu.no (op x y : Int) (w : World) (h3 : ¬ op = 3) (h11 : ¬ op = 11) (h4 : ¬ op = 4) (h5 : ¬ op = 5) (h6 : ¬ op = 6) (h7 : ¬ op = 7) (h8 : ¬ op = 8) (h9 : ¬ op = 9) (h10 : ¬ op = 10) : Calls Try.prog 16 #[.int .i64 op, .int .u32 x, .int .u32 y] w fun e w' => e = .returned (.tuple #[.int .u32 0, .bool false]) ∧ Below w.heap.size w w' := by
  have b3 : (op == 3) = false := beq_eq_false_iff_ne.mpr h3
  have b11 : (op == 11) = false := beq_eq_false_iff_ne.mpr h11
  have b4 : (op == 4) = false := beq_eq_false_iff_ne.mpr h4
  have b5 : (op == 5) = false := beq_eq_false_iff_ne.mpr h5
  have b6 : (op == 6) = false := beq_eq_false_iff_ne.mpr h6
  have b7 : (op == 7) = false := beq_eq_false_iff_ne.mpr h7
  have b8 : (op == 8) = false := beq_eq_false_iff_ne.mpr h8
  have b9 : (op == 9) = false := beq_eq_false_iff_ne.mpr h9
  have b10 : (op == 10) = false := beq_eq_false_iff_ne.mpr h10
  go_enter Try.func16, Try.ntmps16
  go_wp2
  refine bodyPost_ret (v := .tuple #[.agg #[.nilFunc], .bool false]) (by simp [results, Try.results56, go_sem]) rfl ?_
  go_wp2
  go_ret2
  exact ⟨by simp, by repeat (first | exact Below.refl _ _ | apply below_alloc)⟩
theorem alu_Alu.calls (a0 a1 a2 : Int) (r1 : Int) (r2 : Bool) (w : World) (h : alu_Alu.f a0 a1 a2 = some (r1, r2)) :
    Calls Try.prog 16 #[.int .i64 a0, .int .u32 a1, .int .u32 a2] w fun e w' => e = .returned (.tuple #[.int .u32 r1, .bool r2]) ∧ Below w.heap.size w w' := by
  unfold alu_Alu.f at h
  by_cases h3 : a0 = 3
  · subst h3
    simp only [Int.reduceEq, if_true, if_false, Option.some.injEq, Prod.mk.injEq] at h
    obtain ⟨rfl, rfl⟩ := h
    exact alu_Alu.c3 a1 a2 w
  rw [if_neg h3] at h
  by_cases h11 : a0 = 11
  · subst h11
    simp only [Int.reduceEq, if_true, if_false, Option.some.injEq, Prod.mk.injEq] at h
    obtain ⟨rfl, rfl⟩ := h
    exact alu_Alu.c11 a1 a2 w
  rw [if_neg h11] at h
  by_cases h4 : a0 = 4
  · subst h4
    simp only [Int.reduceEq, if_true, if_false, Option.some.injEq, Prod.mk.injEq] at h
    obtain ⟨rfl, rfl⟩ := h
    exact alu_Alu.c4 a1 a2 w
  rw [if_neg h4] at h
  by_cases h5 : a0 = 5
  · subst h5
    simp only [Int.reduceEq, if_true, if_false, Option.some.injEq, Prod.mk.injEq] at h
    obtain ⟨rfl, rfl⟩ := h
    exact alu_Alu.c5 a1 a2 w
  rw [if_neg h5] at h
  by_cases h6 : a0 = 6
  · subst h6
    simp only [Int.reduceEq, if_true, if_false, Option.some.injEq, Prod.mk.injEq] at h
    obtain ⟨rfl, rfl⟩ := h
    exact alu_Alu.c6 a1 a2 w
  rw [if_neg h6] at h
  by_cases h7 : a0 = 7
  · subst h7
    simp only [Int.reduceEq, if_true, if_false, Option.some.injEq, Prod.mk.injEq] at h
    obtain ⟨rfl, rfl⟩ := h
    exact alu_Alu.c7 a1 a2 w
  rw [if_neg h7] at h
  by_cases h8 : a0 = 8
  · subst h8
    simp only [Int.reduceEq, if_true, if_false, Option.some.injEq, Prod.mk.injEq] at h
    obtain ⟨rfl, rfl⟩ := h
    exact alu_Alu.c8 a1 a2 w
  rw [if_neg h8] at h
  by_cases h9 : a0 = 9
  · subst h9
    simp only [Int.reduceEq, if_true, if_false, Option.some.injEq, Prod.mk.injEq] at h
    obtain ⟨rfl, rfl⟩ := h
    exact alu_Alu.c9 a1 a2 w
  rw [if_neg h9] at h
  by_cases h10 : a0 = 10
  · subst h10
    simp only [Int.reduceEq, if_true, if_false, Option.some.injEq, Prod.mk.injEq] at h
    obtain ⟨rfl, rfl⟩ := h
    exact alu_Alu.c10 a1 a2 w
  rw [if_neg h10] at h
  simp only [Option.some.injEq, Prod.mk.injEq] at h
  obtain ⟨rfl, rfl⟩ := h
  exact alu_Alu.no a0 a1 a2 w h3 h11 h4 h5 h6 h7 h8 h9 h10

-- NOT PRINTED: function 59 (alu_asked)

/-! ### alu_Taken: function 18 -/
def alu_Taken.f (op x y : Int) : Option (Bool × Bool) :=
  if op = 16 then some ((x == y), true) else
  if op = 17 then some ((x != y), true) else
  if op = 18 then some (decide (x < y), true) else
  if op = 19 then some (decide (x ≥ y), true) else
  some (false, false)
set_option maxHeartbeats 1600000 in
set_option maxRecDepth 100000 in
theorem alu_Taken.c16 (x y : Int) (w : World) : Calls Try.prog 18 #[.int .i64 16, .int .u32 x, .int .u32 y] w fun e w' => e = .returned (.tuple #[.bool ((x == y)), .bool true]) ∧ Below w.heap.size w w' := by
  go_enter Try.func18, Try.ntmps18
  go_wp2
  refine bodyPost_ret (v := .tuple #[.agg #[.func (.func 80) #[] #[]], .bool true]) (by simp [results, Try.results59, go_sem]) rfl ?_
  go_wp2
  go_ret2
  exact ⟨by simp, by repeat (first | exact Below.refl _ _ | apply below_alloc)⟩
set_option maxHeartbeats 1600000 in
set_option maxRecDepth 100000 in
theorem alu_Taken.c17 (x y : Int) (w : World) : Calls Try.prog 18 #[.int .i64 17, .int .u32 x, .int .u32 y] w fun e w' => e = .returned (.tuple #[.bool ((x != y)), .bool true]) ∧ Below w.heap.size w w' := by
  go_enter Try.func18, Try.ntmps18
  go_wp2
  refine bodyPost_ret (v := .tuple #[.agg #[.func (.func 81) #[] #[]], .bool true]) (by simp [results, Try.results59, go_sem]) rfl ?_
  go_wp2
  go_ret2
  exact ⟨by simp, by repeat (first | exact Below.refl _ _ | apply below_alloc)⟩
set_option maxHeartbeats 1600000 in
set_option maxRecDepth 100000 in
theorem alu_Taken.c18 (x y : Int) (w : World) : Calls Try.prog 18 #[.int .i64 18, .int .u32 x, .int .u32 y] w fun e w' => e = .returned (.tuple #[.bool (decide (x < y)), .bool true]) ∧ Below w.heap.size w w' := by
  go_enter Try.func18, Try.ntmps18
  go_wp2
  refine bodyPost_ret (v := .tuple #[.agg #[.func (.func 82) #[] #[]], .bool true]) (by simp [results, Try.results59, go_sem]) rfl ?_
  go_wp2
  go_ret2
  exact ⟨by simp, by repeat (first | exact Below.refl _ _ | apply below_alloc)⟩
set_option maxHeartbeats 1600000 in
set_option maxRecDepth 100000 in
theorem alu_Taken.c19 (x y : Int) (w : World) : Calls Try.prog 18 #[.int .i64 19, .int .u32 x, .int .u32 y] w fun e w' => e = .returned (.tuple #[.bool (decide (x ≥ y)), .bool true]) ∧ Below w.heap.size w w' := by
  go_enter Try.func18, Try.ntmps18
  go_wp2
  refine bodyPost_ret (v := .tuple #[.agg #[.func (.func 83) #[] #[]], .bool true]) (by simp [results, Try.results59, go_sem]) rfl ?_
  go_wp2
  go_ret2
  exact ⟨by simp, by repeat (first | exact Below.refl _ _ | apply below_alloc)⟩
set_option maxHeartbeats 1600000 in
set_option maxRecDepth 100000 in
theorem alu_Taken.no (op x y : Int) (w : World) (h16 : ¬ op = 16) (h17 : ¬ op = 17) (h18 : ¬ op = 18) (h19 : ¬ op = 19) : Calls Try.prog 18 #[.int .i64 op, .int .u32 x, .int .u32 y] w fun e w' => e = .returned (.tuple #[.bool false, .bool false]) ∧ Below w.heap.size w w' := by
  have b16 : (op == 16) = false := beq_eq_false_iff_ne.mpr h16
  have b17 : (op == 17) = false := beq_eq_false_iff_ne.mpr h17
  have b18 : (op == 18) = false := beq_eq_false_iff_ne.mpr h18
  have b19 : (op == 19) = false := beq_eq_false_iff_ne.mpr h19
  go_enter Try.func18, Try.ntmps18
  go_wp2
  refine bodyPost_ret (v := .tuple #[.agg #[.nilFunc], .bool false]) (by simp [results, Try.results59, go_sem]) rfl ?_
  go_wp2
  go_ret2
  exact ⟨by simp, by repeat (first | exact Below.refl _ _ | apply below_alloc)⟩
theorem alu_Taken.calls (a0 a1 a2 : Int) (r1 : Bool) (r2 : Bool) (w : World) (h : alu_Taken.f a0 a1 a2 = some (r1, r2)) :
    Calls Try.prog 18 #[.int .i64 a0, .int .u32 a1, .int .u32 a2] w fun e w' => e = .returned (.tuple #[.bool r1, .bool r2]) ∧ Below w.heap.size w w' := by
  unfold alu_Taken.f at h
  by_cases h16 : a0 = 16
  · subst h16
    simp only [Int.reduceEq, if_true, if_false, Option.some.injEq, Prod.mk.injEq] at h
    obtain ⟨rfl, rfl⟩ := h
    exact alu_Taken.c16 a1 a2 w
  rw [if_neg h16] at h
  by_cases h17 : a0 = 17
  · subst h17
    simp only [Int.reduceEq, if_true, if_false, Option.some.injEq, Prod.mk.injEq] at h
    obtain ⟨rfl, rfl⟩ := h
    exact alu_Taken.c17 a1 a2 w
  rw [if_neg h17] at h
  by_cases h18 : a0 = 18
  · subst h18
    simp only [Int.reduceEq, if_true, if_false, Option.some.injEq, Prod.mk.injEq] at h
    obtain ⟨rfl, rfl⟩ := h
    exact alu_Taken.c18 a1 a2 w
  rw [if_neg h18] at h
  by_cases h19 : a0 = 19
  · subst h19
    simp only [Int.reduceEq, if_true, if_false, Option.some.injEq, Prod.mk.injEq] at h
    obtain ⟨rfl, rfl⟩ := h
    exact alu_Taken.c19 a1 a2 w
  rw [if_neg h19] at h
  simp only [Option.some.injEq, Prod.mk.injEq] at h
  obtain ⟨rfl, rfl⟩ := h
  exact alu_Taken.no a0 a1 a2 w h16 h17 h18 h19

/-! ### alu_Moved: function 20 -/
def alu_Moved.j0 : Nat → Int → Int → Int → Bool → Option (Int × Bool)
  | 0, _, _, _, _ => none
  | k + 1, x0, x1, x2, x8 => if x8 = true then (some (0, false)) else (if x0 = 1 then (some ((x2) % 4294967296, true)) else (if x0 = 2 then (some (Go.bits .or .u32 (Go.bits .and .u32 x1 65535) ((((x2) % 4294967296) * 65536) % 4294967296), true)) else (some (0, false))))
def alu_Moved.f (k : Nat) (a0 : Int) (a1 : Int) (a2 : Int) : Option (Int × Bool) := if a2 < 0 then (alu_Moved.j0 k a0 a1 a2 true) else (alu_Moved.j0 k a0 a1 a2 (decide (a2 > 65535)))
theorem alu_Moved.mono_l : ∀ k, (∀ y0 y1 y2 y3, LeO (alu_Moved.j0 k y0 y1 y2 y3) (alu_Moved.j0 (k + 1) y0 y1 y2 y3))
  | 0 => fun _ _ _ _ r h => by simp [alu_Moved.j0] at h
  | k + 1 => by
    have ih0 := alu_Moved.mono_l k
    · intro y0 y1 y2 y3
      unfold alu_Moved.j0
      repeat' first
      | (with_reducible exact ih0 _ _ _ _)
      | (with_reducible exact LeO.refl _)
      | (with_reducible exact LeO.none _)
      | (with_reducible refine LeO.ite ?_ ?_)
      | (with_reducible refine LeO.bind ?_ (fun _ => ?_))
      | exact ih0 _ _ _ _
      | exact LeO.none _
      | refine LeO.ite ?_ ?_
      | refine LeO.bind ?_ (fun _ => ?_)
theorem alu_Moved.mono : ∀ a0 a1 a2 k, LeO (alu_Moved.f k a0 a1 a2) (alu_Moved.f (k + 1) a0 a1 a2) := by
  intro a0 a1 a2 k
  have ih0 := alu_Moved.mono_l k
  unfold alu_Moved.f
  repeat' first
      | (with_reducible exact ih0 _ _ _ _)
      | (with_reducible exact LeO.refl _)
      | (with_reducible exact LeO.none _)
      | (with_reducible refine LeO.ite ?_ ?_)
      | (with_reducible refine LeO.bind ?_ (fun _ => ?_))
      | exact ih0 _ _ _ _
      | exact LeO.none _
      | refine LeO.ite ?_ ?_
      | refine LeO.bind ?_ (fun _ => ?_)
set_option maxHeartbeats 8000000 in
set_option maxRecDepth 100000 in
theorem alu_Moved.calls (k : Nat) (a0 : Int) (a1 : Int) (a2 : Int) (r1 : Int) (r2 : Bool) (w : World) (h : alu_Moved.f k a0 a1 a2 = some (r1, r2)) :
    Calls Try.prog 20 #[.int .i64 a0, .int .u32 a1, .int .i64 a2] w fun e w' => e = .returned (.tuple #[.int .u32 r1, .bool r2]) ∧ Drawn0 w w' := by
  have H : (if a2 < 0 then (alu_Moved.j0 k a0 a1 a2 true) else (alu_Moved.j0 k a0 a1 a2 (decide (a2 > 65535)))) = some (r1, r2) := h
  clear h
  have HC4 := Aside0.mk H
  clear H
  go_enter Try.func20, Try.ntmps20
  go_upto_region 1 with (fail)
  go_cut [8] (fun v8 wc => ∃ (kq : Nat) (x8_3 : Bool), v8 = .bool x8_3 ∧ Aside0 (alu_Moved.j0 kq a0 a1 a2 x8_3 = some (r1, r2)) ∧ Aside0 (kq ≤ k) ∧ Drawn0 w wc)
  case first =>
    have H := HC4.out
    clear HC4
    by_cases c5 : a2 < 0
    · rw [if_pos c5] at H
      have c5b0 : decide (a2 < 0) = true := decide_eq_true c5
      clear c5
      (first | rw [c5b0] | (simp only [i64_w, i32_w]; rw [c5b0]) | skip)
      have H' := Aside0.mk H
      clear H
      go_wp2
      go_meet
      case rel => exact ⟨_, (true), (by first | rfl | (simp; done) | (simp [*]; done)), H', ⟨by first | omega | exact Nat.le_refl _⟩, by repeat (first | exact Drawn0.refl _ | apply Drawn0.step)⟩
    · rw [if_neg c5] at H
      have c5b0 : decide (a2 < 0) = false := decide_eq_false c5
      clear c5
      (first | rw [c5b0] | (simp only [i64_w, i32_w]; rw [c5b0]) | skip)
      have H' := Aside0.mk H
      clear H
      go_wp2
      go_meet
      case rel => exact ⟨_, (decide (a2 > 65535)), (by first | rfl | (simp; done) | (simp [*]; done)), H', ⟨by first | omega | exact Nat.le_refl _⟩, by repeat (first | exact Drawn0.refl _ | apply Drawn0.step)⟩
  case rest =>
    clear HC4
    try clear c2
    try clear p2
    try clear c5
    try clear c5b0
    obtain ⟨kq, x8_3, rfl, HA, HJ3, ⟨mc3, rfl⟩⟩ := hcut
    cases kq with
    | zero => exact absurd HA.out (by simp [alu_Moved.j0])
    | succ kj3 =>
      have H := HA.out
      clear HA
      simp only [alu_Moved.j0] at H
      by_cases c6 : x8_3 = true
      · subst c6
        have H1 : (some (0, false)) = some (r1, r2) := by rw [if_pos rfl] at H; exact H
        clear H
        have H := H1
        clear H1
        simp only [Option.some.injEq, Prod.mk.injEq] at H
        obtain ⟨rfl, rfl⟩ := H
        go_wp2
        go_ret2
        exact ⟨by first | rfl | (simp; done) | (simp [*]; done), by repeat (first | exact Drawn0.refl _ | apply Drawn0.step)⟩
      · replace c6 := Bool.eq_false_iff.mpr c6
        subst c6
        have H1 : (if a0 = 1 then (some ((a2) % 4294967296, true)) else (if a0 = 2 then (some (Go.bits .or .u32 (Go.bits .and .u32 a1 65535) ((((a2) % 4294967296) * 65536) % 4294967296), true)) else (some (0, false)))) = some (r1, r2) := by rw [if_neg (show ¬ (false = true) by decide)] at H; exact H
        clear H
        have H := H1
        clear H1
        by_cases c7 : a0 = 1
        · rw [if_pos c7] at H
          have c7b0 : (a0 == 1) = true := beq_iff_eq.mpr c7
          have c7b1 : (a0 != 1) = false := bne_eq_false_iff_eq.mpr c7
          clear c7
          simp only [Option.some.injEq, Prod.mk.injEq] at H
          obtain ⟨rfl, rfl⟩ := H
          go_wp2
          go_ret2
          exact ⟨by first | rfl | (simp; done) | (simp [*]; done), by repeat (first | exact Drawn0.refl _ | apply Drawn0.step)⟩
        · rw [if_neg c7] at H
          have c7b0 : (a0 == 1) = false := beq_eq_false_iff_ne.mpr c7
          have c7b1 : (a0 != 1) = true := bne_iff_ne.mpr c7
          by_cases c8 : a0 = 2
          · rw [if_pos c8] at H
            have c8b0 : (a0 == 2) = true := beq_iff_eq.mpr c8
            have c8b1 : (a0 != 2) = false := bne_eq_false_iff_eq.mpr c8
            clear c8
            simp only [Option.some.injEq, Prod.mk.injEq] at H
            obtain ⟨rfl, rfl⟩ := H
            go_wp2
            go_ret2
            exact ⟨by first | rfl | (simp; done) | (simp [*]; done), by repeat (first | exact Drawn0.refl _ | apply Drawn0.step)⟩
          · rw [if_neg c8] at H
            have c8b0 : (a0 == 2) = false := beq_eq_false_iff_ne.mpr c8
            have c8b1 : (a0 != 2) = true := bne_iff_ne.mpr c8
            simp only [Option.some.injEq, Prod.mk.injEq] at H
            obtain ⟨rfl, rfl⟩ := H
            go_wp2
            go_ret2
            exact ⟨by first | rfl | (simp; done) | (simp [*]; done), by repeat (first | exact Drawn0.refl _ | apply Drawn0.step)⟩

/-! ### carapacelaw10_awake: function 15 -/
def carapacelaw10_awake.f (k : Nat)  : Option (Bool) := (alu_Alu.f 9 1 33).bind fun bt101 => ((alu_Alu.f 4 0 1).bind fun bt103 => ((alu_Alu.f 20 0 1).bind fun bt105 => ((alu_Taken.f 18 1 2).bind fun bt107 => ((alu_Taken.f 3 1 2).bind fun bt109 => ((alu_Moved.f k 2 74565 9).bind fun bt111 => (if bt101.1 = 2 then (if bt101.2 = true then (if bt103.1 = 4294967295 then (if bt103.2 = true then (if bt105.2 = true then (some false) else (if bt107.1 = true then (if bt107.2 = true then (if bt109.2 = true then (some false) else (if bt111.1 = 598853 then (some bt111.2) else (some false))) else (some false)) else (some false))) else (some false)) else (some false)) else (some false)) else (some false)))))))
theorem carapacelaw10_awake.mono : ∀ k, LeO (carapacelaw10_awake.f k ) (carapacelaw10_awake.f (k + 1) ) := by
  intro  k
  unfold carapacelaw10_awake.f
  repeat' first
      | (with_reducible exact alu_Moved.mono _ _ _ _)
      | (with_reducible exact LeO.refl _)
      | (with_reducible exact LeO.none _)
      | (with_reducible refine LeO.ite ?_ ?_)
      | (with_reducible refine LeO.bind ?_ (fun _ => ?_))
      | exact alu_Moved.mono _ _ _ _
      | exact LeO.none _
      | refine LeO.ite ?_ ?_
      | refine LeO.bind ?_ (fun _ => ?_)
set_option maxHeartbeats 8000000 in
set_option maxRecDepth 100000 in
theorem carapacelaw10_awake.calls (k : Nat)  (r : Bool) (w : World) (h : carapacelaw10_awake.f k  = some r) :
    Calls Try.prog 15 #[] w fun e w' => e = .returned (.bool r) ∧ Below w.heap.size w w' := by
  have HB := Aside0.mk (Below.refl w.heap.size w)
  have H : ((alu_Alu.f 9 1 33).bind fun bt101 => ((alu_Alu.f 4 0 1).bind fun bt103 => ((alu_Alu.f 20 0 1).bind fun bt105 => ((alu_Taken.f 18 1 2).bind fun bt107 => ((alu_Taken.f 3 1 2).bind fun bt109 => ((alu_Moved.f k 2 74565 9).bind fun bt111 => (if bt101.1 = 2 then (if bt101.2 = true then (if bt103.1 = 4294967295 then (if bt103.2 = true then (if bt105.2 = true then (some false) else (if bt107.1 = true then (if bt107.2 = true then (if bt109.2 = true then (some false) else (if bt111.1 = 598853 then (some bt111.2) else (some false))) else (some false)) else (some false))) else (some false)) else (some false)) else (some false)) else (some false)))))))) = some r := h
  clear h
  replace H := Option.bind_eq_some_iff.mp H
  obtain ⟨⟨t101, t102⟩, A10, H⟩ := H
  replace H : ((alu_Alu.f 4 0 1).bind fun bt103 => ((alu_Alu.f 20 0 1).bind fun bt105 => ((alu_Taken.f 18 1 2).bind fun bt107 => ((alu_Taken.f 3 1 2).bind fun bt109 => ((alu_Moved.f k 2 74565 9).bind fun bt111 => (if t101 = 2 then (if t102 = true then (if bt103.1 = 4294967295 then (if bt103.2 = true then (if bt105.2 = true then (some false) else (if bt107.1 = true then (if bt107.2 = true then (if bt109.2 = true then (some false) else (if bt111.1 = 598853 then (some bt111.2) else (some false))) else (some false)) else (some false))) else (some false)) else (some false)) else (some false)) else (some false))))))) = some r := H
  have A1 := Aside0.mk A10
  clear A10
  replace H := Option.bind_eq_some_iff.mp H
  obtain ⟨⟨t103, t104⟩, A20, H⟩ := H
  replace H : ((alu_Alu.f 20 0 1).bind fun bt105 => ((alu_Taken.f 18 1 2).bind fun bt107 => ((alu_Taken.f 3 1 2).bind fun bt109 => ((alu_Moved.f k 2 74565 9).bind fun bt111 => (if t101 = 2 then (if t102 = true then (if t103 = 4294967295 then (if t104 = true then (if bt105.2 = true then (some false) else (if bt107.1 = true then (if bt107.2 = true then (if bt109.2 = true then (some false) else (if bt111.1 = 598853 then (some bt111.2) else (some false))) else (some false)) else (some false))) else (some false)) else (some false)) else (some false)) else (some false)))))) = some r := H
  have A2 := Aside0.mk A20
  clear A20
  replace H := Option.bind_eq_some_iff.mp H
  obtain ⟨⟨t105, t106⟩, A30, H⟩ := H
  replace H : ((alu_Taken.f 18 1 2).bind fun bt107 => ((alu_Taken.f 3 1 2).bind fun bt109 => ((alu_Moved.f k 2 74565 9).bind fun bt111 => (if t101 = 2 then (if t102 = true then (if t103 = 4294967295 then (if t104 = true then (if t106 = true then (some false) else (if bt107.1 = true then (if bt107.2 = true then (if bt109.2 = true then (some false) else (if bt111.1 = 598853 then (some bt111.2) else (some false))) else (some false)) else (some false))) else (some false)) else (some false)) else (some false)) else (some false))))) = some r := H
  have A3 := Aside0.mk A30
  clear A30
  replace H := Option.bind_eq_some_iff.mp H
  obtain ⟨⟨t107, t108⟩, A40, H⟩ := H
  replace H : ((alu_Taken.f 3 1 2).bind fun bt109 => ((alu_Moved.f k 2 74565 9).bind fun bt111 => (if t101 = 2 then (if t102 = true then (if t103 = 4294967295 then (if t104 = true then (if t106 = true then (some false) else (if t107 = true then (if t108 = true then (if bt109.2 = true then (some false) else (if bt111.1 = 598853 then (some bt111.2) else (some false))) else (some false)) else (some false))) else (some false)) else (some false)) else (some false)) else (some false)))) = some r := H
  have A4 := Aside0.mk A40
  clear A40
  replace H := Option.bind_eq_some_iff.mp H
  obtain ⟨⟨t109, t110⟩, A50, H⟩ := H
  replace H : ((alu_Moved.f k 2 74565 9).bind fun bt111 => (if t101 = 2 then (if t102 = true then (if t103 = 4294967295 then (if t104 = true then (if t106 = true then (some false) else (if t107 = true then (if t108 = true then (if t110 = true then (some false) else (if bt111.1 = 598853 then (some bt111.2) else (some false))) else (some false)) else (some false))) else (some false)) else (some false)) else (some false)) else (some false))) = some r := H
  have A5 := Aside0.mk A50
  clear A50
  replace H := Option.bind_eq_some_iff.mp H
  obtain ⟨⟨t111, t112⟩, A60, H⟩ := H
  replace H : (if t101 = 2 then (if t102 = true then (if t103 = 4294967295 then (if t104 = true then (if t106 = true then (some false) else (if t107 = true then (if t108 = true then (if t110 = true then (some false) else (if t111 = 598853 then (some t112) else (some false))) else (some false)) else (some false))) else (some false)) else (some false)) else (some false)) else (some false)) = some r := H
  have A6 := Aside0.mk A60
  clear A60
  by_cases c7 : t101 = 2
  · rw [if_pos c7] at H
    have c7b0 : (t101 == 2) = true := beq_iff_eq.mpr c7
    have c7b1 : (t101 != 2) = false := bne_eq_false_iff_eq.mpr c7
    clear c7
    by_cases c8 : t102 = true
    · subst c8
      have H1 : (if t103 = 4294967295 then (if t104 = true then (if t106 = true then (some false) else (if t107 = true then (if t108 = true then (if t110 = true then (some false) else (if t111 = 598853 then (some t112) else (some false))) else (some false)) else (some false))) else (some false)) else (some false)) = some r := by rw [if_pos rfl] at H; exact H
      clear H
      have H := H1
      clear H1
      by_cases c9 : t103 = 4294967295
      · rw [if_pos c9] at H
        have c9b0 : (t103 == 4294967295) = true := beq_iff_eq.mpr c9
        have c9b1 : (t103 != 4294967295) = false := bne_eq_false_iff_eq.mpr c9
        clear c9
        by_cases c10 : t104 = true
        · subst c10
          have H1 : (if t106 = true then (some false) else (if t107 = true then (if t108 = true then (if t110 = true then (some false) else (if t111 = 598853 then (some t112) else (some false))) else (some false)) else (some false))) = some r := by rw [if_pos rfl] at H; exact H
          clear H
          have H := H1
          clear H1
          by_cases c11 : t106 = true
          · subst c11
            have H1 : (some false) = some r := by rw [if_pos rfl] at H; exact H
            clear H
            have H := H1
            clear H1
            obtain rfl := Option.some.inj H
            go_enter Try.func15, Try.ntmps15
            go_wp2_with (first | ((with_reducible refine gate_callee (f := 16) rfl ?_); refine goesL_ (some 14) rfl rfl Try.func16 (by kernel_rfl) rfl #[.int .i64 9, .int .u32 1, .int .u32 33] rfl (by (try simp only [List.map_toArray, List.map_cons, List.map_nil]); first | done | rfl | (simp only [List.length_drop, List.length_take]; rfl)) ?_; (with_reducible refine (alu_Alu.calls 9 1 33 t101 true _ A1.out).mono ?_); rintro e w12 ⟨rfl, hb⟩; refine ⟨_, rfl, ?_⟩; have n0_ := Aside0.mk (below_step (by repeat (first | (with_reducible first | exact HB.out | apply below_alloc | apply pw_below_drewN | apply below_drew1) | exact HB.out)) hb); clear HB; have HB := n0_; clear n0_; (try clear hb); (try clear hb2); (try clear hk); (try clear hi)) | ((with_reducible refine gate_callee (f := 16) rfl ?_); refine goesL_ (some 18) rfl rfl Try.func16 (by kernel_rfl) rfl #[.int .i64 4, .int .u32 0, .int .u32 1] rfl (by (try simp only [List.map_toArray, List.map_cons, List.map_nil]); first | done | rfl | (simp only [List.length_drop, List.length_take]; rfl)) ?_; (with_reducible refine (alu_Alu.calls 4 0 1 t103 true _ A2.out).mono ?_); rintro e w13 ⟨rfl, hb⟩; refine ⟨_, rfl, ?_⟩; have n0_ := Aside0.mk (below_step (by repeat (first | (with_reducible first | exact HB.out | apply below_alloc | apply pw_below_drewN | apply below_drew1) | exact HB.out)) hb); clear HB; have HB := n0_; clear n0_; (try clear hb); (try clear hb2); (try clear hk); (try clear hi)) | ((with_reducible refine gate_callee (f := 16) rfl ?_); refine goesL_ (some 22) rfl rfl Try.func16 (by kernel_rfl) rfl #[.int .i64 20, .int .u32 0, .int .u32 1] rfl (by (try simp only [List.map_toArray, List.map_cons, List.map_nil]); first | done | rfl | (simp only [List.length_drop, List.length_take]; rfl)) ?_; (with_reducible refine (alu_Alu.calls 20 0 1 t105 true _ A3.out).mono ?_); rintro e w14 ⟨rfl, hb⟩; refine ⟨_, rfl, ?_⟩; have n0_ := Aside0.mk (below_step (by repeat (first | (with_reducible first | exact HB.out | apply below_alloc | apply pw_below_drewN | apply below_drew1) | exact HB.out)) hb); clear HB; have HB := n0_; clear n0_; (try clear hb); (try clear hb2); (try clear hk); (try clear hi)) | ((with_reducible refine gate_callee (f := 18) rfl ?_); refine goesL_ (some 26) rfl rfl Try.func18 (by kernel_rfl) rfl #[.int .i64 18, .int .u32 1, .int .u32 2] rfl (by (try simp only [List.map_toArray, List.map_cons, List.map_nil]); first | done | rfl | (simp only [List.length_drop, List.length_take]; rfl)) ?_; (with_reducible refine (alu_Taken.calls 18 1 2 t107 t108 _ A4.out).mono ?_); rintro e w15 ⟨rfl, hb⟩; refine ⟨_, rfl, ?_⟩; have n0_ := Aside0.mk (below_step (by repeat (first | (with_reducible first | exact HB.out | apply below_alloc | apply pw_below_drewN | apply below_drew1) | exact HB.out)) hb); clear HB; have HB := n0_; clear n0_; (try clear hb); (try clear hb2); (try clear hk); (try clear hi)) | ((with_reducible refine gate_callee (f := 18) rfl ?_); refine goesL_ (some 30) rfl rfl Try.func18 (by kernel_rfl) rfl #[.int .i64 3, .int .u32 1, .int .u32 2] rfl (by (try simp only [List.map_toArray, List.map_cons, List.map_nil]); first | done | rfl | (simp only [List.length_drop, List.length_take]; rfl)) ?_; (with_reducible refine (alu_Taken.calls 3 1 2 t109 t110 _ A5.out).mono ?_); rintro e w16 ⟨rfl, hb⟩; refine ⟨_, rfl, ?_⟩; have n0_ := Aside0.mk (below_step (by repeat (first | (with_reducible first | exact HB.out | apply below_alloc | apply pw_below_drewN | apply below_drew1) | exact HB.out)) hb); clear HB; have HB := n0_; clear n0_; (try clear hb); (try clear hb2); (try clear hk); (try clear hi)) | ((with_reducible refine gate_callee (f := 20) rfl ?_); refine goesL_ (some 34) rfl rfl Try.func20 (by kernel_rfl) rfl #[.int .i64 2, .int .u32 74565, .int .i64 9] rfl (by (try simp only [List.map_toArray, List.map_cons, List.map_nil]); first | done | rfl | (simp only [List.length_drop, List.length_take]; rfl)) ?_; (with_reducible refine (alu_Moved.calls k 2 74565 9 t111 t112 _ A6.out).mono ?_); rintro e w' ⟨rfl, ⟨nd, rfl⟩⟩; refine ⟨_, rfl, ?_⟩))
            go_ret
            exact ⟨by first | rfl | (simp [errW_none, errW_some] <;> rfl) | (simp [*, errW_none, errW_some] <;> rfl), by repeat (first | (with_reducible first | exact HB.out | apply below_alloc | apply pw_below_drewN | apply below_drew1) | exact HB.out)⟩
          · replace c11 := Bool.eq_false_iff.mpr c11
            subst c11
            have H1 : (if t107 = true then (if t108 = true then (if t110 = true then (some false) else (if t111 = 598853 then (some t112) else (some false))) else (some false)) else (some false)) = some r := by rw [if_neg (show ¬ (false = true) by decide)] at H; exact H
            clear H
            have H := H1
            clear H1
            by_cases c17 : t107 = true
            · subst c17
              have H1 : (if t108 = true then (if t110 = true then (some false) else (if t111 = 598853 then (some t112) else (some false))) else (some false)) = some r := by rw [if_pos rfl] at H; exact H
              clear H
              have H := H1
              clear H1
              by_cases c18 : t108 = true
              · subst c18
                have H1 : (if t110 = true then (some false) else (if t111 = 598853 then (some t112) else (some false))) = some r := by rw [if_pos rfl] at H; exact H
                clear H
                have H := H1
                clear H1
                by_cases c19 : t110 = true
                · subst c19
                  have H1 : (some false) = some r := by rw [if_pos rfl] at H; exact H
                  clear H
                  have H := H1
                  clear H1
                  obtain rfl := Option.some.inj H
                  go_enter Try.func15, Try.ntmps15
                  go_wp2_with (first | ((with_reducible refine gate_callee (f := 16) rfl ?_); refine goesL_ (some 14) rfl rfl Try.func16 (by kernel_rfl) rfl #[.int .i64 9, .int .u32 1, .int .u32 33] rfl (by (try simp only [List.map_toArray, List.map_cons, List.map_nil]); first | done | rfl | (simp only [List.length_drop, List.length_take]; rfl)) ?_; (with_reducible refine (alu_Alu.calls 9 1 33 t101 true _ A1.out).mono ?_); rintro e w20 ⟨rfl, hb⟩; refine ⟨_, rfl, ?_⟩; have n0_ := Aside0.mk (below_step (by repeat (first | (with_reducible first | exact HB.out | apply below_alloc | apply pw_below_drewN | apply below_drew1) | exact HB.out)) hb); clear HB; have HB := n0_; clear n0_; (try clear hb); (try clear hb2); (try clear hk); (try clear hi)) | ((with_reducible refine gate_callee (f := 16) rfl ?_); refine goesL_ (some 18) rfl rfl Try.func16 (by kernel_rfl) rfl #[.int .i64 4, .int .u32 0, .int .u32 1] rfl (by (try simp only [List.map_toArray, List.map_cons, List.map_nil]); first | done | rfl | (simp only [List.length_drop, List.length_take]; rfl)) ?_; (with_reducible refine (alu_Alu.calls 4 0 1 t103 true _ A2.out).mono ?_); rintro e w21 ⟨rfl, hb⟩; refine ⟨_, rfl, ?_⟩; have n0_ := Aside0.mk (below_step (by repeat (first | (with_reducible first | exact HB.out | apply below_alloc | apply pw_below_drewN | apply below_drew1) | exact HB.out)) hb); clear HB; have HB := n0_; clear n0_; (try clear hb); (try clear hb2); (try clear hk); (try clear hi)) | ((with_reducible refine gate_callee (f := 16) rfl ?_); refine goesL_ (some 22) rfl rfl Try.func16 (by kernel_rfl) rfl #[.int .i64 20, .int .u32 0, .int .u32 1] rfl (by (try simp only [List.map_toArray, List.map_cons, List.map_nil]); first | done | rfl | (simp only [List.length_drop, List.length_take]; rfl)) ?_; (with_reducible refine (alu_Alu.calls 20 0 1 t105 false _ A3.out).mono ?_); rintro e w22 ⟨rfl, hb⟩; refine ⟨_, rfl, ?_⟩; have n0_ := Aside0.mk (below_step (by repeat (first | (with_reducible first | exact HB.out | apply below_alloc | apply pw_below_drewN | apply below_drew1) | exact HB.out)) hb); clear HB; have HB := n0_; clear n0_; (try clear hb); (try clear hb2); (try clear hk); (try clear hi)) | ((with_reducible refine gate_callee (f := 18) rfl ?_); refine goesL_ (some 26) rfl rfl Try.func18 (by kernel_rfl) rfl #[.int .i64 18, .int .u32 1, .int .u32 2] rfl (by (try simp only [List.map_toArray, List.map_cons, List.map_nil]); first | done | rfl | (simp only [List.length_drop, List.length_take]; rfl)) ?_; (with_reducible refine (alu_Taken.calls 18 1 2 true true _ A4.out).mono ?_); rintro e w23 ⟨rfl, hb⟩; refine ⟨_, rfl, ?_⟩; have n0_ := Aside0.mk (below_step (by repeat (first | (with_reducible first | exact HB.out | apply below_alloc | apply pw_below_drewN | apply below_drew1) | exact HB.out)) hb); clear HB; have HB := n0_; clear n0_; (try clear hb); (try clear hb2); (try clear hk); (try clear hi)) | ((with_reducible refine gate_callee (f := 18) rfl ?_); refine goesL_ (some 30) rfl rfl Try.func18 (by kernel_rfl) rfl #[.int .i64 3, .int .u32 1, .int .u32 2] rfl (by (try simp only [List.map_toArray, List.map_cons, List.map_nil]); first | done | rfl | (simp only [List.length_drop, List.length_take]; rfl)) ?_; (with_reducible refine (alu_Taken.calls 3 1 2 t109 true _ A5.out).mono ?_); rintro e w24 ⟨rfl, hb⟩; refine ⟨_, rfl, ?_⟩; have n0_ := Aside0.mk (below_step (by repeat (first | (with_reducible first | exact HB.out | apply below_alloc | apply pw_below_drewN | apply below_drew1) | exact HB.out)) hb); clear HB; have HB := n0_; clear n0_; (try clear hb); (try clear hb2); (try clear hk); (try clear hi)) | ((with_reducible refine gate_callee (f := 20) rfl ?_); refine goesL_ (some 34) rfl rfl Try.func20 (by kernel_rfl) rfl #[.int .i64 2, .int .u32 74565, .int .i64 9] rfl (by (try simp only [List.map_toArray, List.map_cons, List.map_nil]); first | done | rfl | (simp only [List.length_drop, List.length_take]; rfl)) ?_; (with_reducible refine (alu_Moved.calls k 2 74565 9 t111 t112 _ A6.out).mono ?_); rintro e w' ⟨rfl, ⟨nd, rfl⟩⟩; refine ⟨_, rfl, ?_⟩))
                  go_ret
                  exact ⟨by first | rfl | (simp [errW_none, errW_some] <;> rfl) | (simp [*, errW_none, errW_some] <;> rfl), by repeat (first | (with_reducible first | exact HB.out | apply below_alloc | apply pw_below_drewN | apply below_drew1) | exact HB.out)⟩
                · replace c19 := Bool.eq_false_iff.mpr c19
                  subst c19
                  have H1 : (if t111 = 598853 then (some t112) else (some false)) = some r := by rw [if_neg (show ¬ (false = true) by decide)] at H; exact H
                  clear H
                  have H := H1
                  clear H1
                  by_cases c25 : t111 = 598853
                  · rw [if_pos c25] at H
                    have c25b0 : (t111 == 598853) = true := beq_iff_eq.mpr c25
                    have c25b1 : (t111 != 598853) = false := bne_eq_false_iff_eq.mpr c25
                    clear c25
                    obtain rfl := Option.some.inj H
                    go_enter Try.func15, Try.ntmps15
                    go_wp2_with (first | ((with_reducible refine gate_callee (f := 16) rfl ?_); refine goesL_ (some 14) rfl rfl Try.func16 (by kernel_rfl) rfl #[.int .i64 9, .int .u32 1, .int .u32 33] rfl (by (try simp only [List.map_toArray, List.map_cons, List.map_nil]); first | done | rfl | (simp only [List.length_drop, List.length_take]; rfl)) ?_; (with_reducible refine (alu_Alu.calls 9 1 33 t101 true _ A1.out).mono ?_); rintro e w26 ⟨rfl, hb⟩; refine ⟨_, rfl, ?_⟩; have n0_ := Aside0.mk (below_step (by repeat (first | (with_reducible first | exact HB.out | apply below_alloc | apply pw_below_drewN | apply below_drew1) | exact HB.out)) hb); clear HB; have HB := n0_; clear n0_; (try clear hb); (try clear hb2); (try clear hk); (try clear hi)) | ((with_reducible refine gate_callee (f := 16) rfl ?_); refine goesL_ (some 18) rfl rfl Try.func16 (by kernel_rfl) rfl #[.int .i64 4, .int .u32 0, .int .u32 1] rfl (by (try simp only [List.map_toArray, List.map_cons, List.map_nil]); first | done | rfl | (simp only [List.length_drop, List.length_take]; rfl)) ?_; (with_reducible refine (alu_Alu.calls 4 0 1 t103 true _ A2.out).mono ?_); rintro e w27 ⟨rfl, hb⟩; refine ⟨_, rfl, ?_⟩; have n0_ := Aside0.mk (below_step (by repeat (first | (with_reducible first | exact HB.out | apply below_alloc | apply pw_below_drewN | apply below_drew1) | exact HB.out)) hb); clear HB; have HB := n0_; clear n0_; (try clear hb); (try clear hb2); (try clear hk); (try clear hi)) | ((with_reducible refine gate_callee (f := 16) rfl ?_); refine goesL_ (some 22) rfl rfl Try.func16 (by kernel_rfl) rfl #[.int .i64 20, .int .u32 0, .int .u32 1] rfl (by (try simp only [List.map_toArray, List.map_cons, List.map_nil]); first | done | rfl | (simp only [List.length_drop, List.length_take]; rfl)) ?_; (with_reducible refine (alu_Alu.calls 20 0 1 t105 false _ A3.out).mono ?_); rintro e w28 ⟨rfl, hb⟩; refine ⟨_, rfl, ?_⟩; have n0_ := Aside0.mk (below_step (by repeat (first | (with_reducible first | exact HB.out | apply below_alloc | apply pw_below_drewN | apply below_drew1) | exact HB.out)) hb); clear HB; have HB := n0_; clear n0_; (try clear hb); (try clear hb2); (try clear hk); (try clear hi)) | ((with_reducible refine gate_callee (f := 18) rfl ?_); refine goesL_ (some 26) rfl rfl Try.func18 (by kernel_rfl) rfl #[.int .i64 18, .int .u32 1, .int .u32 2] rfl (by (try simp only [List.map_toArray, List.map_cons, List.map_nil]); first | done | rfl | (simp only [List.length_drop, List.length_take]; rfl)) ?_; (with_reducible refine (alu_Taken.calls 18 1 2 true true _ A4.out).mono ?_); rintro e w29 ⟨rfl, hb⟩; refine ⟨_, rfl, ?_⟩; have n0_ := Aside0.mk (below_step (by repeat (first | (with_reducible first | exact HB.out | apply below_alloc | apply pw_below_drewN | apply below_drew1) | exact HB.out)) hb); clear HB; have HB := n0_; clear n0_; (try clear hb); (try clear hb2); (try clear hk); (try clear hi)) | ((with_reducible refine gate_callee (f := 18) rfl ?_); refine goesL_ (some 30) rfl rfl Try.func18 (by kernel_rfl) rfl #[.int .i64 3, .int .u32 1, .int .u32 2] rfl (by (try simp only [List.map_toArray, List.map_cons, List.map_nil]); first | done | rfl | (simp only [List.length_drop, List.length_take]; rfl)) ?_; (with_reducible refine (alu_Taken.calls 3 1 2 t109 false _ A5.out).mono ?_); rintro e w30 ⟨rfl, hb⟩; refine ⟨_, rfl, ?_⟩; have n0_ := Aside0.mk (below_step (by repeat (first | (with_reducible first | exact HB.out | apply below_alloc | apply pw_below_drewN | apply below_drew1) | exact HB.out)) hb); clear HB; have HB := n0_; clear n0_; (try clear hb); (try clear hb2); (try clear hk); (try clear hi)) | ((with_reducible refine gate_callee (f := 20) rfl ?_); refine goesL_ (some 34) rfl rfl Try.func20 (by kernel_rfl) rfl #[.int .i64 2, .int .u32 74565, .int .i64 9] rfl (by (try simp only [List.map_toArray, List.map_cons, List.map_nil]); first | done | rfl | (simp only [List.length_drop, List.length_take]; rfl)) ?_; (with_reducible refine (alu_Moved.calls k 2 74565 9 t111 t112 _ A6.out).mono ?_); rintro e w' ⟨rfl, ⟨nd, rfl⟩⟩; refine ⟨_, rfl, ?_⟩))
                    go_ret
                    exact ⟨by first | rfl | (simp [errW_none, errW_some] <;> rfl) | (simp [*, errW_none, errW_some] <;> rfl), by repeat (first | (with_reducible first | exact HB.out | apply below_alloc | apply pw_below_drewN | apply below_drew1) | exact HB.out)⟩
                  · rw [if_neg c25] at H
                    have c25b0 : (t111 == 598853) = false := beq_eq_false_iff_ne.mpr c25
                    have c25b1 : (t111 != 598853) = true := bne_iff_ne.mpr c25
                    obtain rfl := Option.some.inj H
                    go_enter Try.func15, Try.ntmps15
                    go_wp2_with (first | ((with_reducible refine gate_callee (f := 16) rfl ?_); refine goesL_ (some 14) rfl rfl Try.func16 (by kernel_rfl) rfl #[.int .i64 9, .int .u32 1, .int .u32 33] rfl (by (try simp only [List.map_toArray, List.map_cons, List.map_nil]); first | done | rfl | (simp only [List.length_drop, List.length_take]; rfl)) ?_; (with_reducible refine (alu_Alu.calls 9 1 33 t101 true _ A1.out).mono ?_); rintro e w31 ⟨rfl, hb⟩; refine ⟨_, rfl, ?_⟩; have n0_ := Aside0.mk (below_step (by repeat (first | (with_reducible first | exact HB.out | apply below_alloc | apply pw_below_drewN | apply below_drew1) | exact HB.out)) hb); clear HB; have HB := n0_; clear n0_; (try clear hb); (try clear hb2); (try clear hk); (try clear hi)) | ((with_reducible refine gate_callee (f := 16) rfl ?_); refine goesL_ (some 18) rfl rfl Try.func16 (by kernel_rfl) rfl #[.int .i64 4, .int .u32 0, .int .u32 1] rfl (by (try simp only [List.map_toArray, List.map_cons, List.map_nil]); first | done | rfl | (simp only [List.length_drop, List.length_take]; rfl)) ?_; (with_reducible refine (alu_Alu.calls 4 0 1 t103 true _ A2.out).mono ?_); rintro e w32 ⟨rfl, hb⟩; refine ⟨_, rfl, ?_⟩; have n0_ := Aside0.mk (below_step (by repeat (first | (with_reducible first | exact HB.out | apply below_alloc | apply pw_below_drewN | apply below_drew1) | exact HB.out)) hb); clear HB; have HB := n0_; clear n0_; (try clear hb); (try clear hb2); (try clear hk); (try clear hi)) | ((with_reducible refine gate_callee (f := 16) rfl ?_); refine goesL_ (some 22) rfl rfl Try.func16 (by kernel_rfl) rfl #[.int .i64 20, .int .u32 0, .int .u32 1] rfl (by (try simp only [List.map_toArray, List.map_cons, List.map_nil]); first | done | rfl | (simp only [List.length_drop, List.length_take]; rfl)) ?_; (with_reducible refine (alu_Alu.calls 20 0 1 t105 false _ A3.out).mono ?_); rintro e w33 ⟨rfl, hb⟩; refine ⟨_, rfl, ?_⟩; have n0_ := Aside0.mk (below_step (by repeat (first | (with_reducible first | exact HB.out | apply below_alloc | apply pw_below_drewN | apply below_drew1) | exact HB.out)) hb); clear HB; have HB := n0_; clear n0_; (try clear hb); (try clear hb2); (try clear hk); (try clear hi)) | ((with_reducible refine gate_callee (f := 18) rfl ?_); refine goesL_ (some 26) rfl rfl Try.func18 (by kernel_rfl) rfl #[.int .i64 18, .int .u32 1, .int .u32 2] rfl (by (try simp only [List.map_toArray, List.map_cons, List.map_nil]); first | done | rfl | (simp only [List.length_drop, List.length_take]; rfl)) ?_; (with_reducible refine (alu_Taken.calls 18 1 2 true true _ A4.out).mono ?_); rintro e w34 ⟨rfl, hb⟩; refine ⟨_, rfl, ?_⟩; have n0_ := Aside0.mk (below_step (by repeat (first | (with_reducible first | exact HB.out | apply below_alloc | apply pw_below_drewN | apply below_drew1) | exact HB.out)) hb); clear HB; have HB := n0_; clear n0_; (try clear hb); (try clear hb2); (try clear hk); (try clear hi)) | ((with_reducible refine gate_callee (f := 18) rfl ?_); refine goesL_ (some 30) rfl rfl Try.func18 (by kernel_rfl) rfl #[.int .i64 3, .int .u32 1, .int .u32 2] rfl (by (try simp only [List.map_toArray, List.map_cons, List.map_nil]); first | done | rfl | (simp only [List.length_drop, List.length_take]; rfl)) ?_; (with_reducible refine (alu_Taken.calls 3 1 2 t109 false _ A5.out).mono ?_); rintro e w35 ⟨rfl, hb⟩; refine ⟨_, rfl, ?_⟩; have n0_ := Aside0.mk (below_step (by repeat (first | (with_reducible first | exact HB.out | apply below_alloc | apply pw_below_drewN | apply below_drew1) | exact HB.out)) hb); clear HB; have HB := n0_; clear n0_; (try clear hb); (try clear hb2); (try clear hk); (try clear hi)) | ((with_reducible refine gate_callee (f := 20) rfl ?_); refine goesL_ (some 34) rfl rfl Try.func20 (by kernel_rfl) rfl #[.int .i64 2, .int .u32 74565, .int .i64 9] rfl (by (try simp only [List.map_toArray, List.map_cons, List.map_nil]); first | done | rfl | (simp only [List.length_drop, List.length_take]; rfl)) ?_; (with_reducible refine (alu_Moved.calls k 2 74565 9 t111 t112 _ A6.out).mono ?_); rintro e w' ⟨rfl, ⟨nd, rfl⟩⟩; refine ⟨_, rfl, ?_⟩))
                    go_ret
                    exact ⟨by first | rfl | (simp [errW_none, errW_some] <;> rfl) | (simp [*, errW_none, errW_some] <;> rfl), by repeat (first | (with_reducible first | exact HB.out | apply below_alloc | apply pw_below_drewN | apply below_drew1) | exact HB.out)⟩
              · replace c18 := Bool.eq_false_iff.mpr c18
                subst c18
                have H1 : (some false) = some r := by rw [if_neg (show ¬ (false = true) by decide)] at H; exact H
                clear H
                have H := H1
                clear H1
                obtain rfl := Option.some.inj H
                go_enter Try.func15, Try.ntmps15
                go_wp2_with (first | ((with_reducible refine gate_callee (f := 16) rfl ?_); refine goesL_ (some 14) rfl rfl Try.func16 (by kernel_rfl) rfl #[.int .i64 9, .int .u32 1, .int .u32 33] rfl (by (try simp only [List.map_toArray, List.map_cons, List.map_nil]); first | done | rfl | (simp only [List.length_drop, List.length_take]; rfl)) ?_; (with_reducible refine (alu_Alu.calls 9 1 33 t101 true _ A1.out).mono ?_); rintro e w36 ⟨rfl, hb⟩; refine ⟨_, rfl, ?_⟩; have n0_ := Aside0.mk (below_step (by repeat (first | (with_reducible first | exact HB.out | apply below_alloc | apply pw_below_drewN | apply below_drew1) | exact HB.out)) hb); clear HB; have HB := n0_; clear n0_; (try clear hb); (try clear hb2); (try clear hk); (try clear hi)) | ((with_reducible refine gate_callee (f := 16) rfl ?_); refine goesL_ (some 18) rfl rfl Try.func16 (by kernel_rfl) rfl #[.int .i64 4, .int .u32 0, .int .u32 1] rfl (by (try simp only [List.map_toArray, List.map_cons, List.map_nil]); first | done | rfl | (simp only [List.length_drop, List.length_take]; rfl)) ?_; (with_reducible refine (alu_Alu.calls 4 0 1 t103 true _ A2.out).mono ?_); rintro e w37 ⟨rfl, hb⟩; refine ⟨_, rfl, ?_⟩; have n0_ := Aside0.mk (below_step (by repeat (first | (with_reducible first | exact HB.out | apply below_alloc | apply pw_below_drewN | apply below_drew1) | exact HB.out)) hb); clear HB; have HB := n0_; clear n0_; (try clear hb); (try clear hb2); (try clear hk); (try clear hi)) | ((with_reducible refine gate_callee (f := 16) rfl ?_); refine goesL_ (some 22) rfl rfl Try.func16 (by kernel_rfl) rfl #[.int .i64 20, .int .u32 0, .int .u32 1] rfl (by (try simp only [List.map_toArray, List.map_cons, List.map_nil]); first | done | rfl | (simp only [List.length_drop, List.length_take]; rfl)) ?_; (with_reducible refine (alu_Alu.calls 20 0 1 t105 false _ A3.out).mono ?_); rintro e w38 ⟨rfl, hb⟩; refine ⟨_, rfl, ?_⟩; have n0_ := Aside0.mk (below_step (by repeat (first | (with_reducible first | exact HB.out | apply below_alloc | apply pw_below_drewN | apply below_drew1) | exact HB.out)) hb); clear HB; have HB := n0_; clear n0_; (try clear hb); (try clear hb2); (try clear hk); (try clear hi)) | ((with_reducible refine gate_callee (f := 18) rfl ?_); refine goesL_ (some 26) rfl rfl Try.func18 (by kernel_rfl) rfl #[.int .i64 18, .int .u32 1, .int .u32 2] rfl (by (try simp only [List.map_toArray, List.map_cons, List.map_nil]); first | done | rfl | (simp only [List.length_drop, List.length_take]; rfl)) ?_; (with_reducible refine (alu_Taken.calls 18 1 2 true false _ A4.out).mono ?_); rintro e w39 ⟨rfl, hb⟩; refine ⟨_, rfl, ?_⟩; have n0_ := Aside0.mk (below_step (by repeat (first | (with_reducible first | exact HB.out | apply below_alloc | apply pw_below_drewN | apply below_drew1) | exact HB.out)) hb); clear HB; have HB := n0_; clear n0_; (try clear hb); (try clear hb2); (try clear hk); (try clear hi)) | ((with_reducible refine gate_callee (f := 18) rfl ?_); refine goesL_ (some 30) rfl rfl Try.func18 (by kernel_rfl) rfl #[.int .i64 3, .int .u32 1, .int .u32 2] rfl (by (try simp only [List.map_toArray, List.map_cons, List.map_nil]); first | done | rfl | (simp only [List.length_drop, List.length_take]; rfl)) ?_; (with_reducible refine (alu_Taken.calls 3 1 2 t109 t110 _ A5.out).mono ?_); rintro e w40 ⟨rfl, hb⟩; refine ⟨_, rfl, ?_⟩; have n0_ := Aside0.mk (below_step (by repeat (first | (with_reducible first | exact HB.out | apply below_alloc | apply pw_below_drewN | apply below_drew1) | exact HB.out)) hb); clear HB; have HB := n0_; clear n0_; (try clear hb); (try clear hb2); (try clear hk); (try clear hi)) | ((with_reducible refine gate_callee (f := 20) rfl ?_); refine goesL_ (some 34) rfl rfl Try.func20 (by kernel_rfl) rfl #[.int .i64 2, .int .u32 74565, .int .i64 9] rfl (by (try simp only [List.map_toArray, List.map_cons, List.map_nil]); first | done | rfl | (simp only [List.length_drop, List.length_take]; rfl)) ?_; (with_reducible refine (alu_Moved.calls k 2 74565 9 t111 t112 _ A6.out).mono ?_); rintro e w' ⟨rfl, ⟨nd, rfl⟩⟩; refine ⟨_, rfl, ?_⟩))
                go_ret
                exact ⟨by first | rfl | (simp [errW_none, errW_some] <;> rfl) | (simp [*, errW_none, errW_some] <;> rfl), by repeat (first | (with_reducible first | exact HB.out | apply below_alloc | apply pw_below_drewN | apply below_drew1) | exact HB.out)⟩
            · replace c17 := Bool.eq_false_iff.mpr c17
              subst c17
              have H1 : (some false) = some r := by rw [if_neg (show ¬ (false = true) by decide)] at H; exact H
              clear H
              have H := H1
              clear H1
              obtain rfl := Option.some.inj H
              go_enter Try.func15, Try.ntmps15
              go_wp2_with (first | ((with_reducible refine gate_callee (f := 16) rfl ?_); refine goesL_ (some 14) rfl rfl Try.func16 (by kernel_rfl) rfl #[.int .i64 9, .int .u32 1, .int .u32 33] rfl (by (try simp only [List.map_toArray, List.map_cons, List.map_nil]); first | done | rfl | (simp only [List.length_drop, List.length_take]; rfl)) ?_; (with_reducible refine (alu_Alu.calls 9 1 33 t101 true _ A1.out).mono ?_); rintro e w41 ⟨rfl, hb⟩; refine ⟨_, rfl, ?_⟩; have n0_ := Aside0.mk (below_step (by repeat (first | (with_reducible first | exact HB.out | apply below_alloc | apply pw_below_drewN | apply below_drew1) | exact HB.out)) hb); clear HB; have HB := n0_; clear n0_; (try clear hb); (try clear hb2); (try clear hk); (try clear hi)) | ((with_reducible refine gate_callee (f := 16) rfl ?_); refine goesL_ (some 18) rfl rfl Try.func16 (by kernel_rfl) rfl #[.int .i64 4, .int .u32 0, .int .u32 1] rfl (by (try simp only [List.map_toArray, List.map_cons, List.map_nil]); first | done | rfl | (simp only [List.length_drop, List.length_take]; rfl)) ?_; (with_reducible refine (alu_Alu.calls 4 0 1 t103 true _ A2.out).mono ?_); rintro e w42 ⟨rfl, hb⟩; refine ⟨_, rfl, ?_⟩; have n0_ := Aside0.mk (below_step (by repeat (first | (with_reducible first | exact HB.out | apply below_alloc | apply pw_below_drewN | apply below_drew1) | exact HB.out)) hb); clear HB; have HB := n0_; clear n0_; (try clear hb); (try clear hb2); (try clear hk); (try clear hi)) | ((with_reducible refine gate_callee (f := 16) rfl ?_); refine goesL_ (some 22) rfl rfl Try.func16 (by kernel_rfl) rfl #[.int .i64 20, .int .u32 0, .int .u32 1] rfl (by (try simp only [List.map_toArray, List.map_cons, List.map_nil]); first | done | rfl | (simp only [List.length_drop, List.length_take]; rfl)) ?_; (with_reducible refine (alu_Alu.calls 20 0 1 t105 false _ A3.out).mono ?_); rintro e w43 ⟨rfl, hb⟩; refine ⟨_, rfl, ?_⟩; have n0_ := Aside0.mk (below_step (by repeat (first | (with_reducible first | exact HB.out | apply below_alloc | apply pw_below_drewN | apply below_drew1) | exact HB.out)) hb); clear HB; have HB := n0_; clear n0_; (try clear hb); (try clear hb2); (try clear hk); (try clear hi)) | ((with_reducible refine gate_callee (f := 18) rfl ?_); refine goesL_ (some 26) rfl rfl Try.func18 (by kernel_rfl) rfl #[.int .i64 18, .int .u32 1, .int .u32 2] rfl (by (try simp only [List.map_toArray, List.map_cons, List.map_nil]); first | done | rfl | (simp only [List.length_drop, List.length_take]; rfl)) ?_; (with_reducible refine (alu_Taken.calls 18 1 2 false t108 _ A4.out).mono ?_); rintro e w44 ⟨rfl, hb⟩; refine ⟨_, rfl, ?_⟩; have n0_ := Aside0.mk (below_step (by repeat (first | (with_reducible first | exact HB.out | apply below_alloc | apply pw_below_drewN | apply below_drew1) | exact HB.out)) hb); clear HB; have HB := n0_; clear n0_; (try clear hb); (try clear hb2); (try clear hk); (try clear hi)) | ((with_reducible refine gate_callee (f := 18) rfl ?_); refine goesL_ (some 30) rfl rfl Try.func18 (by kernel_rfl) rfl #[.int .i64 3, .int .u32 1, .int .u32 2] rfl (by (try simp only [List.map_toArray, List.map_cons, List.map_nil]); first | done | rfl | (simp only [List.length_drop, List.length_take]; rfl)) ?_; (with_reducible refine (alu_Taken.calls 3 1 2 t109 t110 _ A5.out).mono ?_); rintro e w45 ⟨rfl, hb⟩; refine ⟨_, rfl, ?_⟩; have n0_ := Aside0.mk (below_step (by repeat (first | (with_reducible first | exact HB.out | apply below_alloc | apply pw_below_drewN | apply below_drew1) | exact HB.out)) hb); clear HB; have HB := n0_; clear n0_; (try clear hb); (try clear hb2); (try clear hk); (try clear hi)) | ((with_reducible refine gate_callee (f := 20) rfl ?_); refine goesL_ (some 34) rfl rfl Try.func20 (by kernel_rfl) rfl #[.int .i64 2, .int .u32 74565, .int .i64 9] rfl (by (try simp only [List.map_toArray, List.map_cons, List.map_nil]); first | done | rfl | (simp only [List.length_drop, List.length_take]; rfl)) ?_; (with_reducible refine (alu_Moved.calls k 2 74565 9 t111 t112 _ A6.out).mono ?_); rintro e w' ⟨rfl, ⟨nd, rfl⟩⟩; refine ⟨_, rfl, ?_⟩))
              go_ret
              exact ⟨by first | rfl | (simp [errW_none, errW_some] <;> rfl) | (simp [*, errW_none, errW_some] <;> rfl), by repeat (first | (with_reducible first | exact HB.out | apply below_alloc | apply pw_below_drewN | apply below_drew1) | exact HB.out)⟩
        · replace c10 := Bool.eq_false_iff.mpr c10
          subst c10
          have H1 : (some false) = some r := by rw [if_neg (show ¬ (false = true) by decide)] at H; exact H
          clear H
          have H := H1
          clear H1
          obtain rfl := Option.some.inj H
          go_enter Try.func15, Try.ntmps15
          go_wp2_with (first | ((with_reducible refine gate_callee (f := 16) rfl ?_); refine goesL_ (some 14) rfl rfl Try.func16 (by kernel_rfl) rfl #[.int .i64 9, .int .u32 1, .int .u32 33] rfl (by (try simp only [List.map_toArray, List.map_cons, List.map_nil]); first | done | rfl | (simp only [List.length_drop, List.length_take]; rfl)) ?_; (with_reducible refine (alu_Alu.calls 9 1 33 t101 true _ A1.out).mono ?_); rintro e w46 ⟨rfl, hb⟩; refine ⟨_, rfl, ?_⟩; have n0_ := Aside0.mk (below_step (by repeat (first | (with_reducible first | exact HB.out | apply below_alloc | apply pw_below_drewN | apply below_drew1) | exact HB.out)) hb); clear HB; have HB := n0_; clear n0_; (try clear hb); (try clear hb2); (try clear hk); (try clear hi)) | ((with_reducible refine gate_callee (f := 16) rfl ?_); refine goesL_ (some 18) rfl rfl Try.func16 (by kernel_rfl) rfl #[.int .i64 4, .int .u32 0, .int .u32 1] rfl (by (try simp only [List.map_toArray, List.map_cons, List.map_nil]); first | done | rfl | (simp only [List.length_drop, List.length_take]; rfl)) ?_; (with_reducible refine (alu_Alu.calls 4 0 1 t103 false _ A2.out).mono ?_); rintro e w47 ⟨rfl, hb⟩; refine ⟨_, rfl, ?_⟩; have n0_ := Aside0.mk (below_step (by repeat (first | (with_reducible first | exact HB.out | apply below_alloc | apply pw_below_drewN | apply below_drew1) | exact HB.out)) hb); clear HB; have HB := n0_; clear n0_; (try clear hb); (try clear hb2); (try clear hk); (try clear hi)) | ((with_reducible refine gate_callee (f := 16) rfl ?_); refine goesL_ (some 22) rfl rfl Try.func16 (by kernel_rfl) rfl #[.int .i64 20, .int .u32 0, .int .u32 1] rfl (by (try simp only [List.map_toArray, List.map_cons, List.map_nil]); first | done | rfl | (simp only [List.length_drop, List.length_take]; rfl)) ?_; (with_reducible refine (alu_Alu.calls 20 0 1 t105 t106 _ A3.out).mono ?_); rintro e w48 ⟨rfl, hb⟩; refine ⟨_, rfl, ?_⟩; have n0_ := Aside0.mk (below_step (by repeat (first | (with_reducible first | exact HB.out | apply below_alloc | apply pw_below_drewN | apply below_drew1) | exact HB.out)) hb); clear HB; have HB := n0_; clear n0_; (try clear hb); (try clear hb2); (try clear hk); (try clear hi)) | ((with_reducible refine gate_callee (f := 18) rfl ?_); refine goesL_ (some 26) rfl rfl Try.func18 (by kernel_rfl) rfl #[.int .i64 18, .int .u32 1, .int .u32 2] rfl (by (try simp only [List.map_toArray, List.map_cons, List.map_nil]); first | done | rfl | (simp only [List.length_drop, List.length_take]; rfl)) ?_; (with_reducible refine (alu_Taken.calls 18 1 2 t107 t108 _ A4.out).mono ?_); rintro e w49 ⟨rfl, hb⟩; refine ⟨_, rfl, ?_⟩; have n0_ := Aside0.mk (below_step (by repeat (first | (with_reducible first | exact HB.out | apply below_alloc | apply pw_below_drewN | apply below_drew1) | exact HB.out)) hb); clear HB; have HB := n0_; clear n0_; (try clear hb); (try clear hb2); (try clear hk); (try clear hi)) | ((with_reducible refine gate_callee (f := 18) rfl ?_); refine goesL_ (some 30) rfl rfl Try.func18 (by kernel_rfl) rfl #[.int .i64 3, .int .u32 1, .int .u32 2] rfl (by (try simp only [List.map_toArray, List.map_cons, List.map_nil]); first | done | rfl | (simp only [List.length_drop, List.length_take]; rfl)) ?_; (with_reducible refine (alu_Taken.calls 3 1 2 t109 t110 _ A5.out).mono ?_); rintro e w50 ⟨rfl, hb⟩; refine ⟨_, rfl, ?_⟩; have n0_ := Aside0.mk (below_step (by repeat (first | (with_reducible first | exact HB.out | apply below_alloc | apply pw_below_drewN | apply below_drew1) | exact HB.out)) hb); clear HB; have HB := n0_; clear n0_; (try clear hb); (try clear hb2); (try clear hk); (try clear hi)) | ((with_reducible refine gate_callee (f := 20) rfl ?_); refine goesL_ (some 34) rfl rfl Try.func20 (by kernel_rfl) rfl #[.int .i64 2, .int .u32 74565, .int .i64 9] rfl (by (try simp only [List.map_toArray, List.map_cons, List.map_nil]); first | done | rfl | (simp only [List.length_drop, List.length_take]; rfl)) ?_; (with_reducible refine (alu_Moved.calls k 2 74565 9 t111 t112 _ A6.out).mono ?_); rintro e w' ⟨rfl, ⟨nd, rfl⟩⟩; refine ⟨_, rfl, ?_⟩))
          go_ret
          exact ⟨by first | rfl | (simp [errW_none, errW_some] <;> rfl) | (simp [*, errW_none, errW_some] <;> rfl), by repeat (first | (with_reducible first | exact HB.out | apply below_alloc | apply pw_below_drewN | apply below_drew1) | exact HB.out)⟩
      · rw [if_neg c9] at H
        have c9b0 : (t103 == 4294967295) = false := beq_eq_false_iff_ne.mpr c9
        have c9b1 : (t103 != 4294967295) = true := bne_iff_ne.mpr c9
        obtain rfl := Option.some.inj H
        go_enter Try.func15, Try.ntmps15
        go_wp2_with (first | ((with_reducible refine gate_callee (f := 16) rfl ?_); refine goesL_ (some 14) rfl rfl Try.func16 (by kernel_rfl) rfl #[.int .i64 9, .int .u32 1, .int .u32 33] rfl (by (try simp only [List.map_toArray, List.map_cons, List.map_nil]); first | done | rfl | (simp only [List.length_drop, List.length_take]; rfl)) ?_; (with_reducible refine (alu_Alu.calls 9 1 33 t101 true _ A1.out).mono ?_); rintro e w51 ⟨rfl, hb⟩; refine ⟨_, rfl, ?_⟩; have n0_ := Aside0.mk (below_step (by repeat (first | (with_reducible first | exact HB.out | apply below_alloc | apply pw_below_drewN | apply below_drew1) | exact HB.out)) hb); clear HB; have HB := n0_; clear n0_; (try clear hb); (try clear hb2); (try clear hk); (try clear hi)) | ((with_reducible refine gate_callee (f := 16) rfl ?_); refine goesL_ (some 18) rfl rfl Try.func16 (by kernel_rfl) rfl #[.int .i64 4, .int .u32 0, .int .u32 1] rfl (by (try simp only [List.map_toArray, List.map_cons, List.map_nil]); first | done | rfl | (simp only [List.length_drop, List.length_take]; rfl)) ?_; (with_reducible refine (alu_Alu.calls 4 0 1 t103 t104 _ A2.out).mono ?_); rintro e w52 ⟨rfl, hb⟩; refine ⟨_, rfl, ?_⟩; have n0_ := Aside0.mk (below_step (by repeat (first | (with_reducible first | exact HB.out | apply below_alloc | apply pw_below_drewN | apply below_drew1) | exact HB.out)) hb); clear HB; have HB := n0_; clear n0_; (try clear hb); (try clear hb2); (try clear hk); (try clear hi)) | ((with_reducible refine gate_callee (f := 16) rfl ?_); refine goesL_ (some 22) rfl rfl Try.func16 (by kernel_rfl) rfl #[.int .i64 20, .int .u32 0, .int .u32 1] rfl (by (try simp only [List.map_toArray, List.map_cons, List.map_nil]); first | done | rfl | (simp only [List.length_drop, List.length_take]; rfl)) ?_; (with_reducible refine (alu_Alu.calls 20 0 1 t105 t106 _ A3.out).mono ?_); rintro e w53 ⟨rfl, hb⟩; refine ⟨_, rfl, ?_⟩; have n0_ := Aside0.mk (below_step (by repeat (first | (with_reducible first | exact HB.out | apply below_alloc | apply pw_below_drewN | apply below_drew1) | exact HB.out)) hb); clear HB; have HB := n0_; clear n0_; (try clear hb); (try clear hb2); (try clear hk); (try clear hi)) | ((with_reducible refine gate_callee (f := 18) rfl ?_); refine goesL_ (some 26) rfl rfl Try.func18 (by kernel_rfl) rfl #[.int .i64 18, .int .u32 1, .int .u32 2] rfl (by (try simp only [List.map_toArray, List.map_cons, List.map_nil]); first | done | rfl | (simp only [List.length_drop, List.length_take]; rfl)) ?_; (with_reducible refine (alu_Taken.calls 18 1 2 t107 t108 _ A4.out).mono ?_); rintro e w54 ⟨rfl, hb⟩; refine ⟨_, rfl, ?_⟩; have n0_ := Aside0.mk (below_step (by repeat (first | (with_reducible first | exact HB.out | apply below_alloc | apply pw_below_drewN | apply below_drew1) | exact HB.out)) hb); clear HB; have HB := n0_; clear n0_; (try clear hb); (try clear hb2); (try clear hk); (try clear hi)) | ((with_reducible refine gate_callee (f := 18) rfl ?_); refine goesL_ (some 30) rfl rfl Try.func18 (by kernel_rfl) rfl #[.int .i64 3, .int .u32 1, .int .u32 2] rfl (by (try simp only [List.map_toArray, List.map_cons, List.map_nil]); first | done | rfl | (simp only [List.length_drop, List.length_take]; rfl)) ?_; (with_reducible refine (alu_Taken.calls 3 1 2 t109 t110 _ A5.out).mono ?_); rintro e w55 ⟨rfl, hb⟩; refine ⟨_, rfl, ?_⟩; have n0_ := Aside0.mk (below_step (by repeat (first | (with_reducible first | exact HB.out | apply below_alloc | apply pw_below_drewN | apply below_drew1) | exact HB.out)) hb); clear HB; have HB := n0_; clear n0_; (try clear hb); (try clear hb2); (try clear hk); (try clear hi)) | ((with_reducible refine gate_callee (f := 20) rfl ?_); refine goesL_ (some 34) rfl rfl Try.func20 (by kernel_rfl) rfl #[.int .i64 2, .int .u32 74565, .int .i64 9] rfl (by (try simp only [List.map_toArray, List.map_cons, List.map_nil]); first | done | rfl | (simp only [List.length_drop, List.length_take]; rfl)) ?_; (with_reducible refine (alu_Moved.calls k 2 74565 9 t111 t112 _ A6.out).mono ?_); rintro e w' ⟨rfl, ⟨nd, rfl⟩⟩; refine ⟨_, rfl, ?_⟩))
        go_ret
        exact ⟨by first | rfl | (simp [errW_none, errW_some] <;> rfl) | (simp [*, errW_none, errW_some] <;> rfl), by repeat (first | (with_reducible first | exact HB.out | apply below_alloc | apply pw_below_drewN | apply below_drew1) | exact HB.out)⟩
    · replace c8 := Bool.eq_false_iff.mpr c8
      subst c8
      have H1 : (some false) = some r := by rw [if_neg (show ¬ (false = true) by decide)] at H; exact H
      clear H
      have H := H1
      clear H1
      obtain rfl := Option.some.inj H
      go_enter Try.func15, Try.ntmps15
      go_wp2_with (first | ((with_reducible refine gate_callee (f := 16) rfl ?_); refine goesL_ (some 14) rfl rfl Try.func16 (by kernel_rfl) rfl #[.int .i64 9, .int .u32 1, .int .u32 33] rfl (by (try simp only [List.map_toArray, List.map_cons, List.map_nil]); first | done | rfl | (simp only [List.length_drop, List.length_take]; rfl)) ?_; (with_reducible refine (alu_Alu.calls 9 1 33 t101 false _ A1.out).mono ?_); rintro e w56 ⟨rfl, hb⟩; refine ⟨_, rfl, ?_⟩; have n0_ := Aside0.mk (below_step (by repeat (first | (with_reducible first | exact HB.out | apply below_alloc | apply pw_below_drewN | apply below_drew1) | exact HB.out)) hb); clear HB; have HB := n0_; clear n0_; (try clear hb); (try clear hb2); (try clear hk); (try clear hi)) | ((with_reducible refine gate_callee (f := 16) rfl ?_); refine goesL_ (some 18) rfl rfl Try.func16 (by kernel_rfl) rfl #[.int .i64 4, .int .u32 0, .int .u32 1] rfl (by (try simp only [List.map_toArray, List.map_cons, List.map_nil]); first | done | rfl | (simp only [List.length_drop, List.length_take]; rfl)) ?_; (with_reducible refine (alu_Alu.calls 4 0 1 t103 t104 _ A2.out).mono ?_); rintro e w57 ⟨rfl, hb⟩; refine ⟨_, rfl, ?_⟩; have n0_ := Aside0.mk (below_step (by repeat (first | (with_reducible first | exact HB.out | apply below_alloc | apply pw_below_drewN | apply below_drew1) | exact HB.out)) hb); clear HB; have HB := n0_; clear n0_; (try clear hb); (try clear hb2); (try clear hk); (try clear hi)) | ((with_reducible refine gate_callee (f := 16) rfl ?_); refine goesL_ (some 22) rfl rfl Try.func16 (by kernel_rfl) rfl #[.int .i64 20, .int .u32 0, .int .u32 1] rfl (by (try simp only [List.map_toArray, List.map_cons, List.map_nil]); first | done | rfl | (simp only [List.length_drop, List.length_take]; rfl)) ?_; (with_reducible refine (alu_Alu.calls 20 0 1 t105 t106 _ A3.out).mono ?_); rintro e w58 ⟨rfl, hb⟩; refine ⟨_, rfl, ?_⟩; have n0_ := Aside0.mk (below_step (by repeat (first | (with_reducible first | exact HB.out | apply below_alloc | apply pw_below_drewN | apply below_drew1) | exact HB.out)) hb); clear HB; have HB := n0_; clear n0_; (try clear hb); (try clear hb2); (try clear hk); (try clear hi)) | ((with_reducible refine gate_callee (f := 18) rfl ?_); refine goesL_ (some 26) rfl rfl Try.func18 (by kernel_rfl) rfl #[.int .i64 18, .int .u32 1, .int .u32 2] rfl (by (try simp only [List.map_toArray, List.map_cons, List.map_nil]); first | done | rfl | (simp only [List.length_drop, List.length_take]; rfl)) ?_; (with_reducible refine (alu_Taken.calls 18 1 2 t107 t108 _ A4.out).mono ?_); rintro e w59 ⟨rfl, hb⟩; refine ⟨_, rfl, ?_⟩; have n0_ := Aside0.mk (below_step (by repeat (first | (with_reducible first | exact HB.out | apply below_alloc | apply pw_below_drewN | apply below_drew1) | exact HB.out)) hb); clear HB; have HB := n0_; clear n0_; (try clear hb); (try clear hb2); (try clear hk); (try clear hi)) | ((with_reducible refine gate_callee (f := 18) rfl ?_); refine goesL_ (some 30) rfl rfl Try.func18 (by kernel_rfl) rfl #[.int .i64 3, .int .u32 1, .int .u32 2] rfl (by (try simp only [List.map_toArray, List.map_cons, List.map_nil]); first | done | rfl | (simp only [List.length_drop, List.length_take]; rfl)) ?_; (with_reducible refine (alu_Taken.calls 3 1 2 t109 t110 _ A5.out).mono ?_); rintro e w60 ⟨rfl, hb⟩; refine ⟨_, rfl, ?_⟩; have n0_ := Aside0.mk (below_step (by repeat (first | (with_reducible first | exact HB.out | apply below_alloc | apply pw_below_drewN | apply below_drew1) | exact HB.out)) hb); clear HB; have HB := n0_; clear n0_; (try clear hb); (try clear hb2); (try clear hk); (try clear hi)) | ((with_reducible refine gate_callee (f := 20) rfl ?_); refine goesL_ (some 34) rfl rfl Try.func20 (by kernel_rfl) rfl #[.int .i64 2, .int .u32 74565, .int .i64 9] rfl (by (try simp only [List.map_toArray, List.map_cons, List.map_nil]); first | done | rfl | (simp only [List.length_drop, List.length_take]; rfl)) ?_; (with_reducible refine (alu_Moved.calls k 2 74565 9 t111 t112 _ A6.out).mono ?_); rintro e w' ⟨rfl, ⟨nd, rfl⟩⟩; refine ⟨_, rfl, ?_⟩))
      go_ret
      exact ⟨by first | rfl | (simp [errW_none, errW_some] <;> rfl) | (simp [*, errW_none, errW_some] <;> rfl), by repeat (first | (with_reducible first | exact HB.out | apply below_alloc | apply pw_below_drewN | apply below_drew1) | exact HB.out)⟩
  · rw [if_neg c7] at H
    have c7b0 : (t101 == 2) = false := beq_eq_false_iff_ne.mpr c7
    have c7b1 : (t101 != 2) = true := bne_iff_ne.mpr c7
    obtain rfl := Option.some.inj H
    go_enter Try.func15, Try.ntmps15
    go_wp2_with (first | ((with_reducible refine gate_callee (f := 16) rfl ?_); refine goesL_ (some 14) rfl rfl Try.func16 (by kernel_rfl) rfl #[.int .i64 9, .int .u32 1, .int .u32 33] rfl (by (try simp only [List.map_toArray, List.map_cons, List.map_nil]); first | done | rfl | (simp only [List.length_drop, List.length_take]; rfl)) ?_; (with_reducible refine (alu_Alu.calls 9 1 33 t101 t102 _ A1.out).mono ?_); rintro e w61 ⟨rfl, hb⟩; refine ⟨_, rfl, ?_⟩; have n0_ := Aside0.mk (below_step (by repeat (first | (with_reducible first | exact HB.out | apply below_alloc | apply pw_below_drewN | apply below_drew1) | exact HB.out)) hb); clear HB; have HB := n0_; clear n0_; (try clear hb); (try clear hb2); (try clear hk); (try clear hi)) | ((with_reducible refine gate_callee (f := 16) rfl ?_); refine goesL_ (some 18) rfl rfl Try.func16 (by kernel_rfl) rfl #[.int .i64 4, .int .u32 0, .int .u32 1] rfl (by (try simp only [List.map_toArray, List.map_cons, List.map_nil]); first | done | rfl | (simp only [List.length_drop, List.length_take]; rfl)) ?_; (with_reducible refine (alu_Alu.calls 4 0 1 t103 t104 _ A2.out).mono ?_); rintro e w62 ⟨rfl, hb⟩; refine ⟨_, rfl, ?_⟩; have n0_ := Aside0.mk (below_step (by repeat (first | (with_reducible first | exact HB.out | apply below_alloc | apply pw_below_drewN | apply below_drew1) | exact HB.out)) hb); clear HB; have HB := n0_; clear n0_; (try clear hb); (try clear hb2); (try clear hk); (try clear hi)) | ((with_reducible refine gate_callee (f := 16) rfl ?_); refine goesL_ (some 22) rfl rfl Try.func16 (by kernel_rfl) rfl #[.int .i64 20, .int .u32 0, .int .u32 1] rfl (by (try simp only [List.map_toArray, List.map_cons, List.map_nil]); first | done | rfl | (simp only [List.length_drop, List.length_take]; rfl)) ?_; (with_reducible refine (alu_Alu.calls 20 0 1 t105 t106 _ A3.out).mono ?_); rintro e w63 ⟨rfl, hb⟩; refine ⟨_, rfl, ?_⟩; have n0_ := Aside0.mk (below_step (by repeat (first | (with_reducible first | exact HB.out | apply below_alloc | apply pw_below_drewN | apply below_drew1) | exact HB.out)) hb); clear HB; have HB := n0_; clear n0_; (try clear hb); (try clear hb2); (try clear hk); (try clear hi)) | ((with_reducible refine gate_callee (f := 18) rfl ?_); refine goesL_ (some 26) rfl rfl Try.func18 (by kernel_rfl) rfl #[.int .i64 18, .int .u32 1, .int .u32 2] rfl (by (try simp only [List.map_toArray, List.map_cons, List.map_nil]); first | done | rfl | (simp only [List.length_drop, List.length_take]; rfl)) ?_; (with_reducible refine (alu_Taken.calls 18 1 2 t107 t108 _ A4.out).mono ?_); rintro e w64 ⟨rfl, hb⟩; refine ⟨_, rfl, ?_⟩; have n0_ := Aside0.mk (below_step (by repeat (first | (with_reducible first | exact HB.out | apply below_alloc | apply pw_below_drewN | apply below_drew1) | exact HB.out)) hb); clear HB; have HB := n0_; clear n0_; (try clear hb); (try clear hb2); (try clear hk); (try clear hi)) | ((with_reducible refine gate_callee (f := 18) rfl ?_); refine goesL_ (some 30) rfl rfl Try.func18 (by kernel_rfl) rfl #[.int .i64 3, .int .u32 1, .int .u32 2] rfl (by (try simp only [List.map_toArray, List.map_cons, List.map_nil]); first | done | rfl | (simp only [List.length_drop, List.length_take]; rfl)) ?_; (with_reducible refine (alu_Taken.calls 3 1 2 t109 t110 _ A5.out).mono ?_); rintro e w65 ⟨rfl, hb⟩; refine ⟨_, rfl, ?_⟩; have n0_ := Aside0.mk (below_step (by repeat (first | (with_reducible first | exact HB.out | apply below_alloc | apply pw_below_drewN | apply below_drew1) | exact HB.out)) hb); clear HB; have HB := n0_; clear n0_; (try clear hb); (try clear hb2); (try clear hk); (try clear hi)) | ((with_reducible refine gate_callee (f := 20) rfl ?_); refine goesL_ (some 34) rfl rfl Try.func20 (by kernel_rfl) rfl #[.int .i64 2, .int .u32 74565, .int .i64 9] rfl (by (try simp only [List.map_toArray, List.map_cons, List.map_nil]); first | done | rfl | (simp only [List.length_drop, List.length_take]; rfl)) ?_; (with_reducible refine (alu_Moved.calls k 2 74565 9 t111 t112 _ A6.out).mono ?_); rintro e w' ⟨rfl, ⟨nd, rfl⟩⟩; refine ⟨_, rfl, ?_⟩))
    go_ret
    exact ⟨by first | rfl | (simp [errW_none, errW_some] <;> rfl) | (simp [*, errW_none, errW_some] <;> rfl), by repeat (first | (with_reducible first | exact HB.out | apply below_alloc | apply pw_below_drewN | apply below_drew1) | exact HB.out)⟩

/-! ### carapaceref10_bits: function 57 -/
def carapaceref10_bits.l0 : Nat → Int → Int → Bool → Bool → Int → Int → Int → Option (Int)
  | 0, _, _, _, _, _, _, _ => none
  | k + 1, x0, x1, x2, x3, x9, x10, x11 => if x11 < 32 then (if (((Int.tmod x0 2) + (Int.tmod x1 2)) % 4294967296) = 1 then (if x2 = true then (carapaceref10_bits.l0 k ((Int.tdiv x0 2) % 4294967296) ((Int.tdiv x1 2) % 4294967296) x2 x3 ((x9 + x10) % 4294967296) ((2 * x10) % 4294967296) (wrap64 (x11 + 1))) else (if (((Int.tmod x0 2) + (Int.tmod x1 2)) % 4294967296) = 2 then (if x3 = true then (carapaceref10_bits.l0 k ((Int.tdiv x0 2) % 4294967296) ((Int.tdiv x1 2) % 4294967296) x2 x3 ((x9 + x10) % 4294967296) ((2 * x10) % 4294967296) (wrap64 (x11 + 1))) else (carapaceref10_bits.l0 k ((Int.tdiv x0 2) % 4294967296) ((Int.tdiv x1 2) % 4294967296) x2 x3 x9 ((2 * x10) % 4294967296) (wrap64 (x11 + 1)))) else (carapaceref10_bits.l0 k ((Int.tdiv x0 2) % 4294967296) ((Int.tdiv x1 2) % 4294967296) x2 x3 x9 ((2 * x10) % 4294967296) (wrap64 (x11 + 1))))) else (if (((Int.tmod x0 2) + (Int.tmod x1 2)) % 4294967296) = 2 then (if x3 = true then (carapaceref10_bits.l0 k ((Int.tdiv x0 2) % 4294967296) ((Int.tdiv x1 2) % 4294967296) x2 x3 ((x9 + x10) % 4294967296) ((2 * x10) % 4294967296) (wrap64 (x11 + 1))) else (carapaceref10_bits.l0 k ((Int.tdiv x0 2) % 4294967296) ((Int.tdiv x1 2) % 4294967296) x2 x3 x9 ((2 * x10) % 4294967296) (wrap64 (x11 + 1)))) else (carapaceref10_bits.l0 k ((Int.tdiv x0 2) % 4294967296) ((Int.tdiv x1 2) % 4294967296) x2 x3 x9 ((2 * x10) % 4294967296) (wrap64 (x11 + 1))))) else (some x9)
def carapaceref10_bits.f (k : Nat) (a0 : Int) (a1 : Int) (a2 : Bool) (a3 : Bool) : Option (Int) := carapaceref10_bits.l0 k a0 a1 a2 a3 0 1 0
theorem carapaceref10_bits.mono_l : ∀ k, (∀ y0 y1 y2 y3 y4 y5 y6, LeO (carapaceref10_bits.l0 k y0 y1 y2 y3 y4 y5 y6) (carapaceref10_bits.l0 (k + 1) y0 y1 y2 y3 y4 y5 y6))
  | 0 => fun _ _ _ _ _ _ _ r h => by simp [carapaceref10_bits.l0] at h
  | k + 1 => by
    have ih0 := carapaceref10_bits.mono_l k
    · intro y0 y1 y2 y3 y4 y5 y6
      unfold carapaceref10_bits.l0
      repeat' first
      | (with_reducible exact ih0 _ _ _ _ _ _ _)
      | (with_reducible exact LeO.refl _)
      | (with_reducible exact LeO.none _)
      | (with_reducible refine LeO.ite ?_ ?_)
      | (with_reducible refine LeO.bind ?_ (fun _ => ?_))
      | exact ih0 _ _ _ _ _ _ _
      | exact LeO.none _
      | refine LeO.ite ?_ ?_
      | refine LeO.bind ?_ (fun _ => ?_)
theorem carapaceref10_bits.mono : ∀ a0 a1 a2 a3 k, LeO (carapaceref10_bits.f k a0 a1 a2 a3) (carapaceref10_bits.f (k + 1) a0 a1 a2 a3) := by
  intro a0 a1 a2 a3 k
  have ih0 := carapaceref10_bits.mono_l k
  unfold carapaceref10_bits.f
  repeat' first
      | (with_reducible exact ih0 _ _ _ _ _ _ _)
      | (with_reducible exact LeO.refl _)
      | (with_reducible exact LeO.none _)
      | (with_reducible refine LeO.ite ?_ ?_)
      | (with_reducible refine LeO.bind ?_ (fun _ => ?_))
      | exact ih0 _ _ _ _ _ _ _
      | exact LeO.none _
      | refine LeO.ite ?_ ?_
      | refine LeO.bind ?_ (fun _ => ?_)
set_option maxHeartbeats 8000000 in
set_option maxRecDepth 100000 in
theorem carapaceref10_bits.calls (k : Nat) (a0 : Int) (a1 : Int) (a2 : Bool) (a3 : Bool) (r : Int) (w : World) (h : carapaceref10_bits.f k a0 a1 a2 a3 = some r) :
    Calls Try.prog 57 #[.int .u32 a0, .int .u32 a1, .bool a2, .bool a3] w fun e w' => e = .returned (.int .u32 r) ∧ Drawn0 w w' := by
  have H : (carapaceref10_bits.l0 k a0 a1 a2 a3 0 1 0) = some r := h
  clear h
  have H' := Aside0.mk H
  clear H
  go_enter Try.func57, Try.ntmps57
  go_wp2
  go_loopg [0, 1, 9, 10, 11] k (fun kq v0 v1 v9 v10 v11 w' => ∃ (x0_1 : Int) (x1_1 : Int) (x9_1 : Int) (x10_1 : Int) (x11_1 : Int), v0 = .int .u32 x0_1 ∧ v1 = .int .u32 x1_1 ∧ v9 = .int .u32 x9_1 ∧ v10 = .int .u32 x10_1 ∧ v11 = .int .i64 x11_1 ∧ Aside0 (carapaceref10_bits.l0 kq x0_1 x1_1 a2 a3 x9_1 x10_1 x11_1 = some r) ∧ Aside0 (kq ≤ k) ∧ Drawn0 w w')
  case atStart => exact ⟨(a0), (a1), (0), (1), (0), (by first | rfl | (simp; done) | (simp [*]; done)), (by first | rfl | (simp; done) | (simp [*]; done)), (by first | rfl | (simp; done) | (simp [*]; done)), (by first | rfl | (simp; done) | (simp [*]; done)), (by first | rfl | (simp; done) | (simp [*]; done)), H', ⟨Nat.le_refl _⟩, by repeat (first | exact Drawn0.refl _ | apply Drawn0.step)⟩
  case round =>
    clear H'
    try clear p2
    obtain ⟨x0_1, x1_1, x9_1, x10_1, x11_1, rfl, rfl, rfl, rfl, rfl, HA, HK1, ⟨m1, rfl⟩⟩ := hrel
    cases gk with
    | zero => exact absurd HA.out (by simp [carapaceref10_bits.l0])
    | succ k1 =>
      have H := HA.out
      clear HA
      simp only [carapaceref10_bits.l0] at H
      by_cases c5 : x11_1 < 32
      · rw [if_pos c5] at H
        have c5b0 : decide (x11_1 < 32) = true := decide_eq_true c5
        clear c5
        by_cases c6 : (((Int.tmod x0_1 2) + (Int.tmod x1_1 2)) % 4294967296) = 1
        · rw [if_pos c6] at H
          have c6b0 : ((((Int.tmod x0_1 2) + (Int.tmod x1_1 2)) % 4294967296) == 1) = true := beq_iff_eq.mpr c6
          have c6b1 : ((((Int.tmod x0_1 2) + (Int.tmod x1_1 2)) % 4294967296) != 1) = false := bne_eq_false_iff_eq.mpr c6
          clear c6
          by_cases c7 : a2 = true
          · subst c7
            have H1 : (carapaceref10_bits.l0 k1 ((Int.tdiv x0_1 2) % 4294967296) ((Int.tdiv x1_1 2) % 4294967296) true a3 ((x9_1 + x10_1) % 4294967296) ((2 * x10_1) % 4294967296) (wrap64 (x11_1 + 1))) = some r := by rw [if_pos rfl] at H; exact H
            clear H
            have H := H1
            clear H1
            have H' := Aside0.mk H
            clear H
            go_wp2
            go_roundg k1
            case measure => have := HK1.out; omega
            case rel => exact ⟨((Int.tdiv x0_1 2) % 4294967296), ((Int.tdiv x1_1 2) % 4294967296), ((x9_1 + x10_1) % 4294967296), ((2 * x10_1) % 4294967296), (wrap64 (x11_1 + 1)), (by first | rfl | (simp; done) | (simp [*]; done)), (by first | rfl | (simp; done) | (simp [*]; done)), (by first | rfl | (simp; done) | (simp [*]; done)), (by first | rfl | (simp; done) | (simp [*]; done)), (by first | rfl | (simp; done) | (simp [*]; done)), H', ⟨by have := HK1.out; omega⟩, by repeat (first | exact Drawn0.refl _ | apply Drawn0.step)⟩
          · replace c7 := Bool.eq_false_iff.mpr c7
            subst c7
            have H1 : (if (((Int.tmod x0_1 2) + (Int.tmod x1_1 2)) % 4294967296) = 2 then (if a3 = true then (carapaceref10_bits.l0 k1 ((Int.tdiv x0_1 2) % 4294967296) ((Int.tdiv x1_1 2) % 4294967296) false a3 ((x9_1 + x10_1) % 4294967296) ((2 * x10_1) % 4294967296) (wrap64 (x11_1 + 1))) else (carapaceref10_bits.l0 k1 ((Int.tdiv x0_1 2) % 4294967296) ((Int.tdiv x1_1 2) % 4294967296) false a3 x9_1 ((2 * x10_1) % 4294967296) (wrap64 (x11_1 + 1)))) else (carapaceref10_bits.l0 k1 ((Int.tdiv x0_1 2) % 4294967296) ((Int.tdiv x1_1 2) % 4294967296) false a3 x9_1 ((2 * x10_1) % 4294967296) (wrap64 (x11_1 + 1)))) = some r := by rw [if_neg (show ¬ (false = true) by decide)] at H; exact H
            clear H
            have H := H1
            clear H1
            by_cases c8 : (((Int.tmod x0_1 2) + (Int.tmod x1_1 2)) % 4294967296) = 2
            · rw [if_pos c8] at H
              have c8b0 : ((((Int.tmod x0_1 2) + (Int.tmod x1_1 2)) % 4294967296) == 2) = true := beq_iff_eq.mpr c8
              have c8b1 : ((((Int.tmod x0_1 2) + (Int.tmod x1_1 2)) % 4294967296) != 2) = false := bne_eq_false_iff_eq.mpr c8
              clear c8
              by_cases c9 : a3 = true
              · subst c9
                have H1 : (carapaceref10_bits.l0 k1 ((Int.tdiv x0_1 2) % 4294967296) ((Int.tdiv x1_1 2) % 4294967296) false true ((x9_1 + x10_1) % 4294967296) ((2 * x10_1) % 4294967296) (wrap64 (x11_1 + 1))) = some r := by rw [if_pos rfl] at H; exact H
                clear H
                have H := H1
                clear H1
                have H' := Aside0.mk H
                clear H
                go_wp2
                go_roundg k1
                case measure => have := HK1.out; omega
                case rel => exact ⟨((Int.tdiv x0_1 2) % 4294967296), ((Int.tdiv x1_1 2) % 4294967296), ((x9_1 + x10_1) % 4294967296), ((2 * x10_1) % 4294967296), (wrap64 (x11_1 + 1)), (by first | rfl | (simp; done) | (simp [*]; done)), (by first | rfl | (simp; done) | (simp [*]; done)), (by first | rfl | (simp; done) | (simp [*]; done)), (by first | rfl | (simp; done) | (simp [*]; done)), (by first | rfl | (simp; done) | (simp [*]; done)), H', ⟨by have := HK1.out; omega⟩, by repeat (first | exact Drawn0.refl _ | apply Drawn0.step)⟩
              · replace c9 := Bool.eq_false_iff.mpr c9
                subst c9
                have H1 : (carapaceref10_bits.l0 k1 ((Int.tdiv x0_1 2) % 4294967296) ((Int.tdiv x1_1 2) % 4294967296) false false x9_1 ((2 * x10_1) % 4294967296) (wrap64 (x11_1 + 1))) = some r := by rw [if_neg (show ¬ (false = true) by decide)] at H; exact H
                clear H
                have H := H1
                clear H1
                have H' := Aside0.mk H
                clear H
                go_wp2
                go_roundg k1
                case measure => have := HK1.out; omega
                case rel => exact ⟨((Int.tdiv x0_1 2) % 4294967296), ((Int.tdiv x1_1 2) % 4294967296), (x9_1), ((2 * x10_1) % 4294967296), (wrap64 (x11_1 + 1)), (by first | rfl | (simp; done) | (simp [*]; done)), (by first | rfl | (simp; done) | (simp [*]; done)), (by first | rfl | (simp; done) | (simp [*]; done)), (by first | rfl | (simp; done) | (simp [*]; done)), (by first | rfl | (simp; done) | (simp [*]; done)), H', ⟨by have := HK1.out; omega⟩, by repeat (first | exact Drawn0.refl _ | apply Drawn0.step)⟩
            · rw [if_neg c8] at H
              have c8b0 : ((((Int.tmod x0_1 2) + (Int.tmod x1_1 2)) % 4294967296) == 2) = false := beq_eq_false_iff_ne.mpr c8
              have c8b1 : ((((Int.tmod x0_1 2) + (Int.tmod x1_1 2)) % 4294967296) != 2) = true := bne_iff_ne.mpr c8
              have H' := Aside0.mk H
              clear H
              go_wp2
              go_roundg k1
              case measure => have := HK1.out; omega
              case rel => exact ⟨((Int.tdiv x0_1 2) % 4294967296), ((Int.tdiv x1_1 2) % 4294967296), (x9_1), ((2 * x10_1) % 4294967296), (wrap64 (x11_1 + 1)), (by first | rfl | (simp; done) | (simp [*]; done)), (by first | rfl | (simp; done) | (simp [*]; done)), (by first | rfl | (simp; done) | (simp [*]; done)), (by first | rfl | (simp; done) | (simp [*]; done)), (by first | rfl | (simp; done) | (simp [*]; done)), H', ⟨by have := HK1.out; omega⟩, by repeat (first | exact Drawn0.refl _ | apply Drawn0.step)⟩
        · rw [if_neg c6] at H
          have c6b0 : ((((Int.tmod x0_1 2) + (Int.tmod x1_1 2)) % 4294967296) == 1) = false := beq_eq_false_iff_ne.mpr c6
          have c6b1 : ((((Int.tmod x0_1 2) + (Int.tmod x1_1 2)) % 4294967296) != 1) = true := bne_iff_ne.mpr c6
          by_cases c10 : (((Int.tmod x0_1 2) + (Int.tmod x1_1 2)) % 4294967296) = 2
          · rw [if_pos c10] at H
            have c10b0 : ((((Int.tmod x0_1 2) + (Int.tmod x1_1 2)) % 4294967296) == 2) = true := beq_iff_eq.mpr c10
            have c10b1 : ((((Int.tmod x0_1 2) + (Int.tmod x1_1 2)) % 4294967296) != 2) = false := bne_eq_false_iff_eq.mpr c10
            clear c10
            by_cases c11 : a3 = true
            · subst c11
              have H1 : (carapaceref10_bits.l0 k1 ((Int.tdiv x0_1 2) % 4294967296) ((Int.tdiv x1_1 2) % 4294967296) a2 true ((x9_1 + x10_1) % 4294967296) ((2 * x10_1) % 4294967296) (wrap64 (x11_1 + 1))) = some r := by rw [if_pos rfl] at H; exact H
              clear H
              have H := H1
              clear H1
              have H' := Aside0.mk H
              clear H
              go_wp2
              go_roundg k1
              case measure => have := HK1.out; omega
              case rel => exact ⟨((Int.tdiv x0_1 2) % 4294967296), ((Int.tdiv x1_1 2) % 4294967296), ((x9_1 + x10_1) % 4294967296), ((2 * x10_1) % 4294967296), (wrap64 (x11_1 + 1)), (by first | rfl | (simp; done) | (simp [*]; done)), (by first | rfl | (simp; done) | (simp [*]; done)), (by first | rfl | (simp; done) | (simp [*]; done)), (by first | rfl | (simp; done) | (simp [*]; done)), (by first | rfl | (simp; done) | (simp [*]; done)), H', ⟨by have := HK1.out; omega⟩, by repeat (first | exact Drawn0.refl _ | apply Drawn0.step)⟩
            · replace c11 := Bool.eq_false_iff.mpr c11
              subst c11
              have H1 : (carapaceref10_bits.l0 k1 ((Int.tdiv x0_1 2) % 4294967296) ((Int.tdiv x1_1 2) % 4294967296) a2 false x9_1 ((2 * x10_1) % 4294967296) (wrap64 (x11_1 + 1))) = some r := by rw [if_neg (show ¬ (false = true) by decide)] at H; exact H
              clear H
              have H := H1
              clear H1
              have H' := Aside0.mk H
              clear H
              go_wp2
              go_roundg k1
              case measure => have := HK1.out; omega
              case rel => exact ⟨((Int.tdiv x0_1 2) % 4294967296), ((Int.tdiv x1_1 2) % 4294967296), (x9_1), ((2 * x10_1) % 4294967296), (wrap64 (x11_1 + 1)), (by first | rfl | (simp; done) | (simp [*]; done)), (by first | rfl | (simp; done) | (simp [*]; done)), (by first | rfl | (simp; done) | (simp [*]; done)), (by first | rfl | (simp; done) | (simp [*]; done)), (by first | rfl | (simp; done) | (simp [*]; done)), H', ⟨by have := HK1.out; omega⟩, by repeat (first | exact Drawn0.refl _ | apply Drawn0.step)⟩
          · rw [if_neg c10] at H
            have c10b0 : ((((Int.tmod x0_1 2) + (Int.tmod x1_1 2)) % 4294967296) == 2) = false := beq_eq_false_iff_ne.mpr c10
            have c10b1 : ((((Int.tmod x0_1 2) + (Int.tmod x1_1 2)) % 4294967296) != 2) = true := bne_iff_ne.mpr c10
            have H' := Aside0.mk H
            clear H
            go_wp2
            go_roundg k1
            case measure => have := HK1.out; omega
            case rel => exact ⟨((Int.tdiv x0_1 2) % 4294967296), ((Int.tdiv x1_1 2) % 4294967296), (x9_1), ((2 * x10_1) % 4294967296), (wrap64 (x11_1 + 1)), (by first | rfl | (simp; done) | (simp [*]; done)), (by first | rfl | (simp; done) | (simp [*]; done)), (by first | rfl | (simp; done) | (simp [*]; done)), (by first | rfl | (simp; done) | (simp [*]; done)), (by first | rfl | (simp; done) | (simp [*]; done)), H', ⟨by have := HK1.out; omega⟩, by repeat (first | exact Drawn0.refl _ | apply Drawn0.step)⟩
      · rw [if_neg c5] at H
        have c5b0 : decide (x11_1 < 32) = false := decide_eq_false c5
        clear c5
        obtain rfl := Option.some.inj H
        go_wp2
        go_ret
        exact ⟨by first | rfl | (simp; done) | (simp [*]; done), by repeat (first | exact Drawn0.refl _ | apply Drawn0.step)⟩

/-! ### carapaceref10_power: function 58 -/
def carapaceref10_power.l0 : Nat → Int → Int → Int → Option (Int)
  | 0, _, _, _ => none
  | k + 1, x0, x3, x4 => if x4 < x0 then (carapaceref10_power.l0 k x0 ((2 * x3) % 4294967296) ((x4 + 1) % 4294967296)) else (some x3)
def carapaceref10_power.f (k : Nat) (a0 : Int) : Option (Int) := carapaceref10_power.l0 k a0 1 0
theorem carapaceref10_power.mono_l : ∀ k, (∀ y0 y1 y2, LeO (carapaceref10_power.l0 k y0 y1 y2) (carapaceref10_power.l0 (k + 1) y0 y1 y2))
  | 0 => fun _ _ _ r h => by simp [carapaceref10_power.l0] at h
  | k + 1 => by
    have ih0 := carapaceref10_power.mono_l k
    · intro y0 y1 y2
      unfold carapaceref10_power.l0
      repeat' first
      | (with_reducible exact ih0 _ _ _)
      | (with_reducible exact LeO.refl _)
      | (with_reducible exact LeO.none _)
      | (with_reducible refine LeO.ite ?_ ?_)
      | (with_reducible refine LeO.bind ?_ (fun _ => ?_))
      | exact ih0 _ _ _
      | exact LeO.none _
      | refine LeO.ite ?_ ?_
      | refine LeO.bind ?_ (fun _ => ?_)
theorem carapaceref10_power.mono : ∀ a0 k, LeO (carapaceref10_power.f k a0) (carapaceref10_power.f (k + 1) a0) := by
  intro a0 k
  have ih0 := carapaceref10_power.mono_l k
  unfold carapaceref10_power.f
  repeat' first
      | (with_reducible exact ih0 _ _ _)
      | (with_reducible exact LeO.refl _)
      | (with_reducible exact LeO.none _)
      | (with_reducible refine LeO.ite ?_ ?_)
      | (with_reducible refine LeO.bind ?_ (fun _ => ?_))
      | exact ih0 _ _ _
      | exact LeO.none _
      | refine LeO.ite ?_ ?_
      | refine LeO.bind ?_ (fun _ => ?_)
set_option maxHeartbeats 8000000 in
set_option maxRecDepth 100000 in
theorem carapaceref10_power.calls (k : Nat) (a0 : Int) (r : Int) (w : World) (h : carapaceref10_power.f k a0 = some r) :
    Calls Try.prog 58 #[.int .u32 a0] w fun e w' => e = .returned (.int .u32 r) ∧ Drawn0 w w' := by
  have H : (carapaceref10_power.l0 k a0 1 0) = some r := h
  clear h
  have H' := Aside0.mk H
  clear H
  go_enter Try.func58, Try.ntmps58
  go_wp2
  go_loopg [3, 4] k (fun kq v3 v4 w' => ∃ (x3_1 : Int) (x4_1 : Int), v3 = .int .u32 x3_1 ∧ v4 = .int .u32 x4_1 ∧ Aside0 (carapaceref10_power.l0 kq a0 x3_1 x4_1 = some r) ∧ Aside0 (kq ≤ k) ∧ Drawn0 w w')
  case atStart => exact ⟨(1), (0), (by first | rfl | (simp; done) | (simp [*]; done)), (by first | rfl | (simp; done) | (simp [*]; done)), H', ⟨Nat.le_refl _⟩, by repeat (first | exact Drawn0.refl _ | apply Drawn0.step)⟩
  case round =>
    clear H'
    obtain ⟨x3_1, x4_1, rfl, rfl, HA, HK1, ⟨m1, rfl⟩⟩ := hrel
    cases gk with
    | zero => exact absurd HA.out (by simp [carapaceref10_power.l0])
    | succ k1 =>
      have H := HA.out
      clear HA
      simp only [carapaceref10_power.l0] at H
      by_cases c2 : x4_1 < a0
      · rw [if_pos c2] at H
        have c2b0 : decide (x4_1 < a0) = true := decide_eq_true c2
        clear c2
        have H' := Aside0.mk H
        clear H
        go_wp2
        go_roundg k1
        case measure => have := HK1.out; omega
        case rel => exact ⟨((2 * x3_1) % 4294967296), ((x4_1 + 1) % 4294967296), (by first | rfl | (simp; done) | (simp [*]; done)), (by first | rfl | (simp; done) | (simp [*]; done)), H', ⟨by have := HK1.out; omega⟩, by repeat (first | exact Drawn0.refl _ | apply Drawn0.step)⟩
      · rw [if_neg c2] at H
        have c2b0 : decide (x4_1 < a0) = false := decide_eq_false c2
        clear c2
        obtain rfl := Option.some.inj H
        go_wp2
        go_ret
        exact ⟨by first | rfl | (simp; done) | (simp [*]; done), by repeat (first | exact Drawn0.refl _ | apply Drawn0.step)⟩

end Go.Proofs.Ytaaealngifkaeaa.QAlu
