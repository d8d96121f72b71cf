-- Text written by a program of this session (wip/tools).
import Derived.Test.YtmibdlapjddfoaaQXteax0
namespace Go.Proofs.Ytmibdlapjddfoaa.QXtea
open Go.RowKit Go.Proofs.YtmibdlapjddfoaaW.PrintWords Go.Proofs.YtmibdlapjddfoaaW.PrintLast Go.Proofs.YtmibdlapjddfoaaW.PrintMore
attribute [local go_sem] max2_int min2_int max_two min_two max_three min_three max_four min_four   -- for this text's walks alone
set_option linter.unusedVariables false
set_option linter.unusedSimpArgs false

/-! ### carapaceref01_Same: function 23 -/
def carapaceref01_Same.l0 : Nat → List Int → List Int → Int → Option (Bool)
  | 0, _, _, _ => none
  | k + 1, x0, x1, x5 => if x5 < (x0.length : Int) then (if 0 ≤ x5 then (if x5 < (x1.length : Int) then (if (rd x0 x5) = (rd x1 x5) then (carapaceref01_Same.l0 k x0 x1 (wrap64 (x5 + 1))) else (some false)) else (none)) else (none)) else (some true)
def carapaceref01_Same.f (k : Nat) (l0 : List Int) (l1 : List Int) : Option (Bool) := if (l0.length : Int) = (l1.length : Int) then (carapaceref01_Same.l0 k l0 l1 0) else (some false)
theorem carapaceref01_Same.mono_l : ∀ k, (∀ y0 y1 y2, LeO (carapaceref01_Same.l0 k y0 y1 y2) (carapaceref01_Same.l0 (k + 1) y0 y1 y2))
  | 0 => fun _ _ _ r h => by simp [carapaceref01_Same.l0] at h
  | k + 1 => by
    have ih0 := carapaceref01_Same.mono_l k
    · intro y0 y1 y2
      unfold carapaceref01_Same.l0
      repeat' first
      | (with_reducible exact ih0 _ _ _)
      | (with_reducible exact LeO.refl _)
      | (with_reducible exact LeO.none _)
      | (with_reducible refine LeO.ite ?_ ?_)
      | (with_reducible refine LeO.bind ?_ (fun _ => ?_))
      | exact ih0 _ _ _
      | exact LeO.none _
      | refine LeO.ite ?_ ?_
      | refine LeO.bind ?_ (fun _ => ?_)
theorem carapaceref01_Same.mono : ∀ a0 a1 k, LeO (carapaceref01_Same.f k a0 a1) (carapaceref01_Same.f (k + 1) a0 a1) := by
  intro a0 a1 k
  have ih0 := carapaceref01_Same.mono_l k
  unfold carapaceref01_Same.f
  repeat' first
      | (with_reducible exact ih0 _ _ _)
      | (with_reducible exact LeO.refl _)
      | (with_reducible exact LeO.none _)
      | (with_reducible refine LeO.ite ?_ ?_)
      | (with_reducible refine LeO.bind ?_ (fun _ => ?_))
      | exact ih0 _ _ _
      | exact LeO.none _
      | refine LeO.ite ?_ ?_
      | refine LeO.bind ?_ (fun _ => ?_)
set_option maxHeartbeats 8000000 in
set_option maxRecDepth 100000 in
theorem carapaceref01_Same.calls (k : Nat) (A0 : Option Addr) (c0 : Nat) (l0 : List Int) (A1 : Option Addr) (c1 : Nat) (l1 : List Int) (r : Bool) (w : World) (hr0 : Kd.C (Kd.int .u8) w A0 l0.length l0) (hc0 : l0.length ≤ c0) (hr1 : Kd.C (Kd.int .u8) w A1 l1.length l1) (hc1 : l1.length ≤ c1) (h : carapaceref01_Same.f k l0 l1 = some r) :
    Calls Try.prog 23 #[.slice A0 l0.length c0, .slice A1 l1.length c1] w fun e w' => e = .returned (.bool r) ∧ Drawn0 w w' := by
  have HR0 := Aside0.mk hr0
  have HC0 := Aside0.mk hc0
  clear hr0 hc0
  have HR1 := Aside0.mk hr1
  have HC1 := Aside0.mk hc1
  clear hr1 hc1
  have H : (if (l0.length : Int) = (l1.length : Int) then (carapaceref01_Same.l0 k l0 l1 0) else (some false)) = some r := h
  clear h
  by_cases c3 : (l0.length : Int) = (l1.length : Int)
  · rw [if_pos c3] at H
    have c3b0 : ((l0.length : Int) == (l1.length : Int)) = true := beq_iff_eq.mpr c3
    have c3b1 : ((l0.length : Int) != (l1.length : Int)) = false := bne_eq_false_iff_eq.mpr c3
    have c3b2 : (l0.length == l1.length) = true := by first | simpa using c3 | (simp at c3 ⊢; omega)
    clear c3
    have H' := Aside0.mk H
    clear H
    go_enter Try.func23, Try.ntmps23
    go_wp2
    repeat (go_quiet (fail); try go_wp2)
    go_loopg [5] k (fun kq v5 w' => ∃ (x5_1 : Int), v5 = .int .i64 x5_1 ∧ Aside0 (carapaceref01_Same.l0 kq l0 l1 x5_1 = some r) ∧ Aside0 (kq ≤ k) ∧ Drawn0 w w')
    case atStart => exact ⟨(0), (by first | rfl | (simp; done) | (simp [*]; done)), H', ⟨Nat.le_refl _⟩, by repeat (first | exact Drawn0.refl _ | apply Drawn0.step)⟩
    case round =>
      clear H'
      try clear c1
      try clear c2
      try clear p2
      try clear c3
      try clear c3b0
      try clear c3b1
      try clear c3b2
      obtain ⟨x5_1, rfl, HA, HK1, ⟨m1, rfl⟩⟩ := hrel
      cases gk with
      | zero => exact absurd HA.out (by simp [carapaceref01_Same.l0])
      | succ k1 =>
        have H := HA.out
        clear HA
        simp only [carapaceref01_Same.l0] at H
        by_cases c4 : x5_1 < (l0.length : Int)
        · rw [if_pos c4] at H
          have c4b0 : decide (x5_1 < (l0.length : Int)) = true := decide_eq_true c4
          clear c4
          by_cases c5 : 0 ≤ x5_1
          · rw [if_pos c5] at H
            have c5b0 : decide (0 ≤ x5_1) = true := decide_eq_true c5
            clear c5
            by_cases c6 : x5_1 < (l1.length : Int)
            · rw [if_pos c6] at H
              have c6b0 : decide (x5_1 < (l1.length : Int)) = true := decide_eq_true c6
              clear c6
              by_cases c7 : (rd l0 x5_1) = (rd l1 x5_1)
              · rw [if_pos c7] at H
                have c7b0 : ((rd l0 x5_1) == (rd l1 x5_1)) = true := beq_iff_eq.mpr c7
                have c7b1 : ((rd l0 x5_1) != (rd l1 x5_1)) = false := bne_eq_false_iff_eq.mpr c7
                clear c7
                have H' := Aside0.mk H
                clear H
                have p101 : 0 ≤ (x5_1 : Int) := of_decide_eq_true (by first | (with_reducible assumption) | assumption)
                have q101 : x5_1 < (l0.length : Int) := of_decide_eq_true (by first | (with_reducible assumption) | assumption)
                obtain ⟨ad101, e101, hx101_0⟩ := Kd.at_int HR0.out x5_1 p101 q101
                cases e101
                replace p101 := eq_true p101
                replace q101 := eq_true q101
                have p102 : 0 ≤ (x5_1 : Int) := of_decide_eq_true (by first | (with_reducible assumption) | assumption)
                have q102 : x5_1 < (l1.length : Int) := of_decide_eq_true (by first | (with_reducible assumption) | assumption)
                obtain ⟨ad102, e102, hx102_0⟩ := Kd.at_int HR1.out x5_1 p102 q102
                cases e102
                replace p102 := eq_true p102
                replace q102 := eq_true q102
                go_wp2
                repeat (go_quiet (fail); try go_wp2)
                go_roundg k1
                case measure => have := HK1.out; omega
                case rel => exact ⟨(wrap64 (x5_1 + 1)), (by first | rfl | (simp; done) | (simp [*]; done)), H', ⟨by have := HK1.out; omega⟩, by repeat (first | exact Drawn0.refl _ | apply Drawn0.step)⟩
              · rw [if_neg c7] at H
                have c7b0 : ((rd l0 x5_1) == (rd l1 x5_1)) = false := beq_eq_false_iff_ne.mpr c7
                have c7b1 : ((rd l0 x5_1) != (rd l1 x5_1)) = true := bne_iff_ne.mpr c7
                obtain rfl := Option.some.inj H
                have p101 : 0 ≤ (x5_1 : Int) := of_decide_eq_true (by first | (with_reducible assumption) | assumption)
                have q101 : x5_1 < (l0.length : Int) := of_decide_eq_true (by first | (with_reducible assumption) | assumption)
                obtain ⟨ad101, e101, hx101_0⟩ := Kd.at_int HR0.out x5_1 p101 q101
                cases e101
                replace p101 := eq_true p101
                replace q101 := eq_true q101
                have p102 : 0 ≤ (x5_1 : Int) := of_decide_eq_true (by first | (with_reducible assumption) | assumption)
                have q102 : x5_1 < (l1.length : Int) := of_decide_eq_true (by first | (with_reducible assumption) | assumption)
                obtain ⟨ad102, e102, hx102_0⟩ := Kd.at_int HR1.out x5_1 p102 q102
                cases e102
                replace p102 := eq_true p102
                replace q102 := eq_true q102
                go_wp2
                repeat (go_quiet (fail); try go_wp2)
                go_ret
                exact ⟨by first | rfl | (simp; done) | (simp [*]; done), by repeat (first | exact Drawn0.refl _ | apply Drawn0.step)⟩
            · rw [if_neg c6] at H
              exact absurd H (by simp)
          · rw [if_neg c5] at H
            exact absurd H (by simp)
        · rw [if_neg c4] at H
          have c4b0 : decide (x5_1 < (l0.length : Int)) = false := decide_eq_false c4
          clear c4
          obtain rfl := Option.some.inj H
          go_wp2
          repeat (go_quiet (fail); try go_wp2)
          go_ret
          exact ⟨by first | rfl | (simp; done) | (simp [*]; done), by repeat (first | exact Drawn0.refl _ | apply Drawn0.step)⟩
  · rw [if_neg c3] at H
    have c3b0 : ((l0.length : Int) == (l1.length : Int)) = false := beq_eq_false_iff_ne.mpr c3
    have c3b1 : ((l0.length : Int) != (l1.length : Int)) = true := bne_iff_ne.mpr c3
    have c3b2 : (l0.length == l1.length) = false := by first | simpa using c3 | (simp at c3 ⊢; omega)
    obtain rfl := Option.some.inj H
    go_enter Try.func23, Try.ntmps23
    go_wp2
    repeat (go_quiet (fail); try go_wp2)
    go_ret
    exact ⟨by first | rfl | (simp; done) | (simp [*]; done), by repeat (first | exact Drawn0.refl _ | apply Drawn0.step)⟩

/-! ### xtea_number: function 53 -/
def xtea_number.l0 : Nat → List Int → Int → Int → Option (Int)
  | 0, _, _, _ => none
  | k + 1, x0, x3, x4 => if x4 ≥ 0 then (if 0 ≤ x4 then (if x4 < (x0.length : Int) then (xtea_number.l0 k x0 (Go.bits .or .u32 ((x3 * 256) % 4294967296) ((rd x0 x4) % 4294967296)) (wrap64 (x4 - 1))) else (none)) else (none)) else (some x3)
def xtea_number.f (k : Nat) (l0 : List Int) : Option (Int) := xtea_number.l0 k l0 0 3
theorem xtea_number.mono_l : ∀ k, (∀ y0 y1 y2, LeO (xtea_number.l0 k y0 y1 y2) (xtea_number.l0 (k + 1) y0 y1 y2))
  | 0 => fun _ _ _ r h => by simp [xtea_number.l0] at h
  | k + 1 => by
    have ih0 := xtea_number.mono_l k
    · intro y0 y1 y2
      unfold xtea_number.l0
      repeat' first
      | (with_reducible exact ih0 _ _ _)
      | (with_reducible exact LeO.refl _)
      | (with_reducible exact LeO.none _)
      | (with_reducible refine LeO.ite ?_ ?_)
      | (with_reducible refine LeO.bind ?_ (fun _ => ?_))
      | exact ih0 _ _ _
      | exact LeO.none _
      | refine LeO.ite ?_ ?_
      | refine LeO.bind ?_ (fun _ => ?_)
theorem xtea_number.mono : ∀ a0 k, LeO (xtea_number.f k a0) (xtea_number.f (k + 1) a0) := by
  intro a0 k
  have ih0 := xtea_number.mono_l k
  unfold xtea_number.f
  repeat' first
      | (with_reducible exact ih0 _ _ _)
      | (with_reducible exact LeO.refl _)
      | (with_reducible exact LeO.none _)
      | (with_reducible refine LeO.ite ?_ ?_)
      | (with_reducible refine LeO.bind ?_ (fun _ => ?_))
      | exact ih0 _ _ _
      | exact LeO.none _
      | refine LeO.ite ?_ ?_
      | refine LeO.bind ?_ (fun _ => ?_)
set_option maxHeartbeats 8000000 in
set_option maxRecDepth 100000 in
theorem xtea_number.calls (k : Nat) (A0 : Option Addr) (c0 : Nat) (l0 : List Int) (r : Int) (w : World) (hr0 : Kd.C (Kd.int .u8) w A0 l0.length l0) (hc0 : l0.length ≤ c0) (h : xtea_number.f k l0 = some r) :
    Calls Try.prog 53 #[.slice A0 l0.length c0] w fun e w' => e = .returned (.int .u32 r) ∧ Drawn0 w w' := by
  have HR0 := Aside0.mk hr0
  have HC0 := Aside0.mk hc0
  clear hr0 hc0
  have H : (xtea_number.l0 k l0 0 3) = some r := h
  clear h
  have H' := Aside0.mk H
  clear H
  go_enter Try.func53, Try.ntmps53
  go_wp2
  go_loopg [3, 4] k (fun kq v3 v4 w' => ∃ (x3_1 : Int) (x4_1 : Int), v3 = .int .u32 x3_1 ∧ v4 = .int .i64 x4_1 ∧ Aside0 (xtea_number.l0 kq l0 x3_1 x4_1 = some r) ∧ Aside0 (kq ≤ k) ∧ Drawn0 w w')
  case atStart => exact ⟨(0), (3), (by first | rfl | (simp; done) | (simp [*]; done)), (by first | rfl | (simp; done) | (simp [*]; done)), H', ⟨Nat.le_refl _⟩, by repeat (first | exact Drawn0.refl _ | apply Drawn0.step)⟩
  case round =>
    clear H'
    obtain ⟨x3_1, x4_1, rfl, rfl, HA, HK1, ⟨m1, rfl⟩⟩ := hrel
    cases gk with
    | zero => exact absurd HA.out (by simp [xtea_number.l0])
    | succ k1 =>
      have H := HA.out
      clear HA
      simp only [xtea_number.l0] at H
      by_cases c2 : x4_1 ≥ 0
      · rw [if_pos c2] at H
        have c2b0 : decide (0 ≤ x4_1) = true := decide_eq_true c2
        clear c2
        by_cases c3 : 0 ≤ x4_1
        · rw [if_pos c3] at H
          have c3b0 : decide (0 ≤ x4_1) = true := decide_eq_true c3
          clear c3
          by_cases c4 : x4_1 < (l0.length : Int)
          · rw [if_pos c4] at H
            have c4b0 : decide (x4_1 < (l0.length : Int)) = true := decide_eq_true c4
            clear c4
            have H' := Aside0.mk H
            clear H
            have p103 : 0 ≤ (x4_1 : Int) := of_decide_eq_true (by first | (with_reducible assumption) | assumption)
            have q103 : x4_1 < (l0.length : Int) := of_decide_eq_true (by first | (with_reducible assumption) | assumption)
            obtain ⟨ad103, e103, hx103_0⟩ := Kd.at_int HR0.out x4_1 p103 q103
            cases e103
            replace p103 := eq_true p103
            replace q103 := eq_true q103
            go_wp2
            go_roundg k1
            case measure => have := HK1.out; omega
            case rel => exact ⟨(Go.bits .or .u32 ((x3_1 * 256) % 4294967296) ((rd l0 x4_1) % 4294967296)), (wrap64 (x4_1 - 1)), (by first | rfl | (simp; done) | (simp [*]; done)), (by first | rfl | (simp; done) | (simp [*]; done)), H', ⟨by have := HK1.out; omega⟩, by repeat (first | exact Drawn0.refl _ | apply Drawn0.step)⟩
          · rw [if_neg c4] at H
            exact absurd H (by simp)
        · rw [if_neg c3] at H
          exact absurd H (by simp)
      · rw [if_neg c2] at H
        have c2b0 : decide (0 ≤ x4_1) = false := decide_eq_false c2
        clear c2
        obtain rfl := Option.some.inj H
        go_wp2
        go_ret
        exact ⟨by first | rfl | (simp; done) | (simp [*]; done), by repeat (first | exact Drawn0.refl _ | apply Drawn0.step)⟩

-- NOT PRINTED: function 48 (xtea_keyed)

/-! ### xtea_mix: function 49 -/
def xtea_mix.f (a0 : Int) (a1 : Int) (a2 : Int) : Option (Int) := some (Go.bits .xor .u32 (((Go.bits .xor .u32 ((a0 * 16) % 4294967296) (a0 / 32)) + a0) % 4294967296) ((a1 + a2) % 4294967296))
set_option maxHeartbeats 8000000 in
set_option maxRecDepth 100000 in
theorem xtea_mix.calls (a0 : Int) (a1 : Int) (a2 : Int) (r : Int) (w : World) (h : xtea_mix.f a0 a1 a2 = some r) :
    Calls Try.prog 49 #[.int .u32 a0, .int .u32 a1, .int .u32 a2] w fun e w' => e = .returned (.int .u32 r) ∧ Drawn0 w w' := by
  have H : (some (Go.bits .xor .u32 (((Go.bits .xor .u32 ((a0 * 16) % 4294967296) (a0 / 32)) + a0) % 4294967296) ((a1 + a2) % 4294967296))) = some r := h
  clear h
  obtain rfl := Option.some.inj H
  go_enter Try.func49, Try.ntmps49
  go_wp2
  go_ret
  exact ⟨by first | rfl | (simp; done) | (simp [*]; done), by repeat (first | exact Drawn0.refl _ | apply Drawn0.step)⟩

/-! ### xtea_Block: function 38 -/
/-- Four bytes' number, as the program makes it. -/
def xtea_num (x0 x1 x2 x3 : Int) : Int := Go.bits .or .u32 (Go.bits .or .u32 (Go.bits .or .u32 (Go.bits .or .u32 0 (x3 % 4294967296) * 256 % 4294967296) (x2 % 4294967296) * 256 % 4294967296) (x1 % 4294967296) * 256 % 4294967296) (x0 % 4294967296)
/-- The same, plainly. -/
def xtea_wd (x0 x1 x2 x3 : Int) : Int := x0 + 256 * x1 + 65536 * x2 + 16777216 * x3
theorem xtea_or (a b : Int) (ha : 0 ≤ a ∧ a < 16777216) (hb : 0 ≤ b ∧ b < 256) : Go.bits .or .u32 (a * 256 % 4294967296) (b % 4294967296) = 256 * a + b := by
  rw [show a * 256 % 4294967296 = 256 * a by omega, show b % 4294967296 = b by omega, Bv.or32]
  have h1 : ((BitVec.ofInt 32 (256 * a)).toNat : Int) = 256 * a := by
    have := Bv.U_ofInt32 (256 * a)
    unfold Bv.U at this
    omega
  have h2 : ((BitVec.ofInt 32 b).toNat : Int) = b := by
    have := Bv.U_ofInt32 b
    unfold Bv.U at this
    omega
  unfold Bv.U
  rw [BitVec.toNat_or, show (BitVec.ofInt 32 (256 * a)).toNat = 2 ^ 8 * a.toNat by omega, ← Nat.two_pow_add_eq_or_of_lt (by omega)]
  omega
theorem xtea_num_eq (x0 x1 x2 x3 : Int) (h0 : 0 ≤ x0 ∧ x0 < 256) (h1 : 0 ≤ x1 ∧ x1 < 256) (h2 : 0 ≤ x2 ∧ x2 < 256) (h3 : 0 ≤ x3 ∧ x3 < 256) : xtea_num x0 x1 x2 x3 = xtea_wd x0 x1 x2 x3 := by
  unfold xtea_num xtea_wd
  have e3 : Go.bits .or .u32 0 (x3 % 4294967296) = x3 := by
    have := xtea_or 0 x3 (by decide) h3
    simpa using this
  rw [e3, xtea_or x3 x2 (by omega) h2, xtea_or _ x1 (by omega) h1, xtea_or _ x0 (by omega) h0]
  omega
set_option maxHeartbeats 800000 in
theorem xtea_Block.num (b o n c : Nat) (x0 x1 x2 x3 : Int) (w : World) (hn : 4 ≤ n)
    (k0 : w.cell? ⟨b, o, none⟩ = some (.int .u8 x0)) (k1 : w.cell? ⟨b, o + 1, none⟩ = some (.int .u8 x1)) (k2 : w.cell? ⟨b, o + 2, none⟩ = some (.int .u8 x2)) (k3 : w.cell? ⟨b, o + 3, none⟩ = some (.int .u8 x3)) :
    Calls Try.prog 53 #[.slice (some ⟨b, o, none⟩) n c] w fun e w' => e = .returned (.int .u32 (xtea_num x0 x1 x2 x3)) ∧ w' = w := by
  have m0 : ((0 : Int) < (n : Int)) = True := eq_true (by omega)
  have m0' : (0 < n) = True := eq_true (by omega)
  have m1 : ((1 : Int) < (n : Int)) = True := eq_true (by omega)
  have m2 : ((2 : Int) < (n : Int)) = True := eq_true (by omega)
  have m3 : ((3 : Int) < (n : Int)) = True := eq_true (by omega)
  have HN := Aside0.mk hn
  clear hn
  go_enter Try.func53, Try.ntmps53
  go_wp2
  refine wp_loop_rounds 6 ?_
  rw [rounds_succ]; go_wp2
  rw [rounds_succ]; go_wp2
  rw [rounds_succ]; go_wp2
  rw [rounds_succ]; go_wp2
  rw [rounds_succ]; go_wp2
  go_ret
  exact ⟨rfl, rfl⟩
set_option maxHeartbeats 1600000 in
set_option maxRecDepth 100000 in
theorem xtea_Block.keyed (k0 k1 k2 k3 k4 k5 k6 k7 k8 k9 k10 k11 k12 k13 k14 k15 : Int) (w : World) :
    Calls Try.prog 48 #[.agg #[.int .u8 k0, .int .u8 k1, .int .u8 k2, .int .u8 k3, .int .u8 k4, .int .u8 k5, .int .u8 k6, .int .u8 k7, .int .u8 k8, .int .u8 k9, .int .u8 k10, .int .u8 k11, .int .u8 k12, .int .u8 k13, .int .u8 k14, .int .u8 k15]] w fun e w' => e = .returned (.agg #[.int .u32 (xtea_num k0 k1 k2 k3), .int .u32 (xtea_num k4 k5 k6 k7), .int .u32 (xtea_num k8 k9 k10 k11), .int .u32 (xtea_num k12 k13 k14 k15)]) ∧ Below w.heap.size w w' := by
  go_enter Try.func48, Try.ntmps48
  go_wp2
  refine wp_loop_rounds 6 ?_
  rw [rounds_succ]; go_wp2_with (first | (go_at_call 53; refine (xtea_Block.num _ _ _ _ k0 k1 k2 k3 _ ?hn ?k0 ?k1 ?k2 ?k3).mono ?_; (case hn => decide); (case k0 => go_simp); (case k1 => go_simp); (case k2 => go_simp); (case k3 => go_simp); rintro e w' ⟨rfl, rfl⟩))
  rw [rounds_succ]; go_wp2_with (first | (go_at_call 53; refine (xtea_Block.num _ _ _ _ k4 k5 k6 k7 _ ?hn ?k0 ?k1 ?k2 ?k3).mono ?_; (case hn => decide); (case k0 => go_simp); (case k1 => go_simp); (case k2 => go_simp); (case k3 => go_simp); rintro e w' ⟨rfl, rfl⟩))
  rw [rounds_succ]; go_wp2_with (first | (go_at_call 53; refine (xtea_Block.num _ _ _ _ k8 k9 k10 k11 _ ?hn ?k0 ?k1 ?k2 ?k3).mono ?_; (case hn => decide); (case k0 => go_simp); (case k1 => go_simp); (case k2 => go_simp); (case k3 => go_simp); rintro e w' ⟨rfl, rfl⟩))
  rw [rounds_succ]; go_wp2_with (first | (go_at_call 53; refine (xtea_Block.num _ _ _ _ k12 k13 k14 k15 _ ?hn ?k0 ?k1 ?k2 ?k3).mono ?_; (case hn => decide); (case k0 => go_simp); (case k1 => go_simp); (case k2 => go_simp); (case k3 => go_simp); rintro e w' ⟨rfl, rfl⟩))
  rw [rounds_succ]; go_wp2
  refine bodyPost_ret (v := .agg #[.int .u32 (xtea_num k0 k1 k2 k3), .int .u32 (xtea_num k4 k5 k6 k7), .int .u32 (xtea_num k8 k9 k10 k11), .int .u32 (xtea_num k12 k13 k14 k15)]) (by simp [results, Try.results48, go_sem]) rfl ?_
  exact ⟨rfl, by repeat (first | exact Below.refl _ _ | apply below_alloc | refine below_set ?_ (Nat.le_succ _))⟩
def xtea_mx (x s k : Int) : Int := Go.bits .xor .u32 ((Go.bits .xor .u32 (x * 16 % 4294967296) (x / 32) + x) % 4294967296) ((s + k) % 4294967296)
/-- So many rounds of a block, by a key's four words. -/
def xtea_run (ks : List Int) (a b : Int) : Nat → Int × Int × Int
  | 0 => (a, b, 0)
  | n + 1 =>
    (((xtea_run ks a b n).1 + xtea_mx (xtea_run ks a b n).2.1 (xtea_run ks a b n).2.2 (rd ks ((xtea_run ks a b n).2.2 % 4))) % 4294967296,
      ((xtea_run ks a b n).2.1 + xtea_mx (((xtea_run ks a b n).1 + xtea_mx (xtea_run ks a b n).2.1 (xtea_run ks a b n).2.2 (rd ks ((xtea_run ks a b n).2.2 % 4))) % 4294967296) (((xtea_run ks a b n).2.2 + 2654435769) % 4294967296) (rd ks (((xtea_run ks a b n).2.2 + 2654435769) % 4294967296 / 2048 % 4))) % 4294967296,
      ((xtea_run ks a b n).2.2 + 2654435769) % 4294967296)
theorem xtea_run_step {ks : List Int} {a b x y s : Int} {n : Nat} (h : xtea_run ks a b n = (x, y, s)) :
    xtea_run ks a b (n + 1) = ((x + xtea_mx y s (rd ks (s % 4))) % 4294967296, (y + xtea_mx ((x + xtea_mx y s (rd ks (s % 4))) % 4294967296) ((s + 2654435769) % 4294967296) (rd ks ((s + 2654435769) % 4294967296 / 2048 % 4))) % 4294967296, (s + 2654435769) % 4294967296) := by
  unfold xtea_run
  rw [h]
theorem xtea_Block.mix (x s k : Int) (w : World) : Calls Try.prog 49 #[.int .u32 x, .int .u32 s, .int .u32 k] w fun e w' => e = .returned (.int .u32 (xtea_mx x s k)) ∧ w' = w := by
  go_enter Try.func49, Try.ntmps49
  go_wp2
  go_ret
  exact ⟨rfl, rfl⟩
theorem xtea_range {w : World} {g : Nat} {t : TypeId} {cs : List Value} (h : w.heap[g]? = some (.cells cs.toArray t (0, 0))) : w.rangeAt g 0 cs := fun j v hv => by
  rw [Nat.zero_add]
  unfold World.cell?
  rw [h]
  simpa using hv
theorem xtea_cell4 {w : World} {g : Nat} {t : TypeId} {n0 n1 n2 n3 : Int} (h : w.heap[g]? = some (.cells #[.int .u32 n0, .int .u32 n1, .int .u32 n2, .int .u32 n3] t (0, 0))) (j : Int) (h0 : 0 ≤ j) (h1 : j < 4) :
    w.cell? ⟨g, j.toNat, none⟩ = some (.int .u32 (rd [n0, n1, n2, n3] j)) := by
  unfold World.cell?
  rw [h]
  have : j = 0 ∨ j = 1 ∨ j = 2 ∨ j = 3 := by omega
  rcases this with rfl | rfl | rfl | rfl <;> rfl
theorem xtea_cell2 {w : World} {g : Nat} {t : TypeId} {n0 n1 : Value} (h : w.heap[g]? = some (.cells #[n0, n1] t (0, 0))) : w.cell? ⟨g, 0, none⟩ = some n0 ∧ w.cell? ⟨g, 1, none⟩ = some n1 := by
  unfold World.cell?
  rw [h]
  exact ⟨rfl, rfl⟩
set_option maxHeartbeats 1600000 in
set_option maxRecDepth 100000 in
theorem xtea_Block.walk (k0 k1 k2 k3 k4 k5 k6 k7 k8 k9 k10 k11 k12 k13 k14 k15 a b : Int) (w : World) :
    Calls Try.prog 38 #[.agg #[.int .u8 k0, .int .u8 k1, .int .u8 k2, .int .u8 k3, .int .u8 k4, .int .u8 k5, .int .u8 k6, .int .u8 k7, .int .u8 k8, .int .u8 k9, .int .u8 k10, .int .u8 k11, .int .u8 k12, .int .u8 k13, .int .u8 k14, .int .u8 k15], .agg #[.int .u32 a, .int .u32 b]] w fun e w' => e = .returned (.agg #[.int .u32 (xtea_run [(xtea_num k0 k1 k2 k3), (xtea_num k4 k5 k6 k7), (xtea_num k8 k9 k10 k11), (xtea_num k12 k13 k14 k15)] a b 32).1, .int .u32 (xtea_run [(xtea_num k0 k1 k2 k3), (xtea_num k4 k5 k6 k7), (xtea_num k8 k9 k10 k11), (xtea_num k12 k13 k14 k15)] a b 32).2.1]) ∧ Below w.heap.size w w' := by
  go_enter Try.func38, Try.ntmps38
  go_wp2_with (first | (go_at_call 48; (with_reducible refine (xtea_Block.keyed k0 k1 k2 k3 k4 k5 k6 k7 k8 k9 k10 k11 k12 k13 k14 k15 _).mono ?_); rintro e w1 ⟨rfl, hb⟩; have HB1 := Aside0.mk hb; clear hb))
  generalize hn_ : xtea_num k0 k1 k2 k3 = n0
  have HN0 := Aside0.mk hn_
  clear hn_
  generalize hn_ : xtea_num k4 k5 k6 k7 = n1_
  have HN1 := Aside0.mk hn_
  clear hn_
  generalize hn_ : xtea_num k8 k9 k10 k11 = n2_
  have HN2 := Aside0.mk hn_
  clear hn_
  generalize hn_ : xtea_num k12 k13 k14 k15 = n3
  have HN3 := Aside0.mk hn_
  clear hn_
  have HBW : Aside0 (Below w.heap.size w (w1.alloc (.cells #[.int .u32 n0, .int .u32 n1_, .int .u32 n2_, .int .u32 n3] 62))) := ⟨below_alloc (below_then (by repeat (first | exact Below.refl _ _ | apply below_alloc)) (by simp; omega) HB1.out) _⟩
  have HNE : Aside0 (w.heap.size + 2 < w1.heap.size) := ⟨by have := HB1.out.size; simp at this; omega⟩
  go_loopw [6, 9] (fun v6 v9 w' => ∃ (m : Nat) (x y s : Int), v6 = .int .u32 s ∧ v9 = .int .i64 (m : Int) ∧ Aside0 (m ≤ 32) ∧ Aside0 (xtea_run [n0, n1_, n2_, n3] a b m = (x, y, s)) ∧ Aside0 (0 ≤ s ∧ s < 4294967296) ∧ Aside0 (w'.heap[w.heap.size + 1]? = some (.cells #[.int .u32 x, .int .u32 y] 46 (0, 0))) ∧ Aside0 (w'.heap[w1.heap.size]? = some (.cells #[.int .u32 n0, .int .u32 n1_, .int .u32 n2_, .int .u32 n3] 62 (0, 0))) ∧ Aside0 (w'.heap[w.heap.size + 2]? = some (.cells #[.int .u32 0, .int .u32 0] 46 (0, 0))) ∧ Aside0 (Below w.heap.size w w')) (fun v6 v9 w' => match v9 with | .int _ m => 32 - m.toNat | _ => 0)
  case atStart => exact ⟨0, a, b, 0, rfl, rfl, ⟨by omega⟩, ⟨rfl⟩, ⟨by decide⟩, ⟨blk_alloc (blk_below (blk_alloc (by have := blk_new (w.alloc (Obj.cells #[.int .u8 k0, .int .u8 k1, .int .u8 k2, .int .u8 k3, .int .u8 k4, .int .u8 k5, .int .u8 k6, .int .u8 k7, .int .u8 k8, .int .u8 k9, .int .u8 k10, .int .u8 k11, .int .u8 k12, .int .u8 k13, .int .u8 k14, .int .u8 k15] 44)) (.cells #[.int .u32 a, .int .u32 b] 46); simpa using this) _) HB1.out) _⟩, ⟨blk_new _ _⟩, ⟨blk_alloc (blk_below (by have := blk_new ((w.alloc (Obj.cells #[.int .u8 k0, .int .u8 k1, .int .u8 k2, .int .u8 k3, .int .u8 k4, .int .u8 k5, .int .u8 k6, .int .u8 k7, .int .u8 k8, .int .u8 k9, .int .u8 k10, .int .u8 k11, .int .u8 k12, .int .u8 k13, .int .u8 k14, .int .u8 k15] 44)).alloc (.cells #[.int .u32 a, .int .u32 b] 46)) (.cells #[.int .u32 0, .int .u32 0] 46); simpa using this) HB1.out) _⟩, ⟨HBW.out⟩⟩
  case round =>
    obtain ⟨m, x, y, s, rfl, rfl, HM, HR, HS, HV, HK, HZ, HB⟩ := hrel
    have hm := HM.out
    have hs := HS.out
    by_cases hlt : m < 32
    · obtain ⟨j1, hj1⟩ : ∃ j : Int, Int.tmod s 4 = j := ⟨_, rfl⟩
      have ej1 : j1 = s % 4 := by rw [← hj1, Int.tmod_eq_emod_of_nonneg hs.1]
      obtain ⟨s2, hs2⟩ : ∃ j : Int, (s + 2654435769) % 4294967296 = j := ⟨_, rfl⟩
      obtain ⟨j2, hj2⟩ : ∃ j : Int, Int.tmod (s2 / 2048) 4 = j := ⟨_, rfl⟩
      have ej2 : j2 = s2 / 2048 % 4 := by rw [← hj2, Int.tmod_eq_emod_of_nonneg (by omega)]
      obtain ⟨m', hm'⟩ : ∃ j : Int, wrap64 ((m : Int) + 1) = j := ⟨_, rfl⟩
      have em' : m' = ((m + 1 : Nat) : Int) := by rw [← hm']; unfold wrap64; omega
      have hm'' : IntKind.i64.wrap ((m : Int) + 1) = m' := (i64_w _).trans hm'
      have dl : decide ((m : Int) < 32) = true := decide_eq_true (by omega)
      have n1 : (0 ≤ j1) = True := eq_true (by omega)
      have m1 : (j1 < 4) = True := eq_true (by omega)
      have n2 : (0 ≤ j2) = True := eq_true (by omega)
      have m2 : (j2 < 4) = True := eq_true (by omega)
      obtain ⟨c0, c1⟩ := xtea_cell2 HV.out
      have ck := xtea_cell4 HK.out j1 (by omega) (by omega)
      have HST := Aside0.mk (xtea_run_step HR.out)
      rw [hs2, ← ej1, ← ej2] at HST
      have HCK2 := Aside0.mk (fun (w' : World) h => xtea_cell4 (w := w') (g := w1.heap.size) (t := 62) (n0 := n0) (n1 := n1_) (n2 := n2_) (n3 := n3) h j2 (by omega) (by omega))
      have HS2 := Aside0.mk (show 0 ≤ s2 ∧ s2 < 4294967296 by omega)
      have HMM := Aside0.mk (show m + 1 ≤ 32 by omega)
      have HEM := Aside0.mk em'
      generalize rd [n0, n1_, n2_, n3] j1 = q1 at *
      obtain ⟨x1, hx1⟩ : ∃ j : Int, IntKind.u32.wrap (x + xtea_mx y s q1) = j := ⟨_, rfl⟩
      rw [show (x + xtea_mx y s q1) % 4294967296 = x1 by rw [← hx1]; exact (show IntKind.u32.wrap _ = _ % 4294967296 from IntKind.wrap_u32 _).symm] at HST
      clear ej1 ej2 em' hm hs hlt
      go_wp2
      refine wp_region_still_tail 12 (by kernel_rfl) (by kernel_rfl) ?_
      simp only [List.take_succ_cons, List.take_zero, List.drop_succ_cons, List.drop_zero]
      repeat still_step
      still_call (xtea_Block.mix _ _ _ _)
      repeat still_step
      refine wpStill_nil ?_
      change wpList _ _ _ _ _ wr.drew
      have f0 := blk_frozen HV.out 0
      go_wp2
      obtain ⟨W2, hW2⟩ : ∃ W2, (wr.setCell ⟨w.heap.size + 1, 0, none⟩ (.int .u32 x1)).drew = W2 := ⟨_, rfl⟩
      have HV2 := Aside0.mk (blk_drew (blk_put HV.out 0 (.int .u32 x1) rfl))
      have HK2 := Aside0.mk (blk_drew (blk_far HK.out (p := ⟨w.heap.size + 1, 0, none⟩) (by have := HNE.out; show w1.heap.size ≠ w.heap.size + 1; omega) (.int .u32 x1)))
      have HZ2 := Aside0.mk (blk_drew (blk_far HZ.out (p := ⟨w.heap.size + 1, 0, none⟩) (by show w.heap.size + 2 ≠ w.heap.size + 1; omega) (.int .u32 x1)))
      have HB2 := Aside0.mk (below_drew (below_set (j := 0) (v := .int .u32 x1) HB.out (Nat.le_succ w.heap.size)))
      rw [hW2] at HV2 HK2 HZ2 HB2
      clear HV HK HZ HB c0 c1 ck f0
      obtain ⟨c0, c1⟩ := xtea_cell2 HV2.out
      have ck := HCK2.out W2 HK2.out
      have f1 := blk_frozen HV2.out 1
      generalize rd [n0, n1_, n2_, n3] j2 = q2 at *
      obtain ⟨y1, hy1⟩ : ∃ j : Int, IntKind.u32.wrap (y + xtea_mx x1 s2 q2) = j := ⟨_, rfl⟩
      rw [show (y + xtea_mx x1 s2 q2) % 4294967296 = y1 by rw [← hy1]; exact (show IntKind.u32.wrap _ = _ % 4294967296 from IntKind.wrap_u32 _).symm] at HST
      rw [hW2, hs2]
      go_wp2
      refine wp_region_still_tail 13 (by kernel_rfl) (by kernel_rfl) ?_
      simp only [List.take_succ_cons, List.take_zero, List.drop_succ_cons, List.drop_zero]
      repeat still_step
      still_call (xtea_Block.mix _ _ _ _)
      repeat still_step
      refine wpStill_nil ?_
      change wpList _ _ _ _ _ W2.drew
      go_wp2
      refine ⟨⟨m + 1, x1, y1, s2, rfl, by rw [HEM.out], ⟨HMM.out⟩, ⟨HST.out⟩, ⟨HS2.out⟩, ⟨?_⟩, ⟨?_⟩, ⟨?_⟩, ⟨?_⟩⟩, ?_⟩
      · exact blk_drew (blk_put HV2.out 1 (.int .u32 y1) rfl)
      · exact blk_drew (blk_far HK2.out (p := ⟨w.heap.size + 1, 1, none⟩) (by have := HNE.out; show w1.heap.size ≠ w.heap.size + 1; omega) (.int .u32 y1))
      · exact blk_drew (blk_far HZ2.out (p := ⟨w.heap.size + 1, 1, none⟩) (by show w.heap.size + 2 ≠ w.heap.size + 1; omega) (.int .u32 y1))
      · exact below_drew (below_set (j := 1) (v := .int .u32 y1) HB2.out (Nat.le_succ w.heap.size))
      · have := HMM.out; have := HEM.out; show 32 - m'.toNat < 32 - (m : Int).toNat; omega
    · obtain rfl : m = 32 := by omega
      have dl : decide (((32 : Nat) : Int) < 32) = false := by decide
      obtain ⟨c0, c1⟩ := xtea_cell2 HV.out
      obtain ⟨z0, z1⟩ := xtea_cell2 HZ.out
      have f0 := blk_frozen HZ.out 0
      have f1 := blk_frozen HZ.out 1
      clear hm hs
      go_wp2
      have HZ2 := blk_put (blk_put HZ.out 0 (.int .u32 x) rfl) 1 (.int .u32 y) rfl
      obtain ⟨e0, e1⟩ := xtea_cell2 HZ2
      refine bodyPost_ret (v := .agg #[.int .u32 x, .int .u32 y]) (by simp [results, Try.results38, go_sem, e0, e1]) rfl ?_
      refine ⟨by rw [HN0.out, HN1.out, HN2.out, HN3.out, HR.out], below_set (below_set HB.out (by omega)) (by omega)⟩
def xtea_Block.f (a0_0 : Int) (a0_1 : Int) (a0_2 : Int) (a0_3 : Int) (a0_4 : Int) (a0_5 : Int) (a0_6 : Int) (a0_7 : Int) (a0_8 : Int) (a0_9 : Int) (a0_10 : Int) (a0_11 : Int) (a0_12 : Int) (a0_13 : Int) (a0_14 : Int) (a0_15 : Int) (a1_0 : Int) (a1_1 : Int) : Option (Int × Int) :=
  if (∀ x ∈ ([a0_0, a0_1, a0_2, a0_3, a0_4, a0_5, a0_6, a0_7, a0_8, a0_9, a0_10, a0_11, a0_12, a0_13, a0_14, a0_15] : List Int), 0 ≤ x ∧ x < 256) ∧ (0 ≤ a1_0 ∧ a1_0 < 4294967296) ∧ (0 ≤ a1_1 ∧ a1_1 < 4294967296) then some ((xtea_run [xtea_wd a0_0 a0_1 a0_2 a0_3, xtea_wd a0_4 a0_5 a0_6 a0_7, xtea_wd a0_8 a0_9 a0_10 a0_11, xtea_wd a0_12 a0_13 a0_14 a0_15] a1_0 a1_1 32).1, (xtea_run [xtea_wd a0_0 a0_1 a0_2 a0_3, xtea_wd a0_4 a0_5 a0_6 a0_7, xtea_wd a0_8 a0_9 a0_10 a0_11, xtea_wd a0_12 a0_13 a0_14 a0_15] a1_0 a1_1 32).2.1) else none
theorem xtea_Block.calls (a0_0 : Int) (a0_1 : Int) (a0_2 : Int) (a0_3 : Int) (a0_4 : Int) (a0_5 : Int) (a0_6 : Int) (a0_7 : Int) (a0_8 : Int) (a0_9 : Int) (a0_10 : Int) (a0_11 : Int) (a0_12 : Int) (a0_13 : Int) (a0_14 : Int) (a0_15 : Int) (a1_0 : Int) (a1_1 : Int) (r1 r2 : Int) (w : World) (h : xtea_Block.f a0_0 a0_1 a0_2 a0_3 a0_4 a0_5 a0_6 a0_7 a0_8 a0_9 a0_10 a0_11 a0_12 a0_13 a0_14 a0_15 a1_0 a1_1 = some (r1, r2)) :
    Calls Try.prog 38 #[.agg #[.int .u8 a0_0, .int .u8 a0_1, .int .u8 a0_2, .int .u8 a0_3, .int .u8 a0_4, .int .u8 a0_5, .int .u8 a0_6, .int .u8 a0_7, .int .u8 a0_8, .int .u8 a0_9, .int .u8 a0_10, .int .u8 a0_11, .int .u8 a0_12, .int .u8 a0_13, .int .u8 a0_14, .int .u8 a0_15], .agg #[.int .u32 a1_0, .int .u32 a1_1]] w fun e w' => e = .returned (.agg #[.int .u32 r1, .int .u32 r2]) ∧ Below w.heap.size w w' := by
  unfold xtea_Block.f at h
  split at h
  case isFalse => cases h
  case isTrue hg =>
  obtain ⟨hk, -, -⟩ := hg
  injection h with h
  injection h with h1 h2
  subst h1 h2
  have q := xtea_Block.walk a0_0 a0_1 a0_2 a0_3 a0_4 a0_5 a0_6 a0_7 a0_8 a0_9 a0_10 a0_11 a0_12 a0_13 a0_14 a0_15 a1_0 a1_1 w
  rw [xtea_num_eq a0_0 a0_1 a0_2 a0_3 (hk _ (by simp)) (hk _ (by simp)) (hk _ (by simp)) (hk _ (by simp))] at q
  rw [xtea_num_eq a0_4 a0_5 a0_6 a0_7 (hk _ (by simp)) (hk _ (by simp)) (hk _ (by simp)) (hk _ (by simp))] at q
  rw [xtea_num_eq a0_8 a0_9 a0_10 a0_11 (hk _ (by simp)) (hk _ (by simp)) (hk _ (by simp)) (hk _ (by simp))] at q
  rw [xtea_num_eq a0_12 a0_13 a0_14 a0_15 (hk _ (by simp)) (hk _ (by simp)) (hk _ (by simp)) (hk _ (by simp))] at q
  exact q


/-! ### xtea_From: function 34 -/
def xtea_blk (ks : List Int) (a b : Int) : Int × Int := ((xtea_run ks a b 32).1, (xtea_run ks a b 32).2.1)
/-- The stream's byte at m: word m / 4 % 2 of block m / 8, its byte m % 4. -/
def xtea_kb (ks : List Int) (n0 n1 bl : Int) (m : Nat) : Int :=
  (if m / 4 % 2 = 0 then (xtea_blk ks ((n0 + (bl + (m / 8 : Nat)) % 4294967296) % 4294967296) n1).1 else (xtea_blk ks ((n0 + (bl + (m / 8 : Nat)) % 4294967296) % 4294967296) n1).2) / 2 ^ (8 * (m % 4)) % 256
def xtea_out (g : Nat → Int) (l : List Int) (m : Nat) : List Int := (List.range m).map fun i => Go.bits .xor .u8 (l.getD i 0) (g i)
def xtea_mid (g : Nat → Int) (l : List Int) (m : Nat) : List Int := xtea_out g l m ++ l.drop m
theorem xtea_out_length (g : Nat → Int) (l : List Int) (m : Nat) : (xtea_out g l m).length = m := by simp [xtea_out]
theorem xtea_out_succ (g : Nat → Int) (l : List Int) (m : Nat) : xtea_out g l (m + 1) = xtea_out g l m ++ [Go.bits .xor .u8 (l.getD m 0) (g m)] := by simp [xtea_out, List.range_succ]
theorem xtea_mid_length (g : Nat → Int) (l : List Int) (m : Nat) (h : m ≤ l.length) : (xtea_mid g l m).length = l.length := by
  unfold xtea_mid
  rw [List.length_append, xtea_out_length, List.length_drop]
  omega
theorem xtea_mid_get (g : Nat → Int) (l : List Int) (m : Nat) : (xtea_mid g l m).getD m 0 = l.getD m 0 := by
  unfold xtea_mid
  rw [List.getD_eq_getElem?_getD, List.getElem?_append_right (by rw [xtea_out_length]; exact Nat.le_refl _), xtea_out_length, Nat.sub_self, List.getElem?_drop, Nat.add_zero, ← List.getD_eq_getElem?_getD]
theorem xtea_mid_set (g : Nat → Int) (l : List Int) (m : Nat) (h : m < l.length) : (xtea_mid g l m).set m (Go.bits .xor .u8 (l.getD m 0) (g m)) = xtea_mid g l (m + 1) := by
  unfold xtea_mid
  rw [List.set_append_right _ _ (by rw [xtea_out_length]; exact Nat.le_refl _), xtea_out_length, Nat.sub_self, xtea_out_succ, List.append_assoc]
  congr 1
  rw [List.drop_eq_getElem_cons h]
  rfl
theorem xtea_mid_all (g : Nat → Int) (l : List Int) : xtea_mid g l l.length = xtea_out g l l.length := by simp [xtea_mid]
theorem xtea_kb_at {ks : List Int} {n0 n1 bl bq r1 r2 : Int} {q i : Nat} (hi : i < 8) (hb : bq = (bl + (q : Int)) % 4294967296) (hr : xtea_blk ks ((n0 + bq) % 4294967296) n1 = (r1, r2)) :
    xtea_kb ks n0 n1 bl (8 * q + i) = (if ((i / 4 : Nat) : Int) = 0 then r1 else r2) / 2 ^ (8 * (i % 4)) % 256 := by
  unfold xtea_kb
  rw [show (8 * q + i) / 8 = q by omega, show (8 * q + i) / 4 % 2 = i / 4 by omega, show (8 * q + i) % 4 = i % 4 by omega, ← hb, hr]
  by_cases h : i / 4 = 0
  · rw [if_pos h, if_pos (by omega)]
  · rw [if_neg h, if_neg (by omega)]
theorem xtea_cell2i {w : World} {g : Nat} {t : TypeId} {n0 n1 : Int} (h : w.heap[g]? = some (.cells #[.int .u32 n0, .int .u32 n1] t (0, 0))) (j : Int) (h0 : 0 ≤ j) (h1 : j < 2) :
    w.cell? ⟨g, j.toNat, none⟩ = some (.int .u32 (if j = 0 then n0 else n1)) := by
  unfold World.cell?
  rw [h]
  have : j = 0 ∨ j = 1 := by omega
  rcases this with rfl | rfl <;> rfl

set_option maxHeartbeats 3200000 in
set_option maxRecDepth 100000 in
theorem xtea_From.walk (k0 k1 k2 k3 k4 k5 k6 k7 k8 k9 k10 k11 k12 k13 k14 k15 n0 n1 bl : Int) (A3 : Option Addr) (c3 : Nat) (l3 : List Int) (w : World) (h0 : Aside0 (0 ≤ k0 ∧ k0 < 256)) (h1 : Aside0 (0 ≤ k1 ∧ k1 < 256)) (h2 : Aside0 (0 ≤ k2 ∧ k2 < 256)) (h3 : Aside0 (0 ≤ k3 ∧ k3 < 256)) (h4 : Aside0 (0 ≤ k4 ∧ k4 < 256)) (h5 : Aside0 (0 ≤ k5 ∧ k5 < 256)) (h6 : Aside0 (0 ≤ k6 ∧ k6 < 256)) (h7 : Aside0 (0 ≤ k7 ∧ k7 < 256)) (h8 : Aside0 (0 ≤ k8 ∧ k8 < 256)) (h9 : Aside0 (0 ≤ k9 ∧ k9 < 256)) (h10 : Aside0 (0 ≤ k10 ∧ k10 < 256)) (h11 : Aside0 (0 ≤ k11 ∧ k11 < 256)) (h12 : Aside0 (0 ≤ k12 ∧ k12 < 256)) (h13 : Aside0 (0 ≤ k13 ∧ k13 < 256)) (h14 : Aside0 (0 ≤ k14 ∧ k14 < 256)) (h15 : Aside0 (0 ≤ k15 ∧ k15 < 256)) (hn0 : Aside0 (0 ≤ n0 ∧ n0 < 4294967296)) (hn1 : Aside0 (0 ≤ n1 ∧ n1 < 4294967296)) (hbl : Aside0 (0 ≤ bl ∧ bl < 4294967296)) (hlen : l3.length < 140737488355328)
    (hr3 : Kd.C (Kd.int .u8) w A3 l3.length l3) (hc3 : l3.length ≤ c3) :
    Calls Try.prog 34 #[.agg #[.int .u8 k0, .int .u8 k1, .int .u8 k2, .int .u8 k3, .int .u8 k4, .int .u8 k5, .int .u8 k6, .int .u8 k7, .int .u8 k8, .int .u8 k9, .int .u8 k10, .int .u8 k11, .int .u8 k12, .int .u8 k13, .int .u8 k14, .int .u8 k15], .agg #[.int .u32 n0, .int .u32 n1], .int .u32 bl, .slice A3 l3.length c3] w fun e w' => ∃ v0_ : Value, e = .returned (v0_) ∧ Kd.R (Kd.int .u8) 5 w' w.heap.size (fun _ => True) v0_ (xtea_out (xtea_kb [xtea_wd k0 k1 k2 k3, xtea_wd k4 k5 k6 k7, xtea_wd k8 k9 k10 k11, xtea_wd k12 k13 k14 k15] n0 n1 bl) l3 l3.length) ∧ Below w.heap.size w w' := by
  have HR3 := Aside0.mk hr3
  have HLEN := Aside0.mk hlen
  clear hr3
  have HB := Aside0.mk (Below.refl w.heap.size w)
  go_enter Try.func34, Try.ntmps34
  go_wp2_with (first
    | ((with_reducible refine gate_dst (N := 15) rfl ?_); refine Kd.R_make (Kd.int .u8) _ 5 rfl (N := 15) rfl 23 _ _ rfl (l3.length : Int) rfl rfl Try.underlying23 (.int .u8 0) 1 (by kernel_rfl) rfl (by decide) (by omega) 0 (ok := fun _ => True) (okp := fun _ => True) rfl (fun _ hk => hk) trivial (by omega) (by have := HLEN.out; omega) (Below.refl _ _) (Nat.le_refl _) ?_; intro v1 w1 ho hb hg hnew; rw [Int.toNat_natCast] at ho; obtain ⟨A1, c1, hv, hc1, hC1⟩ := Kd.R_reads ho; rw [List.length_replicate] at hv; subst hv; have HO := Aside0.mk ho; have HB1 := Aside0.mk hb; have HBW := Aside0.mk (below_then (below_alloc (below_alloc (Below.refl w.heap.size w) _) _) (by simp; omega) hb); clear ho hb hg hnew hc1 hC1)
    | ((with_reducible refine gate_dst (N := 18) rfl ?_); refine Kd.R_copy (enc := Value.int .u8) (h1 := fun _ => rfl) (0 : Int) _ rfl (Operand.tmp 16) (Operand.tmp 17) _ _ 5 rfl Try.underlying23 (by kernel_rfl) (.slice A1 l3.length c1) (List.replicate l3.length 0) l3 A3 l3.length c3 (fun _ => True) rfl rfl HO.out (Kd.C_below HR3.out HBW.out) HB1.out HB1.out.size ?_; intro w2 ho hb hg; rw [show l3.take (min l3.length (List.replicate l3.length (0 : Int)).length) ++ (List.replicate l3.length (0 : Int)).drop (min l3.length (List.replicate l3.length (0 : Int)).length) = xtea_mid (xtea_kb [xtea_wd k0 k1 k2 k3, xtea_wd k4 k5 k6 k7, xtea_wd k8 k9 k10 k11, xtea_wd k12 k13 k14 k15] n0 n1 bl) l3 0 by simp [xtea_mid, xtea_out]] at ho; clear HO HB1 HBW HB; have HO := Aside0.mk ho; have HB := Aside0.mk hb; clear ho hb hg))
  have HKEY := Aside0.mk (blk_alloc (blk_new w (.cells #[.int .u8 k0, .int .u8 k1, .int .u8 k2, .int .u8 k3, .int .u8 k4, .int .u8 k5, .int .u8 k6, .int .u8 k7, .int .u8 k8, .int .u8 k9, .int .u8 k10, .int .u8 k11, .int .u8 k12, .int .u8 k13, .int .u8 k14, .int .u8 k15] 44)) (.cells #[.int .u32 n0, .int .u32 n1] 47))
  have HNON := Aside0.mk (show ((w.alloc (.cells #[.int .u8 k0, .int .u8 k1, .int .u8 k2, .int .u8 k3, .int .u8 k4, .int .u8 k5, .int .u8 k6, .int .u8 k7, .int .u8 k8, .int .u8 k9, .int .u8 k10, .int .u8 k11, .int .u8 k12, .int .u8 k13, .int .u8 k14, .int .u8 k15] 44)).alloc (.cells #[.int .u32 n0, .int .u32 n1] 47)).heap[w.heap.size + 1]? = some (.cells #[.int .u32 n0, .int .u32 n1] 47) by have := blk_new (w.alloc (.cells #[.int .u8 k0, .int .u8 k1, .int .u8 k2, .int .u8 k3, .int .u8 k4, .int .u8 k5, .int .u8 k6, .int .u8 k7, .int .u8 k8, .int .u8 k9, .int .u8 k10, .int .u8 k11, .int .u8 k12, .int .u8 k13, .int .u8 k14, .int .u8 k15] 44)) (.cells #[.int .u32 n0, .int .u32 n1] 47); simpa using this)
  have HBW := Aside0.mk (below_alloc (below_alloc (Below.refl w.heap.size w) (.cells #[.int .u8 k0, .int .u8 k1, .int .u8 k2, .int .u8 k3, .int .u8 k4, .int .u8 k5, .int .u8 k6, .int .u8 k7, .int .u8 k8, .int .u8 k9, .int .u8 k10, .int .u8 k11, .int .u8 k12, .int .u8 k13, .int .u8 k14, .int .u8 k15] 44)) (.cells #[.int .u32 n0, .int .u32 n1] 47))
  have HSZ := Aside0.mk (show ((w.alloc (.cells #[.int .u8 k0, .int .u8 k1, .int .u8 k2, .int .u8 k3, .int .u8 k4, .int .u8 k5, .int .u8 k6, .int .u8 k7, .int .u8 k8, .int .u8 k9, .int .u8 k10, .int .u8 k11, .int .u8 k12, .int .u8 k13, .int .u8 k14, .int .u8 k15] 44)).alloc (.cells #[.int .u32 n0, .int .u32 n1] 47)).heap.size = w.heap.size + 2 by simp)
  generalize (w.alloc (.cells #[.int .u8 k0, .int .u8 k1, .int .u8 k2, .int .u8 k3, .int .u8 k4, .int .u8 k5, .int .u8 k6, .int .u8 k7, .int .u8 k8, .int .u8 k9, .int .u8 k10, .int .u8 k11, .int .u8 k12, .int .u8 k13, .int .u8 k14, .int .u8 k15] 44)).alloc (.cells #[.int .u32 n0, .int .u32 n1] 47) = W0 at *
  obtain ⟨G, hG⟩ : ∃ G, xtea_kb [xtea_wd k0 k1 k2 k3, xtea_wd k4 k5 k6 k7, xtea_wd k8 k9 k10 k11, xtea_wd k12 k13 k14 k15] n0 n1 bl = G := ⟨_, rfl⟩
  rw [hG] at HO
  have HG := Aside0.mk hG
  clear hG
  go_loopw [2, 10] (fun v2 v10 w' => ∃ (q : Nat) (bq at_ : Int), v2 = .int .u32 bq ∧ v10 = .int .i64 at_ ∧ Aside0 (bq = (bl + (q : Int)) % 4294967296) ∧ Aside0 (at_ = 8 * (q : Int)) ∧ Aside0 (8 * q < l3.length + 8) ∧ Aside0 (Kd.R (Kd.int .u8) 5 w' W0.heap.size (fun _ => True) (.slice A1 l3.length c1) (xtea_mid G l3 (min (8 * q) l3.length))) ∧ Aside0 (Below W0.heap.size W0 w')) (fun v2 v10 w' => match v10 with | .int _ a => l3.length + 8 - a.toNat | _ => 0)
  case atStart => exact ⟨0, bl, 0, rfl, rfl, ⟨by have := hbl.out; omega⟩, ⟨rfl⟩, ⟨by omega⟩, ⟨by have h := HO.out; rw [show min (8 * 0) l3.length = 0 by omega]; exact h⟩, HB⟩
  case round =>
    clear HO HB
    obtain ⟨q, bq, at_, rfl, rfl, HBQ, HAT, HQ, HO, HB⟩ := hrel
    have hbq := HBQ.out
    have hat := HAT.out
    have hq := HQ.out
    by_cases hlt : 8 * q < l3.length
    · obtain ⟨g, cp, eg, hgb, hgl, hgc⟩ := Kd.R_form HO.out (by rw [xtea_mid_length _ _ _ (Nat.min_le_right _ _)]; omega)
      rw [xtea_mid_length _ _ _ (Nat.min_le_right _ _)] at eg
      injection eg with ea _ ec
      subst ea ec
      obtain ⟨r1, r2, hr⟩ : ∃ r1 r2, xtea_blk [xtea_wd k0 k1 k2 k3, xtea_wd k4 k5 k6 k7, xtea_wd k8 k9 k10 k11, xtea_wd k12 k13 k14 k15] ((n0 + bq) % 4294967296) n1 = (r1, r2) := ⟨_, _, rfl⟩
      have HF := Aside0.mk (show xtea_Block.f k0 k1 k2 k3 k4 k5 k6 k7 k8 k9 k10 k11 k12 k13 k14 k15 ((n0 + bq) % 4294967296) n1 = some (r1, r2) by
        unfold xtea_Block.f
        rw [if_pos ⟨by simp only [List.mem_cons, List.not_mem_nil, or_false, forall_eq_or_imp, forall_eq]; exact ⟨h0.out, h1.out, h2.out, h3.out, h4.out, h5.out, h6.out, h7.out, h8.out, h9.out, h10.out, h11.out, h12.out, h13.out, h14.out, h15.out⟩, by omega, hn1.out⟩, ← hr]
        rfl)
      have HRR := Aside0.mk hr
      have HGB := Aside0.mk hgb
      have HGL := Aside0.mk hgl
      have HLT := Aside0.mk hlt
      have HKK := Aside0.mk (blk_below HKEY.out HB.out)
      obtain ⟨z0, z1⟩ := xtea_cell2 (blk_below HNON.out HB.out)
      have dl : decide (at_ < (l3.length : Int)) = true := decide_eq_true (by omega)
      have hlc := (Kd.R_reads' HO.out).2.1
      have s0 : (l3.length ≤ c1) = True := eq_true hlc
      have s1 : (0 ≤ at_ ∧ at_ ≤ (l3.length : Int)) = True := eq_true (by omega)
      have s1a : (0 ≤ at_) = True := eq_true (by omega)
      have s1b : (at_ ≤ (l3.length : Int)) = True := eq_true (by omega)
      have s2 : (c1 = at_.toNat) = False := eq_false (by omega)
      have hw8 : wrap64 (at_ + 8) = at_ + 8 := by unfold wrap64; omega
      have HW8 := Aside0.mk hw8
      have HQ8 := Aside0.mk (show at_ = 8 * (q : Int) ∧ 8 * q < l3.length by exact ⟨hat, hlt⟩)
      have hmn : ((l3.length : Int) < wrap64 (at_ + 8)) ∨ ¬ ((l3.length : Int) < wrap64 (at_ + 8)) := Classical.em _
      rcases hmn with hmn | hmn
      · have s3 : ((l3.length : Int) < wrap64 (at_ + 8)) = True := eq_true hmn
        have HMN := Aside0.mk hmn
        clear hbq hat hq hlt hr hgb hgl hgc hlc hmn hw8
        go_wp2_with (first
          | ((with_reducible refine gate_dst (N := 25) rfl ?_); refine wpList_load_mid rfl 44 (Operand.tmp 4) rfl w.heap.size 0 rfl [.int .u8 k0, .int .u8 k1, .int .u8 k2, .int .u8 k3, .int .u8 k4, .int .u8 k5, .int .u8 k6, .int .u8 k7, .int .u8 k8, .int .u8 k9, .int .u8 k10, .int .u8 k11, .int .u8 k12, .int .u8 k13, .int .u8 k14, .int .u8 k15] _ (xtea_range HKK.out) Try.underlying44 rfl (by show _ = some 16; kernel_rfl) ?_)
          | (go_at_call 38; (with_reducible refine (xtea_Block.calls k0 k1 k2 k3 k4 k5 k6 k7 k8 k9 k10 k11 k12 k13 k14 k15 _ _ r1 r2 _ HF.out).mono ?_); rintro e w1 ⟨rfl, hb⟩; have HB2 := Aside0.mk hb; clear hb))
        generalize hn : l3.length - at_.toNat = n at *
        have HN := Aside0.mk (show 8 * q + n = min (8 * (q + 1)) l3.length by have := HQ8.out; have := HW8.out; have := HMN.out; omega)
        have HNP := Aside0.mk (show n ≤ 8 ∧ 0 < n by have := HN.out; have := HQ8.out; omega)
        have HO1 := Aside0.mk (Kd.R_alloc (Kd.R_below HO.out HB2.out) (.cells #[.int .u32 r1, .int .u32 r2] 46))
        have HB1 := Aside0.mk (below_alloc (below_then HB.out HB.out.size HB2.out) (.cells #[.int .u32 r1, .int .u32 r2] 46))
        have HX1 := Aside0.mk (blk_new w1 (.cells #[.int .u32 r1, .int .u32 r2] 46))
        have HGX := Aside0.mk (show g < w1.heap.size by have := HGL.out; have := HB2.out.size; omega)
        rw [show min (8 * q) l3.length = 8 * q by have := HQ8.out; omega] at HO1
        clear hn z0 z1 dl s0 s1 s1a s1b s2 s3 HO HB
        go_loopw [43] (fun v43 w' => ∃ (i : Nat) (iv : Int), v43 = .int .i64 iv ∧ Aside0 (iv = (i : Int)) ∧ Aside0 (i ≤ n) ∧ Aside0 (Kd.R (Kd.int .u8) 5 w' W0.heap.size (fun _ => True) (.slice (some ⟨g, 0, none⟩) l3.length c1) (xtea_mid G l3 (8 * q + i))) ∧ Aside0 (Below W0.heap.size W0 w') ∧ Aside0 (w'.heap[w1.heap.size]? = some (.cells #[.int .u32 r1, .int .u32 r2] 46 (0, 0)))) (fun v43 w' => match v43 with | .int _ a => n - a.toNat | _ => 0)
        case atStart => exact ⟨0, 0, rfl, ⟨rfl⟩, ⟨Nat.zero_le _⟩, HO1, HB1, HX1⟩
        case round =>
          clear HO1 HB1 HX1
          obtain ⟨i, iv, rfl, HI, HIN, HO, HB, HX⟩ := hrel
          have hi := HI.out
          have hin := HIN.out
          have hq8 := HQ8.out
          have hnn := HN.out
          have hnp := HNP.out
          by_cases hlt : i < n
          · obtain ⟨j, hj⟩ : ∃ j : Int, wrap64 (at_ + iv) = j := ⟨_, rfl⟩
            have hjw : IntKind.i64.wrap (at_ + iv) = j := (i64_w _).trans hj
            have hlen' := HLEN.out
            have ej : j = ((8 * q + i : Nat) : Int) := by rw [← hj]; unfold wrap64; omega
            obtain ⟨j4, h4⟩ : ∃ j : Int, Int.tdiv iv 4 = j := ⟨_, rfl⟩
            have e4 : j4 = ((i / 4 : Nat) : Int) := by rw [← h4, Int.tdiv_eq_ediv_of_nonneg (by omega), hi]; rfl
            have h4w : IntKind.i64.wrap j4 = j4 := by rw [i64_w]; unfold wrap64; omega
            obtain ⟨jm, hm⟩ : ∃ j : Int, Int.tmod iv 4 = j := ⟨_, rfl⟩
            have em : jm = ((i % 4 : Nat) : Int) := by rw [← hm, Int.tmod_eq_emod_of_nonneg (by omega), hi]; rfl
            obtain ⟨sh, hs⟩ : ∃ j : Int, IntKind.i64.wrap (8 * jm) = j := ⟨_, rfl⟩
            have es : sh = ((8 * (i % 4) : Nat) : Int) := by rw [← hs, i64_w, em]; unfold wrap64; omega
            obtain ⟨jn, hjn⟩ : ∃ j : Int, wrap64 (iv + 1) = j := ⟨_, rfl⟩
            have hjnw : IntKind.i64.wrap (iv + 1) = jn := (i64_w _).trans hjn
            have en : jn = ((i + 1 : Nat) : Int) := by rw [← hjn, hi]; unfold wrap64; omega
            obtain ⟨q0, f0⟩ := Kd.R_celln 0 HO.out j (by omega) (by omega)
            have kx := xtea_cell2i HX.out j4 (by omega) (by omega)
            have dl : decide (iv < ((n : Nat) : Int)) = true := decide_eq_true (by omega)
            have a0 : (0 ≤ j) = True := eq_true (by omega)
            have a1 : (j < (l3.length : Int)) = True := eq_true (by omega)
            have a2 : (0 ≤ j4) = True := eq_true (by omega)
            have a3 : (j4 < 2) = True := eq_true (by omega)
            have b0 : (0 ≤ sh) := by omega
            have b1 : sh ≤ 31 := by omega
            have HKB := Aside0.mk (show G (8 * q + i) = (if j4 = 0 then r1 else r2) / 2 ^ sh.toNat % 256 by rw [← HG.out, xtea_kb_at (by omega) HBQ.out HRR.out, e4, es, Int.toNat_natCast])
            have HEJ := Aside0.mk (show j.toNat = 8 * q + i by omega)
            have HEN := Aside0.mk en
            have HLL := Aside0.mk (show 8 * q + i < l3.length ∧ i + 1 ≤ n by omega)
            generalize (if j4 = 0 then r1 else r2) = rr at *
            clear hi hin hq8 hnn hnp hlt hlen' ej e4 em es en
            go_wp2
            refine wp_region_still_tail 17 (by kernel_rfl) (by kernel_rfl) ?_
            simp only [List.take_succ_cons, List.take_zero, List.drop_succ_cons, List.drop_zero]
            repeat still_step
            refine wpStill_nil ?_
            change wpList _ _ _ _ _ wr.drew
            go_wp2
            refine ⟨⟨i + 1, jn, rfl, HEN, ⟨HLL.out.2⟩, ⟨?_⟩, ⟨?_⟩, ⟨?_⟩⟩, ?_⟩
            · have h := Kd.R_drew (Kd.R_putn HO.out j (Go.bits .xor .u8 (rdOf 0 (xtea_mid G l3 (8 * q + i)) j) (rr / 2 ^ sh.toNat % 256)))
              rw [show (xtea_mid G l3 (8 * q + i)).set j.toNat (Go.bits .xor .u8 (rdOf 0 (xtea_mid G l3 (8 * q + i)) j) (rr / 2 ^ sh.toNat % 256)) = xtea_mid G l3 (8 * q + (i + 1)) by
                rw [← HKB.out, show rdOf 0 (xtea_mid G l3 (8 * q + i)) j = l3.getD (8 * q + i) 0 by unfold rdOf; rw [HEJ.out, xtea_mid_get], HEJ.out, xtea_mid_set G l3 (8 * q + i) HLL.out.1]; rfl] at h
              exact h
            · exact below_drew (below_set HB.out HGB.out)
            · exact blk_drew (blk_far HX.out (p := ⟨g, j.toNat, none⟩) (by have := HGX.out; show w1.heap.size ≠ g; omega) _)
            · have h1 := HEN.out
              have h2 := HI.out
              have h3 := HLL.out
              show n - jn.toNat < n - iv.toNat
              omega
          · obtain rfl : i = n := by omega
            have dl : decide (iv < ((i : Nat) : Int)) = false := decide_eq_false (by omega)
            clear hi hin hq8 hnn hnp hlt
            go_wp2
            refine ⟨⟨q + 1, _, _, rfl, rfl, ⟨?_⟩, ⟨?_⟩, ⟨?_⟩, ⟨?_⟩, HB⟩, ?_⟩
            · have := HBQ.out
              omega
            · have := HQ8.out
              rw [HW8.out]
              omega
            · have := HQ8.out
              omega
            · have h := HO.out
              rw [HN.out] at h
              exact h
            · have := HQ8.out
              rw [HW8.out]
              show l3.length + 8 - (at_ + 8).toNat < l3.length + 8 - at_.toNat
              omega
      · have s3 : ((l3.length : Int) < wrap64 (at_ + 8)) = False := eq_false hmn
        have HMN := Aside0.mk hmn
        have s4 : (at_ ≤ wrap64 (at_ + 8)) = True := eq_true (by omega)
        have s5 : (0 ≤ wrap64 (at_ + 8)) = True := eq_true (by omega)
        have s6 : (wrap64 (at_ + 8) ≤ (c1 : Int)) = True := eq_true (by omega)
        clear hbq hat hq hlt hr hgb hgl hgc hlc hmn hw8
        go_wp2_with (first
          | ((with_reducible refine gate_dst (N := 25) rfl ?_); refine wpList_load_mid rfl 44 (Operand.tmp 4) rfl w.heap.size 0 rfl [.int .u8 k0, .int .u8 k1, .int .u8 k2, .int .u8 k3, .int .u8 k4, .int .u8 k5, .int .u8 k6, .int .u8 k7, .int .u8 k8, .int .u8 k9, .int .u8 k10, .int .u8 k11, .int .u8 k12, .int .u8 k13, .int .u8 k14, .int .u8 k15] _ (xtea_range HKK.out) Try.underlying44 rfl (by show _ = some 16; kernel_rfl) ?_)
          | (go_at_call 38; (with_reducible refine (xtea_Block.calls k0 k1 k2 k3 k4 k5 k6 k7 k8 k9 k10 k11 k12 k13 k14 k15 _ _ r1 r2 _ HF.out).mono ?_); rintro e w1 ⟨rfl, hb⟩; have HB2 := Aside0.mk hb; clear hb))
        generalize hn : (wrap64 (at_ + 8)).toNat - at_.toNat = n at *
        have HN := Aside0.mk (show 8 * q + n = min (8 * (q + 1)) l3.length by have := HQ8.out; have := HW8.out; have := HMN.out; omega)
        have HNP := Aside0.mk (show n ≤ 8 ∧ 0 < n by have := HN.out; have := HQ8.out; omega)
        have HO1 := Aside0.mk (Kd.R_alloc (Kd.R_below HO.out HB2.out) (.cells #[.int .u32 r1, .int .u32 r2] 46))
        have HB1 := Aside0.mk (below_alloc (below_then HB.out HB.out.size HB2.out) (.cells #[.int .u32 r1, .int .u32 r2] 46))
        have HX1 := Aside0.mk (blk_new w1 (.cells #[.int .u32 r1, .int .u32 r2] 46))
        have HGX := Aside0.mk (show g < w1.heap.size by have := HGL.out; have := HB2.out.size; omega)
        rw [show min (8 * q) l3.length = 8 * q by have := HQ8.out; omega] at HO1
        clear hn z0 z1 dl s0 s1 s1a s1b s2 s3 HO HB
        go_loopw [43] (fun v43 w' => ∃ (i : Nat) (iv : Int), v43 = .int .i64 iv ∧ Aside0 (iv = (i : Int)) ∧ Aside0 (i ≤ n) ∧ Aside0 (Kd.R (Kd.int .u8) 5 w' W0.heap.size (fun _ => True) (.slice (some ⟨g, 0, none⟩) l3.length c1) (xtea_mid G l3 (8 * q + i))) ∧ Aside0 (Below W0.heap.size W0 w') ∧ Aside0 (w'.heap[w1.heap.size]? = some (.cells #[.int .u32 r1, .int .u32 r2] 46 (0, 0)))) (fun v43 w' => match v43 with | .int _ a => n - a.toNat | _ => 0)
        case atStart => exact ⟨0, 0, rfl, ⟨rfl⟩, ⟨Nat.zero_le _⟩, HO1, HB1, HX1⟩
        case round =>
          clear HO1 HB1 HX1
          obtain ⟨i, iv, rfl, HI, HIN, HO, HB, HX⟩ := hrel
          have hi := HI.out
          have hin := HIN.out
          have hq8 := HQ8.out
          have hnn := HN.out
          have hnp := HNP.out
          by_cases hlt : i < n
          · obtain ⟨j, hj⟩ : ∃ j : Int, wrap64 (at_ + iv) = j := ⟨_, rfl⟩
            have hjw : IntKind.i64.wrap (at_ + iv) = j := (i64_w _).trans hj
            have hlen' := HLEN.out
            have ej : j = ((8 * q + i : Nat) : Int) := by rw [← hj]; unfold wrap64; omega
            obtain ⟨j4, h4⟩ : ∃ j : Int, Int.tdiv iv 4 = j := ⟨_, rfl⟩
            have e4 : j4 = ((i / 4 : Nat) : Int) := by rw [← h4, Int.tdiv_eq_ediv_of_nonneg (by omega), hi]; rfl
            have h4w : IntKind.i64.wrap j4 = j4 := by rw [i64_w]; unfold wrap64; omega
            obtain ⟨jm, hm⟩ : ∃ j : Int, Int.tmod iv 4 = j := ⟨_, rfl⟩
            have em : jm = ((i % 4 : Nat) : Int) := by rw [← hm, Int.tmod_eq_emod_of_nonneg (by omega), hi]; rfl
            obtain ⟨sh, hs⟩ : ∃ j : Int, IntKind.i64.wrap (8 * jm) = j := ⟨_, rfl⟩
            have es : sh = ((8 * (i % 4) : Nat) : Int) := by rw [← hs, i64_w, em]; unfold wrap64; omega
            obtain ⟨jn, hjn⟩ : ∃ j : Int, wrap64 (iv + 1) = j := ⟨_, rfl⟩
            have hjnw : IntKind.i64.wrap (iv + 1) = jn := (i64_w _).trans hjn
            have en : jn = ((i + 1 : Nat) : Int) := by rw [← hjn, hi]; unfold wrap64; omega
            obtain ⟨q0, f0⟩ := Kd.R_celln 0 HO.out j (by omega) (by omega)
            have kx := xtea_cell2i HX.out j4 (by omega) (by omega)
            have dl : decide (iv < ((n : Nat) : Int)) = true := decide_eq_true (by omega)
            have a0 : (0 ≤ j) = True := eq_true (by omega)
            have a1 : (j < (l3.length : Int)) = True := eq_true (by omega)
            have a2 : (0 ≤ j4) = True := eq_true (by omega)
            have a3 : (j4 < 2) = True := eq_true (by omega)
            have b0 : (0 ≤ sh) := by omega
            have b1 : sh ≤ 31 := by omega
            have HKB := Aside0.mk (show G (8 * q + i) = (if j4 = 0 then r1 else r2) / 2 ^ sh.toNat % 256 by rw [← HG.out, xtea_kb_at (by omega) HBQ.out HRR.out, e4, es, Int.toNat_natCast])
            have HEJ := Aside0.mk (show j.toNat = 8 * q + i by omega)
            have HEN := Aside0.mk en
            have HLL := Aside0.mk (show 8 * q + i < l3.length ∧ i + 1 ≤ n by omega)
            generalize (if j4 = 0 then r1 else r2) = rr at *
            clear hi hin hq8 hnn hnp hlt hlen' ej e4 em es en
            go_wp2
            refine wp_region_still_tail 17 (by kernel_rfl) (by kernel_rfl) ?_
            simp only [List.take_succ_cons, List.take_zero, List.drop_succ_cons, List.drop_zero]
            repeat still_step
            refine wpStill_nil ?_
            change wpList _ _ _ _ _ wr.drew
            go_wp2
            refine ⟨⟨i + 1, jn, rfl, HEN, ⟨HLL.out.2⟩, ⟨?_⟩, ⟨?_⟩, ⟨?_⟩⟩, ?_⟩
            · have h := Kd.R_drew (Kd.R_putn HO.out j (Go.bits .xor .u8 (rdOf 0 (xtea_mid G l3 (8 * q + i)) j) (rr / 2 ^ sh.toNat % 256)))
              rw [show (xtea_mid G l3 (8 * q + i)).set j.toNat (Go.bits .xor .u8 (rdOf 0 (xtea_mid G l3 (8 * q + i)) j) (rr / 2 ^ sh.toNat % 256)) = xtea_mid G l3 (8 * q + (i + 1)) by
                rw [← HKB.out, show rdOf 0 (xtea_mid G l3 (8 * q + i)) j = l3.getD (8 * q + i) 0 by unfold rdOf; rw [HEJ.out, xtea_mid_get], HEJ.out, xtea_mid_set G l3 (8 * q + i) HLL.out.1]; rfl] at h
              exact h
            · exact below_drew (below_set HB.out HGB.out)
            · exact blk_drew (blk_far HX.out (p := ⟨g, j.toNat, none⟩) (by have := HGX.out; show w1.heap.size ≠ g; omega) _)
            · have h1 := HEN.out
              have h2 := HI.out
              have h3 := HLL.out
              show n - jn.toNat < n - iv.toNat
              omega
          · obtain rfl : i = n := by omega
            have dl : decide (iv < ((i : Nat) : Int)) = false := decide_eq_false (by omega)
            clear hi hin hq8 hnn hnp hlt
            go_wp2
            refine ⟨⟨q + 1, _, _, rfl, rfl, ⟨?_⟩, ⟨?_⟩, ⟨?_⟩, ⟨?_⟩, HB⟩, ?_⟩
            · have := HBQ.out
              omega
            · have := HQ8.out
              rw [HW8.out]
              omega
            · have := HQ8.out
              omega
            · have h := HO.out
              rw [HN.out] at h
              exact h
            · have := HQ8.out
              rw [HW8.out]
              show l3.length + 8 - (at_ + 8).toNat < l3.length + 8 - at_.toNat
              omega
    · have dl : decide (at_ < (l3.length : Int)) = false := decide_eq_false (by omega)
      rw [show min (8 * q) l3.length = l3.length by omega, xtea_mid_all] at HO
      clear hbq hat hq hlt
      go_wp2
      go_ret
      exact ⟨_, rfl, by rw [HG.out]; exact Kd.R_lower HO.out HBW.out.size, below_then HBW.out HBW.out.size HB.out⟩
def xtea_From.f (a0_0 : Int) (a0_1 : Int) (a0_2 : Int) (a0_3 : Int) (a0_4 : Int) (a0_5 : Int) (a0_6 : Int) (a0_7 : Int) (a0_8 : Int) (a0_9 : Int) (a0_10 : Int) (a0_11 : Int) (a0_12 : Int) (a0_13 : Int) (a0_14 : Int) (a0_15 : Int) (a1_0 : Int) (a1_1 : Int) (a2 : Int) (l3 : List Int) : Option (List Int) :=
  if (∀ x ∈ ([a0_0, a0_1, a0_2, a0_3, a0_4, a0_5, a0_6, a0_7, a0_8, a0_9, a0_10, a0_11, a0_12, a0_13, a0_14, a0_15] : List Int), 0 ≤ x ∧ x < 256) ∧ (0 ≤ a1_0 ∧ a1_0 < 4294967296) ∧ (0 ≤ a1_1 ∧ a1_1 < 4294967296) ∧ (0 ≤ a2 ∧ a2 < 4294967296) ∧ l3.length < 140737488355328 then some (xtea_out (xtea_kb [xtea_wd a0_0 a0_1 a0_2 a0_3, xtea_wd a0_4 a0_5 a0_6 a0_7, xtea_wd a0_8 a0_9 a0_10 a0_11, xtea_wd a0_12 a0_13 a0_14 a0_15] a1_0 a1_1 a2) l3 l3.length) else none
theorem xtea_From.calls (a0_0 : Int) (a0_1 : Int) (a0_2 : Int) (a0_3 : Int) (a0_4 : Int) (a0_5 : Int) (a0_6 : Int) (a0_7 : Int) (a0_8 : Int) (a0_9 : Int) (a0_10 : Int) (a0_11 : Int) (a0_12 : Int) (a0_13 : Int) (a0_14 : Int) (a0_15 : Int) (a1_0 : Int) (a1_1 : Int) (a2 : Int) (A3 : Option Addr) (c3 : Nat) (l3 : List Int) (r : List Int) (w : World) (hr3 : Kd.C (Kd.int .u8) w A3 l3.length l3) (hc3 : l3.length ≤ c3) (h : xtea_From.f a0_0 a0_1 a0_2 a0_3 a0_4 a0_5 a0_6 a0_7 a0_8 a0_9 a0_10 a0_11 a0_12 a0_13 a0_14 a0_15 a1_0 a1_1 a2 l3 = some r) :
    Calls Try.prog 34 #[.agg #[.int .u8 a0_0, .int .u8 a0_1, .int .u8 a0_2, .int .u8 a0_3, .int .u8 a0_4, .int .u8 a0_5, .int .u8 a0_6, .int .u8 a0_7, .int .u8 a0_8, .int .u8 a0_9, .int .u8 a0_10, .int .u8 a0_11, .int .u8 a0_12, .int .u8 a0_13, .int .u8 a0_14, .int .u8 a0_15], .agg #[.int .u32 a1_0, .int .u32 a1_1], .int .u32 a2, .slice A3 l3.length c3] w fun e w' => ∃ v0_ : Value, e = .returned (v0_) ∧ Kd.R (Kd.int .u8) 5 w' w.heap.size (fun _ => True) v0_ r ∧ Below w.heap.size w w' := by
  unfold xtea_From.f at h
  split at h
  case isFalse => cases h
  case isTrue hg =>
  obtain ⟨hk, ha, hb, hc, hl⟩ := hg
  injection h with h
  subst h
  exact xtea_From.walk a0_0 a0_1 a0_2 a0_3 a0_4 a0_5 a0_6 a0_7 a0_8 a0_9 a0_10 a0_11 a0_12 a0_13 a0_14 a0_15 a1_0 a1_1 a2 A3 c3 l3 w ⟨hk _ (by simp)⟩ ⟨hk _ (by simp)⟩ ⟨hk _ (by simp)⟩ ⟨hk _ (by simp)⟩ ⟨hk _ (by simp)⟩ ⟨hk _ (by simp)⟩ ⟨hk _ (by simp)⟩ ⟨hk _ (by simp)⟩ ⟨hk _ (by simp)⟩ ⟨hk _ (by simp)⟩ ⟨hk _ (by simp)⟩ ⟨hk _ (by simp)⟩ ⟨hk _ (by simp)⟩ ⟨hk _ (by simp)⟩ ⟨hk _ (by simp)⟩ ⟨hk _ (by simp)⟩ ⟨ha⟩ ⟨hb⟩ ⟨hc⟩ hl hr3 hc3


/-! ### xtea_Stream: function 36 -/
def xtea_Stream.f (a0_0 : Int) (a0_1 : Int) (a0_2 : Int) (a0_3 : Int) (a0_4 : Int) (a0_5 : Int) (a0_6 : Int) (a0_7 : Int) (a0_8 : Int) (a0_9 : Int) (a0_10 : Int) (a0_11 : Int) (a0_12 : Int) (a0_13 : Int) (a0_14 : Int) (a0_15 : Int) (a1_0 : Int) (a1_1 : Int) (l2 : List Int) : Option (List Int) := (xtea_From.f a0_0 a0_1 a0_2 a0_3 a0_4 a0_5 a0_6 a0_7 a0_8 a0_9 a0_10 a0_11 a0_12 a0_13 a0_14 a0_15 a1_0 a1_1 0 l2).bind fun t108 => (some t108)
set_option maxHeartbeats 8000000 in
set_option maxRecDepth 100000 in
theorem xtea_Stream.calls (a0_0 : Int) (a0_1 : Int) (a0_2 : Int) (a0_3 : Int) (a0_4 : Int) (a0_5 : Int) (a0_6 : Int) (a0_7 : Int) (a0_8 : Int) (a0_9 : Int) (a0_10 : Int) (a0_11 : Int) (a0_12 : Int) (a0_13 : Int) (a0_14 : Int) (a0_15 : Int) (a1_0 : Int) (a1_1 : Int) (A2 : Option Addr) (c2 : Nat) (l2 : List Int) (r : List Int) (w : World) (hr2 : Kd.C (Kd.int .u8) w A2 l2.length l2) (hc2 : l2.length ≤ c2) (h : xtea_Stream.f a0_0 a0_1 a0_2 a0_3 a0_4 a0_5 a0_6 a0_7 a0_8 a0_9 a0_10 a0_11 a0_12 a0_13 a0_14 a0_15 a1_0 a1_1 l2 = some r) :
    Calls Try.prog 36 #[.agg #[.int .u8 a0_0, .int .u8 a0_1, .int .u8 a0_2, .int .u8 a0_3, .int .u8 a0_4, .int .u8 a0_5, .int .u8 a0_6, .int .u8 a0_7, .int .u8 a0_8, .int .u8 a0_9, .int .u8 a0_10, .int .u8 a0_11, .int .u8 a0_12, .int .u8 a0_13, .int .u8 a0_14, .int .u8 a0_15], .agg #[.int .u32 a1_0, .int .u32 a1_1], .slice A2 l2.length c2] w fun e w' => ∃ v0_ : Value, e = .returned (v0_) ∧ Kd.R (Kd.int .u8) 5 w' w.heap.size (fun _ => True) v0_ r ∧ Below w.heap.size w w' := by
  have hu44 := Try.underlying44
  have hu47 := Try.underlying47
  have HR2 := Aside0.mk hr2
  have HC2 := Aside0.mk hc2
  clear hr2 hc2
  have HB := Aside0.mk (Below.refl w.heap.size w)
  have H : ((xtea_From.f a0_0 a0_1 a0_2 a0_3 a0_4 a0_5 a0_6 a0_7 a0_8 a0_9 a0_10 a0_11 a0_12 a0_13 a0_14 a0_15 a1_0 a1_1 0 l2).bind fun t108 => (some t108)) = some r := h
  clear h
  replace H := Option.bind_eq_some_iff.mp H
  obtain ⟨t108, A40, H⟩ := H
  replace H : (some t108) = some r := H
  have A4 := Aside0.mk A40
  clear A40
  obtain rfl := Option.some.inj H
  go_enter Try.func36, Try.ntmps36
  go_wp2_with (first | ((with_reducible refine gate_dst (N := 3) rfl ?_); refine box_event ?hg (N := 3) ?hd (cs := #[.int .u8 a0_0, .int .u8 a0_1, .int .u8 a0_2, .int .u8 a0_3, .int .u8 a0_4, .int .u8 a0_5, .int .u8 a0_6, .int .u8 a0_7, .int .u8 a0_8, .int .u8 a0_9, .int .u8 a0_10, .int .u8 a0_11, .int .u8 a0_12, .int .u8 a0_13, .int .u8 a0_14, .int .u8 a0_15]) (t := 44) ?hr ?_; (case hd => rfl); (case hg => rfl); (case hr => first | (go_simp; done) | (go_simp; rfl)); intro gb106 hg w5 hbox hb; have n0_ := Aside0.mk (below_step (by repeat (first | (with_reducible first | exact HB.out | apply below_alloc | apply pw_below_drewN | apply below_drew1) | exact HB.out)) hb); have n1_ := Aside0.mk (hbox); have n2_ := Aside0.mk ((by rw [hg]; exact (below_size (by repeat (first | (with_reducible first | exact HB.out | apply below_alloc | apply pw_below_drewN | apply below_drew1) | exact HB.out))) : w.heap.size ≤ gb106)); have n3_ := Aside0.mk ((by rw [hg]; exact (below_size (by repeat (first | (with_reducible first | exact HB.out | apply below_alloc | apply pw_below_drewN | apply below_drew1) | exact HB.out))) : w.heap.size ≤ gb106)); clear HB; have HB := n0_; have BK106 := n1_; have GW106 := n2_; have GE106 := n3_; clear n0_ n1_ n2_ n3_; clear hb hbox hg) | ((with_reducible refine gate_dst (N := 4) rfl ?_); refine box_event ?hg (N := 4) ?hd (cs := #[.int .u32 a1_0, .int .u32 a1_1]) (t := 47) ?hr ?_; (case hd => rfl); (case hg => rfl); (case hr => first | (go_simp; done) | (go_simp; rfl)); intro gb107 hg w6 hbox hb; have n0_ := Aside0.mk (blk_below (g := gb106) (o := .cells #[.int .u8 a0_0, .int .u8 a0_1, .int .u8 a0_2, .int .u8 a0_3, .int .u8 a0_4, .int .u8 a0_5, .int .u8 a0_6, .int .u8 a0_7, .int .u8 a0_8, .int .u8 a0_9, .int .u8 a0_10, .int .u8 a0_11, .int .u8 a0_12, .int .u8 a0_13, .int .u8 a0_14, .int .u8 a0_15] 44 (0, 0)) (by (with_reducible repeat (first | refine blk_drewN ?_ _ | refine blk_drew ?_ | refine blk_alloc ?_ _)); exact BK106.out) hb); have n1_ := Aside0.mk (below_step (by repeat (first | (with_reducible first | exact HB.out | apply below_alloc | apply pw_below_drewN | apply below_drew1 | refine below_set ?_ GE106.out) | exact HB.out)) hb); have n2_ := Aside0.mk (hbox); have n3_ := Aside0.mk ((by rw [hg]; exact (below_size (by repeat (first | (with_reducible first | exact HB.out | apply below_alloc | apply pw_below_drewN | apply below_drew1 | refine below_set ?_ GE106.out) | exact HB.out))) : w.heap.size ≤ gb107)); have n4_ := Aside0.mk ((by rw [hg]; exact (below_size (by repeat (first | (with_reducible first | exact HB.out | apply below_alloc | apply pw_below_drewN | apply below_drew1 | refine below_set ?_ GE106.out) | exact HB.out))) : w.heap.size ≤ gb107)); have n5_ := Aside0.mk ((by rw [hg]; exact Nat.ne_of_lt (blk_lt (g := gb106) (o := .cells #[.int .u8 a0_0, .int .u8 a0_1, .int .u8 a0_2, .int .u8 a0_3, .int .u8 a0_4, .int .u8 a0_5, .int .u8 a0_6, .int .u8 a0_7, .int .u8 a0_8, .int .u8 a0_9, .int .u8 a0_10, .int .u8 a0_11, .int .u8 a0_12, .int .u8 a0_13, .int .u8 a0_14, .int .u8 a0_15] 44 (0, 0)) (by (with_reducible repeat (first | refine blk_drewN ?_ _ | refine blk_drew ?_ | refine blk_alloc ?_ _)); exact BK106.out)) : gb106 ≠ gb107)); have n6_ := Aside0.mk ((by rw [hg]; exact Nat.ne_of_gt (blk_lt (g := gb106) (o := .cells #[.int .u8 a0_0, .int .u8 a0_1, .int .u8 a0_2, .int .u8 a0_3, .int .u8 a0_4, .int .u8 a0_5, .int .u8 a0_6, .int .u8 a0_7, .int .u8 a0_8, .int .u8 a0_9, .int .u8 a0_10, .int .u8 a0_11, .int .u8 a0_12, .int .u8 a0_13, .int .u8 a0_14, .int .u8 a0_15] 44 (0, 0)) (by (with_reducible repeat (first | refine blk_drewN ?_ _ | refine blk_drew ?_ | refine blk_alloc ?_ _)); exact BK106.out)) : gb107 ≠ gb106)); clear BK106; clear HB; have BK106 := n0_; have HB := n1_; have BK107 := n2_; have GW107 := n3_; have GE107 := n4_; have NB106_107 := n5_; have NB107_106 := n6_; clear n0_ n1_ n2_ n3_ n4_ n5_ n6_; clear hb hbox hg; have hnb7 := NB106_107.out; have hnc7 := NB107_106.out; have hcz8_0 : w6.cell? ⟨gb106, 0, none⟩ = some (.int .u8 a0_0) := (blk_cell BK106.out 0).trans rfl; have hcz8_1 : w6.cell? ⟨gb106, 1, none⟩ = some (.int .u8 a0_1) := (blk_cell BK106.out 1).trans rfl; have hcz8_2 : w6.cell? ⟨gb106, 2, none⟩ = some (.int .u8 a0_2) := (blk_cell BK106.out 2).trans rfl; have hcz8_3 : w6.cell? ⟨gb106, 3, none⟩ = some (.int .u8 a0_3) := (blk_cell BK106.out 3).trans rfl; have hcz8_4 : w6.cell? ⟨gb106, 4, none⟩ = some (.int .u8 a0_4) := (blk_cell BK106.out 4).trans rfl; have hcz8_5 : w6.cell? ⟨gb106, 5, none⟩ = some (.int .u8 a0_5) := (blk_cell BK106.out 5).trans rfl; have hcz8_6 : w6.cell? ⟨gb106, 6, none⟩ = some (.int .u8 a0_6) := (blk_cell BK106.out 6).trans rfl; have hcz8_7 : w6.cell? ⟨gb106, 7, none⟩ = some (.int .u8 a0_7) := (blk_cell BK106.out 7).trans rfl; have hcz8_8 : w6.cell? ⟨gb106, 8, none⟩ = some (.int .u8 a0_8) := (blk_cell BK106.out 8).trans rfl; have hcz8_9 : w6.cell? ⟨gb106, 9, none⟩ = some (.int .u8 a0_9) := (blk_cell BK106.out 9).trans rfl; have hcz8_10 : w6.cell? ⟨gb106, 10, none⟩ = some (.int .u8 a0_10) := (blk_cell BK106.out 10).trans rfl; have hcz8_11 : w6.cell? ⟨gb106, 11, none⟩ = some (.int .u8 a0_11) := (blk_cell BK106.out 11).trans rfl; have hcz8_12 : w6.cell? ⟨gb106, 12, none⟩ = some (.int .u8 a0_12) := (blk_cell BK106.out 12).trans rfl; have hcz8_13 : w6.cell? ⟨gb106, 13, none⟩ = some (.int .u8 a0_13) := (blk_cell BK106.out 13).trans rfl; have hcz8_14 : w6.cell? ⟨gb106, 14, none⟩ = some (.int .u8 a0_14) := (blk_cell BK106.out 14).trans rfl; have hcz8_15 : w6.cell? ⟨gb106, 15, none⟩ = some (.int .u8 a0_15) := (blk_cell BK106.out 15).trans rfl; have hfz8_0 := blk_frozen BK106.out 0; have hfz8_1 := blk_frozen BK106.out 1; have hfz8_2 := blk_frozen BK106.out 2; have hfz8_3 := blk_frozen BK106.out 3; have hfz8_4 := blk_frozen BK106.out 4; have hfz8_5 := blk_frozen BK106.out 5; have hfz8_6 := blk_frozen BK106.out 6; have hfz8_7 := blk_frozen BK106.out 7; have hfz8_8 := blk_frozen BK106.out 8; have hfz8_9 := blk_frozen BK106.out 9; have hfz8_10 := blk_frozen BK106.out 10; have hfz8_11 := blk_frozen BK106.out 11; have hfz8_12 := blk_frozen BK106.out 12; have hfz8_13 := blk_frozen BK106.out 13; have hfz8_14 := blk_frozen BK106.out 14; have hfz8_15 := blk_frozen BK106.out 15; have hcz9_0 : w6.cell? ⟨gb107, 0, none⟩ = some (.int .u32 a1_0) := (blk_cell BK107.out 0).trans rfl; have hcz9_1 : w6.cell? ⟨gb107, 1, none⟩ = some (.int .u32 a1_1) := (blk_cell BK107.out 1).trans rfl; have hfz9_0 := blk_frozen BK107.out 0; have hfz9_1 := blk_frozen BK107.out 1) | ((with_reducible refine gate_callee (f := 34) rfl ?_); refine goesL_ (some 10) rfl rfl Try.func34 (by kernel_rfl) rfl #[.agg #[.int .u8 a0_0, .int .u8 a0_1, .int .u8 a0_2, .int .u8 a0_3, .int .u8 a0_4, .int .u8 a0_5, .int .u8 a0_6, .int .u8 a0_7, .int .u8 a0_8, .int .u8 a0_9, .int .u8 a0_10, .int .u8 a0_11, .int .u8 a0_12, .int .u8 a0_13, .int .u8 a0_14, .int .u8 a0_15], .agg #[.int .u32 a1_0, .int .u32 a1_1], .int .u32 0, .slice A2 l2.length c2] rfl (by (try simp only [List.map_toArray, List.map_cons, List.map_nil]); first | done | rfl | (simp only [List.length_drop, List.length_take]; rfl)) ?_; (with_reducible refine (xtea_From.calls a0_0 a0_1 a0_2 a0_3 a0_4 a0_5 a0_6 a0_7 a0_8 a0_9 a0_10 a0_11 a0_12 a0_13 a0_14 a0_15 a1_0 a1_1 0 _ _ l2 t108 _ ?side1 ?side2 A4.out).mono ?_); (case side1 => repeat (first | exact (Kd.C_below HR2.out HB.out) | (with_reducible refine Kd.C_alloc ?_ _) | (with_reducible refine Kd.C_drewN ?_ _) | (with_reducible refine Kd.C_drew ?_))); (case side2 => exact HC2.out); rintro e w10 ⟨v109, rfl, ho0, hb⟩; refine ⟨_, rfl, ?_⟩; have n0_ := Aside0.mk (Kd.R_lower ho0 (below_size (by repeat (first | (with_reducible first | exact HB.out | apply below_alloc | apply pw_below_drewN | apply below_drew1 | refine below_set ?_ GE106.out | refine below_set ?_ GE107.out) | exact HB.out)))); have n1_ := Aside0.mk (blk_below (g := gb106) (o := .cells #[.int .u8 a0_0, .int .u8 a0_1, .int .u8 a0_2, .int .u8 a0_3, .int .u8 a0_4, .int .u8 a0_5, .int .u8 a0_6, .int .u8 a0_7, .int .u8 a0_8, .int .u8 a0_9, .int .u8 a0_10, .int .u8 a0_11, .int .u8 a0_12, .int .u8 a0_13, .int .u8 a0_14, .int .u8 a0_15] 44 (0, 0)) (by (with_reducible repeat (first | refine blk_drewN ?_ _ | refine blk_drew ?_ | refine blk_alloc ?_ _)); exact BK106.out) hb); have n2_ := Aside0.mk (blk_below (g := gb107) (o := .cells #[.int .u32 a1_0, .int .u32 a1_1] 47 (0, 0)) (by (with_reducible repeat (first | refine blk_drewN ?_ _ | refine blk_drew ?_ | refine blk_alloc ?_ _)); exact BK107.out) hb); have n3_ := Aside0.mk (below_step (by repeat (first | (with_reducible first | exact HB.out | apply below_alloc | apply pw_below_drewN | apply below_drew1 | refine below_set ?_ GE106.out | refine below_set ?_ GE107.out) | exact HB.out)) hb); clear BK106; clear BK107; clear HB; have HO110 := n0_; have BK106 := n1_; have BK107 := n2_; have HB := n3_; clear n0_ n1_ n2_ n3_; (try clear hb); (try clear hb2); (try clear hk); (try clear hi); (try clear ho0)))
  go_ret
  exact ⟨_, by first | rfl | (simp [errW_none, errW_some] <;> rfl) | (simp [*, errW_none, errW_some] <;> rfl), by (with_reducible repeat (first | apply Kd.R_alloc | apply Kd.R_drewN | apply Kd.R_drew)); exact HO110.out, by repeat (first | (with_reducible first | exact HB.out | apply below_alloc | apply pw_below_drewN | apply below_drew1 | refine below_set ?_ GE106.out | refine below_set ?_ GE107.out) | exact HB.out)⟩

/-! ### carapaceref02_mix: function 50 -/
def carapaceref02_mix.f (a0 : Int) (a1 : Int) (a2 : Int) : Option (Int) := some (Go.bits .xor .u32 (((Go.bits .xor .u32 ((a0 * 16) % 4294967296) ((Int.tdiv a0 32) % 4294967296)) + a0) % 4294967296) ((a1 + a2) % 4294967296))
set_option maxHeartbeats 8000000 in
set_option maxRecDepth 100000 in
theorem carapaceref02_mix.calls (a0 : Int) (a1 : Int) (a2 : Int) (r : Int) (w : World) (h : carapaceref02_mix.f a0 a1 a2 = some r) :
    Calls Try.prog 50 #[.int .u32 a0, .int .u32 a1, .int .u32 a2] w fun e w' => e = .returned (.int .u32 r) ∧ Drawn0 w w' := by
  have H : (some (Go.bits .xor .u32 (((Go.bits .xor .u32 ((a0 * 16) % 4294967296) ((Int.tdiv a0 32) % 4294967296)) + a0) % 4294967296) ((a1 + a2) % 4294967296))) = some r := h
  clear h
  obtain rfl := Option.some.inj H
  go_enter Try.func50, Try.ntmps50
  go_wp2
  go_ret
  exact ⟨by first | rfl | (simp; done) | (simp [*]; done), by repeat (first | exact Drawn0.refl _ | apply Drawn0.step)⟩

-- NOT PRINTED: function 51 (carapaceref02_word)

end Go.Proofs.Ytmibdlapjddfoaa.QXtea
