-- Text written by a program of this session (wip/tools).
import Derived.Test.YtaaealngifkaeaaQAlux0
import Derived.Test.YtaaealngifkaeaaQAlux1
namespace Go.Proofs.Ytaaealngifkaeaa.QAlu
open Go.RowKit Go.Proofs.YtaaealngifkaeaaW.PrintWords Go.Proofs.YtaaealngifkaeaaW.PrintLast Go.Proofs.YtaaealngifkaeaaW.PrintMore
attribute [local go_sem] max2_int min2_int max_two min_two max_three min_three max_four min_four   -- for this text's walks alone
set_option linter.unusedVariables false
set_option linter.unusedSimpArgs false

/-! ### carapaceref10_Alu: function 17 -/
def carapaceref10_Alu.j0 : Nat → Int → Int → Int → Bool → Option (Int × Bool)
  | 0, _, _, _, _ => none
  | k + 1, x1, x2, x8, x9 => if x9 = true then (some ((x1 + x2) % 4294967296, true)) else (if x8 = 4 then (some ((x1 - x2) % 4294967296, true)) else (if x8 = 5 then (some ((x1 * x2) % 4294967296, true)) else (if x8 = 6 then ((carapaceref10_bits.f k x1 x2 false true).bind fun t113 => (some (t113, true))) else (if x8 = 7 then ((carapaceref10_bits.f k x1 x2 true true).bind fun t114 => (some (t114, true))) else (if x8 = 8 then ((carapaceref10_bits.f k x1 x2 true false).bind fun t115 => (some (t115, true))) else (if x8 = 9 then ((carapaceref10_power.f k (Int.tmod x2 32)).bind fun t116 => (some ((x1 * t116) % 4294967296, true))) else (if x8 = 10 then ((carapaceref10_power.f k (Int.tmod x2 32)).bind fun t117 => (if t117 = 0 then (none) else (some ((Int.tdiv x1 t117) % 4294967296, true)))) else (some (0, false)))))))))
def carapaceref10_Alu.f (k : Nat) (a0 : Int) (a1 : Int) (a2 : Int) : Option (Int × Bool) := if a0 = 3 then (carapaceref10_Alu.j0 k a1 a2 a0 (a0 == 3)) else (carapaceref10_Alu.j0 k a1 a2 a0 (a0 == 11))
theorem carapaceref10_Alu.mono_l : ∀ k, (∀ y0 y1 y2 y3, LeO (carapaceref10_Alu.j0 k y0 y1 y2 y3) (carapaceref10_Alu.j0 (k + 1) y0 y1 y2 y3))
  | 0 => fun _ _ _ _ r h => by simp [carapaceref10_Alu.j0] at h
  | k + 1 => by
    have ih0 := carapaceref10_Alu.mono_l k
    · intro y0 y1 y2 y3
      unfold carapaceref10_Alu.j0
      repeat' first
      | (with_reducible exact ih0 _ _ _ _)
      | (with_reducible exact carapaceref10_bits.mono _ _ _ _ _)
      | (with_reducible exact carapaceref10_power.mono _ _)
      | (with_reducible exact LeO.refl _)
      | (with_reducible exact LeO.none _)
      | (with_reducible refine LeO.ite ?_ ?_)
      | (with_reducible refine LeO.bind ?_ (fun _ => ?_))
      | exact ih0 _ _ _ _
      | exact carapaceref10_bits.mono _ _ _ _ _
      | exact carapaceref10_power.mono _ _
      | exact LeO.none _
      | refine LeO.ite ?_ ?_
      | refine LeO.bind ?_ (fun _ => ?_)
theorem carapaceref10_Alu.mono : ∀ a0 a1 a2 k, LeO (carapaceref10_Alu.f k a0 a1 a2) (carapaceref10_Alu.f (k + 1) a0 a1 a2) := by
  intro a0 a1 a2 k
  have ih0 := carapaceref10_Alu.mono_l k
  unfold carapaceref10_Alu.f
  repeat' first
      | (with_reducible exact ih0 _ _ _ _)
      | (with_reducible exact carapaceref10_bits.mono _ _ _ _ _)
      | (with_reducible exact carapaceref10_power.mono _ _)
      | (with_reducible exact LeO.refl _)
      | (with_reducible exact LeO.none _)
      | (with_reducible refine LeO.ite ?_ ?_)
      | (with_reducible refine LeO.bind ?_ (fun _ => ?_))
      | exact ih0 _ _ _ _
      | exact carapaceref10_bits.mono _ _ _ _ _
      | exact carapaceref10_power.mono _ _
      | exact LeO.none _
      | refine LeO.ite ?_ ?_
      | refine LeO.bind ?_ (fun _ => ?_)
set_option maxHeartbeats 8000000 in
set_option maxRecDepth 100000 in
theorem carapaceref10_Alu.calls (k : Nat) (a0 : Int) (a1 : Int) (a2 : Int) (r1 : Int) (r2 : Bool) (w : World) (h : carapaceref10_Alu.f k a0 a1 a2 = some (r1, r2)) :
    Calls Try.prog 17 #[.int .i64 a0, .int .u32 a1, .int .u32 a2] w fun e w' => e = .returned (.tuple #[.int .u32 r1, .bool r2]) ∧ Drawn0 w w' := by
  have H : (if a0 = 3 then (carapaceref10_Alu.j0 k a1 a2 a0 (a0 == 3)) else (carapaceref10_Alu.j0 k a1 a2 a0 (a0 == 11))) = some (r1, r2) := h
  clear h
  have HC4 := Aside0.mk H
  clear H
  go_enter Try.func17, Try.ntmps17
  go_upto_if 9 with (fail)
  go_cut [9] (fun v9 wc => ∃ (kq : Nat) (x9_3 : Bool), v9 = .bool x9_3 ∧ Aside0 (carapaceref10_Alu.j0 kq a1 a2 a0 x9_3 = some (r1, r2)) ∧ Aside0 (kq ≤ k) ∧ Drawn0 w wc)
  case first =>
    have H := HC4.out
    clear HC4
    by_cases c5 : a0 = 3
    · rw [if_pos c5] at H
      have c5b0 : (a0 == 3) = true := beq_iff_eq.mpr c5
      have c5b1 : (a0 != 3) = false := bne_eq_false_iff_eq.mpr c5
      clear c5
      (first | rw [c5b0] | (simp only [i64_w, i32_w]; rw [c5b0]) | skip)
      have H' := Aside0.mk H
      clear H
      go_wp2
      go_meet
      case rel => exact ⟨_, ((a0 == 3)), (by first | rfl | (simp; done) | (simp [*]; done)), H', ⟨by first | omega | exact Nat.le_refl _⟩, by repeat (first | exact Drawn0.refl _ | apply Drawn0.step)⟩
    · rw [if_neg c5] at H
      have c5b0 : (a0 == 3) = false := beq_eq_false_iff_ne.mpr c5
      have c5b1 : (a0 != 3) = true := bne_iff_ne.mpr c5
      (first | rw [c5b0] | (simp only [i64_w, i32_w]; rw [c5b0]) | skip)
      have H' := Aside0.mk H
      clear H
      go_wp2
      go_meet
      case rel => exact ⟨_, ((a0 == 11)), (by first | rfl | (simp; done) | (simp [*]; done)), H', ⟨by first | omega | exact Nat.le_refl _⟩, by repeat (first | exact Drawn0.refl _ | apply Drawn0.step)⟩
  case rest =>
    clear HC4
    try clear c1
    try clear p2
    try clear c5
    try clear c5b0
    try clear c5b1
    obtain ⟨kq, x9_3, rfl, HA, HJ3, ⟨mc3, rfl⟩⟩ := hcut
    cases kq with
    | zero => exact absurd HA.out (by simp [carapaceref10_Alu.j0])
    | succ kj3 =>
      have H := HA.out
      clear HA
      simp only [carapaceref10_Alu.j0] at H
      by_cases c6 : x9_3 = true
      · subst c6
        have H1 : (some ((a1 + a2) % 4294967296, true)) = some (r1, r2) := by rw [if_pos rfl] at H; exact H
        clear H
        have H := H1
        clear H1
        simp only [Option.some.injEq, Prod.mk.injEq] at H
        obtain ⟨rfl, rfl⟩ := H
        go_wp2
        go_ret2
        exact ⟨by first | rfl | (simp; done) | (simp [*]; done), by repeat (first | exact Drawn0.refl _ | apply Drawn0.step)⟩
      · replace c6 := Bool.eq_false_iff.mpr c6
        subst c6
        have H1 : (if a0 = 4 then (some ((a1 - a2) % 4294967296, true)) else (if a0 = 5 then (some ((a1 * a2) % 4294967296, true)) else (if a0 = 6 then ((carapaceref10_bits.f kj3 a1 a2 false true).bind fun t113 => (some (t113, true))) else (if a0 = 7 then ((carapaceref10_bits.f kj3 a1 a2 true true).bind fun t114 => (some (t114, true))) else (if a0 = 8 then ((carapaceref10_bits.f kj3 a1 a2 true false).bind fun t115 => (some (t115, true))) else (if a0 = 9 then ((carapaceref10_power.f kj3 (Int.tmod a2 32)).bind fun t116 => (some ((a1 * t116) % 4294967296, true))) else (if a0 = 10 then ((carapaceref10_power.f kj3 (Int.tmod a2 32)).bind fun t117 => (if t117 = 0 then (none) else (some ((Int.tdiv a1 t117) % 4294967296, true)))) else (some (0, false))))))))) = some (r1, r2) := by rw [if_neg (show ¬ (false = true) by decide)] at H; exact H
        clear H
        have H := H1
        clear H1
        by_cases c7 : a0 = 4
        · rw [if_pos c7] at H
          have c7b0 : (a0 == 4) = true := beq_iff_eq.mpr c7
          have c7b1 : (a0 != 4) = false := bne_eq_false_iff_eq.mpr c7
          clear c7
          simp only [Option.some.injEq, Prod.mk.injEq] at H
          obtain ⟨rfl, rfl⟩ := H
          go_wp2
          go_ret2
          exact ⟨by first | rfl | (simp; done) | (simp [*]; done), by repeat (first | exact Drawn0.refl _ | apply Drawn0.step)⟩
        · rw [if_neg c7] at H
          have c7b0 : (a0 == 4) = false := beq_eq_false_iff_ne.mpr c7
          have c7b1 : (a0 != 4) = true := bne_iff_ne.mpr c7
          by_cases c8 : a0 = 5
          · rw [if_pos c8] at H
            have c8b0 : (a0 == 5) = true := beq_iff_eq.mpr c8
            have c8b1 : (a0 != 5) = false := bne_eq_false_iff_eq.mpr c8
            clear c8
            simp only [Option.some.injEq, Prod.mk.injEq] at H
            obtain ⟨rfl, rfl⟩ := H
            go_wp2
            go_ret2
            exact ⟨by first | rfl | (simp; done) | (simp [*]; done), by repeat (first | exact Drawn0.refl _ | apply Drawn0.step)⟩
          · rw [if_neg c8] at H
            have c8b0 : (a0 == 5) = false := beq_eq_false_iff_ne.mpr c8
            have c8b1 : (a0 != 5) = true := bne_iff_ne.mpr c8
            by_cases c9 : a0 = 6
            · rw [if_pos c9] at H
              have c9b0 : (a0 == 6) = true := beq_iff_eq.mpr c9
              have c9b1 : (a0 != 6) = false := bne_eq_false_iff_eq.mpr c9
              clear c9
              replace H := Option.bind_eq_some_iff.mp H
              obtain ⟨t113, A100, H⟩ := H
              replace H : (some (t113, true)) = some (r1, r2) := H
              have A10 := Aside0.mk A100
              clear A100
              simp only [Option.some.injEq, Prod.mk.injEq] at H
              obtain ⟨rfl, rfl⟩ := H
              go_wp2_with (first | ((with_reducible refine gate_callee (f := 57) rfl ?_); refine goesL_ (some 29) rfl rfl Try.func57 (by kernel_rfl) rfl #[.int .u32 a1, .int .u32 a2, .bool false, .bool true] rfl (by (try simp only [List.map_toArray, List.map_cons, List.map_nil]); first | done | rfl | (simp only [List.length_drop, List.length_take]; rfl)) ?_; (with_reducible refine (carapaceref10_bits.calls kj3 a1 a2 false true t113 _ A10.out).mono ?_); rintro e w' ⟨rfl, ⟨nd, rfl⟩⟩; refine ⟨_, rfl, ?_⟩))
              go_ret2
              exact ⟨by first | rfl | (simp; done) | (simp [*]; done), by repeat (first | exact Drawn0.refl _ | apply Drawn0.step)⟩
            · rw [if_neg c9] at H
              have c9b0 : (a0 == 6) = false := beq_eq_false_iff_ne.mpr c9
              have c9b1 : (a0 != 6) = true := bne_iff_ne.mpr c9
              by_cases c11 : a0 = 7
              · rw [if_pos c11] at H
                have c11b0 : (a0 == 7) = true := beq_iff_eq.mpr c11
                have c11b1 : (a0 != 7) = false := bne_eq_false_iff_eq.mpr c11
                clear c11
                replace H := Option.bind_eq_some_iff.mp H
                obtain ⟨t114, A120, H⟩ := H
                replace H : (some (t114, true)) = some (r1, r2) := H
                have A12 := Aside0.mk A120
                clear A120
                simp only [Option.some.injEq, Prod.mk.injEq] at H
                obtain ⟨rfl, rfl⟩ := H
                go_wp2_with (first | ((with_reducible refine gate_callee (f := 57) rfl ?_); refine goesL_ (some 34) rfl rfl Try.func57 (by kernel_rfl) rfl #[.int .u32 a1, .int .u32 a2, .bool true, .bool true] rfl (by (try simp only [List.map_toArray, List.map_cons, List.map_nil]); first | done | rfl | (simp only [List.length_drop, List.length_take]; rfl)) ?_; (with_reducible refine (carapaceref10_bits.calls kj3 a1 a2 true true t114 _ A12.out).mono ?_); rintro e w' ⟨rfl, ⟨nd, rfl⟩⟩; refine ⟨_, rfl, ?_⟩))
                go_ret2
                exact ⟨by first | rfl | (simp; done) | (simp [*]; done), by repeat (first | exact Drawn0.refl _ | apply Drawn0.step)⟩
              · rw [if_neg c11] at H
                have c11b0 : (a0 == 7) = false := beq_eq_false_iff_ne.mpr c11
                have c11b1 : (a0 != 7) = true := bne_iff_ne.mpr c11
                by_cases c13 : a0 = 8
                · rw [if_pos c13] at H
                  have c13b0 : (a0 == 8) = true := beq_iff_eq.mpr c13
                  have c13b1 : (a0 != 8) = false := bne_eq_false_iff_eq.mpr c13
                  clear c13
                  replace H := Option.bind_eq_some_iff.mp H
                  obtain ⟨t115, A140, H⟩ := H
                  replace H : (some (t115, true)) = some (r1, r2) := H
                  have A14 := Aside0.mk A140
                  clear A140
                  simp only [Option.some.injEq, Prod.mk.injEq] at H
                  obtain ⟨rfl, rfl⟩ := H
                  go_wp2_with (first | ((with_reducible refine gate_callee (f := 57) rfl ?_); refine goesL_ (some 39) rfl rfl Try.func57 (by kernel_rfl) rfl #[.int .u32 a1, .int .u32 a2, .bool true, .bool false] rfl (by (try simp only [List.map_toArray, List.map_cons, List.map_nil]); first | done | rfl | (simp only [List.length_drop, List.length_take]; rfl)) ?_; (with_reducible refine (carapaceref10_bits.calls kj3 a1 a2 true false t115 _ A14.out).mono ?_); rintro e w' ⟨rfl, ⟨nd, rfl⟩⟩; refine ⟨_, rfl, ?_⟩))
                  go_ret2
                  exact ⟨by first | rfl | (simp; done) | (simp [*]; done), by repeat (first | exact Drawn0.refl _ | apply Drawn0.step)⟩
                · rw [if_neg c13] at H
                  have c13b0 : (a0 == 8) = false := beq_eq_false_iff_ne.mpr c13
                  have c13b1 : (a0 != 8) = true := bne_iff_ne.mpr c13
                  by_cases c15 : a0 = 9
                  · rw [if_pos c15] at H
                    have c15b0 : (a0 == 9) = true := beq_iff_eq.mpr c15
                    have c15b1 : (a0 != 9) = false := bne_eq_false_iff_eq.mpr c15
                    clear c15
                    replace H := Option.bind_eq_some_iff.mp H
                    obtain ⟨t116, A160, H⟩ := H
                    replace H : (some ((a1 * t116) % 4294967296, true)) = some (r1, r2) := H
                    have A16 := Aside0.mk A160
                    clear A160
                    simp only [Option.some.injEq, Prod.mk.injEq] at H
                    obtain ⟨rfl, rfl⟩ := H
                    go_wp2_with (first | ((with_reducible refine gate_callee (f := 58) rfl ?_); refine goesL_ (some 45) rfl rfl Try.func58 (by kernel_rfl) rfl #[.int .u32 (Int.tmod a2 32)] rfl (by (try simp only [List.map_toArray, List.map_cons, List.map_nil]); first | done | rfl | (simp only [List.length_drop, List.length_take]; rfl)) ?_; (with_reducible refine (carapaceref10_power.calls kj3 (Int.tmod a2 32) t116 _ A16.out).mono ?_); rintro e w' ⟨rfl, ⟨nd, rfl⟩⟩; refine ⟨_, rfl, ?_⟩))
                    go_ret2
                    exact ⟨by first | rfl | (simp; done) | (simp [*]; done), by repeat (first | exact Drawn0.refl _ | apply Drawn0.step)⟩
                  · rw [if_neg c15] at H
                    have c15b0 : (a0 == 9) = false := beq_eq_false_iff_ne.mpr c15
                    have c15b1 : (a0 != 9) = true := bne_iff_ne.mpr c15
                    by_cases c17 : a0 = 10
                    · rw [if_pos c17] at H
                      have c17b0 : (a0 == 10) = true := beq_iff_eq.mpr c17
                      have c17b1 : (a0 != 10) = false := bne_eq_false_iff_eq.mpr c17
                      clear c17
                      replace H := Option.bind_eq_some_iff.mp H
                      obtain ⟨t117, A180, H⟩ := H
                      replace H : (if t117 = 0 then (none) else (some ((Int.tdiv a1 t117) % 4294967296, true))) = some (r1, r2) := H
                      have A18 := Aside0.mk A180
                      clear A180
                      by_cases c19 : t117 = 0
                      · rw [if_pos c19] at H
                        exact absurd H (by simp)
                      · rw [if_neg c19] at H
                        have c19b0 : (t117 == 0) = false := beq_eq_false_iff_ne.mpr c19
                        have c19b1 : (t117 != 0) = true := bne_iff_ne.mpr c19
                        simp only [Option.some.injEq, Prod.mk.injEq] at H
                        obtain ⟨rfl, rfl⟩ := H
                        go_wp2_with (first | ((with_reducible refine gate_callee (f := 58) rfl ?_); refine goesL_ (some 52) rfl rfl Try.func58 (by kernel_rfl) rfl #[.int .u32 (Int.tmod a2 32)] rfl (by (try simp only [List.map_toArray, List.map_cons, List.map_nil]); first | done | rfl | (simp only [List.length_drop, List.length_take]; rfl)) ?_; (with_reducible refine (carapaceref10_power.calls kj3 (Int.tmod a2 32) t117 _ A18.out).mono ?_); rintro e w' ⟨rfl, ⟨nd, rfl⟩⟩; refine ⟨_, rfl, ?_⟩))
                        go_ret2
                        exact ⟨by first | rfl | (simp; done) | (simp [*]; done), by repeat (first | exact Drawn0.refl _ | apply Drawn0.step)⟩
                    · rw [if_neg c17] at H
                      have c17b0 : (a0 == 10) = false := beq_eq_false_iff_ne.mpr c17
                      have c17b1 : (a0 != 10) = true := bne_iff_ne.mpr c17
                      simp only [Option.some.injEq, Prod.mk.injEq] at H
                      obtain ⟨rfl, rfl⟩ := H
                      go_wp2
                      go_ret2
                      exact ⟨by first | rfl | (simp; done) | (simp [*]; done), by repeat (first | exact Drawn0.refl _ | apply Drawn0.step)⟩

/-! ### carapaceref10_Taken: function 19 -/
def carapaceref10_Taken.f (a0 : Int) (a1 : Int) (a2 : Int) : Option (Bool × Bool) := if a0 = 16 then (some ((a1 == a2), true)) else (if a0 = 17 then (some ((a1 != a2), true)) else (if a0 = 18 then (some (decide (a1 < a2), true)) else (if a0 = 19 then (some (decide (a1 ≥ a2), true)) else (some (false, false)))))
set_option maxHeartbeats 8000000 in
set_option maxRecDepth 100000 in
theorem carapaceref10_Taken.calls (a0 : Int) (a1 : Int) (a2 : Int) (r1 : Bool) (r2 : Bool) (w : World) (h : carapaceref10_Taken.f a0 a1 a2 = some (r1, r2)) :
    Calls Try.prog 19 #[.int .i64 a0, .int .u32 a1, .int .u32 a2] w fun e w' => e = .returned (.tuple #[.bool r1, .bool r2]) ∧ Drawn0 w w' := by
  have H : (if a0 = 16 then (some ((a1 == a2), true)) else (if a0 = 17 then (some ((a1 != a2), true)) else (if a0 = 18 then (some (decide (a1 < a2), true)) else (if a0 = 19 then (some (decide (a1 ≥ a2), true)) else (some (false, false)))))) = some (r1, r2) := h
  clear h
  by_cases c4 : a0 = 16
  · rw [if_pos c4] at H
    have c4b0 : (a0 == 16) = true := beq_iff_eq.mpr c4
    have c4b1 : (a0 != 16) = false := bne_eq_false_iff_eq.mpr c4
    clear c4
    simp only [Option.some.injEq, Prod.mk.injEq] at H
    obtain ⟨rfl, rfl⟩ := H
    go_enter Try.func19, Try.ntmps19
    go_wp2
    go_ret2
    exact ⟨by first | rfl | (simp; done) | (simp [*]; done), by repeat (first | exact Drawn0.refl _ | apply Drawn0.step)⟩
  · rw [if_neg c4] at H
    have c4b0 : (a0 == 16) = false := beq_eq_false_iff_ne.mpr c4
    have c4b1 : (a0 != 16) = true := bne_iff_ne.mpr c4
    by_cases c5 : a0 = 17
    · rw [if_pos c5] at H
      have c5b0 : (a0 == 17) = true := beq_iff_eq.mpr c5
      have c5b1 : (a0 != 17) = false := bne_eq_false_iff_eq.mpr c5
      clear c5
      simp only [Option.some.injEq, Prod.mk.injEq] at H
      obtain ⟨rfl, rfl⟩ := H
      go_enter Try.func19, Try.ntmps19
      go_wp2
      go_ret2
      exact ⟨by first | rfl | (simp; done) | (simp [*]; done), by repeat (first | exact Drawn0.refl _ | apply Drawn0.step)⟩
    · rw [if_neg c5] at H
      have c5b0 : (a0 == 17) = false := beq_eq_false_iff_ne.mpr c5
      have c5b1 : (a0 != 17) = true := bne_iff_ne.mpr c5
      by_cases c6 : a0 = 18
      · rw [if_pos c6] at H
        have c6b0 : (a0 == 18) = true := beq_iff_eq.mpr c6
        have c6b1 : (a0 != 18) = false := bne_eq_false_iff_eq.mpr c6
        clear c6
        simp only [Option.some.injEq, Prod.mk.injEq] at H
        obtain ⟨rfl, rfl⟩ := H
        go_enter Try.func19, Try.ntmps19
        go_wp2
        go_ret2
        exact ⟨by first | rfl | (simp; done) | (simp [*]; done), by repeat (first | exact Drawn0.refl _ | apply Drawn0.step)⟩
      · rw [if_neg c6] at H
        have c6b0 : (a0 == 18) = false := beq_eq_false_iff_ne.mpr c6
        have c6b1 : (a0 != 18) = true := bne_iff_ne.mpr c6
        by_cases c7 : a0 = 19
        · rw [if_pos c7] at H
          have c7b0 : (a0 == 19) = true := beq_iff_eq.mpr c7
          have c7b1 : (a0 != 19) = false := bne_eq_false_iff_eq.mpr c7
          clear c7
          simp only [Option.some.injEq, Prod.mk.injEq] at H
          obtain ⟨rfl, rfl⟩ := H
          go_enter Try.func19, Try.ntmps19
          go_wp2
          go_ret2
          exact ⟨by first | rfl | (simp; done) | (simp [*]; done), by repeat (first | exact Drawn0.refl _ | apply Drawn0.step)⟩
        · rw [if_neg c7] at H
          have c7b0 : (a0 == 19) = false := beq_eq_false_iff_ne.mpr c7
          have c7b1 : (a0 != 19) = true := bne_iff_ne.mpr c7
          simp only [Option.some.injEq, Prod.mk.injEq] at H
          obtain ⟨rfl, rfl⟩ := H
          go_enter Try.func19, Try.ntmps19
          go_wp2
          go_ret2
          exact ⟨by first | rfl | (simp; done) | (simp [*]; done), by repeat (first | exact Drawn0.refl _ | apply Drawn0.step)⟩

/-! ### carapacelaw10_AluTells: function 3 -/
def carapacelaw10_AluTells.f (k : Nat) (a0 : Int) (a1 : Int) (a2 : Int) : Option (Bool) := (carapacelaw10_awake.f k).bind fun t118 => ((alu_Alu.f a0 a1 a2).bind fun bt119 => ((carapaceref10_Alu.f k a0 a1 a2).bind fun bt121 => ((alu_Taken.f a0 a1 a2).bind fun bt123 => ((carapaceref10_Taken.f a0 a1 a2).bind fun bt125 => (if t118 = true then (if bt119.1 = bt121.1 then (if (bt119.2 == bt121.2) = true then (if (bt123.1 == bt125.1) = true then (some (bt123.2 == bt125.2)) else (some false)) else (some false)) else (some false)) else (some false))))))
theorem carapacelaw10_AluTells.mono : ∀ a0 a1 a2 k, LeO (carapacelaw10_AluTells.f k a0 a1 a2) (carapacelaw10_AluTells.f (k + 1) a0 a1 a2) := by
  intro a0 a1 a2 k
  unfold carapacelaw10_AluTells.f
  repeat' first
      | (with_reducible exact carapacelaw10_awake.mono _)
      | (with_reducible exact carapaceref10_Alu.mono _ _ _ _)
      | (with_reducible exact LeO.refl _)
      | (with_reducible exact LeO.none _)
      | (with_reducible refine LeO.ite ?_ ?_)
      | (with_reducible refine LeO.bind ?_ (fun _ => ?_))
      | exact carapacelaw10_awake.mono _
      | exact carapaceref10_Alu.mono _ _ _ _
      | exact LeO.none _
      | refine LeO.ite ?_ ?_
      | refine LeO.bind ?_ (fun _ => ?_)
set_option maxHeartbeats 8000000 in
set_option maxRecDepth 100000 in
theorem carapacelaw10_AluTells.calls (k : Nat) (a0 : Int) (a1 : Int) (a2 : Int) (r : Bool) (w : World) (h : carapacelaw10_AluTells.f k a0 a1 a2 = some r) :
    Calls Try.prog 3 #[.int .i64 a0, .int .u32 a1, .int .u32 a2] w fun e w' => e = .returned (.bool r) ∧ Below w.heap.size w w' := by
  have HB := Aside0.mk (Below.refl w.heap.size w)
  have H : ((carapacelaw10_awake.f k).bind fun t118 => ((alu_Alu.f a0 a1 a2).bind fun bt119 => ((carapaceref10_Alu.f k a0 a1 a2).bind fun bt121 => ((alu_Taken.f a0 a1 a2).bind fun bt123 => ((carapaceref10_Taken.f a0 a1 a2).bind fun bt125 => (if t118 = true then (if bt119.1 = bt121.1 then (if (bt119.2 == bt121.2) = true then (if (bt123.1 == bt125.1) = true then (some (bt123.2 == bt125.2)) else (some false)) else (some false)) else (some false)) else (some false))))))) = some r := h
  clear h
  replace H := Option.bind_eq_some_iff.mp H
  obtain ⟨t118, A40, H⟩ := H
  replace H : ((alu_Alu.f a0 a1 a2).bind fun bt119 => ((carapaceref10_Alu.f k a0 a1 a2).bind fun bt121 => ((alu_Taken.f a0 a1 a2).bind fun bt123 => ((carapaceref10_Taken.f a0 a1 a2).bind fun bt125 => (if t118 = true then (if bt119.1 = bt121.1 then (if (bt119.2 == bt121.2) = true then (if (bt123.1 == bt125.1) = true then (some (bt123.2 == bt125.2)) else (some false)) else (some false)) else (some false)) else (some false)))))) = some r := H
  have A4 := Aside0.mk A40
  clear A40
  replace H := Option.bind_eq_some_iff.mp H
  obtain ⟨⟨t119, t120⟩, A50, H⟩ := H
  replace H : ((carapaceref10_Alu.f k a0 a1 a2).bind fun bt121 => ((alu_Taken.f a0 a1 a2).bind fun bt123 => ((carapaceref10_Taken.f a0 a1 a2).bind fun bt125 => (if t118 = true then (if t119 = bt121.1 then (if (t120 == bt121.2) = true then (if (bt123.1 == bt125.1) = true then (some (bt123.2 == bt125.2)) else (some false)) else (some false)) else (some false)) else (some false))))) = some r := H
  have A5 := Aside0.mk A50
  clear A50
  replace H := Option.bind_eq_some_iff.mp H
  obtain ⟨⟨t121, t122⟩, A60, H⟩ := H
  replace H : ((alu_Taken.f a0 a1 a2).bind fun bt123 => ((carapaceref10_Taken.f a0 a1 a2).bind fun bt125 => (if t118 = true then (if t119 = t121 then (if (t120 == t122) = true then (if (bt123.1 == bt125.1) = true then (some (bt123.2 == bt125.2)) else (some false)) else (some false)) else (some false)) else (some false)))) = some r := H
  have A6 := Aside0.mk A60
  clear A60
  replace H := Option.bind_eq_some_iff.mp H
  obtain ⟨⟨t123, t124⟩, A70, H⟩ := H
  replace H : ((carapaceref10_Taken.f a0 a1 a2).bind fun bt125 => (if t118 = true then (if t119 = t121 then (if (t120 == t122) = true then (if (t123 == bt125.1) = true then (some (t124 == bt125.2)) else (some false)) else (some false)) else (some false)) else (some false))) = some r := H
  have A7 := Aside0.mk A70
  clear A70
  replace H := Option.bind_eq_some_iff.mp H
  obtain ⟨⟨t125, t126⟩, A80, H⟩ := H
  replace H : (if t118 = true then (if t119 = t121 then (if (t120 == t122) = true then (if (t123 == t125) = true then (some (t124 == t126)) else (some false)) else (some false)) else (some false)) else (some false)) = some r := H
  have A8 := Aside0.mk A80
  clear A80
  by_cases c9 : t118 = true
  · subst c9
    have H1 : (if t119 = t121 then (if (t120 == t122) = true then (if (t123 == t125) = true then (some (t124 == t126)) else (some false)) else (some false)) else (some false)) = some r := by rw [if_pos rfl] at H; exact H
    clear H
    have H := H1
    clear H1
    by_cases c10 : t119 = t121
    · rw [if_pos c10] at H
      have c10b0 : (t119 == t121) = true := beq_iff_eq.mpr c10
      have c10b1 : (t119 != t121) = false := bne_eq_false_iff_eq.mpr c10
      clear c10
      by_cases c11 : (t120 == t122) = true
      · rw [if_pos c11] at H
        have c11b0 : (t120 == t122) = true := c11
        (try (have c11b1 : decide (t120 = t122) = true := by simpa using c11))
        (try (have c11b2 : (t120 == t122) = true := by simpa using c11))
        clear c11
        by_cases c12 : (t123 == t125) = true
        · rw [if_pos c12] at H
          have c12b0 : (t123 == t125) = true := c12
          (try (have c12b1 : decide (t123 = t125) = true := by simpa using c12))
          (try (have c12b2 : (t123 == t125) = true := by simpa using c12))
          clear c12
          obtain rfl := Option.some.inj H
          go_enter Try.func3, Try.ntmps3
          go_wp2_with (first | ((with_reducible refine gate_callee (f := 15) rfl ?_); refine goesL_ (some 16) rfl rfl Try.func15 (by kernel_rfl) rfl #[] rfl (by (try simp only [List.map_toArray, List.map_cons, List.map_nil]); first | done | rfl | (simp only [List.length_drop, List.length_take]; rfl)) ?_; (with_reducible refine (carapacelaw10_awake.calls k  true _ A4.out).mono ?_); rintro e w13 ⟨rfl, hb⟩; refine ⟨_, rfl, ?_⟩; have n0_ := Aside0.mk (below_step (by repeat (first | (with_reducible first | exact HB.out | apply below_alloc | apply pw_below_drewN | apply below_drew1) | exact HB.out)) hb); clear HB; have HB := n0_; clear n0_; (try clear hb); (try clear hb2); (try clear hk); (try clear hi)) | ((with_reducible refine gate_callee (f := 16) rfl ?_); refine goesL_ (some 21) rfl rfl Try.func16 (by kernel_rfl) rfl #[.int .i64 a0, .int .u32 a1, .int .u32 a2] rfl (by (try simp only [List.map_toArray, List.map_cons, List.map_nil]); first | done | rfl | (simp only [List.length_drop, List.length_take]; rfl)) ?_; (with_reducible refine (alu_Alu.calls a0 a1 a2 t119 t120 _ A5.out).mono ?_); rintro e w14 ⟨rfl, hb⟩; refine ⟨_, rfl, ?_⟩; have n0_ := Aside0.mk (below_step (by repeat (first | (with_reducible first | exact HB.out | apply below_alloc | apply pw_below_drewN | apply below_drew1) | exact HB.out)) hb); clear HB; have HB := n0_; clear n0_; (try clear hb); (try clear hb2); (try clear hk); (try clear hi)) | ((with_reducible refine gate_callee (f := 17) rfl ?_); refine goesL_ (some 28) rfl rfl Try.func17 (by kernel_rfl) rfl #[.int .i64 a0, .int .u32 a1, .int .u32 a2] rfl (by (try simp only [List.map_toArray, List.map_cons, List.map_nil]); first | done | rfl | (simp only [List.length_drop, List.length_take]; rfl)) ?_; (with_reducible refine (carapaceref10_Alu.calls k a0 a1 a2 t121 t122 _ A6.out).mono ?_); rintro e w' ⟨rfl, ⟨nd, rfl⟩⟩; refine ⟨_, rfl, ?_⟩) | ((with_reducible refine gate_callee (f := 18) rfl ?_); refine goesL_ (some 35) rfl rfl Try.func18 (by kernel_rfl) rfl #[.int .i64 a0, .int .u32 a1, .int .u32 a2] rfl (by (try simp only [List.map_toArray, List.map_cons, List.map_nil]); first | done | rfl | (simp only [List.length_drop, List.length_take]; rfl)) ?_; (with_reducible refine (alu_Taken.calls a0 a1 a2 t123 t124 _ A7.out).mono ?_); rintro e w15 ⟨rfl, hb⟩; refine ⟨_, rfl, ?_⟩; have n0_ := Aside0.mk (below_step (by repeat (first | (with_reducible first | exact HB.out | apply below_alloc | apply pw_below_drewN | apply below_drew1) | exact HB.out)) hb); clear HB; have HB := n0_; clear n0_; (try clear hb); (try clear hb2); (try clear hk); (try clear hi)) | ((with_reducible refine gate_callee (f := 19) rfl ?_); refine goesL_ (some 42) rfl rfl Try.func19 (by kernel_rfl) rfl #[.int .i64 a0, .int .u32 a1, .int .u32 a2] rfl (by (try simp only [List.map_toArray, List.map_cons, List.map_nil]); first | done | rfl | (simp only [List.length_drop, List.length_take]; rfl)) ?_; (with_reducible refine (carapaceref10_Taken.calls a0 a1 a2 t125 t126 _ A8.out).mono ?_); rintro e w' ⟨rfl, ⟨nd, rfl⟩⟩; refine ⟨_, rfl, ?_⟩))
          go_ret
          exact ⟨by first | rfl | (simp [errW_none, errW_some] <;> rfl) | (simp [*, errW_none, errW_some] <;> rfl), by repeat (first | (with_reducible first | exact HB.out | apply below_alloc | apply pw_below_drewN | apply below_drew1) | exact HB.out)⟩
        · rw [if_neg c12] at H
          have c12b0 : (t123 == t125) = false := by simpa using c12
          (try (have c12b1 : decide (t123 = t125) = false := by simpa using c12))
          (try (have c12b2 : (t123 == t125) = false := by simpa using c12))
          (try (have c12b3 : ¬ (t123 = t125) := by simpa using c12))
          clear c12
          obtain rfl := Option.some.inj H
          go_enter Try.func3, Try.ntmps3
          go_wp2_with (first | ((with_reducible refine gate_callee (f := 15) rfl ?_); refine goesL_ (some 16) rfl rfl Try.func15 (by kernel_rfl) rfl #[] rfl (by (try simp only [List.map_toArray, List.map_cons, List.map_nil]); first | done | rfl | (simp only [List.length_drop, List.length_take]; rfl)) ?_; (with_reducible refine (carapacelaw10_awake.calls k  true _ A4.out).mono ?_); rintro e w16 ⟨rfl, hb⟩; refine ⟨_, rfl, ?_⟩; have n0_ := Aside0.mk (below_step (by repeat (first | (with_reducible first | exact HB.out | apply below_alloc | apply pw_below_drewN | apply below_drew1) | exact HB.out)) hb); clear HB; have HB := n0_; clear n0_; (try clear hb); (try clear hb2); (try clear hk); (try clear hi)) | ((with_reducible refine gate_callee (f := 16) rfl ?_); refine goesL_ (some 21) rfl rfl Try.func16 (by kernel_rfl) rfl #[.int .i64 a0, .int .u32 a1, .int .u32 a2] rfl (by (try simp only [List.map_toArray, List.map_cons, List.map_nil]); first | done | rfl | (simp only [List.length_drop, List.length_take]; rfl)) ?_; (with_reducible refine (alu_Alu.calls a0 a1 a2 t119 t120 _ A5.out).mono ?_); rintro e w17 ⟨rfl, hb⟩; refine ⟨_, rfl, ?_⟩; have n0_ := Aside0.mk (below_step (by repeat (first | (with_reducible first | exact HB.out | apply below_alloc | apply pw_below_drewN | apply below_drew1) | exact HB.out)) hb); clear HB; have HB := n0_; clear n0_; (try clear hb); (try clear hb2); (try clear hk); (try clear hi)) | ((with_reducible refine gate_callee (f := 17) rfl ?_); refine goesL_ (some 28) rfl rfl Try.func17 (by kernel_rfl) rfl #[.int .i64 a0, .int .u32 a1, .int .u32 a2] rfl (by (try simp only [List.map_toArray, List.map_cons, List.map_nil]); first | done | rfl | (simp only [List.length_drop, List.length_take]; rfl)) ?_; (with_reducible refine (carapaceref10_Alu.calls k a0 a1 a2 t121 t122 _ A6.out).mono ?_); rintro e w' ⟨rfl, ⟨nd, rfl⟩⟩; refine ⟨_, rfl, ?_⟩) | ((with_reducible refine gate_callee (f := 18) rfl ?_); refine goesL_ (some 35) rfl rfl Try.func18 (by kernel_rfl) rfl #[.int .i64 a0, .int .u32 a1, .int .u32 a2] rfl (by (try simp only [List.map_toArray, List.map_cons, List.map_nil]); first | done | rfl | (simp only [List.length_drop, List.length_take]; rfl)) ?_; (with_reducible refine (alu_Taken.calls a0 a1 a2 t123 t124 _ A7.out).mono ?_); rintro e w18 ⟨rfl, hb⟩; refine ⟨_, rfl, ?_⟩; have n0_ := Aside0.mk (below_step (by repeat (first | (with_reducible first | exact HB.out | apply below_alloc | apply pw_below_drewN | apply below_drew1) | exact HB.out)) hb); clear HB; have HB := n0_; clear n0_; (try clear hb); (try clear hb2); (try clear hk); (try clear hi)) | ((with_reducible refine gate_callee (f := 19) rfl ?_); refine goesL_ (some 42) rfl rfl Try.func19 (by kernel_rfl) rfl #[.int .i64 a0, .int .u32 a1, .int .u32 a2] rfl (by (try simp only [List.map_toArray, List.map_cons, List.map_nil]); first | done | rfl | (simp only [List.length_drop, List.length_take]; rfl)) ?_; (with_reducible refine (carapaceref10_Taken.calls a0 a1 a2 t125 t126 _ A8.out).mono ?_); rintro e w' ⟨rfl, ⟨nd, rfl⟩⟩; refine ⟨_, rfl, ?_⟩))
          go_ret
          exact ⟨by first | rfl | (simp [errW_none, errW_some] <;> rfl) | (simp [*, errW_none, errW_some] <;> rfl), by repeat (first | (with_reducible first | exact HB.out | apply below_alloc | apply pw_below_drewN | apply below_drew1) | exact HB.out)⟩
      · rw [if_neg c11] at H
        have c11b0 : (t120 == t122) = false := by simpa using c11
        (try (have c11b1 : decide (t120 = t122) = false := by simpa using c11))
        (try (have c11b2 : (t120 == t122) = false := by simpa using c11))
        (try (have c11b3 : ¬ (t120 = t122) := by simpa using c11))
        clear c11
        obtain rfl := Option.some.inj H
        go_enter Try.func3, Try.ntmps3
        go_wp2_with (first | ((with_reducible refine gate_callee (f := 15) rfl ?_); refine goesL_ (some 16) rfl rfl Try.func15 (by kernel_rfl) rfl #[] rfl (by (try simp only [List.map_toArray, List.map_cons, List.map_nil]); first | done | rfl | (simp only [List.length_drop, List.length_take]; rfl)) ?_; (with_reducible refine (carapacelaw10_awake.calls k  true _ A4.out).mono ?_); rintro e w19 ⟨rfl, hb⟩; refine ⟨_, rfl, ?_⟩; have n0_ := Aside0.mk (below_step (by repeat (first | (with_reducible first | exact HB.out | apply below_alloc | apply pw_below_drewN | apply below_drew1) | exact HB.out)) hb); clear HB; have HB := n0_; clear n0_; (try clear hb); (try clear hb2); (try clear hk); (try clear hi)) | ((with_reducible refine gate_callee (f := 16) rfl ?_); refine goesL_ (some 21) rfl rfl Try.func16 (by kernel_rfl) rfl #[.int .i64 a0, .int .u32 a1, .int .u32 a2] rfl (by (try simp only [List.map_toArray, List.map_cons, List.map_nil]); first | done | rfl | (simp only [List.length_drop, List.length_take]; rfl)) ?_; (with_reducible refine (alu_Alu.calls a0 a1 a2 t119 t120 _ A5.out).mono ?_); rintro e w20 ⟨rfl, hb⟩; refine ⟨_, rfl, ?_⟩; have n0_ := Aside0.mk (below_step (by repeat (first | (with_reducible first | exact HB.out | apply below_alloc | apply pw_below_drewN | apply below_drew1) | exact HB.out)) hb); clear HB; have HB := n0_; clear n0_; (try clear hb); (try clear hb2); (try clear hk); (try clear hi)) | ((with_reducible refine gate_callee (f := 17) rfl ?_); refine goesL_ (some 28) rfl rfl Try.func17 (by kernel_rfl) rfl #[.int .i64 a0, .int .u32 a1, .int .u32 a2] rfl (by (try simp only [List.map_toArray, List.map_cons, List.map_nil]); first | done | rfl | (simp only [List.length_drop, List.length_take]; rfl)) ?_; (with_reducible refine (carapaceref10_Alu.calls k a0 a1 a2 t121 t122 _ A6.out).mono ?_); rintro e w' ⟨rfl, ⟨nd, rfl⟩⟩; refine ⟨_, rfl, ?_⟩) | ((with_reducible refine gate_callee (f := 18) rfl ?_); refine goesL_ (some 35) rfl rfl Try.func18 (by kernel_rfl) rfl #[.int .i64 a0, .int .u32 a1, .int .u32 a2] rfl (by (try simp only [List.map_toArray, List.map_cons, List.map_nil]); first | done | rfl | (simp only [List.length_drop, List.length_take]; rfl)) ?_; (with_reducible refine (alu_Taken.calls a0 a1 a2 t123 t124 _ A7.out).mono ?_); rintro e w21 ⟨rfl, hb⟩; refine ⟨_, rfl, ?_⟩; have n0_ := Aside0.mk (below_step (by repeat (first | (with_reducible first | exact HB.out | apply below_alloc | apply pw_below_drewN | apply below_drew1) | exact HB.out)) hb); clear HB; have HB := n0_; clear n0_; (try clear hb); (try clear hb2); (try clear hk); (try clear hi)) | ((with_reducible refine gate_callee (f := 19) rfl ?_); refine goesL_ (some 42) rfl rfl Try.func19 (by kernel_rfl) rfl #[.int .i64 a0, .int .u32 a1, .int .u32 a2] rfl (by (try simp only [List.map_toArray, List.map_cons, List.map_nil]); first | done | rfl | (simp only [List.length_drop, List.length_take]; rfl)) ?_; (with_reducible refine (carapaceref10_Taken.calls a0 a1 a2 t125 t126 _ A8.out).mono ?_); rintro e w' ⟨rfl, ⟨nd, rfl⟩⟩; refine ⟨_, rfl, ?_⟩))
        go_ret
        exact ⟨by first | rfl | (simp [errW_none, errW_some] <;> rfl) | (simp [*, errW_none, errW_some] <;> rfl), by repeat (first | (with_reducible first | exact HB.out | apply below_alloc | apply pw_below_drewN | apply below_drew1) | exact HB.out)⟩
    · rw [if_neg c10] at H
      have c10b0 : (t119 == t121) = false := beq_eq_false_iff_ne.mpr c10
      have c10b1 : (t119 != t121) = true := bne_iff_ne.mpr c10
      obtain rfl := Option.some.inj H
      go_enter Try.func3, Try.ntmps3
      go_wp2_with (first | ((with_reducible refine gate_callee (f := 15) rfl ?_); refine goesL_ (some 16) rfl rfl Try.func15 (by kernel_rfl) rfl #[] rfl (by (try simp only [List.map_toArray, List.map_cons, List.map_nil]); first | done | rfl | (simp only [List.length_drop, List.length_take]; rfl)) ?_; (with_reducible refine (carapacelaw10_awake.calls k  true _ A4.out).mono ?_); rintro e w22 ⟨rfl, hb⟩; refine ⟨_, rfl, ?_⟩; have n0_ := Aside0.mk (below_step (by repeat (first | (with_reducible first | exact HB.out | apply below_alloc | apply pw_below_drewN | apply below_drew1) | exact HB.out)) hb); clear HB; have HB := n0_; clear n0_; (try clear hb); (try clear hb2); (try clear hk); (try clear hi)) | ((with_reducible refine gate_callee (f := 16) rfl ?_); refine goesL_ (some 21) rfl rfl Try.func16 (by kernel_rfl) rfl #[.int .i64 a0, .int .u32 a1, .int .u32 a2] rfl (by (try simp only [List.map_toArray, List.map_cons, List.map_nil]); first | done | rfl | (simp only [List.length_drop, List.length_take]; rfl)) ?_; (with_reducible refine (alu_Alu.calls a0 a1 a2 t119 t120 _ A5.out).mono ?_); rintro e w23 ⟨rfl, hb⟩; refine ⟨_, rfl, ?_⟩; have n0_ := Aside0.mk (below_step (by repeat (first | (with_reducible first | exact HB.out | apply below_alloc | apply pw_below_drewN | apply below_drew1) | exact HB.out)) hb); clear HB; have HB := n0_; clear n0_; (try clear hb); (try clear hb2); (try clear hk); (try clear hi)) | ((with_reducible refine gate_callee (f := 17) rfl ?_); refine goesL_ (some 28) rfl rfl Try.func17 (by kernel_rfl) rfl #[.int .i64 a0, .int .u32 a1, .int .u32 a2] rfl (by (try simp only [List.map_toArray, List.map_cons, List.map_nil]); first | done | rfl | (simp only [List.length_drop, List.length_take]; rfl)) ?_; (with_reducible refine (carapaceref10_Alu.calls k a0 a1 a2 t121 t122 _ A6.out).mono ?_); rintro e w' ⟨rfl, ⟨nd, rfl⟩⟩; refine ⟨_, rfl, ?_⟩) | ((with_reducible refine gate_callee (f := 18) rfl ?_); refine goesL_ (some 35) rfl rfl Try.func18 (by kernel_rfl) rfl #[.int .i64 a0, .int .u32 a1, .int .u32 a2] rfl (by (try simp only [List.map_toArray, List.map_cons, List.map_nil]); first | done | rfl | (simp only [List.length_drop, List.length_take]; rfl)) ?_; (with_reducible refine (alu_Taken.calls a0 a1 a2 t123 t124 _ A7.out).mono ?_); rintro e w24 ⟨rfl, hb⟩; refine ⟨_, rfl, ?_⟩; have n0_ := Aside0.mk (below_step (by repeat (first | (with_reducible first | exact HB.out | apply below_alloc | apply pw_below_drewN | apply below_drew1) | exact HB.out)) hb); clear HB; have HB := n0_; clear n0_; (try clear hb); (try clear hb2); (try clear hk); (try clear hi)) | ((with_reducible refine gate_callee (f := 19) rfl ?_); refine goesL_ (some 42) rfl rfl Try.func19 (by kernel_rfl) rfl #[.int .i64 a0, .int .u32 a1, .int .u32 a2] rfl (by (try simp only [List.map_toArray, List.map_cons, List.map_nil]); first | done | rfl | (simp only [List.length_drop, List.length_take]; rfl)) ?_; (with_reducible refine (carapaceref10_Taken.calls a0 a1 a2 t125 t126 _ A8.out).mono ?_); rintro e w' ⟨rfl, ⟨nd, rfl⟩⟩; refine ⟨_, rfl, ?_⟩))
      go_ret
      exact ⟨by first | rfl | (simp [errW_none, errW_some] <;> rfl) | (simp [*, errW_none, errW_some] <;> rfl), by repeat (first | (with_reducible first | exact HB.out | apply below_alloc | apply pw_below_drewN | apply below_drew1) | exact HB.out)⟩
  · replace c9 := Bool.eq_false_iff.mpr c9
    subst c9
    have H1 : (some false) = some r := by rw [if_neg (show ¬ (false = true) by decide)] at H; exact H
    clear H
    have H := H1
    clear H1
    obtain rfl := Option.some.inj H
    go_enter Try.func3, Try.ntmps3
    go_wp2_with (first | ((with_reducible refine gate_callee (f := 15) rfl ?_); refine goesL_ (some 16) rfl rfl Try.func15 (by kernel_rfl) rfl #[] rfl (by (try simp only [List.map_toArray, List.map_cons, List.map_nil]); first | done | rfl | (simp only [List.length_drop, List.length_take]; rfl)) ?_; (with_reducible refine (carapacelaw10_awake.calls k  false _ A4.out).mono ?_); rintro e w25 ⟨rfl, hb⟩; refine ⟨_, rfl, ?_⟩; have n0_ := Aside0.mk (below_step (by repeat (first | (with_reducible first | exact HB.out | apply below_alloc | apply pw_below_drewN | apply below_drew1) | exact HB.out)) hb); clear HB; have HB := n0_; clear n0_; (try clear hb); (try clear hb2); (try clear hk); (try clear hi)) | ((with_reducible refine gate_callee (f := 16) rfl ?_); refine goesL_ (some 21) rfl rfl Try.func16 (by kernel_rfl) rfl #[.int .i64 a0, .int .u32 a1, .int .u32 a2] rfl (by (try simp only [List.map_toArray, List.map_cons, List.map_nil]); first | done | rfl | (simp only [List.length_drop, List.length_take]; rfl)) ?_; (with_reducible refine (alu_Alu.calls a0 a1 a2 t119 t120 _ A5.out).mono ?_); rintro e w26 ⟨rfl, hb⟩; refine ⟨_, rfl, ?_⟩; have n0_ := Aside0.mk (below_step (by repeat (first | (with_reducible first | exact HB.out | apply below_alloc | apply pw_below_drewN | apply below_drew1) | exact HB.out)) hb); clear HB; have HB := n0_; clear n0_; (try clear hb); (try clear hb2); (try clear hk); (try clear hi)) | ((with_reducible refine gate_callee (f := 17) rfl ?_); refine goesL_ (some 28) rfl rfl Try.func17 (by kernel_rfl) rfl #[.int .i64 a0, .int .u32 a1, .int .u32 a2] rfl (by (try simp only [List.map_toArray, List.map_cons, List.map_nil]); first | done | rfl | (simp only [List.length_drop, List.length_take]; rfl)) ?_; (with_reducible refine (carapaceref10_Alu.calls k a0 a1 a2 t121 t122 _ A6.out).mono ?_); rintro e w' ⟨rfl, ⟨nd, rfl⟩⟩; refine ⟨_, rfl, ?_⟩) | ((with_reducible refine gate_callee (f := 18) rfl ?_); refine goesL_ (some 35) rfl rfl Try.func18 (by kernel_rfl) rfl #[.int .i64 a0, .int .u32 a1, .int .u32 a2] rfl (by (try simp only [List.map_toArray, List.map_cons, List.map_nil]); first | done | rfl | (simp only [List.length_drop, List.length_take]; rfl)) ?_; (with_reducible refine (alu_Taken.calls a0 a1 a2 t123 t124 _ A7.out).mono ?_); rintro e w27 ⟨rfl, hb⟩; refine ⟨_, rfl, ?_⟩; have n0_ := Aside0.mk (below_step (by repeat (first | (with_reducible first | exact HB.out | apply below_alloc | apply pw_below_drewN | apply below_drew1) | exact HB.out)) hb); clear HB; have HB := n0_; clear n0_; (try clear hb); (try clear hb2); (try clear hk); (try clear hi)) | ((with_reducible refine gate_callee (f := 19) rfl ?_); refine goesL_ (some 42) rfl rfl Try.func19 (by kernel_rfl) rfl #[.int .i64 a0, .int .u32 a1, .int .u32 a2] rfl (by (try simp only [List.map_toArray, List.map_cons, List.map_nil]); first | done | rfl | (simp only [List.length_drop, List.length_take]; rfl)) ?_; (with_reducible refine (carapaceref10_Taken.calls a0 a1 a2 t125 t126 _ A8.out).mono ?_); rintro e w' ⟨rfl, ⟨nd, rfl⟩⟩; refine ⟨_, rfl, ?_⟩))
    go_ret
    exact ⟨by first | rfl | (simp [errW_none, errW_some] <;> rfl) | (simp [*, errW_none, errW_some] <;> rfl), by repeat (first | (with_reducible first | exact HB.out | apply below_alloc | apply pw_below_drewN | apply below_drew1) | exact HB.out)⟩

/-- THE ONE PURE STATEMENT of carapacelaw10_AluTells: yours. -/
def carapacelaw10_AluTells.Pure : Prop := ∀ (a0 : Int) (a1 : Int) (a2 : Int), (Lit.int .i64 a0).wf = true → (Lit.int .u32 a1).wf = true → (Lit.int .u32 a2).wf = true → ∃ k, carapacelaw10_AluTells.f k a0 a1 a2 = some true
theorem carapacelaw10_AluTells.walk (P : carapacelaw10_AluTells.Pure) (a0 : Int) (a1 : Int) (a2 : Int) (w : World) (w0 : (Lit.int .i64 a0).wf = true) (w1 : (Lit.int .u32 a1).wf = true) (w2 : (Lit.int .u32 a2).wf = true) :
    Calls Try.prog 3 #[.int .i64 a0, .int .u32 a1, .int .u32 a2] w fun e w' => e = .returned (.bool true) ∧ Below w.heap.size w w' := by
  obtain ⟨k, h⟩ := P a0 a1 a2 w0 w1 w2
  refine (carapacelaw10_AluTells.calls k a0 a1 a2 true w h).mono ?_
  rintro e w' ⟨rfl, hd⟩
  exact ⟨rfl, hd⟩

/-! ### carapaceref10_Moved: function 21 -/
def carapaceref10_Moved.j0 : Nat → Int → Int → Int → Bool → Option (Int × Bool)
  | 0, _, _, _, _ => none
  | k + 1, x0, x1, x2, x21 => if x21 = true then (some (0, false)) else (if x0 = 1 then (some ((x2) % 4294967296, true)) else (some (((Int.tmod x1 65536) + ((65536 * ((x2) % 4294967296)) % 4294967296)) % 4294967296, true)))
def carapaceref10_Moved.f (k : Nat) (a0 : Int) (a1 : Int) (a2 : Int) : Option (Int × Bool) := if a2 < 0 then (carapaceref10_Moved.j0 k a0 a1 a2 true) else (if a2 > 65535 then (carapaceref10_Moved.j0 k a0 a1 a2 true) else (if a0 = 1 then (carapaceref10_Moved.j0 k a0 a1 a2 false) else (carapaceref10_Moved.j0 k a0 a1 a2 (a0 != 2))))
theorem carapaceref10_Moved.mono_l : ∀ k, (∀ y0 y1 y2 y3, LeO (carapaceref10_Moved.j0 k y0 y1 y2 y3) (carapaceref10_Moved.j0 (k + 1) y0 y1 y2 y3))
  | 0 => fun _ _ _ _ r h => by simp [carapaceref10_Moved.j0] at h
  | k + 1 => by
    have ih0 := carapaceref10_Moved.mono_l k
    · intro y0 y1 y2 y3
      unfold carapaceref10_Moved.j0
      repeat' first
      | (with_reducible exact ih0 _ _ _ _)
      | (with_reducible exact LeO.refl _)
      | (with_reducible exact LeO.none _)
      | (with_reducible refine LeO.ite ?_ ?_)
      | (with_reducible refine LeO.bind ?_ (fun _ => ?_))
      | exact ih0 _ _ _ _
      | exact LeO.none _
      | refine LeO.ite ?_ ?_
      | refine LeO.bind ?_ (fun _ => ?_)
theorem carapaceref10_Moved.mono : ∀ a0 a1 a2 k, LeO (carapaceref10_Moved.f k a0 a1 a2) (carapaceref10_Moved.f (k + 1) a0 a1 a2) := by
  intro a0 a1 a2 k
  have ih0 := carapaceref10_Moved.mono_l k
  unfold carapaceref10_Moved.f
  repeat' first
      | (with_reducible exact ih0 _ _ _ _)
      | (with_reducible exact LeO.refl _)
      | (with_reducible exact LeO.none _)
      | (with_reducible refine LeO.ite ?_ ?_)
      | (with_reducible refine LeO.bind ?_ (fun _ => ?_))
      | exact ih0 _ _ _ _
      | exact LeO.none _
      | refine LeO.ite ?_ ?_
      | refine LeO.bind ?_ (fun _ => ?_)
set_option maxHeartbeats 8000000 in
set_option maxRecDepth 100000 in
theorem carapaceref10_Moved.calls (k : Nat) (a0 : Int) (a1 : Int) (a2 : Int) (r1 : Int) (r2 : Bool) (w : World) (h : carapaceref10_Moved.f k a0 a1 a2 = some (r1, r2)) :
    Calls Try.prog 21 #[.int .i64 a0, .int .u32 a1, .int .i64 a2] w fun e w' => e = .returned (.tuple #[.int .u32 r1, .bool r2]) ∧ Drawn0 w w' := by
  have H : (if a2 < 0 then (carapaceref10_Moved.j0 k a0 a1 a2 true) else (if a2 > 65535 then (carapaceref10_Moved.j0 k a0 a1 a2 true) else (if a0 = 1 then (carapaceref10_Moved.j0 k a0 a1 a2 false) else (carapaceref10_Moved.j0 k a0 a1 a2 (a0 != 2))))) = some (r1, r2) := h
  clear h
  have HC4 := Aside0.mk H
  clear H
  go_enter Try.func21, Try.ntmps21
  go_upto_region 1 with (fail)
  go_cut [21] (fun v21 wc => ∃ (kq : Nat) (x21_3 : Bool), v21 = .bool x21_3 ∧ Aside0 (carapaceref10_Moved.j0 kq a0 a1 a2 x21_3 = some (r1, r2)) ∧ Aside0 (kq ≤ k) ∧ Drawn0 w wc)
  case first =>
    have H := HC4.out
    clear HC4
    by_cases c5 : a2 < 0
    · rw [if_pos c5] at H
      have c5b0 : decide (a2 < 0) = true := decide_eq_true c5
      clear c5
      (first | rw [c5b0] | (simp only [i64_w, i32_w]; rw [c5b0]) | skip)
      have H' := Aside0.mk H
      clear H
      go_wp2
      go_meet
      case rel => exact ⟨_, (true), (by first | rfl | (simp; done) | (simp [*]; done)), H', ⟨by first | omega | exact Nat.le_refl _⟩, by repeat (first | exact Drawn0.refl _ | apply Drawn0.step)⟩
    · rw [if_neg c5] at H
      have c5b0 : decide (a2 < 0) = false := decide_eq_false c5
      clear c5
      (first | rw [c5b0] | (simp only [i64_w, i32_w]; rw [c5b0]) | skip)
      by_cases c6 : a2 > 65535
      · rw [if_pos c6] at H
        have c6b0 : decide (65535 < a2) = true := decide_eq_true c6
        clear c6
        have H' := Aside0.mk H
        clear H
        go_wp2
        go_meet
        case rel => exact ⟨_, (true), (by first | rfl | (simp; done) | (simp [*]; done)), H', ⟨by first | omega | exact Nat.le_refl _⟩, by repeat (first | exact Drawn0.refl _ | apply Drawn0.step)⟩
      · rw [if_neg c6] at H
        have c6b0 : decide (65535 < a2) = false := decide_eq_false c6
        clear c6
        by_cases c7 : a0 = 1
        · rw [if_pos c7] at H
          have c7b0 : (a0 == 1) = true := beq_iff_eq.mpr c7
          have c7b1 : (a0 != 1) = false := bne_eq_false_iff_eq.mpr c7
          clear c7
          have H' := Aside0.mk H
          clear H
          go_wp2
          go_meet
          case rel => exact ⟨_, (false), (by first | rfl | (simp; done) | (simp [*]; done)), H', ⟨by first | omega | exact Nat.le_refl _⟩, by repeat (first | exact Drawn0.refl _ | apply Drawn0.step)⟩
        · rw [if_neg c7] at H
          have c7b0 : (a0 == 1) = false := beq_eq_false_iff_ne.mpr c7
          have c7b1 : (a0 != 1) = true := bne_iff_ne.mpr c7
          have H' := Aside0.mk H
          clear H
          go_wp2
          go_meet
          case rel => exact ⟨_, ((a0 != 2)), (by first | rfl | (simp; done) | (simp [*]; done)), H', ⟨by first | omega | exact Nat.le_refl _⟩, by repeat (first | exact Drawn0.refl _ | apply Drawn0.step)⟩
  case rest =>
    clear HC4
    try clear c2
    try clear p2
    try clear c5
    try clear c5b0
    try clear c6
    try clear c6b0
    try clear c7
    try clear c7b0
    try clear c7b1
    obtain ⟨kq, x21_3, rfl, HA, HJ3, ⟨mc3, rfl⟩⟩ := hcut
    cases kq with
    | zero => exact absurd HA.out (by simp [carapaceref10_Moved.j0])
    | succ kj3 =>
      have H := HA.out
      clear HA
      simp only [carapaceref10_Moved.j0] at H
      by_cases c8 : x21_3 = true
      · subst c8
        have H1 : (some (0, false)) = some (r1, r2) := by rw [if_pos rfl] at H; exact H
        clear H
        have H := H1
        clear H1
        simp only [Option.some.injEq, Prod.mk.injEq] at H
        obtain ⟨rfl, rfl⟩ := H
        go_wp2
        go_ret2
        exact ⟨by first | rfl | (simp; done) | (simp [*]; done), by repeat (first | exact Drawn0.refl _ | apply Drawn0.step)⟩
      · replace c8 := Bool.eq_false_iff.mpr c8
        subst c8
        have H1 : (if a0 = 1 then (some ((a2) % 4294967296, true)) else (some (((Int.tmod a1 65536) + ((65536 * ((a2) % 4294967296)) % 4294967296)) % 4294967296, true))) = some (r1, r2) := by rw [if_neg (show ¬ (false = true) by decide)] at H; exact H
        clear H
        have H := H1
        clear H1
        by_cases c9 : a0 = 1
        · rw [if_pos c9] at H
          have c9b0 : (a0 == 1) = true := beq_iff_eq.mpr c9
          have c9b1 : (a0 != 1) = false := bne_eq_false_iff_eq.mpr c9
          clear c9
          simp only [Option.some.injEq, Prod.mk.injEq] at H
          obtain ⟨rfl, rfl⟩ := H
          go_wp2
          go_ret2
          exact ⟨by first | rfl | (simp; done) | (simp [*]; done), by repeat (first | exact Drawn0.refl _ | apply Drawn0.step)⟩
        · rw [if_neg c9] at H
          have c9b0 : (a0 == 1) = false := beq_eq_false_iff_ne.mpr c9
          have c9b1 : (a0 != 1) = true := bne_iff_ne.mpr c9
          simp only [Option.some.injEq, Prod.mk.injEq] at H
          obtain ⟨rfl, rfl⟩ := H
          go_wp2
          go_ret2
          exact ⟨by first | rfl | (simp; done) | (simp [*]; done), by repeat (first | exact Drawn0.refl _ | apply Drawn0.step)⟩

/-! ### carapacelaw10_AluMoves: function 4 -/
def carapacelaw10_AluMoves.f (k : Nat) (a0 : Int) (a1 : Int) (a2 : Int) : Option (Bool) := (carapacelaw10_awake.f k).bind fun t127 => ((alu_Moved.f k a0 a1 a2).bind fun bt128 => ((carapaceref10_Moved.f k a0 a1 a2).bind fun bt130 => ((alu_Moved.f k 1 7 (wrap64 (Int.tmod a1 65536))).bind fun bt132 => ((alu_Moved.f k 2 bt132.1 ((Int.tdiv a1 65536) % 4294967296)).bind fun bt134 => (if t127 = true then (if bt128.1 = bt130.1 then (if (bt128.2 == bt130.2) = true then (if bt132.2 = true then (if bt134.2 = true then (some (bt134.1 == a1)) else (some false)) else (some false)) else (some false)) else (some false)) else (some false))))))
theorem carapacelaw10_AluMoves.mono : ∀ a0 a1 a2 k, LeO (carapacelaw10_AluMoves.f k a0 a1 a2) (carapacelaw10_AluMoves.f (k + 1) a0 a1 a2) := by
  intro a0 a1 a2 k
  unfold carapacelaw10_AluMoves.f
  repeat' first
      | (with_reducible exact alu_Moved.mono _ _ _ _)
      | (with_reducible exact carapacelaw10_awake.mono _)
      | (with_reducible exact carapaceref10_Moved.mono _ _ _ _)
      | (with_reducible exact LeO.refl _)
      | (with_reducible exact LeO.none _)
      | (with_reducible refine LeO.ite ?_ ?_)
      | (with_reducible refine LeO.bind ?_ (fun _ => ?_))
      | exact alu_Moved.mono _ _ _ _
      | exact carapacelaw10_awake.mono _
      | exact carapaceref10_Moved.mono _ _ _ _
      | exact LeO.none _
      | refine LeO.ite ?_ ?_
      | refine LeO.bind ?_ (fun _ => ?_)
set_option maxHeartbeats 8000000 in
set_option maxRecDepth 100000 in
theorem carapacelaw10_AluMoves.calls (k : Nat) (a0 : Int) (a1 : Int) (a2 : Int) (r : Bool) (w : World) (h : carapacelaw10_AluMoves.f k a0 a1 a2 = some r) :
    Calls Try.prog 4 #[.int .i64 a0, .int .u32 a1, .int .i64 a2] w fun e w' => e = .returned (.bool r) ∧ Below w.heap.size w w' := by
  have HB := Aside0.mk (Below.refl w.heap.size w)
  have H : ((carapacelaw10_awake.f k).bind fun t127 => ((alu_Moved.f k a0 a1 a2).bind fun bt128 => ((carapaceref10_Moved.f k a0 a1 a2).bind fun bt130 => ((alu_Moved.f k 1 7 (wrap64 (Int.tmod a1 65536))).bind fun bt132 => ((alu_Moved.f k 2 bt132.1 ((Int.tdiv a1 65536) % 4294967296)).bind fun bt134 => (if t127 = true then (if bt128.1 = bt130.1 then (if (bt128.2 == bt130.2) = true then (if bt132.2 = true then (if bt134.2 = true then (some (bt134.1 == a1)) else (some false)) else (some false)) else (some false)) else (some false)) else (some false))))))) = some r := h
  clear h
  replace H := Option.bind_eq_some_iff.mp H
  obtain ⟨t127, A40, H⟩ := H
  replace H : ((alu_Moved.f k a0 a1 a2).bind fun bt128 => ((carapaceref10_Moved.f k a0 a1 a2).bind fun bt130 => ((alu_Moved.f k 1 7 (wrap64 (Int.tmod a1 65536))).bind fun bt132 => ((alu_Moved.f k 2 bt132.1 ((Int.tdiv a1 65536) % 4294967296)).bind fun bt134 => (if t127 = true then (if bt128.1 = bt130.1 then (if (bt128.2 == bt130.2) = true then (if bt132.2 = true then (if bt134.2 = true then (some (bt134.1 == a1)) else (some false)) else (some false)) else (some false)) else (some false)) else (some false)))))) = some r := H
  have A4 := Aside0.mk A40
  clear A40
  replace H := Option.bind_eq_some_iff.mp H
  obtain ⟨⟨t128, t129⟩, A50, H⟩ := H
  replace H : ((carapaceref10_Moved.f k a0 a1 a2).bind fun bt130 => ((alu_Moved.f k 1 7 (wrap64 (Int.tmod a1 65536))).bind fun bt132 => ((alu_Moved.f k 2 bt132.1 ((Int.tdiv a1 65536) % 4294967296)).bind fun bt134 => (if t127 = true then (if t128 = bt130.1 then (if (t129 == bt130.2) = true then (if bt132.2 = true then (if bt134.2 = true then (some (bt134.1 == a1)) else (some false)) else (some false)) else (some false)) else (some false)) else (some false))))) = some r := H
  have A5 := Aside0.mk A50
  clear A50
  replace H := Option.bind_eq_some_iff.mp H
  obtain ⟨⟨t130, t131⟩, A60, H⟩ := H
  replace H : ((alu_Moved.f k 1 7 (wrap64 (Int.tmod a1 65536))).bind fun bt132 => ((alu_Moved.f k 2 bt132.1 ((Int.tdiv a1 65536) % 4294967296)).bind fun bt134 => (if t127 = true then (if t128 = t130 then (if (t129 == t131) = true then (if bt132.2 = true then (if bt134.2 = true then (some (bt134.1 == a1)) else (some false)) else (some false)) else (some false)) else (some false)) else (some false)))) = some r := H
  have A6 := Aside0.mk A60
  clear A60
  replace H := Option.bind_eq_some_iff.mp H
  obtain ⟨⟨t132, t133⟩, A70, H⟩ := H
  replace H : ((alu_Moved.f k 2 t132 ((Int.tdiv a1 65536) % 4294967296)).bind fun bt134 => (if t127 = true then (if t128 = t130 then (if (t129 == t131) = true then (if t133 = true then (if bt134.2 = true then (some (bt134.1 == a1)) else (some false)) else (some false)) else (some false)) else (some false)) else (some false))) = some r := H
  have A7 := Aside0.mk A70
  clear A70
  replace H := Option.bind_eq_some_iff.mp H
  obtain ⟨⟨t134, t135⟩, A80, H⟩ := H
  replace H : (if t127 = true then (if t128 = t130 then (if (t129 == t131) = true then (if t133 = true then (if t135 = true then (some (t134 == a1)) else (some false)) else (some false)) else (some false)) else (some false)) else (some false)) = some r := H
  have A8 := Aside0.mk A80
  clear A80
  by_cases c9 : t127 = true
  · subst c9
    have H1 : (if t128 = t130 then (if (t129 == t131) = true then (if t133 = true then (if t135 = true then (some (t134 == a1)) else (some false)) else (some false)) else (some false)) else (some false)) = some r := by rw [if_pos rfl] at H; exact H
    clear H
    have H := H1
    clear H1
    by_cases c10 : t128 = t130
    · rw [if_pos c10] at H
      have c10b0 : (t128 == t130) = true := beq_iff_eq.mpr c10
      have c10b1 : (t128 != t130) = false := bne_eq_false_iff_eq.mpr c10
      clear c10
      by_cases c11 : (t129 == t131) = true
      · rw [if_pos c11] at H
        have c11b0 : (t129 == t131) = true := c11
        (try (have c11b1 : decide (t129 = t131) = true := by simpa using c11))
        (try (have c11b2 : (t129 == t131) = true := by simpa using c11))
        clear c11
        by_cases c12 : t133 = true
        · subst c12
          have H1 : (if t135 = true then (some (t134 == a1)) else (some false)) = some r := by rw [if_pos rfl] at H; exact H
          clear H
          have H := H1
          clear H1
          by_cases c13 : t135 = true
          · subst c13
            have H1 : (some (t134 == a1)) = some r := by rw [if_pos rfl] at H; exact H
            clear H
            have H := H1
            clear H1
            obtain rfl := Option.some.inj H
            go_enter Try.func4, Try.ntmps4
            go_wp2_with (first | ((with_reducible refine gate_callee (f := 15) rfl ?_); refine goesL_ (some 16) rfl rfl Try.func15 (by kernel_rfl) rfl #[] rfl (by (try simp only [List.map_toArray, List.map_cons, List.map_nil]); first | done | rfl | (simp only [List.length_drop, List.length_take]; rfl)) ?_; (with_reducible refine (carapacelaw10_awake.calls k  true _ A4.out).mono ?_); rintro e w14 ⟨rfl, hb⟩; refine ⟨_, rfl, ?_⟩; have n0_ := Aside0.mk (below_step (by repeat (first | (with_reducible first | exact HB.out | apply below_alloc | apply pw_below_drewN | apply below_drew1) | exact HB.out)) hb); clear HB; have HB := n0_; clear n0_; (try clear hb); (try clear hb2); (try clear hk); (try clear hi)) | ((with_reducible refine gate_callee (f := 20) rfl ?_); refine goesL_ (some 21) rfl rfl Try.func20 (by kernel_rfl) rfl #[.int .i64 a0, .int .u32 a1, .int .i64 a2] rfl (by (try simp only [List.map_toArray, List.map_cons, List.map_nil]); first | done | rfl | (simp only [List.length_drop, List.length_take]; rfl)) ?_; (with_reducible refine (alu_Moved.calls k a0 a1 a2 t128 t129 _ A5.out).mono ?_); rintro e w' ⟨rfl, ⟨nd, rfl⟩⟩; refine ⟨_, rfl, ?_⟩) | ((with_reducible refine gate_callee (f := 21) rfl ?_); refine goesL_ (some 28) rfl rfl Try.func21 (by kernel_rfl) rfl #[.int .i64 a0, .int .u32 a1, .int .i64 a2] rfl (by (try simp only [List.map_toArray, List.map_cons, List.map_nil]); first | done | rfl | (simp only [List.length_drop, List.length_take]; rfl)) ?_; (with_reducible refine (carapaceref10_Moved.calls k a0 a1 a2 t130 t131 _ A6.out).mono ?_); rintro e w' ⟨rfl, ⟨nd, rfl⟩⟩; refine ⟨_, rfl, ?_⟩) | ((with_reducible refine gate_callee (f := 20) rfl ?_); refine goesL_ (some 35) rfl rfl Try.func20 (by kernel_rfl) rfl #[.int .i64 1, .int .u32 7, .int .i64 (wrap64 (Int.tmod a1 65536))] rfl (by (try simp only [List.map_toArray, List.map_cons, List.map_nil]); first | done | rfl | (simp only [List.length_drop, List.length_take]; rfl)) ?_; (with_reducible refine (alu_Moved.calls k 1 7 (wrap64 (Int.tmod a1 65536)) t132 true _ A7.out).mono ?_); rintro e w' ⟨rfl, ⟨nd, rfl⟩⟩; refine ⟨_, rfl, ?_⟩) | ((with_reducible refine gate_callee (f := 20) rfl ?_); refine goesL_ (some 43) rfl rfl Try.func20 (by kernel_rfl) rfl #[.int .i64 2, .int .u32 t132, .int .i64 ((Int.tdiv a1 65536) % 4294967296)] rfl (by (try simp only [List.map_toArray, List.map_cons, List.map_nil]); first | done | rfl | (simp only [List.length_drop, List.length_take]; rfl)) ?_; (with_reducible refine (alu_Moved.calls k 2 t132 ((Int.tdiv a1 65536) % 4294967296) t134 true _ A8.out).mono ?_); rintro e w' ⟨rfl, ⟨nd, rfl⟩⟩; refine ⟨_, rfl, ?_⟩))
            go_ret
            exact ⟨by first | rfl | (simp [errW_none, errW_some] <;> rfl) | (simp [*, errW_none, errW_some] <;> rfl), by repeat (first | (with_reducible first | exact HB.out | apply below_alloc | apply pw_below_drewN | apply below_drew1) | exact HB.out)⟩
          · replace c13 := Bool.eq_false_iff.mpr c13
            subst c13
            have H1 : (some false) = some r := by rw [if_neg (show ¬ (false = true) by decide)] at H; exact H
            clear H
            have H := H1
            clear H1
            obtain rfl := Option.some.inj H
            go_enter Try.func4, Try.ntmps4
            go_wp2_with (first | ((with_reducible refine gate_callee (f := 15) rfl ?_); refine goesL_ (some 16) rfl rfl Try.func15 (by kernel_rfl) rfl #[] rfl (by (try simp only [List.map_toArray, List.map_cons, List.map_nil]); first | done | rfl | (simp only [List.length_drop, List.length_take]; rfl)) ?_; (with_reducible refine (carapacelaw10_awake.calls k  true _ A4.out).mono ?_); rintro e w15 ⟨rfl, hb⟩; refine ⟨_, rfl, ?_⟩; have n0_ := Aside0.mk (below_step (by repeat (first | (with_reducible first | exact HB.out | apply below_alloc | apply pw_below_drewN | apply below_drew1) | exact HB.out)) hb); clear HB; have HB := n0_; clear n0_; (try clear hb); (try clear hb2); (try clear hk); (try clear hi)) | ((with_reducible refine gate_callee (f := 20) rfl ?_); refine goesL_ (some 21) rfl rfl Try.func20 (by kernel_rfl) rfl #[.int .i64 a0, .int .u32 a1, .int .i64 a2] rfl (by (try simp only [List.map_toArray, List.map_cons, List.map_nil]); first | done | rfl | (simp only [List.length_drop, List.length_take]; rfl)) ?_; (with_reducible refine (alu_Moved.calls k a0 a1 a2 t128 t129 _ A5.out).mono ?_); rintro e w' ⟨rfl, ⟨nd, rfl⟩⟩; refine ⟨_, rfl, ?_⟩) | ((with_reducible refine gate_callee (f := 21) rfl ?_); refine goesL_ (some 28) rfl rfl Try.func21 (by kernel_rfl) rfl #[.int .i64 a0, .int .u32 a1, .int .i64 a2] rfl (by (try simp only [List.map_toArray, List.map_cons, List.map_nil]); first | done | rfl | (simp only [List.length_drop, List.length_take]; rfl)) ?_; (with_reducible refine (carapaceref10_Moved.calls k a0 a1 a2 t130 t131 _ A6.out).mono ?_); rintro e w' ⟨rfl, ⟨nd, rfl⟩⟩; refine ⟨_, rfl, ?_⟩) | ((with_reducible refine gate_callee (f := 20) rfl ?_); refine goesL_ (some 35) rfl rfl Try.func20 (by kernel_rfl) rfl #[.int .i64 1, .int .u32 7, .int .i64 (wrap64 (Int.tmod a1 65536))] rfl (by (try simp only [List.map_toArray, List.map_cons, List.map_nil]); first | done | rfl | (simp only [List.length_drop, List.length_take]; rfl)) ?_; (with_reducible refine (alu_Moved.calls k 1 7 (wrap64 (Int.tmod a1 65536)) t132 true _ A7.out).mono ?_); rintro e w' ⟨rfl, ⟨nd, rfl⟩⟩; refine ⟨_, rfl, ?_⟩) | ((with_reducible refine gate_callee (f := 20) rfl ?_); refine goesL_ (some 43) rfl rfl Try.func20 (by kernel_rfl) rfl #[.int .i64 2, .int .u32 t132, .int .i64 ((Int.tdiv a1 65536) % 4294967296)] rfl (by (try simp only [List.map_toArray, List.map_cons, List.map_nil]); first | done | rfl | (simp only [List.length_drop, List.length_take]; rfl)) ?_; (with_reducible refine (alu_Moved.calls k 2 t132 ((Int.tdiv a1 65536) % 4294967296) t134 false _ A8.out).mono ?_); rintro e w' ⟨rfl, ⟨nd, rfl⟩⟩; refine ⟨_, rfl, ?_⟩))
            go_ret
            exact ⟨by first | rfl | (simp [errW_none, errW_some] <;> rfl) | (simp [*, errW_none, errW_some] <;> rfl), by repeat (first | (with_reducible first | exact HB.out | apply below_alloc | apply pw_below_drewN | apply below_drew1) | exact HB.out)⟩
        · replace c12 := Bool.eq_false_iff.mpr c12
          subst c12
          have H1 : (some false) = some r := by rw [if_neg (show ¬ (false = true) by decide)] at H; exact H
          clear H
          have H := H1
          clear H1
          obtain rfl := Option.some.inj H
          go_enter Try.func4, Try.ntmps4
          go_wp2_with (first | ((with_reducible refine gate_callee (f := 15) rfl ?_); refine goesL_ (some 16) rfl rfl Try.func15 (by kernel_rfl) rfl #[] rfl (by (try simp only [List.map_toArray, List.map_cons, List.map_nil]); first | done | rfl | (simp only [List.length_drop, List.length_take]; rfl)) ?_; (with_reducible refine (carapacelaw10_awake.calls k  true _ A4.out).mono ?_); rintro e w16 ⟨rfl, hb⟩; refine ⟨_, rfl, ?_⟩; have n0_ := Aside0.mk (below_step (by repeat (first | (with_reducible first | exact HB.out | apply below_alloc | apply pw_below_drewN | apply below_drew1) | exact HB.out)) hb); clear HB; have HB := n0_; clear n0_; (try clear hb); (try clear hb2); (try clear hk); (try clear hi)) | ((with_reducible refine gate_callee (f := 20) rfl ?_); refine goesL_ (some 21) rfl rfl Try.func20 (by kernel_rfl) rfl #[.int .i64 a0, .int .u32 a1, .int .i64 a2] rfl (by (try simp only [List.map_toArray, List.map_cons, List.map_nil]); first | done | rfl | (simp only [List.length_drop, List.length_take]; rfl)) ?_; (with_reducible refine (alu_Moved.calls k a0 a1 a2 t128 t129 _ A5.out).mono ?_); rintro e w' ⟨rfl, ⟨nd, rfl⟩⟩; refine ⟨_, rfl, ?_⟩) | ((with_reducible refine gate_callee (f := 21) rfl ?_); refine goesL_ (some 28) rfl rfl Try.func21 (by kernel_rfl) rfl #[.int .i64 a0, .int .u32 a1, .int .i64 a2] rfl (by (try simp only [List.map_toArray, List.map_cons, List.map_nil]); first | done | rfl | (simp only [List.length_drop, List.length_take]; rfl)) ?_; (with_reducible refine (carapaceref10_Moved.calls k a0 a1 a2 t130 t131 _ A6.out).mono ?_); rintro e w' ⟨rfl, ⟨nd, rfl⟩⟩; refine ⟨_, rfl, ?_⟩) | ((with_reducible refine gate_callee (f := 20) rfl ?_); refine goesL_ (some 35) rfl rfl Try.func20 (by kernel_rfl) rfl #[.int .i64 1, .int .u32 7, .int .i64 (wrap64 (Int.tmod a1 65536))] rfl (by (try simp only [List.map_toArray, List.map_cons, List.map_nil]); first | done | rfl | (simp only [List.length_drop, List.length_take]; rfl)) ?_; (with_reducible refine (alu_Moved.calls k 1 7 (wrap64 (Int.tmod a1 65536)) t132 false _ A7.out).mono ?_); rintro e w' ⟨rfl, ⟨nd, rfl⟩⟩; refine ⟨_, rfl, ?_⟩) | ((with_reducible refine gate_callee (f := 20) rfl ?_); refine goesL_ (some 43) rfl rfl Try.func20 (by kernel_rfl) rfl #[.int .i64 2, .int .u32 t132, .int .i64 ((Int.tdiv a1 65536) % 4294967296)] rfl (by (try simp only [List.map_toArray, List.map_cons, List.map_nil]); first | done | rfl | (simp only [List.length_drop, List.length_take]; rfl)) ?_; (with_reducible refine (alu_Moved.calls k 2 t132 ((Int.tdiv a1 65536) % 4294967296) t134 t135 _ A8.out).mono ?_); rintro e w' ⟨rfl, ⟨nd, rfl⟩⟩; refine ⟨_, rfl, ?_⟩))
          go_ret
          exact ⟨by first | rfl | (simp [errW_none, errW_some] <;> rfl) | (simp [*, errW_none, errW_some] <;> rfl), by repeat (first | (with_reducible first | exact HB.out | apply below_alloc | apply pw_below_drewN | apply below_drew1) | exact HB.out)⟩
      · rw [if_neg c11] at H
        have c11b0 : (t129 == t131) = false := by simpa using c11
        (try (have c11b1 : decide (t129 = t131) = false := by simpa using c11))
        (try (have c11b2 : (t129 == t131) = false := by simpa using c11))
        (try (have c11b3 : ¬ (t129 = t131) := by simpa using c11))
        clear c11
        obtain rfl := Option.some.inj H
        go_enter Try.func4, Try.ntmps4
        go_wp2_with (first | ((with_reducible refine gate_callee (f := 15) rfl ?_); refine goesL_ (some 16) rfl rfl Try.func15 (by kernel_rfl) rfl #[] rfl (by (try simp only [List.map_toArray, List.map_cons, List.map_nil]); first | done | rfl | (simp only [List.length_drop, List.length_take]; rfl)) ?_; (with_reducible refine (carapacelaw10_awake.calls k  true _ A4.out).mono ?_); rintro e w17 ⟨rfl, hb⟩; refine ⟨_, rfl, ?_⟩; have n0_ := Aside0.mk (below_step (by repeat (first | (with_reducible first | exact HB.out | apply below_alloc | apply pw_below_drewN | apply below_drew1) | exact HB.out)) hb); clear HB; have HB := n0_; clear n0_; (try clear hb); (try clear hb2); (try clear hk); (try clear hi)) | ((with_reducible refine gate_callee (f := 20) rfl ?_); refine goesL_ (some 21) rfl rfl Try.func20 (by kernel_rfl) rfl #[.int .i64 a0, .int .u32 a1, .int .i64 a2] rfl (by (try simp only [List.map_toArray, List.map_cons, List.map_nil]); first | done | rfl | (simp only [List.length_drop, List.length_take]; rfl)) ?_; (with_reducible refine (alu_Moved.calls k a0 a1 a2 t128 t129 _ A5.out).mono ?_); rintro e w' ⟨rfl, ⟨nd, rfl⟩⟩; refine ⟨_, rfl, ?_⟩) | ((with_reducible refine gate_callee (f := 21) rfl ?_); refine goesL_ (some 28) rfl rfl Try.func21 (by kernel_rfl) rfl #[.int .i64 a0, .int .u32 a1, .int .i64 a2] rfl (by (try simp only [List.map_toArray, List.map_cons, List.map_nil]); first | done | rfl | (simp only [List.length_drop, List.length_take]; rfl)) ?_; (with_reducible refine (carapaceref10_Moved.calls k a0 a1 a2 t130 t131 _ A6.out).mono ?_); rintro e w' ⟨rfl, ⟨nd, rfl⟩⟩; refine ⟨_, rfl, ?_⟩) | ((with_reducible refine gate_callee (f := 20) rfl ?_); refine goesL_ (some 35) rfl rfl Try.func20 (by kernel_rfl) rfl #[.int .i64 1, .int .u32 7, .int .i64 (wrap64 (Int.tmod a1 65536))] rfl (by (try simp only [List.map_toArray, List.map_cons, List.map_nil]); first | done | rfl | (simp only [List.length_drop, List.length_take]; rfl)) ?_; (with_reducible refine (alu_Moved.calls k 1 7 (wrap64 (Int.tmod a1 65536)) t132 t133 _ A7.out).mono ?_); rintro e w' ⟨rfl, ⟨nd, rfl⟩⟩; refine ⟨_, rfl, ?_⟩) | ((with_reducible refine gate_callee (f := 20) rfl ?_); refine goesL_ (some 43) rfl rfl Try.func20 (by kernel_rfl) rfl #[.int .i64 2, .int .u32 t132, .int .i64 ((Int.tdiv a1 65536) % 4294967296)] rfl (by (try simp only [List.map_toArray, List.map_cons, List.map_nil]); first | done | rfl | (simp only [List.length_drop, List.length_take]; rfl)) ?_; (with_reducible refine (alu_Moved.calls k 2 t132 ((Int.tdiv a1 65536) % 4294967296) t134 t135 _ A8.out).mono ?_); rintro e w' ⟨rfl, ⟨nd, rfl⟩⟩; refine ⟨_, rfl, ?_⟩))
        go_ret
        exact ⟨by first | rfl | (simp [errW_none, errW_some] <;> rfl) | (simp [*, errW_none, errW_some] <;> rfl), by repeat (first | (with_reducible first | exact HB.out | apply below_alloc | apply pw_below_drewN | apply below_drew1) | exact HB.out)⟩
    · rw [if_neg c10] at H
      have c10b0 : (t128 == t130) = false := beq_eq_false_iff_ne.mpr c10
      have c10b1 : (t128 != t130) = true := bne_iff_ne.mpr c10
      obtain rfl := Option.some.inj H
      go_enter Try.func4, Try.ntmps4
      go_wp2_with (first | ((with_reducible refine gate_callee (f := 15) rfl ?_); refine goesL_ (some 16) rfl rfl Try.func15 (by kernel_rfl) rfl #[] rfl (by (try simp only [List.map_toArray, List.map_cons, List.map_nil]); first | done | rfl | (simp only [List.length_drop, List.length_take]; rfl)) ?_; (with_reducible refine (carapacelaw10_awake.calls k  true _ A4.out).mono ?_); rintro e w18 ⟨rfl, hb⟩; refine ⟨_, rfl, ?_⟩; have n0_ := Aside0.mk (below_step (by repeat (first | (with_reducible first | exact HB.out | apply below_alloc | apply pw_below_drewN | apply below_drew1) | exact HB.out)) hb); clear HB; have HB := n0_; clear n0_; (try clear hb); (try clear hb2); (try clear hk); (try clear hi)) | ((with_reducible refine gate_callee (f := 20) rfl ?_); refine goesL_ (some 21) rfl rfl Try.func20 (by kernel_rfl) rfl #[.int .i64 a0, .int .u32 a1, .int .i64 a2] rfl (by (try simp only [List.map_toArray, List.map_cons, List.map_nil]); first | done | rfl | (simp only [List.length_drop, List.length_take]; rfl)) ?_; (with_reducible refine (alu_Moved.calls k a0 a1 a2 t128 t129 _ A5.out).mono ?_); rintro e w' ⟨rfl, ⟨nd, rfl⟩⟩; refine ⟨_, rfl, ?_⟩) | ((with_reducible refine gate_callee (f := 21) rfl ?_); refine goesL_ (some 28) rfl rfl Try.func21 (by kernel_rfl) rfl #[.int .i64 a0, .int .u32 a1, .int .i64 a2] rfl (by (try simp only [List.map_toArray, List.map_cons, List.map_nil]); first | done | rfl | (simp only [List.length_drop, List.length_take]; rfl)) ?_; (with_reducible refine (carapaceref10_Moved.calls k a0 a1 a2 t130 t131 _ A6.out).mono ?_); rintro e w' ⟨rfl, ⟨nd, rfl⟩⟩; refine ⟨_, rfl, ?_⟩) | ((with_reducible refine gate_callee (f := 20) rfl ?_); refine goesL_ (some 35) rfl rfl Try.func20 (by kernel_rfl) rfl #[.int .i64 1, .int .u32 7, .int .i64 (wrap64 (Int.tmod a1 65536))] rfl (by (try simp only [List.map_toArray, List.map_cons, List.map_nil]); first | done | rfl | (simp only [List.length_drop, List.length_take]; rfl)) ?_; (with_reducible refine (alu_Moved.calls k 1 7 (wrap64 (Int.tmod a1 65536)) t132 t133 _ A7.out).mono ?_); rintro e w' ⟨rfl, ⟨nd, rfl⟩⟩; refine ⟨_, rfl, ?_⟩) | ((with_reducible refine gate_callee (f := 20) rfl ?_); refine goesL_ (some 43) rfl rfl Try.func20 (by kernel_rfl) rfl #[.int .i64 2, .int .u32 t132, .int .i64 ((Int.tdiv a1 65536) % 4294967296)] rfl (by (try simp only [List.map_toArray, List.map_cons, List.map_nil]); first | done | rfl | (simp only [List.length_drop, List.length_take]; rfl)) ?_; (with_reducible refine (alu_Moved.calls k 2 t132 ((Int.tdiv a1 65536) % 4294967296) t134 t135 _ A8.out).mono ?_); rintro e w' ⟨rfl, ⟨nd, rfl⟩⟩; refine ⟨_, rfl, ?_⟩))
      go_ret
      exact ⟨by first | rfl | (simp [errW_none, errW_some] <;> rfl) | (simp [*, errW_none, errW_some] <;> rfl), by repeat (first | (with_reducible first | exact HB.out | apply below_alloc | apply pw_below_drewN | apply below_drew1) | exact HB.out)⟩
  · replace c9 := Bool.eq_false_iff.mpr c9
    subst c9
    have H1 : (some false) = some r := by rw [if_neg (show ¬ (false = true) by decide)] at H; exact H
    clear H
    have H := H1
    clear H1
    obtain rfl := Option.some.inj H
    go_enter Try.func4, Try.ntmps4
    go_wp2_with (first | ((with_reducible refine gate_callee (f := 15) rfl ?_); refine goesL_ (some 16) rfl rfl Try.func15 (by kernel_rfl) rfl #[] rfl (by (try simp only [List.map_toArray, List.map_cons, List.map_nil]); first | done | rfl | (simp only [List.length_drop, List.length_take]; rfl)) ?_; (with_reducible refine (carapacelaw10_awake.calls k  false _ A4.out).mono ?_); rintro e w19 ⟨rfl, hb⟩; refine ⟨_, rfl, ?_⟩; have n0_ := Aside0.mk (below_step (by repeat (first | (with_reducible first | exact HB.out | apply below_alloc | apply pw_below_drewN | apply below_drew1) | exact HB.out)) hb); clear HB; have HB := n0_; clear n0_; (try clear hb); (try clear hb2); (try clear hk); (try clear hi)) | ((with_reducible refine gate_callee (f := 20) rfl ?_); refine goesL_ (some 21) rfl rfl Try.func20 (by kernel_rfl) rfl #[.int .i64 a0, .int .u32 a1, .int .i64 a2] rfl (by (try simp only [List.map_toArray, List.map_cons, List.map_nil]); first | done | rfl | (simp only [List.length_drop, List.length_take]; rfl)) ?_; (with_reducible refine (alu_Moved.calls k a0 a1 a2 t128 t129 _ A5.out).mono ?_); rintro e w' ⟨rfl, ⟨nd, rfl⟩⟩; refine ⟨_, rfl, ?_⟩) | ((with_reducible refine gate_callee (f := 21) rfl ?_); refine goesL_ (some 28) rfl rfl Try.func21 (by kernel_rfl) rfl #[.int .i64 a0, .int .u32 a1, .int .i64 a2] rfl (by (try simp only [List.map_toArray, List.map_cons, List.map_nil]); first | done | rfl | (simp only [List.length_drop, List.length_take]; rfl)) ?_; (with_reducible refine (carapaceref10_Moved.calls k a0 a1 a2 t130 t131 _ A6.out).mono ?_); rintro e w' ⟨rfl, ⟨nd, rfl⟩⟩; refine ⟨_, rfl, ?_⟩) | ((with_reducible refine gate_callee (f := 20) rfl ?_); refine goesL_ (some 35) rfl rfl Try.func20 (by kernel_rfl) rfl #[.int .i64 1, .int .u32 7, .int .i64 (wrap64 (Int.tmod a1 65536))] rfl (by (try simp only [List.map_toArray, List.map_cons, List.map_nil]); first | done | rfl | (simp only [List.length_drop, List.length_take]; rfl)) ?_; (with_reducible refine (alu_Moved.calls k 1 7 (wrap64 (Int.tmod a1 65536)) t132 t133 _ A7.out).mono ?_); rintro e w' ⟨rfl, ⟨nd, rfl⟩⟩; refine ⟨_, rfl, ?_⟩) | ((with_reducible refine gate_callee (f := 20) rfl ?_); refine goesL_ (some 43) rfl rfl Try.func20 (by kernel_rfl) rfl #[.int .i64 2, .int .u32 t132, .int .i64 ((Int.tdiv a1 65536) % 4294967296)] rfl (by (try simp only [List.map_toArray, List.map_cons, List.map_nil]); first | done | rfl | (simp only [List.length_drop, List.length_take]; rfl)) ?_; (with_reducible refine (alu_Moved.calls k 2 t132 ((Int.tdiv a1 65536) % 4294967296) t134 t135 _ A8.out).mono ?_); rintro e w' ⟨rfl, ⟨nd, rfl⟩⟩; refine ⟨_, rfl, ?_⟩))
    go_ret
    exact ⟨by first | rfl | (simp [errW_none, errW_some] <;> rfl) | (simp [*, errW_none, errW_some] <;> rfl), by repeat (first | (with_reducible first | exact HB.out | apply below_alloc | apply pw_below_drewN | apply below_drew1) | exact HB.out)⟩

/-- THE ONE PURE STATEMENT of carapacelaw10_AluMoves: yours. -/
def carapacelaw10_AluMoves.Pure : Prop := ∀ (a0 : Int) (a1 : Int) (a2 : Int), (Lit.int .i64 a0).wf = true → (Lit.int .u32 a1).wf = true → (Lit.int .i64 a2).wf = true → ∃ k, carapacelaw10_AluMoves.f k a0 a1 a2 = some true
theorem carapacelaw10_AluMoves.walk (P : carapacelaw10_AluMoves.Pure) (a0 : Int) (a1 : Int) (a2 : Int) (w : World) (w0 : (Lit.int .i64 a0).wf = true) (w1 : (Lit.int .u32 a1).wf = true) (w2 : (Lit.int .i64 a2).wf = true) :
    Calls Try.prog 4 #[.int .i64 a0, .int .u32 a1, .int .i64 a2] w fun e w' => e = .returned (.bool true) ∧ Below w.heap.size w w' := by
  obtain ⟨k, h⟩ := P a0 a1 a2 w0 w1 w2
  refine (carapacelaw10_AluMoves.calls k a0 a1 a2 true w h).mono ?_
  rintro e w' ⟨rfl, hd⟩
  exact ⟨rfl, hd⟩

end Go.Proofs.Ytaaealngifkaeaa.QAlu
