-- Text written by a program of this session (wip/tools).
import Derived.Test.YtmibdlapjddfoaaQCrcx0
import Derived.Test.YtmibdlapjddfoaaQCrcx1
namespace Go.Proofs.Ytmibdlapjddfoaa.QCrc
open Go.RowKit Go.Proofs.YtmibdlapjddfoaaW.PrintWords Go.Proofs.YtmibdlapjddfoaaW.PrintLast Go.Proofs.YtmibdlapjddfoaaW.PrintMore
attribute [local go_sem] max2_int min2_int max_two min_two max_three min_three max_four min_four   -- for this text's walks alone
set_option linter.unusedVariables false
set_option linter.unusedSimpArgs false

/-! ### carapacelaw01_CrcSums: function 3 -/
mutual
def carapacelaw01_CrcSums.j1 : Nat → Int → List Int → List (List Int) → Bool → Int → Option (Bool)
  | 0, _, _, _, _, _ => none
  | k + 1, x0, x1, x2, x7, x8 => if (x1.length : Int) > 2000 then (carapacelaw01_CrcSums.j2 k x0 x1 x2 x7 true) else (carapacelaw01_CrcSums.j2 k x0 x1 x2 x7 (decide (x8 > 2000)))
def carapacelaw01_CrcSums.j2 : Nat → Int → List Int → List (List Int) → Bool → Bool → Option (Bool)
  | 0, _, _, _, _, _ => none
  | k + 1, x0, x1, x2, x7, x35 => if x35 = true then (some x7) else (if x7 = true then ((crc_Sum.f k x1).bind fun t112 => ((carapaceref01_Sum.f k x1).bind fun t113 => (if t112 = t113 then ((crc_More.f k x0 x1).bind fun t114 => ((carapaceref01_More.f k x0 x1).bind fun t115 => (if t114 = t115 then ((crc_All.f k x2).bind fun t116 => ((carapaceref01_All.f k x2).bind fun t117 => (some (t116 == t117)))) else (some false)))) else (some false)))) else (some false))
def carapacelaw01_CrcSums.l0 : Nat → Int → List Int → List (List Int) → Bool → Int → Int → Option (Bool)
  | 0, _, _, _, _, _, _ => none
  | k + 1, x0, x1, x2, x7, x8, x9 => if x9 < (x2.length : Int) then (if x8 < 10000 then (if 0 ≤ x9 then (carapacelaw01_CrcSums.l0 k x0 x1 x2 x7 (wrap64 ((wrap64 (x8 + ((rd_L1 x2 x9).length : Int))) + 1)) (wrap64 (x9 + 1))) else (none)) else (carapacelaw01_CrcSums.j1 k x0 x1 x2 x7 x8)) else (carapacelaw01_CrcSums.j1 k x0 x1 x2 x7 x8)
end
def carapacelaw01_CrcSums.f (k : Nat) (a0 : Int) (l1 : List Int) (l2 : List (List Int)) : Option (Bool) := (carapacelaw01_awake.f).bind fun t110 => (carapacelaw01_CrcSums.l0 k a0 l1 l2 t110 0 0)
theorem carapacelaw01_CrcSums.mono_l : ∀ k, (∀ y0 y1 y2 y3 y4, LeO (carapacelaw01_CrcSums.j1 k y0 y1 y2 y3 y4) (carapacelaw01_CrcSums.j1 (k + 1) y0 y1 y2 y3 y4)) ∧ (∀ y0 y1 y2 y3 y4, LeO (carapacelaw01_CrcSums.j2 k y0 y1 y2 y3 y4) (carapacelaw01_CrcSums.j2 (k + 1) y0 y1 y2 y3 y4)) ∧ (∀ y0 y1 y2 y3 y4 y5, LeO (carapacelaw01_CrcSums.l0 k y0 y1 y2 y3 y4 y5) (carapacelaw01_CrcSums.l0 (k + 1) y0 y1 y2 y3 y4 y5))
  | 0 => ⟨fun _ _ _ _ _ r h => by simp [carapacelaw01_CrcSums.j1] at h, fun _ _ _ _ _ r h => by simp [carapacelaw01_CrcSums.j2] at h, fun _ _ _ _ _ _ r h => by simp [carapacelaw01_CrcSums.l0] at h⟩
  | k + 1 => by
    obtain ⟨ih0, ih1, ih2⟩ := carapacelaw01_CrcSums.mono_l k
    refine ⟨?_, ?_, ?_⟩
    · intro y0 y1 y2 y3 y4
      unfold carapacelaw01_CrcSums.j1
      repeat' first
      | (with_reducible exact ih0 _ _ _ _ _)
      | (with_reducible exact ih1 _ _ _ _ _)
      | (with_reducible exact ih2 _ _ _ _ _ _)
      | (with_reducible exact carapaceref01_All.mono _ _)
      | (with_reducible exact carapaceref01_More.mono _ _ _)
      | (with_reducible exact carapaceref01_Sum.mono _ _)
      | (with_reducible exact crc_All.mono _ _)
      | (with_reducible exact crc_More.mono _ _ _)
      | (with_reducible exact crc_Sum.mono _ _)
      | (with_reducible exact LeO.refl _)
      | (with_reducible exact LeO.none _)
      | (with_reducible refine LeO.ite ?_ ?_)
      | (with_reducible refine LeO.bind ?_ (fun _ => ?_))
      | exact ih0 _ _ _ _ _
      | exact ih1 _ _ _ _ _
      | exact ih2 _ _ _ _ _ _
      | exact carapaceref01_All.mono _ _
      | exact carapaceref01_More.mono _ _ _
      | exact carapaceref01_Sum.mono _ _
      | exact crc_All.mono _ _
      | exact crc_More.mono _ _ _
      | exact crc_Sum.mono _ _
      | exact LeO.none _
      | refine LeO.ite ?_ ?_
      | refine LeO.bind ?_ (fun _ => ?_)
    · intro y0 y1 y2 y3 y4
      unfold carapacelaw01_CrcSums.j2
      repeat' first
      | (with_reducible exact ih0 _ _ _ _ _)
      | (with_reducible exact ih1 _ _ _ _ _)
      | (with_reducible exact ih2 _ _ _ _ _ _)
      | (with_reducible exact carapaceref01_All.mono _ _)
      | (with_reducible exact carapaceref01_More.mono _ _ _)
      | (with_reducible exact carapaceref01_Sum.mono _ _)
      | (with_reducible exact crc_All.mono _ _)
      | (with_reducible exact crc_More.mono _ _ _)
      | (with_reducible exact crc_Sum.mono _ _)
      | (with_reducible exact LeO.refl _)
      | (with_reducible exact LeO.none _)
      | (with_reducible refine LeO.ite ?_ ?_)
      | (with_reducible refine LeO.bind ?_ (fun _ => ?_))
      | exact ih0 _ _ _ _ _
      | exact ih1 _ _ _ _ _
      | exact ih2 _ _ _ _ _ _
      | exact carapaceref01_All.mono _ _
      | exact carapaceref01_More.mono _ _ _
      | exact carapaceref01_Sum.mono _ _
      | exact crc_All.mono _ _
      | exact crc_More.mono _ _ _
      | exact crc_Sum.mono _ _
      | exact LeO.none _
      | refine LeO.ite ?_ ?_
      | refine LeO.bind ?_ (fun _ => ?_)
    · intro y0 y1 y2 y3 y4 y5
      unfold carapacelaw01_CrcSums.l0
      repeat' first
      | (with_reducible exact ih0 _ _ _ _ _)
      | (with_reducible exact ih1 _ _ _ _ _)
      | (with_reducible exact ih2 _ _ _ _ _ _)
      | (with_reducible exact carapaceref01_All.mono _ _)
      | (with_reducible exact carapaceref01_More.mono _ _ _)
      | (with_reducible exact carapaceref01_Sum.mono _ _)
      | (with_reducible exact crc_All.mono _ _)
      | (with_reducible exact crc_More.mono _ _ _)
      | (with_reducible exact crc_Sum.mono _ _)
      | (with_reducible exact LeO.refl _)
      | (with_reducible exact LeO.none _)
      | (with_reducible refine LeO.ite ?_ ?_)
      | (with_reducible refine LeO.bind ?_ (fun _ => ?_))
      | exact ih0 _ _ _ _ _
      | exact ih1 _ _ _ _ _
      | exact ih2 _ _ _ _ _ _
      | exact carapaceref01_All.mono _ _
      | exact carapaceref01_More.mono _ _ _
      | exact carapaceref01_Sum.mono _ _
      | exact crc_All.mono _ _
      | exact crc_More.mono _ _ _
      | exact crc_Sum.mono _ _
      | exact LeO.none _
      | refine LeO.ite ?_ ?_
      | refine LeO.bind ?_ (fun _ => ?_)
theorem carapacelaw01_CrcSums.mono : ∀ a0 a1 a2 k, LeO (carapacelaw01_CrcSums.f k a0 a1 a2) (carapacelaw01_CrcSums.f (k + 1) a0 a1 a2) := by
  intro a0 a1 a2 k
  obtain ⟨ih0, ih1, ih2⟩ := carapacelaw01_CrcSums.mono_l k
  unfold carapacelaw01_CrcSums.f
  repeat' first
      | (with_reducible exact ih0 _ _ _ _ _)
      | (with_reducible exact ih1 _ _ _ _ _)
      | (with_reducible exact ih2 _ _ _ _ _ _)
      | (with_reducible exact carapaceref01_All.mono _ _)
      | (with_reducible exact carapaceref01_More.mono _ _ _)
      | (with_reducible exact carapaceref01_Sum.mono _ _)
      | (with_reducible exact crc_All.mono _ _)
      | (with_reducible exact crc_More.mono _ _ _)
      | (with_reducible exact crc_Sum.mono _ _)
      | (with_reducible exact LeO.refl _)
      | (with_reducible exact LeO.none _)
      | (with_reducible refine LeO.ite ?_ ?_)
      | (with_reducible refine LeO.bind ?_ (fun _ => ?_))
      | exact ih0 _ _ _ _ _
      | exact ih1 _ _ _ _ _
      | exact ih2 _ _ _ _ _ _
      | exact carapaceref01_All.mono _ _
      | exact carapaceref01_More.mono _ _ _
      | exact carapaceref01_Sum.mono _ _
      | exact crc_All.mono _ _
      | exact crc_More.mono _ _ _
      | exact crc_Sum.mono _ _
      | exact LeO.none _
      | refine LeO.ite ?_ ?_
      | refine LeO.bind ?_ (fun _ => ?_)
set_option maxHeartbeats 8000000 in
set_option maxRecDepth 100000 in
theorem carapacelaw01_CrcSums.calls (k : Nat) (a0 : Int) (A1 : Option Addr) (c1 : Nat) (l1 : List Int) (A2 : Option Addr) (c2 : Nat) (l2 : List (List Int)) (r : Bool) (w : World) (hr1 : Kd.C (Kd.int .u8) w A1 l1.length l1) (hc1 : l1.length ≤ c1) (hr2 : Kd.C (Kd.slice 5 (Kd.int .u8)) w A2 l2.length l2) (hc2 : l2.length ≤ c2) (h : carapacelaw01_CrcSums.f k a0 l1 l2 = some r) :
    Calls Try.prog 3 #[.int .u32 a0, .slice A1 l1.length c1, .slice A2 l2.length c2] w fun e w' => e = .returned (.bool r) ∧ Below w.heap.size w w' := by
  have HR1 := Aside0.mk hr1
  have HC1 := Aside0.mk hc1
  clear hr1 hc1
  have HR2 := Aside0.mk hr2
  have HC2 := Aside0.mk hc2
  clear hr2 hc2
  have HB := Aside0.mk (Below.refl w.heap.size w)
  have H : ((carapacelaw01_awake.f).bind fun t110 => (carapacelaw01_CrcSums.l0 k a0 l1 l2 t110 0 0)) = some r := h
  clear h
  replace H := Option.bind_eq_some_iff.mp H
  obtain ⟨t110, A40, H⟩ := H
  replace H : (carapacelaw01_CrcSums.l0 k a0 l1 l2 t110 0 0) = some r := H
  have A4 := Aside0.mk A40
  clear A40
  have HC5 := Aside0.mk H
  clear H
  go_enter Try.func3, Try.ntmps3
  go_upto_block 0 with (first | ((with_reducible refine gate_callee (f := 15) rfl ?_); refine goesL_ (some 10) rfl rfl Try.func15 (by kernel_rfl) rfl #[] rfl (by (try simp only [List.map_toArray, List.map_cons, List.map_nil]); first | done | rfl | (simp only [List.length_drop, List.length_take]; rfl)) ?_; (with_reducible refine (carapacelaw01_awake.calls  t110 _ A4.out).mono ?_); rintro e w6 ⟨rfl, hb⟩; refine ⟨_, rfl, ?_⟩; have n0_ := Aside0.mk (below_step (by repeat (first | (with_reducible first | exact HB.out | apply below_alloc | apply pw_below_drewN | apply below_drew1) | exact HB.out)) hb); clear HB; have HB := n0_; clear n0_; (try clear hb); (try clear hb2); (try clear hk); (try clear hi)))
  (try simp only [Act.put, List.setIfInBounds_toArray, List.set_cons_zero, List.set_cons_succ])
  go_cut [8] (fun v8 wc => ∃ (kq : Nat) (x8_4 : Int), v8 = .int .i64 x8_4 ∧ Aside0 (carapacelaw01_CrcSums.j1 kq a0 l1 l2 t110 x8_4 = some r) ∧ Aside0 (kq ≤ k) ∧ Aside0 (Below w.heap.size w wc))
  case first =>
    have H := HC5.out
    clear HC5
    have H' := Aside0.mk H
    clear H
    go_wp2
    go_loopg [8, 9] k (fun kq v8 v9 w' => ∃ (x8_1 : Int) (x9_1 : Int), v8 = .int .i64 x8_1 ∧ v9 = .int .i64 x9_1 ∧ Aside0 (carapacelaw01_CrcSums.l0 kq a0 l1 l2 t110 x8_1 x9_1 = some r) ∧ Aside0 (kq ≤ k) ∧ Aside0 (Below w.heap.size w w'))
    case atStart => exact ⟨(0), (0), (by first | rfl | (simp; done) | (simp [*]; done)), (by first | rfl | (simp; done) | (simp [*]; done)), H', ⟨Nat.le_refl _⟩, ⟨by repeat (first | (with_reducible first | exact HB.out | apply below_alloc | apply pw_below_drewN | apply below_drew1) | exact HB.out)⟩⟩
    case round =>
      clear H'
      try clear c1
      try clear c2
      try clear p2
      try clear c3
      obtain ⟨x8_1, x9_1, rfl, rfl, HA, HK1, HB⟩ := hrel
      cases gk with
      | zero => exact absurd HA.out (by simp [carapacelaw01_CrcSums.l0])
      | succ k1 =>
        have H := HA.out
        clear HA
        simp only [carapacelaw01_CrcSums.l0] at H
        by_cases c7 : x9_1 < (l2.length : Int)
        · rw [if_pos c7] at H
          have c7b0 : decide (x9_1 < (l2.length : Int)) = true := decide_eq_true c7
          clear c7
          (first | rw [c7b0] | (simp only [i64_w, i32_w]; rw [c7b0]) | skip)
          by_cases c8 : x8_1 < 10000
          · rw [if_pos c8] at H
            have c8b0 : decide (x8_1 < 10000) = true := decide_eq_true c8
            clear c8
            by_cases c9 : 0 ≤ x9_1
            · rw [if_pos c9] at H
              have c9b0 : decide (0 ≤ x9_1) = true := decide_eq_true c9
              clear c9
              have H' := Aside0.mk H
              clear H
              have p111 : 0 ≤ (x9_1 : Int) := of_decide_eq_true (by first | (with_reducible assumption) | assumption)
              have q111 : x9_1 < (l2.length : Int) := of_decide_eq_true (by first | (with_reducible assumption) | assumption)
              obtain ⟨ad111, A111_0, c111_0, e111, hx111_0, hl111_0, hi111_0⟩ := at_L1 HR2.out x9_1 p111 q111
              cases e111
              replace hx111_0 := (HB.out.cell (World.block_lt_of_cell? w _ hx111_0)).trans hx111_0
              have HR111_0 := Aside0.mk hi111_0
              have HC111_0 := Aside0.mk hl111_0
              clear hi111_0 hl111_0
              replace p111 := eq_true p111
              replace q111 := eq_true q111
              go_wp2
              go_roundg k1
              case measure => have := HK1.out; omega
              case rel => exact ⟨(wrap64 ((wrap64 (x8_1 + ((rd_L1 l2 x9_1).length : Int))) + 1)), (wrap64 (x9_1 + 1)), (by first | rfl | (simp; done) | (simp [*]; done)), (by first | rfl | (simp; done) | (simp [*]; done)), H', ⟨by have := HK1.out; omega⟩, ⟨by repeat (first | (with_reducible first | exact HB.out | apply below_alloc | apply pw_below_drewN | apply below_drew1) | exact HB.out)⟩⟩
            · rw [if_neg c9] at H
              exact absurd H (by simp)
          · rw [if_neg c8] at H
            have c8b0 : decide (x8_1 < 10000) = false := decide_eq_false c8
            clear c8
            have H' := Aside0.mk H
            clear H
            go_wp2
            go_meet
            case rel => exact ⟨_, (x8_1), (by first | rfl | (simp; done) | (simp [*]; done)), H', ⟨by have := HK1.out; first | omega | exact Nat.le_refl _⟩, ⟨by repeat (first | (with_reducible first | exact HB.out | apply below_alloc | apply pw_below_drewN | apply below_drew1) | exact HB.out)⟩⟩
        · rw [if_neg c7] at H
          have c7b0 : decide (x9_1 < (l2.length : Int)) = false := decide_eq_false c7
          clear c7
          (first | rw [c7b0] | (simp only [i64_w, i32_w]; rw [c7b0]) | skip)
          have H' := Aside0.mk H
          clear H
          go_wp2
          go_meet
          case rel => exact ⟨_, (x8_1), (by first | rfl | (simp; done) | (simp [*]; done)), H', ⟨by have := HK1.out; first | omega | exact Nat.le_refl _⟩, ⟨by repeat (first | (with_reducible first | exact HB.out | apply below_alloc | apply pw_below_drewN | apply below_drew1) | exact HB.out)⟩⟩
  case rest =>
    clear HC5
    try clear c1
    try clear p1
    try clear q1
    try clear hx1
    try clear c2
    try clear p2
    try clear c3
    try clear p6
    try clear c7
    try clear c7b0
    try clear c8
    try clear c8b0
    try clear c9
    try clear c9b0
    try clear hx111_0
    try clear p111
    try clear p2
    try clear q111
    obtain ⟨kq, x8_4, rfl, HA, HJ4, HB⟩ := hcut
    cases kq with
    | zero => exact absurd HA.out (by simp [carapacelaw01_CrcSums.j1])
    | succ kj4 =>
      have H := HA.out
      clear HA
      simp only [carapacelaw01_CrcSums.j1] at H
      have HC10 := Aside0.mk H
      clear H
      go_upto_region 7 with (fail)
      go_cut [35] (fun v35 wc => ∃ (kq : Nat) (x35_9 : Bool), v35 = .bool x35_9 ∧ Aside0 (carapacelaw01_CrcSums.j2 kq a0 l1 l2 t110 x35_9 = some r) ∧ Aside0 (kq ≤ kj4) ∧ Aside0 (Below w.heap.size w wc))
      case first =>
        have H := HC10.out
        clear HC10
        by_cases c11 : (l1.length : Int) > 2000
        · rw [if_pos c11] at H
          have c11b0 : decide (2000 < (l1.length : Int)) = true := decide_eq_true c11
          have c11b1 : decide (2000 < l1.length) = true := decide_eq_true (by omega)
          clear c11
          (first | rw [c11b0] | (simp only [i64_w, i32_w]; rw [c11b0]) | skip)
          have H' := Aside0.mk H
          clear H
          go_wp2
          go_meet
          case rel => exact ⟨_, (true), (by first | rfl | (simp; done) | (simp [*]; done)), H', ⟨by have := HJ4.out; first | omega | exact Nat.le_refl _⟩, ⟨by repeat (first | (with_reducible first | exact HB.out | apply below_alloc | apply pw_below_drewN | apply below_drew1) | exact HB.out)⟩⟩
        · rw [if_neg c11] at H
          have c11b0 : decide (2000 < (l1.length : Int)) = false := decide_eq_false c11
          have c11b1 : decide (2000 < l1.length) = false := decide_eq_false (by omega)
          clear c11
          (first | rw [c11b0] | (simp only [i64_w, i32_w]; rw [c11b0]) | skip)
          have H' := Aside0.mk H
          clear H
          go_wp2
          go_meet
          case rel => exact ⟨_, (decide (x8_4 > 2000)), (by first | rfl | (simp; done) | (simp [*]; done)), H', ⟨by have := HJ4.out; first | omega | exact Nat.le_refl _⟩, ⟨by repeat (first | (with_reducible first | exact HB.out | apply below_alloc | apply pw_below_drewN | apply below_drew1) | exact HB.out)⟩⟩
      case rest =>
        clear HC10
        try clear c1
        try clear p1
        try clear q1
        try clear hx1
        try clear c2
        try clear p2
        try clear c3
        try clear p6
        try clear c7
        try clear c7b0
        try clear c8
        try clear c8b0
        try clear c9
        try clear c9b0
        try clear c11
        try clear c11b0
        try clear c11b1
        try clear p11
        try clear q11
        try clear hx11
        try clear hx111_0
        try clear p1
        try clear p111
        try clear p2
        try clear p6
        try clear q1
        try clear q111
        obtain ⟨kq, x35_9, rfl, HA, HJ9, HB⟩ := hcut
        cases kq with
        | zero => exact absurd HA.out (by simp [carapacelaw01_CrcSums.j2])
        | succ kj9 =>
          have H := HA.out
          clear HA
          simp only [carapacelaw01_CrcSums.j2] at H
          by_cases c12 : x35_9 = true
          · subst c12
            have H1 : (some t110) = some r := by rw [if_pos rfl] at H; exact H
            clear H
            have H := H1
            clear H1
            obtain rfl := Option.some.inj H
            go_wp2
            go_ret
            exact ⟨by first | rfl | (simp [errW_none, errW_some] <;> rfl) | (simp [*, errW_none, errW_some] <;> rfl), by repeat (first | (with_reducible first | exact HB.out | apply below_alloc | apply pw_below_drewN | apply below_drew1) | exact HB.out)⟩
          · replace c12 := Bool.eq_false_iff.mpr c12
            subst c12
            have H1 : (if t110 = true then ((crc_Sum.f kj9 l1).bind fun t112 => ((carapaceref01_Sum.f kj9 l1).bind fun t113 => (if t112 = t113 then ((crc_More.f kj9 a0 l1).bind fun t114 => ((carapaceref01_More.f kj9 a0 l1).bind fun t115 => (if t114 = t115 then ((crc_All.f kj9 l2).bind fun t116 => ((carapaceref01_All.f kj9 l2).bind fun t117 => (some (t116 == t117)))) else (some false)))) else (some false)))) else (some false)) = some r := by rw [if_neg (show ¬ (false = true) by decide)] at H; exact H
            clear H
            have H := H1
            clear H1
            by_cases c13 : t110 = true
            · subst c13
              have H1 : ((crc_Sum.f kj9 l1).bind fun t112 => ((carapaceref01_Sum.f kj9 l1).bind fun t113 => (if t112 = t113 then ((crc_More.f kj9 a0 l1).bind fun t114 => ((carapaceref01_More.f kj9 a0 l1).bind fun t115 => (if t114 = t115 then ((crc_All.f kj9 l2).bind fun t116 => ((carapaceref01_All.f kj9 l2).bind fun t117 => (some (t116 == t117)))) else (some false)))) else (some false)))) = some r := by rw [if_pos rfl] at H; exact H
              clear H
              have H := H1
              clear H1
              replace H := Option.bind_eq_some_iff.mp H
              obtain ⟨t112, A140, H⟩ := H
              replace H : ((carapaceref01_Sum.f kj9 l1).bind fun t113 => (if t112 = t113 then ((crc_More.f kj9 a0 l1).bind fun t114 => ((carapaceref01_More.f kj9 a0 l1).bind fun t115 => (if t114 = t115 then ((crc_All.f kj9 l2).bind fun t116 => ((carapaceref01_All.f kj9 l2).bind fun t117 => (some (t116 == t117)))) else (some false)))) else (some false))) = some r := H
              have A14 := Aside0.mk A140
              clear A140
              replace H := Option.bind_eq_some_iff.mp H
              obtain ⟨t113, A150, H⟩ := H
              replace H : (if t112 = t113 then ((crc_More.f kj9 a0 l1).bind fun t114 => ((carapaceref01_More.f kj9 a0 l1).bind fun t115 => (if t114 = t115 then ((crc_All.f kj9 l2).bind fun t116 => ((carapaceref01_All.f kj9 l2).bind fun t117 => (some (t116 == t117)))) else (some false)))) else (some false)) = some r := H
              have A15 := Aside0.mk A150
              clear A150
              by_cases c16 : t112 = t113
              · rw [if_pos c16] at H
                have c16b0 : (t112 == t113) = true := beq_iff_eq.mpr c16
                have c16b1 : (t112 != t113) = false := bne_eq_false_iff_eq.mpr c16
                clear c16
                replace H := Option.bind_eq_some_iff.mp H
                obtain ⟨t114, A170, H⟩ := H
                replace H : ((carapaceref01_More.f kj9 a0 l1).bind fun t115 => (if t114 = t115 then ((crc_All.f kj9 l2).bind fun t116 => ((carapaceref01_All.f kj9 l2).bind fun t117 => (some (t116 == t117)))) else (some false))) = some r := H
                have A17 := Aside0.mk A170
                clear A170
                replace H := Option.bind_eq_some_iff.mp H
                obtain ⟨t115, A180, H⟩ := H
                replace H : (if t114 = t115 then ((crc_All.f kj9 l2).bind fun t116 => ((carapaceref01_All.f kj9 l2).bind fun t117 => (some (t116 == t117)))) else (some false)) = some r := H
                have A18 := Aside0.mk A180
                clear A180
                by_cases c19 : t114 = t115
                · rw [if_pos c19] at H
                  have c19b0 : (t114 == t115) = true := beq_iff_eq.mpr c19
                  have c19b1 : (t114 != t115) = false := bne_eq_false_iff_eq.mpr c19
                  clear c19
                  replace H := Option.bind_eq_some_iff.mp H
                  obtain ⟨t116, A200, H⟩ := H
                  replace H : ((carapaceref01_All.f kj9 l2).bind fun t117 => (some (t116 == t117))) = some r := H
                  have A20 := Aside0.mk A200
                  clear A200
                  replace H := Option.bind_eq_some_iff.mp H
                  obtain ⟨t117, A210, H⟩ := H
                  replace H : (some (t116 == t117)) = some r := H
                  have A21 := Aside0.mk A210
                  clear A210
                  obtain rfl := Option.some.inj H
                  go_wp2_with (first | (go_at_call 16; (with_reducible refine (crc_Sum.calls kj9 _ _ l1 t112 _ ?side1 ?side2 A14.out).mono ?_); (case side1 => repeat (first | exact (Kd.C_below HR1.out HB.out) | (with_reducible refine Kd.C_alloc ?_ _) | (with_reducible refine Kd.C_drewN ?_ _) | (with_reducible refine Kd.C_drew ?_))); (case side2 => exact HC1.out); rintro e w' ⟨rfl, ⟨nd, rfl⟩⟩) | (go_at_call 17; (with_reducible refine (carapaceref01_Sum.calls kj9 _ _ l1 t113 _ ?side1 ?side2 A15.out).mono ?_); (case side1 => repeat (first | exact (Kd.C_below HR1.out (by repeat (first | (with_reducible first | exact HB.out | apply below_alloc | apply pw_below_drewN | apply below_drew1) | exact HB.out))) | (with_reducible refine Kd.C_alloc ?_ _) | (with_reducible refine Kd.C_drewN ?_ _) | (with_reducible refine Kd.C_drew ?_))); (case side2 => exact HC1.out); rintro e w' ⟨rfl, ⟨nd, rfl⟩⟩) | (go_at_call 18; (with_reducible refine (crc_More.calls kj9 a0 _ _ l1 t114 _ ?side1 ?side2 A17.out).mono ?_); (case side1 => repeat (first | exact (Kd.C_below HR1.out (by repeat (first | (with_reducible first | exact HB.out | apply below_alloc | apply pw_below_drewN | apply below_drew1) | exact HB.out))) | (with_reducible refine Kd.C_alloc ?_ _) | (with_reducible refine Kd.C_drewN ?_ _) | (with_reducible refine Kd.C_drew ?_))); (case side2 => exact HC1.out); rintro e w' ⟨rfl, ⟨nd, rfl⟩⟩) | (go_at_call 19; (with_reducible refine (carapaceref01_More.calls kj9 a0 _ _ l1 t115 _ ?side1 ?side2 A18.out).mono ?_); (case side1 => repeat (first | exact (Kd.C_below HR1.out (by repeat (first | (with_reducible first | exact HB.out | apply below_alloc | apply pw_below_drewN | apply below_drew1) | exact HB.out))) | (with_reducible refine Kd.C_alloc ?_ _) | (with_reducible refine Kd.C_drewN ?_ _) | (with_reducible refine Kd.C_drew ?_))); (case side2 => exact HC1.out); rintro e w' ⟨rfl, ⟨nd, rfl⟩⟩) | (go_at_call 20; (with_reducible refine (crc_All.calls kj9 _ _ l2 t116 _ ?side1 ?side2 A20.out).mono ?_); (case side1 => repeat (first | exact (Kd.C_below HR2.out (by repeat (first | (with_reducible first | exact HB.out | apply below_alloc | apply pw_below_drewN | apply below_drew1) | exact HB.out))) | (with_reducible refine Kd.C_alloc ?_ _) | (with_reducible refine Kd.C_drewN ?_ _) | (with_reducible refine Kd.C_drew ?_))); (case side2 => exact HC2.out); rintro e w' ⟨rfl, ⟨nd, rfl⟩⟩) | (go_at_call 21; (with_reducible refine (carapaceref01_All.calls kj9 _ _ l2 t117 _ ?side1 ?side2 A21.out).mono ?_); (case side1 => repeat (first | exact (Kd.C_below HR2.out (by repeat (first | (with_reducible first | exact HB.out | apply below_alloc | apply pw_below_drewN | apply below_drew1) | exact HB.out))) | (with_reducible refine Kd.C_alloc ?_ _) | (with_reducible refine Kd.C_drewN ?_ _) | (with_reducible refine Kd.C_drew ?_))); (case side2 => exact HC2.out); rintro e w' ⟨rfl, ⟨nd, rfl⟩⟩))
                  go_ret
                  exact ⟨by first | rfl | (simp [errW_none, errW_some] <;> rfl) | (simp [*, errW_none, errW_some] <;> rfl), by repeat (first | (with_reducible first | exact HB.out | apply below_alloc | apply pw_below_drewN | apply below_drew1) | exact HB.out)⟩
                · rw [if_neg c19] at H
                  have c19b0 : (t114 == t115) = false := beq_eq_false_iff_ne.mpr c19
                  have c19b1 : (t114 != t115) = true := bne_iff_ne.mpr c19
                  obtain rfl := Option.some.inj H
                  go_wp2_with (first | (go_at_call 16; (with_reducible refine (crc_Sum.calls kj9 _ _ l1 t112 _ ?side1 ?side2 A14.out).mono ?_); (case side1 => repeat (first | exact (Kd.C_below HR1.out HB.out) | (with_reducible refine Kd.C_alloc ?_ _) | (with_reducible refine Kd.C_drewN ?_ _) | (with_reducible refine Kd.C_drew ?_))); (case side2 => exact HC1.out); rintro e w' ⟨rfl, ⟨nd, rfl⟩⟩) | (go_at_call 17; (with_reducible refine (carapaceref01_Sum.calls kj9 _ _ l1 t113 _ ?side1 ?side2 A15.out).mono ?_); (case side1 => repeat (first | exact (Kd.C_below HR1.out (by repeat (first | (with_reducible first | exact HB.out | apply below_alloc | apply pw_below_drewN | apply below_drew1) | exact HB.out))) | (with_reducible refine Kd.C_alloc ?_ _) | (with_reducible refine Kd.C_drewN ?_ _) | (with_reducible refine Kd.C_drew ?_))); (case side2 => exact HC1.out); rintro e w' ⟨rfl, ⟨nd, rfl⟩⟩) | (go_at_call 18; (with_reducible refine (crc_More.calls kj9 a0 _ _ l1 t114 _ ?side1 ?side2 A17.out).mono ?_); (case side1 => repeat (first | exact (Kd.C_below HR1.out (by repeat (first | (with_reducible first | exact HB.out | apply below_alloc | apply pw_below_drewN | apply below_drew1) | exact HB.out))) | (with_reducible refine Kd.C_alloc ?_ _) | (with_reducible refine Kd.C_drewN ?_ _) | (with_reducible refine Kd.C_drew ?_))); (case side2 => exact HC1.out); rintro e w' ⟨rfl, ⟨nd, rfl⟩⟩) | (go_at_call 19; (with_reducible refine (carapaceref01_More.calls kj9 a0 _ _ l1 t115 _ ?side1 ?side2 A18.out).mono ?_); (case side1 => repeat (first | exact (Kd.C_below HR1.out (by repeat (first | (with_reducible first | exact HB.out | apply below_alloc | apply pw_below_drewN | apply below_drew1) | exact HB.out))) | (with_reducible refine Kd.C_alloc ?_ _) | (with_reducible refine Kd.C_drewN ?_ _) | (with_reducible refine Kd.C_drew ?_))); (case side2 => exact HC1.out); rintro e w' ⟨rfl, ⟨nd, rfl⟩⟩))
                  go_ret
                  exact ⟨by first | rfl | (simp [errW_none, errW_some] <;> rfl) | (simp [*, errW_none, errW_some] <;> rfl), by repeat (first | (with_reducible first | exact HB.out | apply below_alloc | apply pw_below_drewN | apply below_drew1) | exact HB.out)⟩
              · rw [if_neg c16] at H
                have c16b0 : (t112 == t113) = false := beq_eq_false_iff_ne.mpr c16
                have c16b1 : (t112 != t113) = true := bne_iff_ne.mpr c16
                obtain rfl := Option.some.inj H
                go_wp2_with (first | (go_at_call 16; (with_reducible refine (crc_Sum.calls kj9 _ _ l1 t112 _ ?side1 ?side2 A14.out).mono ?_); (case side1 => repeat (first | exact (Kd.C_below HR1.out HB.out) | (with_reducible refine Kd.C_alloc ?_ _) | (with_reducible refine Kd.C_drewN ?_ _) | (with_reducible refine Kd.C_drew ?_))); (case side2 => exact HC1.out); rintro e w' ⟨rfl, ⟨nd, rfl⟩⟩) | (go_at_call 17; (with_reducible refine (carapaceref01_Sum.calls kj9 _ _ l1 t113 _ ?side1 ?side2 A15.out).mono ?_); (case side1 => repeat (first | exact (Kd.C_below HR1.out (by repeat (first | (with_reducible first | exact HB.out | apply below_alloc | apply pw_below_drewN | apply below_drew1) | exact HB.out))) | (with_reducible refine Kd.C_alloc ?_ _) | (with_reducible refine Kd.C_drewN ?_ _) | (with_reducible refine Kd.C_drew ?_))); (case side2 => exact HC1.out); rintro e w' ⟨rfl, ⟨nd, rfl⟩⟩))
                go_ret
                exact ⟨by first | rfl | (simp [errW_none, errW_some] <;> rfl) | (simp [*, errW_none, errW_some] <;> rfl), by repeat (first | (with_reducible first | exact HB.out | apply below_alloc | apply pw_below_drewN | apply below_drew1) | exact HB.out)⟩
            · replace c13 := Bool.eq_false_iff.mpr c13
              subst c13
              have H1 : (some false) = some r := by rw [if_neg (show ¬ (false = true) by decide)] at H; exact H
              clear H
              have H := H1
              clear H1
              obtain rfl := Option.some.inj H
              go_wp2
              go_ret
              exact ⟨by first | rfl | (simp [errW_none, errW_some] <;> rfl) | (simp [*, errW_none, errW_some] <;> rfl), by repeat (first | (with_reducible first | exact HB.out | apply below_alloc | apply pw_below_drewN | apply below_drew1) | exact HB.out)⟩

-- NOT PRINTED: function 4 (carapacelaw01_CrcParts)

end Go.Proofs.Ytmibdlapjddfoaa.QCrc
