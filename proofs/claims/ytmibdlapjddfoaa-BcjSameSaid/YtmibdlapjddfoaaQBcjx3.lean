-- Text written by a program of this session (wip/tools).
import Derived.Test.YtmibdlapjddfoaaQBcjx0
import Derived.Test.YtmibdlapjddfoaaQBcjx1
namespace Go.Proofs.Ytmibdlapjddfoaa.QBcj
open Go.RowKit Go.Proofs.YtmibdlapjddfoaaW.PrintWords Go.Proofs.YtmibdlapjddfoaaW.PrintLast Go.Proofs.YtmibdlapjddfoaaW.PrintMore
attribute [local go_sem] max2_int min2_int max_two min_two max_three min_three max_four min_four   -- for this text's walks alone
set_option linter.unusedVariables false
set_option linter.unusedSimpArgs false

/-! ### carapacelaw08_BcjSame: function 8 -/
mutual
def carapacelaw08_BcjSame.l0 : Nat → Int → List Int → Bool → List Int → Int → Option (Bool)
  | 0, _, _, _, _, _ => none
  | k + 1, x0, x1, x5, x6, x7 => if x7 < (x1.length : Int) then (carapacelaw08_BcjSame.j1 k x0 x1 x5 x6 x7 (decide (x7 < 50))) else (carapacelaw08_BcjSame.j1 k x0 x1 x5 x6 x7 false)
def carapacelaw08_BcjSame.j1 : Nat → Int → List Int → Bool → List Int → Int → Bool → Option (Bool)
  | 0, _, _, _, _, _, _ => none
  | k + 1, x0, x1, x5, x6, x7, x22 => if x22 = true then (if 0 ≤ x7 then (if x7 < (x1.length : Int) then (if (rd x1 x7) < 0 then (some x5) else (if (rd x1 x7) ≥ 200 then (some x5) else (if 0 ≤ (wrap64 (4 * (rd x1 x7))) then (if (wrap64 (4 * (rd x1 x7))) < (x6.length : Int) then (if 0 ≤ (wrap64 ((wrap64 (4 * (rd x1 x7))) + 1)) then (if (wrap64 ((wrap64 (4 * (rd x1 x7))) + 1)) < (x6.length : Int) then (if 0 ≤ (wrap64 ((wrap64 (4 * (rd x1 x7))) + 3)) then (if (wrap64 ((wrap64 (4 * (rd x1 x7))) + 3)) < (x6.length : Int) then (carapacelaw08_BcjSame.l0 k x0 x1 x5 (((x6.set ((wrap64 (4 * (rd x1 x7))) : Int).toNat ((Int.tmod (wrap64 ((wrap64 ((wrap64 (x0)) - (rd x1 x7))) + 65536)) 256) % 256)).set ((wrap64 ((wrap64 (4 * (rd x1 x7))) + 1)) : Int).toNat ((Int.tmod (wrap64 (Int.tdiv (wrap64 ((wrap64 ((wrap64 (x0)) - (rd x1 x7))) + 65536)) 256)) 256) % 256)).set ((wrap64 ((wrap64 (4 * (rd x1 x7))) + 3)) : Int).toNat 20) (wrap64 (x7 + 1))) else (none)) else (none)) else (none)) else (none)) else (none)) else (none)))) else (none)) else (none)) else ((bcj_Put.f x6).bind fun t171 => (if (t171.length : Int) = (x6.length : Int) then (carapacelaw08_BcjSame.l1 k x0 x1 x5 t171 0) else (some false)))
def carapacelaw08_BcjSame.l1 : Nat → Int → List Int → Bool → List Int → Int → Option (Bool)
  | 0, _, _, _, _, _ => none
  | k + 1, x0, x1, x5, x10, x11 => if x11 < (x1.length : Int) then (carapacelaw08_BcjSame.j3 k x0 x1 x5 x10 x11 (decide (x11 < 50))) else (carapacelaw08_BcjSame.j3 k x0 x1 x5 x10 x11 false)
def carapacelaw08_BcjSame.j3 : Nat → Int → List Int → Bool → List Int → Int → Bool → Option (Bool)
  | 0, _, _, _, _, _, _ => none
  | k + 1, x0, x1, x5, x10, x11, x83 => if x83 = true then (if 0 ≤ x11 then (if x11 < (x1.length : Int) then (if 0 ≤ (wrap64 (4 * (rd x1 x11))) then (if (wrap64 (4 * (rd x1 x11))) < (x10.length : Int) then (if (rd x10 (wrap64 (4 * (rd x1 x11)))) = ((Int.tmod x0 256) % 256) then (if 0 ≤ (wrap64 ((wrap64 (4 * (rd x1 x11))) + 1)) then (if (wrap64 ((wrap64 (4 * (rd x1 x11))) + 1)) < (x10.length : Int) then (if (rd x10 (wrap64 ((wrap64 (4 * (rd x1 x11))) + 1))) = ((IntKind.u16.wrap (Int.tdiv x0 256)) % 256) then (if 0 ≤ (wrap64 ((wrap64 (4 * (rd x1 x11))) + 3)) then (if (wrap64 ((wrap64 (4 * (rd x1 x11))) + 3)) < (x10.length : Int) then (if (rd x10 (wrap64 ((wrap64 (4 * (rd x1 x11))) + 3))) = 20 then (carapacelaw08_BcjSame.l1 k x0 x1 x5 x10 (wrap64 (x11 + 1))) else (some false)) else (none)) else (none)) else (some false)) else (none)) else (none)) else (some false)) else (none)) else (none)) else (none)) else (none)) else (some x5)
end
def carapacelaw08_BcjSame.f (k : Nat) (a0 : Int) (l1 : List Int) : Option (Bool) := (carapacelaw08_awake.f).bind fun t160 => (if 800 ≤ 281474976710656 then (carapacelaw08_BcjSame.l0 k a0 l1 t160 (List.replicate 800 0) 0) else (none))
theorem carapacelaw08_BcjSame.mono_l : ∀ k, (∀ y0 y1 y2 y3 y4, LeO (carapacelaw08_BcjSame.l0 k y0 y1 y2 y3 y4) (carapacelaw08_BcjSame.l0 (k + 1) y0 y1 y2 y3 y4)) ∧ (∀ y0 y1 y2 y3 y4 y5, LeO (carapacelaw08_BcjSame.j1 k y0 y1 y2 y3 y4 y5) (carapacelaw08_BcjSame.j1 (k + 1) y0 y1 y2 y3 y4 y5)) ∧ (∀ y0 y1 y2 y3 y4, LeO (carapacelaw08_BcjSame.l1 k y0 y1 y2 y3 y4) (carapacelaw08_BcjSame.l1 (k + 1) y0 y1 y2 y3 y4)) ∧ (∀ y0 y1 y2 y3 y4 y5, LeO (carapacelaw08_BcjSame.j3 k y0 y1 y2 y3 y4 y5) (carapacelaw08_BcjSame.j3 (k + 1) y0 y1 y2 y3 y4 y5))
  | 0 => ⟨fun _ _ _ _ _ r h => by simp [carapacelaw08_BcjSame.l0] at h, fun _ _ _ _ _ _ r h => by simp [carapacelaw08_BcjSame.j1] at h, fun _ _ _ _ _ r h => by simp [carapacelaw08_BcjSame.l1] at h, fun _ _ _ _ _ _ r h => by simp [carapacelaw08_BcjSame.j3] at h⟩
  | k + 1 => by
    obtain ⟨ih0, ih1, ih2, ih3⟩ := carapacelaw08_BcjSame.mono_l k
    refine ⟨?_, ?_, ?_, ?_⟩
    · intro y0 y1 y2 y3 y4
      unfold carapacelaw08_BcjSame.l0
      repeat' first
      | (with_reducible exact ih0 _ _ _ _ _)
      | (with_reducible exact ih1 _ _ _ _ _ _)
      | (with_reducible exact ih2 _ _ _ _ _)
      | (with_reducible exact ih3 _ _ _ _ _ _)
      | (with_reducible exact LeO.refl _)
      | (with_reducible exact LeO.none _)
      | (with_reducible refine LeO.ite ?_ ?_)
      | (with_reducible refine LeO.bind ?_ (fun _ => ?_))
      | exact ih0 _ _ _ _ _
      | exact ih1 _ _ _ _ _ _
      | exact ih2 _ _ _ _ _
      | exact ih3 _ _ _ _ _ _
      | exact LeO.none _
      | refine LeO.ite ?_ ?_
      | refine LeO.bind ?_ (fun _ => ?_)
    · intro y0 y1 y2 y3 y4 y5
      unfold carapacelaw08_BcjSame.j1
      repeat' first
      | (with_reducible exact ih0 _ _ _ _ _)
      | (with_reducible exact ih1 _ _ _ _ _ _)
      | (with_reducible exact ih2 _ _ _ _ _)
      | (with_reducible exact ih3 _ _ _ _ _ _)
      | (with_reducible exact LeO.refl _)
      | (with_reducible exact LeO.none _)
      | (with_reducible refine LeO.ite ?_ ?_)
      | (with_reducible refine LeO.bind ?_ (fun _ => ?_))
      | exact ih0 _ _ _ _ _
      | exact ih1 _ _ _ _ _ _
      | exact ih2 _ _ _ _ _
      | exact ih3 _ _ _ _ _ _
      | exact LeO.none _
      | refine LeO.ite ?_ ?_
      | refine LeO.bind ?_ (fun _ => ?_)
    · intro y0 y1 y2 y3 y4
      unfold carapacelaw08_BcjSame.l1
      repeat' first
      | (with_reducible exact ih0 _ _ _ _ _)
      | (with_reducible exact ih1 _ _ _ _ _ _)
      | (with_reducible exact ih2 _ _ _ _ _)
      | (with_reducible exact ih3 _ _ _ _ _ _)
      | (with_reducible exact LeO.refl _)
      | (with_reducible exact LeO.none _)
      | (with_reducible refine LeO.ite ?_ ?_)
      | (with_reducible refine LeO.bind ?_ (fun _ => ?_))
      | exact ih0 _ _ _ _ _
      | exact ih1 _ _ _ _ _ _
      | exact ih2 _ _ _ _ _
      | exact ih3 _ _ _ _ _ _
      | exact LeO.none _
      | refine LeO.ite ?_ ?_
      | refine LeO.bind ?_ (fun _ => ?_)
    · intro y0 y1 y2 y3 y4 y5
      unfold carapacelaw08_BcjSame.j3
      repeat' first
      | (with_reducible exact ih0 _ _ _ _ _)
      | (with_reducible exact ih1 _ _ _ _ _ _)
      | (with_reducible exact ih2 _ _ _ _ _)
      | (with_reducible exact ih3 _ _ _ _ _ _)
      | (with_reducible exact LeO.refl _)
      | (with_reducible exact LeO.none _)
      | (with_reducible refine LeO.ite ?_ ?_)
      | (with_reducible refine LeO.bind ?_ (fun _ => ?_))
      | exact ih0 _ _ _ _ _
      | exact ih1 _ _ _ _ _ _
      | exact ih2 _ _ _ _ _
      | exact ih3 _ _ _ _ _ _
      | exact LeO.none _
      | refine LeO.ite ?_ ?_
      | refine LeO.bind ?_ (fun _ => ?_)
theorem carapacelaw08_BcjSame.mono : ∀ a0 a1 k, LeO (carapacelaw08_BcjSame.f k a0 a1) (carapacelaw08_BcjSame.f (k + 1) a0 a1) := by
  intro a0 a1 k
  obtain ⟨ih0, ih1, ih2, ih3⟩ := carapacelaw08_BcjSame.mono_l k
  unfold carapacelaw08_BcjSame.f
  repeat' first
      | (with_reducible exact ih0 _ _ _ _ _)
      | (with_reducible exact ih1 _ _ _ _ _ _)
      | (with_reducible exact ih2 _ _ _ _ _)
      | (with_reducible exact ih3 _ _ _ _ _ _)
      | (with_reducible exact LeO.refl _)
      | (with_reducible exact LeO.none _)
      | (with_reducible refine LeO.ite ?_ ?_)
      | (with_reducible refine LeO.bind ?_ (fun _ => ?_))
      | exact ih0 _ _ _ _ _
      | exact ih1 _ _ _ _ _ _
      | exact ih2 _ _ _ _ _
      | exact ih3 _ _ _ _ _ _
      | exact LeO.none _
      | refine LeO.ite ?_ ?_
      | refine LeO.bind ?_ (fun _ => ?_)
set_option maxHeartbeats 8000000 in
set_option maxRecDepth 100000 in
theorem carapacelaw08_BcjSame.calls (k : Nat) (a0 : Int) (A1 : Option Addr) (c1 : Nat) (l1 : List Int) (r : Bool) (w : World) (hr1 : Kd.C (Kd.int .i64) w A1 l1.length l1) (hc1 : l1.length ≤ c1) (h : carapacelaw08_BcjSame.f k a0 l1 = some r) :
    Calls Try.prog 8 #[.int .u16 a0, .slice A1 l1.length c1] w fun e w' => e = .returned (.bool r) ∧ Below w.heap.size w w' := by
  have HR1 := Aside0.mk hr1
  have HC1 := Aside0.mk hc1
  clear hr1 hc1
  have HB := Aside0.mk (Below.refl w.heap.size w)
  have H : ((carapacelaw08_awake.f).bind fun t160 => (if 800 ≤ 281474976710656 then (carapacelaw08_BcjSame.l0 k a0 l1 t160 (List.replicate 800 0) 0) else (none))) = some r := h
  clear h
  replace H := Option.bind_eq_some_iff.mp H
  obtain ⟨t160, A30, H⟩ := H
  replace H : (if 800 ≤ 281474976710656 then (carapacelaw08_BcjSame.l0 k a0 l1 t160 (List.replicate 800 0) 0) else (none)) = some r := H
  have A3 := Aside0.mk A30
  clear A30
  by_cases c4 : 800 ≤ 281474976710656
  · rw [if_pos c4] at H
    have c4b0 := eq_true c4
    have c4b1 : decide (800 ≤ 281474976710656) = true := decide_eq_true c4
    clear c4
    obtain ⟨y161, hy161⟩ : ∃ y_ : List Int, y_ = (List.replicate 800 0) := ⟨_, rfl⟩
    replace H : (carapacelaw08_BcjSame.l0 k a0 l1 t160 y161 0) = some r := by first | (rw [hy161]; with_reducible exact H) | (have H2_ := (Option.bind_some _ _).symm.trans H; rw [hy161]; with_reducible exact H2_) | (have H2_ := (Option.bind_some _ _).symm.trans H; with_reducible exact H2_) | with_reducible exact H | (rw [hy161]; exact H) | exact H
    have Ny161 := Aside0.mk hy161
    clear hy161
    have H' := Aside0.mk H
    clear H
    go_enter Try.func8, Try.ntmps8
    go_wp2_with (first | ((with_reducible refine gate_callee (f := 22) rfl ?_); refine goesL_ (some 13) rfl rfl Try.func22 (by kernel_rfl) rfl #[] rfl (by (try simp only [List.map_toArray, List.map_cons, List.map_nil]); first | done | rfl | (simp only [List.length_drop, List.length_take]; rfl)) ?_; (with_reducible refine (carapacelaw08_awake.calls  t160 _ A3.out).mono ?_); rintro e w5 ⟨rfl, hb⟩; refine ⟨_, rfl, ?_⟩; have n0_ := Aside0.mk (below_step (by repeat (first | (with_reducible first | exact HB.out | apply below_alloc | apply pw_below_drewN | apply below_drew1) | exact HB.out)) hb); clear HB; have HB := n0_; clear n0_; (try clear hb); (try clear hb2); (try clear hk); (try clear hi)) | ((with_reducible refine gate_dst (N := 14) rfl ?_); refine Kd.R_make (Kd.int .u8) _ 5 rfl (N := 14) rfl 23 _ _ rfl 800 rfl rfl Try.underlying23 (.int .u8 0) 1 info5 rfl (by decide) (by omega) 0 (ok := fun _ => True) (okp := fun _ => True) rfl (fun _ hk => hk) trivial (by omega) (by omega) (Below.refl _ _) (Nat.le_refl _) ?_; intro v162 w6 ho7 hb hg_ hnew_; clear hg_ hnew_; (first | rw [← Ny161.out] at ho7 | (simp only [Int.reduceToNat] at ho7; rw [← Ny161.out] at ho7)); have n0_ := Aside0.mk (Kd.R_lower ho7 (below_size (by repeat (first | (with_reducible first | exact HB.out | apply below_alloc | apply pw_below_drewN | apply below_drew1) | exact HB.out)))); have n1_ := Aside0.mk (below_step (by repeat (first | (with_reducible first | exact HB.out | apply below_alloc | apply pw_below_drewN | apply below_drew1) | exact HB.out)) hb); clear HB; have HO163 := n0_; have HB := n1_; clear n0_ n1_; clear hb ho7))
    go_loopg [7] k (fun kq v7 w' => ∃ (x6_1 : List Int) (x7_1 : Int), v7 = .int .i64 x7_1 ∧ Aside0 (carapacelaw08_BcjSame.l0 kq a0 l1 t160 x6_1 x7_1 = some r) ∧ Aside0 (kq ≤ k) ∧ Aside0 (Kd.R (Kd.int .u8) 5 w' w.heap.size (fun _ => True) v162 x6_1) ∧ Aside0 (Below w.heap.size w w'))
    case atStart => exact ⟨(y161), (0), (by first | rfl | (simp; done) | (simp [*]; done)), H', ⟨Nat.le_refl _⟩, ⟨by (with_reducible repeat (first | apply Kd.R_alloc | apply Kd.R_drewN | apply Kd.R_drew)); exact HO163.out⟩, ⟨by repeat (first | (with_reducible first | exact HB.out | apply below_alloc | apply pw_below_drewN | apply below_drew1) | exact HB.out)⟩⟩
    case round =>
      clear H'
      try clear c1
      try clear c2
      try clear p2
      try clear c4
      try clear c4b0
      try clear c4b1
      obtain ⟨x6_1, x7_1, rfl, HA, HK1, HO_6, HB⟩ := hrel
      cases gk with
      | zero => exact absurd HA.out (by simp [carapacelaw08_BcjSame.l0])
      | succ k1 =>
        have H := HA.out
        clear HA
        simp only [carapacelaw08_BcjSame.l0] at H
        have HC8 := Aside0.mk H
        clear H
        go_upto_region 4 with (fail)
        go_cut [22] (fun v22 wc => ∃ (kq : Nat) (x22_7 : Bool), v22 = .bool x22_7 ∧ Aside0 (carapacelaw08_BcjSame.j1 kq a0 l1 t160 x6_1 x7_1 x22_7 = some r) ∧ Aside0 (kq ≤ k1) ∧ Aside0 (Kd.R (Kd.int .u8) 5 wc w.heap.size (fun _ => True) v162 x6_1) ∧ Aside0 (Below w.heap.size w wc))
        case first =>
          have H := HC8.out
          clear HC8
          by_cases c9 : x7_1 < (l1.length : Int)
          · rw [if_pos c9] at H
            have c9b0 : decide (x7_1 < (l1.length : Int)) = true := decide_eq_true c9
            clear c9
            (first | rw [c9b0] | (simp only [i64_w, i32_w]; rw [c9b0]) | skip)
            have H' := Aside0.mk H
            clear H
            go_wp2
            go_meet
            case rel => exact ⟨_, (decide (x7_1 < 50)), (by first | rfl | (simp; done) | (simp [*]; done)), H', ⟨by have := HK1.out; first | omega | exact Nat.le_refl _⟩, ⟨by (with_reducible repeat (first | apply Kd.R_alloc | apply Kd.R_drewN | apply Kd.R_drew)); exact HO_6.out⟩, ⟨by repeat (first | (with_reducible first | exact HB.out | apply below_alloc | apply pw_below_drewN | apply below_drew1) | exact HB.out)⟩⟩
          · rw [if_neg c9] at H
            have c9b0 : decide (x7_1 < (l1.length : Int)) = false := decide_eq_false c9
            clear c9
            (first | rw [c9b0] | (simp only [i64_w, i32_w]; rw [c9b0]) | skip)
            have H' := Aside0.mk H
            clear H
            go_wp2
            go_meet
            case rel => exact ⟨_, (false), (by first | rfl | (simp; done) | (simp [*]; done)), H', ⟨by have := HK1.out; first | omega | exact Nat.le_refl _⟩, ⟨by (with_reducible repeat (first | apply Kd.R_alloc | apply Kd.R_drewN | apply Kd.R_drew)); exact HO_6.out⟩, ⟨by repeat (first | (with_reducible first | exact HB.out | apply below_alloc | apply pw_below_drewN | apply below_drew1) | exact HB.out)⟩⟩
        case rest =>
          clear HC8
          try clear c1
          try clear c2
          try clear p2
          try clear c4
          try clear c4b0
          try clear c4b1
          try clear c8
          try clear c9
          try clear c9b0
          try clear p2
          obtain ⟨kq, x22_7, rfl, HA, HJ7, HO_6, HB⟩ := hcut
          cases kq with
          | zero => exact absurd HA.out (by simp [carapacelaw08_BcjSame.j1])
          | succ kj7 =>
            have H := HA.out
            clear HA
            simp only [carapacelaw08_BcjSame.j1] at H
            by_cases c10 : x22_7 = true
            · subst c10
              have H1 : (if 0 ≤ x7_1 then (if x7_1 < (l1.length : Int) then (if (rd l1 x7_1) < 0 then (some t160) else (if (rd l1 x7_1) ≥ 200 then (some t160) else (if 0 ≤ (wrap64 (4 * (rd l1 x7_1))) then (if (wrap64 (4 * (rd l1 x7_1))) < (x6_1.length : Int) then (if 0 ≤ (wrap64 ((wrap64 (4 * (rd l1 x7_1))) + 1)) then (if (wrap64 ((wrap64 (4 * (rd l1 x7_1))) + 1)) < (x6_1.length : Int) then (if 0 ≤ (wrap64 ((wrap64 (4 * (rd l1 x7_1))) + 3)) then (if (wrap64 ((wrap64 (4 * (rd l1 x7_1))) + 3)) < (x6_1.length : Int) then (carapacelaw08_BcjSame.l0 kj7 a0 l1 t160 (((x6_1.set ((wrap64 (4 * (rd l1 x7_1))) : Int).toNat ((Int.tmod (wrap64 ((wrap64 ((wrap64 (a0)) - (rd l1 x7_1))) + 65536)) 256) % 256)).set ((wrap64 ((wrap64 (4 * (rd l1 x7_1))) + 1)) : Int).toNat ((Int.tmod (wrap64 (Int.tdiv (wrap64 ((wrap64 ((wrap64 (a0)) - (rd l1 x7_1))) + 65536)) 256)) 256) % 256)).set ((wrap64 ((wrap64 (4 * (rd l1 x7_1))) + 3)) : Int).toNat 20) (wrap64 (x7_1 + 1))) else (none)) else (none)) else (none)) else (none)) else (none)) else (none)))) else (none)) else (none)) = some r := by rw [if_pos rfl] at H; exact H
              clear H
              have H := H1
              clear H1
              by_cases c11 : 0 ≤ x7_1
              · rw [if_pos c11] at H
                have c11b0 : decide (0 ≤ x7_1) = true := decide_eq_true c11
                clear c11
                by_cases c12 : x7_1 < (l1.length : Int)
                · rw [if_pos c12] at H
                  have c12b0 : decide (x7_1 < (l1.length : Int)) = true := decide_eq_true c12
                  clear c12
                  by_cases c13 : (rd l1 x7_1) < 0
                  · rw [if_pos c13] at H
                    have c13b0 : decide ((rd l1 x7_1) < 0) = true := decide_eq_true c13
                    clear c13
                    obtain rfl := Option.some.inj H
                    have p164 : 0 ≤ (x7_1 : Int) := of_decide_eq_true (by first | (with_reducible assumption) | assumption)
                    have q164 : x7_1 < (l1.length : Int) := of_decide_eq_true (by first | (with_reducible assumption) | assumption)
                    obtain ⟨ad164, e164, hx164_0⟩ := Kd.at_int HR1.out x7_1 p164 q164
                    cases e164
                    replace hx164_0 := (HB.out.cell (World.block_lt_of_cell? w _ hx164_0)).trans hx164_0
                    replace p164 := eq_true p164
                    replace q164 := eq_true q164
                    go_wp2
                    go_ret
                    exact ⟨by first | rfl | (simp [errW_none, errW_some] <;> rfl) | (simp [*, errW_none, errW_some] <;> rfl), by repeat (first | (with_reducible first | exact HB.out | apply below_alloc | apply pw_below_drewN | apply below_drew1) | exact HB.out)⟩
                  · rw [if_neg c13] at H
                    have c13b0 : decide ((rd l1 x7_1) < 0) = false := decide_eq_false c13
                    clear c13
                    by_cases c14 : (rd l1 x7_1) ≥ 200
                    · rw [if_pos c14] at H
                      have c14b0 : decide (200 ≤ (rd l1 x7_1)) = true := decide_eq_true c14
                      clear c14
                      obtain rfl := Option.some.inj H
                      have p164 : 0 ≤ (x7_1 : Int) := of_decide_eq_true (by first | (with_reducible assumption) | assumption)
                      have q164 : x7_1 < (l1.length : Int) := of_decide_eq_true (by first | (with_reducible assumption) | assumption)
                      obtain ⟨ad164, e164, hx164_0⟩ := Kd.at_int HR1.out x7_1 p164 q164
                      cases e164
                      replace hx164_0 := (HB.out.cell (World.block_lt_of_cell? w _ hx164_0)).trans hx164_0
                      replace p164 := eq_true p164
                      replace q164 := eq_true q164
                      have p165 : 0 ≤ (x7_1 : Int) := of_decide_eq_true (by first | (with_reducible assumption) | assumption)
                      have q165 : x7_1 < (l1.length : Int) := of_decide_eq_true (by first | (with_reducible assumption) | assumption)
                      obtain ⟨ad165, e165, hx165_0⟩ := Kd.at_int HR1.out x7_1 p165 q165
                      obtain rfl : ad164 = ad165 := (by injection e165)
                      replace hx165_0 := (HB.out.cell (World.block_lt_of_cell? w _ hx165_0)).trans hx165_0
                      replace p165 := eq_true p165
                      replace q165 := eq_true q165
                      go_wp2
                      go_ret
                      exact ⟨by first | rfl | (simp [errW_none, errW_some] <;> rfl) | (simp [*, errW_none, errW_some] <;> rfl), by repeat (first | (with_reducible first | exact HB.out | apply below_alloc | apply pw_below_drewN | apply below_drew1) | exact HB.out)⟩
                    · rw [if_neg c14] at H
                      have c14b0 : decide (200 ≤ (rd l1 x7_1)) = false := decide_eq_false c14
                      clear c14
                      obtain ⟨ji15, hji15⟩ : ∃ j_ : Int, (wrap64 (4 * (rd l1 x7_1))) = j_ := ⟨_, rfl⟩
                      replace H : (if 0 ≤ (ji15) then (if (ji15) < (x6_1.length : Int) then (if 0 ≤ (wrap64 ((ji15) + 1)) then (if (wrap64 ((ji15) + 1)) < (x6_1.length : Int) then (if 0 ≤ (wrap64 ((ji15) + 3)) then (if (wrap64 ((ji15) + 3)) < (x6_1.length : Int) then (carapacelaw08_BcjSame.l0 kj7 a0 l1 t160 (((x6_1.set ((ji15) : Int).toNat ((Int.tmod (wrap64 ((wrap64 ((wrap64 (a0)) - (rd l1 x7_1))) + 65536)) 256) % 256)).set ((wrap64 ((ji15) + 1)) : Int).toNat ((Int.tmod (wrap64 (Int.tdiv (wrap64 ((wrap64 ((wrap64 (a0)) - (rd l1 x7_1))) + 65536)) 256)) 256) % 256)).set ((wrap64 ((ji15) + 3)) : Int).toNat 20) (wrap64 (x7_1 + 1))) else (none)) else (none)) else (none)) else (none)) else (none)) else (none)) = some r := by first | (rw [hji15] at H; exact H) | (simp only [hji15] at H ⊢; exact H)
                      have hji15w : (IntKind.i64.wrap (4 * (rd l1 x7_1))) = ji15 := (i64_w _).trans hji15
                      by_cases c16 : 0 ≤ (ji15)
                      · rw [if_pos c16] at H
                        have c16b0 : decide (0 ≤ (ji15)) = true := decide_eq_true c16
                        clear c16
                        by_cases c17 : (ji15) < (x6_1.length : Int)
                        · rw [if_pos c17] at H
                          have c17b0 : decide ((ji15) < (x6_1.length : Int)) = true := decide_eq_true c17
                          clear c17
                          obtain ⟨y168, hy168⟩ : ∃ y_ : List Int, y_ = (x6_1.set ((ji15) : Int).toNat ((Int.tmod (wrap64 ((wrap64 ((wrap64 (a0)) - (rd l1 x7_1))) + 65536)) 256) % 256)) := ⟨_, rfl⟩
                          replace H : (if 0 ≤ (wrap64 ((ji15) + 1)) then (if (wrap64 ((ji15) + 1)) < (x6_1.length : Int) then (if 0 ≤ (wrap64 ((ji15) + 3)) then (if (wrap64 ((ji15) + 3)) < (x6_1.length : Int) then (carapacelaw08_BcjSame.l0 kj7 a0 l1 t160 ((y168.set ((wrap64 ((ji15) + 1)) : Int).toNat ((Int.tmod (wrap64 (Int.tdiv (wrap64 ((wrap64 ((wrap64 (a0)) - (rd l1 x7_1))) + 65536)) 256)) 256) % 256)).set ((wrap64 ((ji15) + 3)) : Int).toNat 20) (wrap64 (x7_1 + 1))) else (none)) else (none)) else (none)) else (none)) = some r := by first | (rw [hy168]; with_reducible exact H) | (have H2_ := (Option.bind_some _ _).symm.trans H; rw [hy168]; with_reducible exact H2_) | (have H2_ := (Option.bind_some _ _).symm.trans H; with_reducible exact H2_) | with_reducible exact H | (rw [hy168]; exact H) | exact H
                          have Ny168 := Aside0.mk hy168
                          clear hy168
                          obtain ⟨ji19, hji19⟩ : ∃ j_ : Int, (wrap64 ((ji15) + 1)) = j_ := ⟨_, rfl⟩
                          replace H : (if 0 ≤ (ji19) then (if (ji19) < (x6_1.length : Int) then (if 0 ≤ (wrap64 ((ji15) + 3)) then (if (wrap64 ((ji15) + 3)) < (x6_1.length : Int) then (carapacelaw08_BcjSame.l0 kj7 a0 l1 t160 ((y168.set ((ji19) : Int).toNat ((Int.tmod (wrap64 (Int.tdiv (wrap64 ((wrap64 ((wrap64 (a0)) - (rd l1 x7_1))) + 65536)) 256)) 256) % 256)).set ((wrap64 ((ji15) + 3)) : Int).toNat 20) (wrap64 (x7_1 + 1))) else (none)) else (none)) else (none)) else (none)) = some r := by first | (rw [hji19] at H; exact H) | (simp only [hji19] at H ⊢; exact H)
                          have hji19w : (IntKind.i64.wrap ((ji15) + 1)) = ji19 := (i64_w _).trans hji19
                          by_cases c20 : 0 ≤ (ji19)
                          · rw [if_pos c20] at H
                            have c20b0 : decide (0 ≤ (ji19)) = true := decide_eq_true c20
                            clear c20
                            by_cases c21 : (ji19) < (x6_1.length : Int)
                            · rw [if_pos c21] at H
                              have c21b0 : decide ((ji19) < (x6_1.length : Int)) = true := decide_eq_true c21
                              clear c21
                              obtain ⟨y169, hy169⟩ : ∃ y_ : List Int, y_ = (y168.set ((ji19) : Int).toNat ((Int.tmod (wrap64 (Int.tdiv (wrap64 ((wrap64 ((wrap64 (a0)) - (rd l1 x7_1))) + 65536)) 256)) 256) % 256)) := ⟨_, rfl⟩
                              replace H : (if 0 ≤ (wrap64 ((ji15) + 3)) then (if (wrap64 ((ji15) + 3)) < (x6_1.length : Int) then (carapacelaw08_BcjSame.l0 kj7 a0 l1 t160 (y169.set ((wrap64 ((ji15) + 3)) : Int).toNat 20) (wrap64 (x7_1 + 1))) else (none)) else (none)) = some r := by first | (rw [hy169]; with_reducible exact H) | (have H2_ := (Option.bind_some _ _).symm.trans H; rw [hy169]; with_reducible exact H2_) | (have H2_ := (Option.bind_some _ _).symm.trans H; with_reducible exact H2_) | with_reducible exact H | (rw [hy169]; exact H) | exact H
                              have Ny169 := Aside0.mk hy169
                              clear hy169
                              obtain ⟨ji23, hji23⟩ : ∃ j_ : Int, (wrap64 ((ji15) + 3)) = j_ := ⟨_, rfl⟩
                              replace H : (if 0 ≤ (ji23) then (if (ji23) < (x6_1.length : Int) then (carapacelaw08_BcjSame.l0 kj7 a0 l1 t160 (y169.set ((ji23) : Int).toNat 20) (wrap64 (x7_1 + 1))) else (none)) else (none)) = some r := by first | (rw [hji23] at H; exact H) | (simp only [hji23] at H ⊢; exact H)
                              have hji23w : (IntKind.i64.wrap ((ji15) + 3)) = ji23 := (i64_w _).trans hji23
                              by_cases c24 : 0 ≤ (ji23)
                              · rw [if_pos c24] at H
                                have c24b0 : decide (0 ≤ (ji23)) = true := decide_eq_true c24
                                clear c24
                                by_cases c25 : (ji23) < (x6_1.length : Int)
                                · rw [if_pos c25] at H
                                  have c25b0 : decide ((ji23) < (x6_1.length : Int)) = true := decide_eq_true c25
                                  clear c25
                                  obtain ⟨y170, hy170⟩ : ∃ y_ : List Int, y_ = (y169.set ((ji23) : Int).toNat 20) := ⟨_, rfl⟩
                                  replace H : (carapacelaw08_BcjSame.l0 kj7 a0 l1 t160 y170 (wrap64 (x7_1 + 1))) = some r := by first | (rw [hy170]; with_reducible exact H) | (have H2_ := (Option.bind_some _ _).symm.trans H; rw [hy170]; with_reducible exact H2_) | (have H2_ := (Option.bind_some _ _).symm.trans H; with_reducible exact H2_) | with_reducible exact H | (rw [hy170]; exact H) | exact H
                                  have Ny170 := Aside0.mk hy170
                                  clear hy170
                                  have H' := Aside0.mk H
                                  clear H
                                  have p164 : 0 ≤ (x7_1 : Int) := of_decide_eq_true (by first | (with_reducible assumption) | assumption)
                                  have q164 : x7_1 < (l1.length : Int) := of_decide_eq_true (by first | (with_reducible assumption) | assumption)
                                  obtain ⟨ad164, e164, hx164_0⟩ := Kd.at_int HR1.out x7_1 p164 q164
                                  cases e164
                                  replace hx164_0 := (HB.out.cell (World.block_lt_of_cell? w _ hx164_0)).trans hx164_0
                                  replace p164 := eq_true p164
                                  replace q164 := eq_true q164
                                  have p165 : 0 ≤ (x7_1 : Int) := of_decide_eq_true (by first | (with_reducible assumption) | assumption)
                                  have q165 : x7_1 < (l1.length : Int) := of_decide_eq_true (by first | (with_reducible assumption) | assumption)
                                  obtain ⟨ad165, e165, hx165_0⟩ := Kd.at_int HR1.out x7_1 p165 q165
                                  obtain rfl : ad164 = ad165 := (by injection e165)
                                  replace hx165_0 := (HB.out.cell (World.block_lt_of_cell? w _ hx165_0)).trans hx165_0
                                  replace p165 := eq_true p165
                                  replace q165 := eq_true q165
                                  have p166 : 0 ≤ (x7_1 : Int) := of_decide_eq_true (by first | (with_reducible assumption) | assumption)
                                  have q166 : x7_1 < (l1.length : Int) := of_decide_eq_true (by first | (with_reducible assumption) | assumption)
                                  obtain ⟨ad166, e166, hx166_0⟩ := Kd.at_int HR1.out x7_1 p166 q166
                                  obtain rfl : ad164 = ad166 := (by injection e166)
                                  replace hx166_0 := (HB.out.cell (World.block_lt_of_cell? w _ hx166_0)).trans hx166_0
                                  replace p166 := eq_true p166
                                  replace q166 := eq_true q166
                                  have p167 : 0 ≤ (x7_1 : Int) := of_decide_eq_true (by first | (with_reducible assumption) | assumption)
                                  have q167 : x7_1 < (l1.length : Int) := of_decide_eq_true (by first | (with_reducible assumption) | assumption)
                                  obtain ⟨ad167, e167, hx167_0⟩ := Kd.at_int HR1.out x7_1 p167 q167
                                  obtain rfl : ad164 = ad167 := (by injection e167)
                                  replace hx167_0 := (HB.out.cell (World.block_lt_of_cell? w _ hx167_0)).trans hx167_0
                                  replace p167 := eq_true p167
                                  replace q167 := eq_true q167
                                  have p18 : 0 ≤ ((ji15) : Int) := of_decide_eq_true (by first | (with_reducible assumption) | assumption)
                                  have q18 : ((ji15) : Int) < ((x6_1.length : Int) : Int) := of_decide_eq_true (by first | (with_reducible assumption) | assumption)
                                  obtain ⟨go18, co18, eo18, gb18, gl18, cl18, HG18⟩ := Kd.R_form HO_6.out (by omega)
                                  (first | cases eo18 | (injection eo18 with ea_ en_ ec_; (first | subst ea_ | (injection ea_ with ea_; subst ea_)); subst ec_; clear en_))
                                  have GB18 := Aside0.mk gb18
                                  have GG18 := Aside0.mk HG18
                                  clear gb18 gl18 HG18
                                  obtain ⟨hx18_0, hf18_0⟩ := Kd.R_celln 0 HO_6.out ((ji15) : Int) p18 q18
                                  replace p18 := eq_true p18
                                  replace q18 := eq_true q18
                                  have HP27 := Kd.R_putg HO_6.out ((ji15) : Int) ((Int.tmod (wrap64 ((wrap64 ((wrap64 (a0)) - (rd l1 x7_1))) + 65536)) 256) % 256)
                                  go_wp2_with (first | ((with_reducible refine gate_store (t := 5) (p := 56) rfl ?_); refine store_event (t := 5) (p := 56) (v := ?vo_w28) (w1 := (wc.setCell ⟨go18, ((ji15) : Int).toNat, none⟩ (.int .u8 ((Int.tmod (wrap64 ((wrap64 ((wrap64 (a0)) - (rd l1 x7_1))) + 65536)) 256) % 256)))) ?hg ?ho ?hn ?hr ?_; (case ho => rfl); (case hg => rfl); (case hn => rfl); (case hr => first | (go_simp; done) | (go_simp; rfl)); intro w28 hw; have hg : wc.grownBy w28 (some go18) := (by rw [hw]; exact HP27.2); have hp_ : Kd.R (Kd.int .u8) 5 w28 w.heap.size (fun _ => True) (.slice (some ⟨go18, 0, none⟩) x6_1.length co18) y168 := (by rw [hw, Ny168.out]; exact HP27.1); clear HP27; have n0_ := Aside0.mk (hp_); have n1_ := Aside0.mk ((by rw [hw]; exact below_set (HB.out) GB18.out : Below w.heap.size w w28)); clear HO_6; clear HB; have HO_6 := n0_; have HB := n1_; clear n0_ n1_; clear hg hw hp_; have p22 : 0 ≤ ((ji19) : Int) := of_decide_eq_true (by first | (with_reducible assumption) | assumption); have q22 : ((ji19) : Int) < ((x6_1.length : Int) : Int) := of_decide_eq_true (by first | (with_reducible assumption) | assumption); obtain ⟨hx22_0, hf22_0⟩ := Kd.R_celln 0 HO_6.out ((ji19) : Int) p22 q22; replace p22 := eq_true p22; replace q22 := eq_true q22; obtain ⟨hy29_, hz29_⟩ := Kd.R_celln 0 HO_6.out ((ji19) : Int) (of_decide_eq_true (by first | (with_reducible assumption) | assumption)) (of_decide_eq_true (by first | (with_reducible assumption) | assumption)); have HP29 := Kd.R_putg HO_6.out ((ji19) : Int) ((Int.tmod (wrap64 (Int.tdiv (wrap64 ((wrap64 ((wrap64 (a0)) - (rd l1 x7_1))) + 65536)) 256)) 256) % 256)) | ((with_reducible refine gate_store (t := 5) (p := 64) rfl ?_); refine store_event (t := 5) (p := 64) (v := ?vo_w30) (w1 := (w28.setCell ⟨go18, ((ji19) : Int).toNat, none⟩ (.int .u8 ((Int.tmod (wrap64 (Int.tdiv (wrap64 ((wrap64 ((wrap64 (a0)) - (rd l1 x7_1))) + 65536)) 256)) 256) % 256)))) ?hg ?ho ?hn ?hr ?_; (case ho => rfl); (case hg => rfl); (case hn => rfl); (case hr => first | (go_simp; done) | (go_simp; rfl)); intro w30 hw; have hg : w28.grownBy w30 (some go18) := (by rw [hw]; exact HP29.2); have hp_ : Kd.R (Kd.int .u8) 5 w30 w.heap.size (fun _ => True) (.slice (some ⟨go18, 0, none⟩) x6_1.length co18) y169 := (by rw [hw, Ny169.out]; exact HP29.1); clear HP29; have n0_ := Aside0.mk (hp_); have n1_ := Aside0.mk ((by rw [hw]; exact below_set (HB.out) GB18.out : Below w.heap.size w w30)); clear HO_6; clear HB; have HO_6 := n0_; have HB := n1_; clear n0_ n1_; clear hg hw hp_; have p26 : 0 ≤ ((ji23) : Int) := of_decide_eq_true (by first | (with_reducible assumption) | assumption); have q26 : ((ji23) : Int) < ((x6_1.length : Int) : Int) := of_decide_eq_true (by first | (with_reducible assumption) | assumption); obtain ⟨hx26_0, hf26_0⟩ := Kd.R_celln 0 HO_6.out ((ji23) : Int) p26 q26; replace p26 := eq_true p26; replace q26 := eq_true q26; obtain ⟨hy31_, hz31_⟩ := Kd.R_celln 0 HO_6.out ((ji23) : Int) (of_decide_eq_true (by first | (with_reducible assumption) | assumption)) (of_decide_eq_true (by first | (with_reducible assumption) | assumption)); have HP31 := Kd.R_putg HO_6.out ((ji23) : Int) 20) | ((with_reducible refine gate_store (t := 5) (p := 68) rfl ?_); refine store_event (t := 5) (p := 68) (v := ?vo_w32) (w1 := (w30.setCell ⟨go18, ((ji23) : Int).toNat, none⟩ (.int .u8 20))) ?hg ?ho ?hn ?hr ?_; (case ho => rfl); (case hg => rfl); (case hn => rfl); (case hr => first | (go_simp; done) | (go_simp; rfl)); intro w32 hw; have hg : w30.grownBy w32 (some go18) := (by rw [hw]; exact HP31.2); have hp_ : Kd.R (Kd.int .u8) 5 w32 w.heap.size (fun _ => True) (.slice (some ⟨go18, 0, none⟩) x6_1.length co18) y170 := (by rw [hw, Ny170.out]; exact HP31.1); clear HP31; have n0_ := Aside0.mk (hp_); have n1_ := Aside0.mk ((by rw [hw]; exact below_set (HB.out) GB18.out : Below w.heap.size w w32)); clear HO_6; clear HB; have HO_6 := n0_; have HB := n1_; clear n0_ n1_; clear hg hw hp_))
                                  go_roundg kj7
                                  case measure => have := HK1.out; have := HJ7.out; omega
                                  case rel => exact ⟨(y170), (wrap64 (x7_1 + 1)), (by first | rfl | (simp; done) | (simp [*]; done)), H', ⟨by have := HK1.out; have := HJ7.out; omega⟩, ⟨by (with_reducible repeat (first | apply Kd.R_alloc | apply Kd.R_drewN | apply Kd.R_drew)); exact HO_6.out⟩, ⟨by repeat (first | (with_reducible first | exact HB.out | apply below_alloc | apply pw_below_drewN | apply below_drew1) | exact HB.out)⟩⟩
                                · rw [if_neg c25] at H
                                  exact absurd H (by simp)
                              · rw [if_neg c24] at H
                                exact absurd H (by simp)
                            · rw [if_neg c21] at H
                              exact absurd H (by simp)
                          · rw [if_neg c20] at H
                            exact absurd H (by simp)
                        · rw [if_neg c17] at H
                          exact absurd H (by simp)
                      · rw [if_neg c16] at H
                        exact absurd H (by simp)
                · rw [if_neg c12] at H
                  exact absurd H (by simp)
              · rw [if_neg c11] at H
                exact absurd H (by simp)
            · replace c10 := Bool.eq_false_iff.mpr c10
              subst c10
              have H1 : ((bcj_Put.f x6_1).bind fun t171 => (if (t171.length : Int) = (x6_1.length : Int) then (carapacelaw08_BcjSame.l1 kj7 a0 l1 t160 t171 0) else (some false))) = some r := by rw [if_neg (show ¬ (false = true) by decide)] at H; exact H
              clear H
              have H := H1
              clear H1
              replace H := Option.bind_eq_some_iff.mp H
              obtain ⟨t171, A330, H⟩ := H
              replace H : (if (t171.length : Int) = (x6_1.length : Int) then (carapacelaw08_BcjSame.l1 kj7 a0 l1 t160 t171 0) else (some false)) = some r := H
              have A33 := Aside0.mk A330
              clear A330
              by_cases c34 : (t171.length : Int) = (x6_1.length : Int)
              · rw [if_pos c34] at H
                have c34b0 : ((t171.length : Int) == (x6_1.length : Int)) = true := beq_iff_eq.mpr c34
                have c34b1 : ((t171.length : Int) != (x6_1.length : Int)) = false := bne_eq_false_iff_eq.mpr c34
                have c34b2 : (t171.length == x6_1.length) = true := by first | simpa using c34 | (simp at c34 ⊢; omega)
                clear c34
                have H' := Aside0.mk H
                clear H
                obtain ⟨Ao35, co35, eo35⟩ := Kd.R_slice HO_6.out
                subst eo35
                go_wp2_with (first | ((with_reducible refine gate_callee (f := 24) rfl ?_); refine goesL_ (some 70) rfl rfl Try.func24 (by kernel_rfl) rfl #[.slice Ao35 x6_1.length co35] rfl (by (try simp only [List.map_toArray, List.map_cons, List.map_nil]); first | done | rfl | (simp only [List.length_drop, List.length_take]; rfl)) ?_; (with_reducible refine (bcj_Put.calls _ _ x6_1 t171 _ ?side1 ?side2 A33.out).mono ?_); (case side1 => repeat (first | exact (Kd.R_reads' HO_6.out).2.2 | (with_reducible refine Kd.C_alloc ?_ _) | (with_reducible refine Kd.C_drewN ?_ _) | (with_reducible refine Kd.C_drew ?_))); (case side2 => exact (Kd.R_reads' HO_6.out).2.1); rintro e w36 ⟨v172, rfl, ho0, hb⟩; refine ⟨_, rfl, ?_⟩; have n0_ := Aside0.mk (Kd.R_elder' (by (with_reducible repeat (first | apply Kd.R_alloc | apply Kd.R_drewN | apply Kd.R_drew)); exact HO_6.out) (Kd.R_base ho0) hb); have n1_ := Aside0.mk (Kd.R_lower (Kd.R_new' ho0 (Kd.R_lt (by (with_reducible repeat (first | apply Kd.R_alloc | apply Kd.R_drewN | apply Kd.R_drew)); exact HO_6.out))) (below_size (by repeat (first | (with_reducible first | exact HB.out | apply below_alloc | apply pw_below_drewN | apply below_drew1) | exact HB.out)))); have n2_ := Aside0.mk (below_step (by repeat (first | (with_reducible first | exact HB.out | apply below_alloc | apply pw_below_drewN | apply below_drew1) | exact HB.out)) hb); clear HO_6; clear HB; have HO_6 := n0_; have HO173 := n1_; have HB := n2_; clear n0_ n1_ n2_; (try clear hb); (try clear hb2); (try clear hk); (try clear hi); (try clear ho0); obtain ⟨Ao37, co37, eo37⟩ := Kd.R_slice HO173.out; subst eo37))
                go_loopg [11] kj7 (fun kq v11 w' => ∃ (x11_3 : Int), v11 = .int .i64 x11_3 ∧ Aside0 (carapacelaw08_BcjSame.l1 kq a0 l1 t160 t171 x11_3 = some r) ∧ Aside0 (kq ≤ kj7) ∧ Aside0 (Kd.R (Kd.int .u8) 5 w' w.heap.size (fun _ => True) (.slice Ao37 t171.length co37) t171) ∧ Aside0 (Below w.heap.size w w'))
                case atStart => exact ⟨(0), (by first | rfl | (simp; done) | (simp [*]; done)), H', ⟨Nat.le_refl _⟩, ⟨by (with_reducible repeat (first | apply Kd.R_alloc | apply Kd.R_drewN | apply Kd.R_drew)); exact Kd.R_mono HO173.out (fun _ hk => trivial)⟩, ⟨by repeat (first | (with_reducible first | exact HB.out | apply below_alloc | apply pw_below_drewN | apply below_drew1) | exact HB.out)⟩⟩
                case round =>
                  clear H'
                  try clear c1
                  try clear p1
                  try clear q1
                  try clear hx1
                  try clear c2
                  try clear p2
                  try clear q2
                  try clear hx2
                  try clear hf2
                  try clear c3
                  try clear c4
                  try clear c4b0
                  try clear c4b1
                  try clear p6
                  try clear c8
                  try clear c9
                  try clear c9b0
                  try clear c10
                  try clear c11
                  try clear c11b0
                  try clear c12
                  try clear c12b0
                  try clear c13
                  try clear c13b0
                  try clear c14
                  try clear c14b0
                  try clear c16
                  try clear c16b0
                  try clear p16
                  try clear q16
                  try clear hx16
                  try clear c17
                  try clear c17b0
                  try clear p18
                  try clear q18
                  try clear hx18
                  try clear hf18
                  try clear c20
                  try clear c20b0
                  try clear c21
                  try clear c21b0
                  try clear c22
                  try clear p22
                  try clear q22
                  try clear hx22
                  try clear hf22
                  try clear c24
                  try clear c24b0
                  try clear c25
                  try clear c25b0
                  try clear p26
                  try clear q26
                  try clear hx26
                  try clear hf26
                  try clear c34
                  try clear c34b0
                  try clear c34b1
                  try clear c34b2
                  try clear hx164_0
                  try clear hx165_0
                  try clear hx166_0
                  try clear hx167_0
                  try clear hx18_0
                  try clear hx22_0
                  try clear hx26_0
                  try clear p164
                  try clear p165
                  try clear p166
                  try clear p167
                  try clear p18
                  try clear p2
                  try clear p22
                  try clear p26
                  try clear q164
                  try clear q165
                  try clear q166
                  try clear q167
                  try clear q18
                  try clear q22
                  try clear q26
                  obtain ⟨x11_3, rfl, HA, HK3, HO_10, HB⟩ := hrel
                  cases gk with
                  | zero => exact absurd HA.out (by simp [carapacelaw08_BcjSame.l1])
                  | succ k3 =>
                    have H := HA.out
                    clear HA
                    simp only [carapacelaw08_BcjSame.l1] at H
                    have HC38 := Aside0.mk H
                    clear H
                    go_upto_region 17 with (fail)
                    go_cut [83] (fun v83 wc => ∃ (kq : Nat) (x83_37 : Bool), v83 = .bool x83_37 ∧ Aside0 (carapacelaw08_BcjSame.j3 kq a0 l1 t160 t171 x11_3 x83_37 = some r) ∧ Aside0 (kq ≤ k3) ∧ Aside0 (Kd.R (Kd.int .u8) 5 wc w.heap.size (fun _ => True) (.slice Ao37 t171.length co37) t171) ∧ Aside0 (Below w.heap.size w wc))
                    case first =>
                      have H := HC38.out
                      clear HC38
                      by_cases c39 : x11_3 < (l1.length : Int)
                      · rw [if_pos c39] at H
                        have c39b0 : decide (x11_3 < (l1.length : Int)) = true := decide_eq_true c39
                        clear c39
                        (first | rw [c39b0] | (simp only [i64_w, i32_w]; rw [c39b0]) | skip)
                        have H' := Aside0.mk H
                        clear H
                        go_wp2
                        go_meet
                        case rel => exact ⟨_, (decide (x11_3 < 50)), (by first | rfl | (simp; done) | (simp [*]; done)), H', ⟨by have := HK1.out; have := HJ7.out; have := HK3.out; first | omega | exact Nat.le_refl _⟩, ⟨by (with_reducible repeat (first | apply Kd.R_alloc | apply Kd.R_drewN | apply Kd.R_drew)); exact HO_10.out⟩, ⟨by repeat (first | (with_reducible first | exact HB.out | apply below_alloc | apply pw_below_drewN | apply below_drew1) | exact HB.out)⟩⟩
                      · rw [if_neg c39] at H
                        have c39b0 : decide (x11_3 < (l1.length : Int)) = false := decide_eq_false c39
                        clear c39
                        (first | rw [c39b0] | (simp only [i64_w, i32_w]; rw [c39b0]) | skip)
                        have H' := Aside0.mk H
                        clear H
                        go_wp2
                        go_meet
                        case rel => exact ⟨_, (false), (by first | rfl | (simp; done) | (simp [*]; done)), H', ⟨by have := HK1.out; have := HJ7.out; have := HK3.out; first | omega | exact Nat.le_refl _⟩, ⟨by (with_reducible repeat (first | apply Kd.R_alloc | apply Kd.R_drewN | apply Kd.R_drew)); exact HO_10.out⟩, ⟨by repeat (first | (with_reducible first | exact HB.out | apply below_alloc | apply pw_below_drewN | apply below_drew1) | exact HB.out)⟩⟩
                    case rest =>
                      clear HC38
                      try clear c1
                      try clear p1
                      try clear q1
                      try clear hx1
                      try clear c2
                      try clear p2
                      try clear q2
                      try clear hx2
                      try clear hf2
                      try clear c3
                      try clear c4
                      try clear c4b0
                      try clear c4b1
                      try clear p6
                      try clear c8
                      try clear c9
                      try clear c9b0
                      try clear c10
                      try clear c11
                      try clear c11b0
                      try clear c12
                      try clear c12b0
                      try clear c13
                      try clear c13b0
                      try clear c14
                      try clear c14b0
                      try clear c16
                      try clear c16b0
                      try clear p16
                      try clear q16
                      try clear hx16
                      try clear c17
                      try clear c17b0
                      try clear p18
                      try clear q18
                      try clear hx18
                      try clear hf18
                      try clear c20
                      try clear c20b0
                      try clear c21
                      try clear c21b0
                      try clear c22
                      try clear p22
                      try clear q22
                      try clear hx22
                      try clear hf22
                      try clear c24
                      try clear c24b0
                      try clear c25
                      try clear c25b0
                      try clear p26
                      try clear q26
                      try clear hx26
                      try clear hf26
                      try clear c34
                      try clear c34b0
                      try clear c34b1
                      try clear c34b2
                      try clear c39
                      try clear c39b0
                      try clear hx164_0
                      try clear hx165_0
                      try clear hx166_0
                      try clear hx167_0
                      try clear hx18_0
                      try clear hx22_0
                      try clear hx26_0
                      try clear p1
                      try clear p16
                      try clear p164
                      try clear p165
                      try clear p166
                      try clear p167
                      try clear p18
                      try clear p2
                      try clear p22
                      try clear p26
                      try clear p6
                      try clear q1
                      try clear q16
                      try clear q164
                      try clear q165
                      try clear q166
                      try clear q167
                      try clear q18
                      try clear q2
                      try clear q22
                      try clear q26
                      obtain ⟨kq, x83_37, rfl, HA, HJ37, HO_10, HB⟩ := hcut
                      cases kq with
                      | zero => exact absurd HA.out (by simp [carapacelaw08_BcjSame.j3])
                      | succ kj37 =>
                        have H := HA.out
                        clear HA
                        simp only [carapacelaw08_BcjSame.j3] at H
                        by_cases c40 : x83_37 = true
                        · subst c40
                          have H1 : (if 0 ≤ x11_3 then (if x11_3 < (l1.length : Int) then (if 0 ≤ (wrap64 (4 * (rd l1 x11_3))) then (if (wrap64 (4 * (rd l1 x11_3))) < (t171.length : Int) then (if (rd t171 (wrap64 (4 * (rd l1 x11_3)))) = ((Int.tmod a0 256) % 256) then (if 0 ≤ (wrap64 ((wrap64 (4 * (rd l1 x11_3))) + 1)) then (if (wrap64 ((wrap64 (4 * (rd l1 x11_3))) + 1)) < (t171.length : Int) then (if (rd t171 (wrap64 ((wrap64 (4 * (rd l1 x11_3))) + 1))) = ((IntKind.u16.wrap (Int.tdiv a0 256)) % 256) then (if 0 ≤ (wrap64 ((wrap64 (4 * (rd l1 x11_3))) + 3)) then (if (wrap64 ((wrap64 (4 * (rd l1 x11_3))) + 3)) < (t171.length : Int) then (if (rd t171 (wrap64 ((wrap64 (4 * (rd l1 x11_3))) + 3))) = 20 then (carapacelaw08_BcjSame.l1 kj37 a0 l1 t160 t171 (wrap64 (x11_3 + 1))) else (some false)) else (none)) else (none)) else (some false)) else (none)) else (none)) else (some false)) else (none)) else (none)) else (none)) else (none)) = some r := by rw [if_pos rfl] at H; exact H
                          clear H
                          have H := H1
                          clear H1
                          by_cases c41 : 0 ≤ x11_3
                          · rw [if_pos c41] at H
                            have c41b0 : decide (0 ≤ x11_3) = true := decide_eq_true c41
                            clear c41
                            by_cases c42 : x11_3 < (l1.length : Int)
                            · rw [if_pos c42] at H
                              have c42b0 : decide (x11_3 < (l1.length : Int)) = true := decide_eq_true c42
                              clear c42
                              obtain ⟨ji43, hji43⟩ : ∃ j_ : Int, (wrap64 (4 * (rd l1 x11_3))) = j_ := ⟨_, rfl⟩
                              replace H : (if 0 ≤ (ji43) then (if (ji43) < (t171.length : Int) then (if (rd t171 (ji43)) = ((Int.tmod a0 256) % 256) then (if 0 ≤ (wrap64 ((ji43) + 1)) then (if (wrap64 ((ji43) + 1)) < (t171.length : Int) then (if (rd t171 (wrap64 ((ji43) + 1))) = ((IntKind.u16.wrap (Int.tdiv a0 256)) % 256) then (if 0 ≤ (wrap64 ((ji43) + 3)) then (if (wrap64 ((ji43) + 3)) < (t171.length : Int) then (if (rd t171 (wrap64 ((ji43) + 3))) = 20 then (carapacelaw08_BcjSame.l1 kj37 a0 l1 t160 t171 (wrap64 (x11_3 + 1))) else (some false)) else (none)) else (none)) else (some false)) else (none)) else (none)) else (some false)) else (none)) else (none)) = some r := by first | (rw [hji43] at H; exact H) | (simp only [hji43] at H ⊢; exact H)
                              have hji43w : (IntKind.i64.wrap (4 * (rd l1 x11_3))) = ji43 := (i64_w _).trans hji43
                              by_cases c44 : 0 ≤ (ji43)
                              · rw [if_pos c44] at H
                                have c44b0 : decide (0 ≤ (ji43)) = true := decide_eq_true c44
                                clear c44
                                by_cases c45 : (ji43) < (t171.length : Int)
                                · rw [if_pos c45] at H
                                  have c45b0 : decide ((ji43) < (t171.length : Int)) = true := decide_eq_true c45
                                  clear c45
                                  by_cases c46 : (rd t171 (ji43)) = ((Int.tmod a0 256) % 256)
                                  · rw [if_pos c46] at H
                                    have c46b0 : ((rd t171 (ji43)) == ((Int.tmod a0 256) % 256)) = true := beq_iff_eq.mpr c46
                                    have c46b1 : ((rd t171 (ji43)) != ((Int.tmod a0 256) % 256)) = false := bne_eq_false_iff_eq.mpr c46
                                    clear c46
                                    obtain ⟨ji47, hji47⟩ : ∃ j_ : Int, (wrap64 ((ji43) + 1)) = j_ := ⟨_, rfl⟩
                                    replace H : (if 0 ≤ (ji47) then (if (ji47) < (t171.length : Int) then (if (rd t171 (ji47)) = ((IntKind.u16.wrap (Int.tdiv a0 256)) % 256) then (if 0 ≤ (wrap64 ((ji43) + 3)) then (if (wrap64 ((ji43) + 3)) < (t171.length : Int) then (if (rd t171 (wrap64 ((ji43) + 3))) = 20 then (carapacelaw08_BcjSame.l1 kj37 a0 l1 t160 t171 (wrap64 (x11_3 + 1))) else (some false)) else (none)) else (none)) else (some false)) else (none)) else (none)) = some r := by first | (rw [hji47] at H; exact H) | (simp only [hji47] at H ⊢; exact H)
                                    have hji47w : (IntKind.i64.wrap ((ji43) + 1)) = ji47 := (i64_w _).trans hji47
                                    by_cases c48 : 0 ≤ (ji47)
                                    · rw [if_pos c48] at H
                                      have c48b0 : decide (0 ≤ (ji47)) = true := decide_eq_true c48
                                      clear c48
                                      by_cases c49 : (ji47) < (t171.length : Int)
                                      · rw [if_pos c49] at H
                                        have c49b0 : decide ((ji47) < (t171.length : Int)) = true := decide_eq_true c49
                                        clear c49
                                        by_cases c50 : (rd t171 (ji47)) = ((IntKind.u16.wrap (Int.tdiv a0 256)) % 256)
                                        · rw [if_pos c50] at H
                                          have c50b0 : ((rd t171 (ji47)) == ((IntKind.u16.wrap (Int.tdiv a0 256)) % 256)) = true := beq_iff_eq.mpr c50
                                          have c50b1 : ((rd t171 (ji47)) != ((IntKind.u16.wrap (Int.tdiv a0 256)) % 256)) = false := bne_eq_false_iff_eq.mpr c50
                                          clear c50
                                          obtain ⟨ji51, hji51⟩ : ∃ j_ : Int, (wrap64 ((ji43) + 3)) = j_ := ⟨_, rfl⟩
                                          replace H : (if 0 ≤ (ji51) then (if (ji51) < (t171.length : Int) then (if (rd t171 (ji51)) = 20 then (carapacelaw08_BcjSame.l1 kj37 a0 l1 t160 t171 (wrap64 (x11_3 + 1))) else (some false)) else (none)) else (none)) = some r := by first | (rw [hji51] at H; exact H) | (simp only [hji51] at H ⊢; exact H)
                                          have hji51w : (IntKind.i64.wrap ((ji43) + 3)) = ji51 := (i64_w _).trans hji51
                                          by_cases c52 : 0 ≤ (ji51)
                                          · rw [if_pos c52] at H
                                            have c52b0 : decide (0 ≤ (ji51)) = true := decide_eq_true c52
                                            clear c52
                                            by_cases c53 : (ji51) < (t171.length : Int)
                                            · rw [if_pos c53] at H
                                              have c53b0 : decide ((ji51) < (t171.length : Int)) = true := decide_eq_true c53
                                              clear c53
                                              by_cases c54 : (rd t171 (ji51)) = 20
                                              · rw [if_pos c54] at H
                                                have c54b0 : ((rd t171 (ji51)) == 20) = true := beq_iff_eq.mpr c54
                                                have c54b1 : ((rd t171 (ji51)) != 20) = false := bne_eq_false_iff_eq.mpr c54
                                                clear c54
                                                have H' := Aside0.mk H
                                                clear H
                                                have p174 : 0 ≤ (x11_3 : Int) := of_decide_eq_true (by first | (with_reducible assumption) | assumption)
                                                have q174 : x11_3 < (l1.length : Int) := of_decide_eq_true (by first | (with_reducible assumption) | assumption)
                                                obtain ⟨ad174, e174, hx174_0⟩ := Kd.at_int HR1.out x11_3 p174 q174
                                                cases e174
                                                replace hx174_0 := (HB.out.cell (World.block_lt_of_cell? w _ hx174_0)).trans hx174_0
                                                replace p174 := eq_true p174
                                                replace q174 := eq_true q174
                                                have p175 : 0 ≤ ((ji43) : Int) := of_decide_eq_true (by first | (with_reducible assumption) | assumption)
                                                have q175 : (ji43) < (t171.length : Int) := of_decide_eq_true (by first | (with_reducible assumption) | assumption)
                                                obtain ⟨ad175, e175, hx175_0⟩ := Kd.at_int (Kd.R_reads' HO_10.out).2.2 (ji43) p175 q175
                                                cases e175
                                                replace p175 := eq_true p175
                                                replace q175 := eq_true q175
                                                have p176 : 0 ≤ ((ji47) : Int) := of_decide_eq_true (by first | (with_reducible assumption) | assumption)
                                                have q176 : (ji47) < (t171.length : Int) := of_decide_eq_true (by first | (with_reducible assumption) | assumption)
                                                obtain ⟨ad176, e176, hx176_0⟩ := Kd.at_int (Kd.R_reads' HO_10.out).2.2 (ji47) p176 q176
                                                obtain rfl : ad175 = ad176 := (by injection e176)
                                                replace p176 := eq_true p176
                                                replace q176 := eq_true q176
                                                have p177 : 0 ≤ ((ji51) : Int) := of_decide_eq_true (by first | (with_reducible assumption) | assumption)
                                                have q177 : (ji51) < (t171.length : Int) := of_decide_eq_true (by first | (with_reducible assumption) | assumption)
                                                obtain ⟨ad177, e177, hx177_0⟩ := Kd.at_int (Kd.R_reads' HO_10.out).2.2 (ji51) p177 q177
                                                obtain rfl : ad175 = ad177 := (by injection e177)
                                                replace p177 := eq_true p177
                                                replace q177 := eq_true q177
                                                go_wp2
                                                go_roundg kj37
                                                case measure => have := HK1.out; have := HJ7.out; have := HK3.out; have := HJ37.out; omega
                                                case rel => exact ⟨(wrap64 (x11_3 + 1)), (by first | rfl | (simp; done) | (simp [*]; done)), H', ⟨by have := HK1.out; have := HJ7.out; have := HK3.out; have := HJ37.out; omega⟩, ⟨by (with_reducible repeat (first | apply Kd.R_alloc | apply Kd.R_drewN | apply Kd.R_drew)); exact HO_10.out⟩, ⟨by repeat (first | (with_reducible first | exact HB.out | apply below_alloc | apply pw_below_drewN | apply below_drew1) | exact HB.out)⟩⟩
                                              · rw [if_neg c54] at H
                                                have c54b0 : ((rd t171 (ji51)) == 20) = false := beq_eq_false_iff_ne.mpr c54
                                                have c54b1 : ((rd t171 (ji51)) != 20) = true := bne_iff_ne.mpr c54
                                                obtain rfl := Option.some.inj H
                                                have p174 : 0 ≤ (x11_3 : Int) := of_decide_eq_true (by first | (with_reducible assumption) | assumption)
                                                have q174 : x11_3 < (l1.length : Int) := of_decide_eq_true (by first | (with_reducible assumption) | assumption)
                                                obtain ⟨ad174, e174, hx174_0⟩ := Kd.at_int HR1.out x11_3 p174 q174
                                                cases e174
                                                replace hx174_0 := (HB.out.cell (World.block_lt_of_cell? w _ hx174_0)).trans hx174_0
                                                replace p174 := eq_true p174
                                                replace q174 := eq_true q174
                                                have p175 : 0 ≤ ((ji43) : Int) := of_decide_eq_true (by first | (with_reducible assumption) | assumption)
                                                have q175 : (ji43) < (t171.length : Int) := of_decide_eq_true (by first | (with_reducible assumption) | assumption)
                                                obtain ⟨ad175, e175, hx175_0⟩ := Kd.at_int (Kd.R_reads' HO_10.out).2.2 (ji43) p175 q175
                                                cases e175
                                                replace p175 := eq_true p175
                                                replace q175 := eq_true q175
                                                have p176 : 0 ≤ ((ji47) : Int) := of_decide_eq_true (by first | (with_reducible assumption) | assumption)
                                                have q176 : (ji47) < (t171.length : Int) := of_decide_eq_true (by first | (with_reducible assumption) | assumption)
                                                obtain ⟨ad176, e176, hx176_0⟩ := Kd.at_int (Kd.R_reads' HO_10.out).2.2 (ji47) p176 q176
                                                obtain rfl : ad175 = ad176 := (by injection e176)
                                                replace p176 := eq_true p176
                                                replace q176 := eq_true q176
                                                have p177 : 0 ≤ ((ji51) : Int) := of_decide_eq_true (by first | (with_reducible assumption) | assumption)
                                                have q177 : (ji51) < (t171.length : Int) := of_decide_eq_true (by first | (with_reducible assumption) | assumption)
                                                obtain ⟨ad177, e177, hx177_0⟩ := Kd.at_int (Kd.R_reads' HO_10.out).2.2 (ji51) p177 q177
                                                obtain rfl : ad175 = ad177 := (by injection e177)
                                                replace p177 := eq_true p177
                                                replace q177 := eq_true q177
                                                go_wp2
                                                go_ret
                                                exact ⟨by first | rfl | (simp [errW_none, errW_some] <;> rfl) | (simp only [← hji43, ← hji47, ← hji51]; first | rfl | (simp [errW_none, errW_some] <;> rfl)) | (simp [*, errW_none, errW_some] <;> rfl), by repeat (first | (with_reducible first | exact HB.out | apply below_alloc | apply pw_below_drewN | apply below_drew1) | exact HB.out)⟩
                                            · rw [if_neg c53] at H
                                              exact absurd H (by simp)
                                          · rw [if_neg c52] at H
                                            exact absurd H (by simp)
                                        · rw [if_neg c50] at H
                                          have c50b0 : ((rd t171 (ji47)) == ((IntKind.u16.wrap (Int.tdiv a0 256)) % 256)) = false := beq_eq_false_iff_ne.mpr c50
                                          have c50b1 : ((rd t171 (ji47)) != ((IntKind.u16.wrap (Int.tdiv a0 256)) % 256)) = true := bne_iff_ne.mpr c50
                                          obtain rfl := Option.some.inj H
                                          have p174 : 0 ≤ (x11_3 : Int) := of_decide_eq_true (by first | (with_reducible assumption) | assumption)
                                          have q174 : x11_3 < (l1.length : Int) := of_decide_eq_true (by first | (with_reducible assumption) | assumption)
                                          obtain ⟨ad174, e174, hx174_0⟩ := Kd.at_int HR1.out x11_3 p174 q174
                                          cases e174
                                          replace hx174_0 := (HB.out.cell (World.block_lt_of_cell? w _ hx174_0)).trans hx174_0
                                          replace p174 := eq_true p174
                                          replace q174 := eq_true q174
                                          have p175 : 0 ≤ ((ji43) : Int) := of_decide_eq_true (by first | (with_reducible assumption) | assumption)
                                          have q175 : (ji43) < (t171.length : Int) := of_decide_eq_true (by first | (with_reducible assumption) | assumption)
                                          obtain ⟨ad175, e175, hx175_0⟩ := Kd.at_int (Kd.R_reads' HO_10.out).2.2 (ji43) p175 q175
                                          cases e175
                                          replace p175 := eq_true p175
                                          replace q175 := eq_true q175
                                          have p176 : 0 ≤ ((ji47) : Int) := of_decide_eq_true (by first | (with_reducible assumption) | assumption)
                                          have q176 : (ji47) < (t171.length : Int) := of_decide_eq_true (by first | (with_reducible assumption) | assumption)
                                          obtain ⟨ad176, e176, hx176_0⟩ := Kd.at_int (Kd.R_reads' HO_10.out).2.2 (ji47) p176 q176
                                          obtain rfl : ad175 = ad176 := (by injection e176)
                                          replace p176 := eq_true p176
                                          replace q176 := eq_true q176
                                          go_wp2
                                          go_ret
                                          exact ⟨by first | rfl | (simp [errW_none, errW_some] <;> rfl) | (simp only [← hji43, ← hji47]; first | rfl | (simp [errW_none, errW_some] <;> rfl)) | (simp [*, errW_none, errW_some] <;> rfl), by repeat (first | (with_reducible first | exact HB.out | apply below_alloc | apply pw_below_drewN | apply below_drew1) | exact HB.out)⟩
                                      · rw [if_neg c49] at H
                                        exact absurd H (by simp)
                                    · rw [if_neg c48] at H
                                      exact absurd H (by simp)
                                  · rw [if_neg c46] at H
                                    have c46b0 : ((rd t171 (ji43)) == ((Int.tmod a0 256) % 256)) = false := beq_eq_false_iff_ne.mpr c46
                                    have c46b1 : ((rd t171 (ji43)) != ((Int.tmod a0 256) % 256)) = true := bne_iff_ne.mpr c46
                                    obtain rfl := Option.some.inj H
                                    have p174 : 0 ≤ (x11_3 : Int) := of_decide_eq_true (by first | (with_reducible assumption) | assumption)
                                    have q174 : x11_3 < (l1.length : Int) := of_decide_eq_true (by first | (with_reducible assumption) | assumption)
                                    obtain ⟨ad174, e174, hx174_0⟩ := Kd.at_int HR1.out x11_3 p174 q174
                                    cases e174
                                    replace hx174_0 := (HB.out.cell (World.block_lt_of_cell? w _ hx174_0)).trans hx174_0
                                    replace p174 := eq_true p174
                                    replace q174 := eq_true q174
                                    have p175 : 0 ≤ ((ji43) : Int) := of_decide_eq_true (by first | (with_reducible assumption) | assumption)
                                    have q175 : (ji43) < (t171.length : Int) := of_decide_eq_true (by first | (with_reducible assumption) | assumption)
                                    obtain ⟨ad175, e175, hx175_0⟩ := Kd.at_int (Kd.R_reads' HO_10.out).2.2 (ji43) p175 q175
                                    cases e175
                                    replace p175 := eq_true p175
                                    replace q175 := eq_true q175
                                    go_wp2
                                    go_ret
                                    exact ⟨by first | rfl | (simp [errW_none, errW_some] <;> rfl) | (simp only [← hji43]; first | rfl | (simp [errW_none, errW_some] <;> rfl)) | (simp [*, errW_none, errW_some] <;> rfl), by repeat (first | (with_reducible first | exact HB.out | apply below_alloc | apply pw_below_drewN | apply below_drew1) | exact HB.out)⟩
                                · rw [if_neg c45] at H
                                  exact absurd H (by simp)
                              · rw [if_neg c44] at H
                                exact absurd H (by simp)
                            · rw [if_neg c42] at H
                              exact absurd H (by simp)
                          · rw [if_neg c41] at H
                            exact absurd H (by simp)
                        · replace c40 := Bool.eq_false_iff.mpr c40
                          subst c40
                          have H1 : (some t160) = some r := by rw [if_neg (show ¬ (false = true) by decide)] at H; exact H
                          clear H
                          have H := H1
                          clear H1
                          obtain rfl := Option.some.inj H
                          go_wp2
                          go_ret
                          exact ⟨by first | rfl | (simp [errW_none, errW_some] <;> rfl) | (simp [*, errW_none, errW_some] <;> rfl), by repeat (first | (with_reducible first | exact HB.out | apply below_alloc | apply pw_below_drewN | apply below_drew1) | exact HB.out)⟩
              · rw [if_neg c34] at H
                have c34b0 : ((t171.length : Int) == (x6_1.length : Int)) = false := beq_eq_false_iff_ne.mpr c34
                have c34b1 : ((t171.length : Int) != (x6_1.length : Int)) = true := bne_iff_ne.mpr c34
                have c34b2 : (t171.length == x6_1.length) = false := by first | simpa using c34 | (simp at c34 ⊢; omega)
                obtain rfl := Option.some.inj H
                obtain ⟨Ao55, co55, eo55⟩ := Kd.R_slice HO_6.out
                subst eo55
                go_wp2_with (first | ((with_reducible refine gate_callee (f := 24) rfl ?_); refine goesL_ (some 70) rfl rfl Try.func24 (by kernel_rfl) rfl #[.slice Ao55 x6_1.length co55] rfl (by (try simp only [List.map_toArray, List.map_cons, List.map_nil]); first | done | rfl | (simp only [List.length_drop, List.length_take]; rfl)) ?_; (with_reducible refine (bcj_Put.calls _ _ x6_1 t171 _ ?side1 ?side2 A33.out).mono ?_); (case side1 => repeat (first | exact (Kd.R_reads' HO_6.out).2.2 | (with_reducible refine Kd.C_alloc ?_ _) | (with_reducible refine Kd.C_drewN ?_ _) | (with_reducible refine Kd.C_drew ?_))); (case side2 => exact (Kd.R_reads' HO_6.out).2.1); rintro e w56 ⟨v172, rfl, ho0, hb⟩; refine ⟨_, rfl, ?_⟩; have n0_ := Aside0.mk (Kd.R_elder' (by (with_reducible repeat (first | apply Kd.R_alloc | apply Kd.R_drewN | apply Kd.R_drew)); exact HO_6.out) (Kd.R_base ho0) hb); have n1_ := Aside0.mk (Kd.R_lower (Kd.R_new' ho0 (Kd.R_lt (by (with_reducible repeat (first | apply Kd.R_alloc | apply Kd.R_drewN | apply Kd.R_drew)); exact HO_6.out))) (below_size (by repeat (first | (with_reducible first | exact HB.out | apply below_alloc | apply pw_below_drewN | apply below_drew1) | exact HB.out)))); have n2_ := Aside0.mk (below_step (by repeat (first | (with_reducible first | exact HB.out | apply below_alloc | apply pw_below_drewN | apply below_drew1) | exact HB.out)) hb); clear HO_6; clear HB; have HO_6 := n0_; have HO173 := n1_; have HB := n2_; clear n0_ n1_ n2_; (try clear hb); (try clear hb2); (try clear hk); (try clear hi); (try clear ho0); obtain ⟨Ao57, co57, eo57⟩ := Kd.R_slice HO173.out; subst eo57))
                go_ret
                exact ⟨by first | rfl | (simp [errW_none, errW_some] <;> rfl) | (simp [*, errW_none, errW_some] <;> rfl), by repeat (first | (with_reducible first | exact HB.out | apply below_alloc | apply pw_below_drewN | apply below_drew1) | exact HB.out)⟩
  · rw [if_neg c4] at H
    exact absurd H (by simp)

/-- THE ONE PURE STATEMENT of carapacelaw08_BcjSame: yours. -/
def carapacelaw08_BcjSame.Pure : Prop := ∀ (a0 : Int) (l1 : List Int), (Lit.int .u16 a0).wf = true → l1.length ≤ maxLen → l1.length * 8 ≤ 140737488351232 → (∀ x ∈ l1, (Lit.int .i64 x).wf = true) → ∃ k, carapacelaw08_BcjSame.f k a0 l1 = some true
theorem carapacelaw08_BcjSame.walk (P : carapacelaw08_BcjSame.Pure) (a0 : Int) (a1 : Option Addr) (len1 cap1 : Nat) (z1 : List Int) (w : World) (w0 : (Lit.int .u16 a0).wf = true) (w1 : (a1 = none ∧ len1 = 0 ∧ cap1 = 0 ∧ z1 = []) ∨ ∃ x, a1 = some x ∧ len1 ≤ cap1 ∧ cap1 ≤ maxLen ∧ z1.length = cap1 ∧ (∀ i, i < z1.length → w.cell? (x.add i) = some (.int .i64 (z1.getD i 0))) ∧ ∀ n ∈ z1, (Lit.int .i64 n).wf = true) (y1 : len1 * 8 ≤ 140737488351232) :
    Calls Try.prog 8 #[.int .u16 a0, .slice a1 len1 cap1] w fun e w' => e = .returned (.bool true) ∧ Below w.heap.size w w' := by
  obtain ⟨l1, rfl, hr1, hm1, hw1, hc1⟩ := ReadsInt.ofRowC w1
  obtain ⟨k, h⟩ := P a0 l1 w0 hm1 y1 hw1
  refine (carapacelaw08_BcjSame.calls k a0 _ _ l1 true w (Kd.C_of_reads (d := (0 : Int)) (h1 := fun _ => rfl) hr1) hc1 h).mono ?_
  rintro e w' ⟨rfl, hd⟩
  exact ⟨rfl, hd⟩

end Go.Proofs.Ytmibdlapjddfoaa.QBcj
