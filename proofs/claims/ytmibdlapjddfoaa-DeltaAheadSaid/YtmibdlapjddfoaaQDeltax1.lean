-- Text written by a program of this session (wip/tools).
import Derived.Test.YtmibdlapjddfoaaQDeltax0
namespace Go.Proofs.Ytmibdlapjddfoaa.QDelta
open Go.RowKit Go.Proofs.YtmibdlapjddfoaaW.PrintWords Go.Proofs.YtmibdlapjddfoaaW.PrintLast Go.Proofs.YtmibdlapjddfoaaW.PrintMore
attribute [local go_sem] max2_int min2_int max_two min_two max_three min_three max_four min_four   -- for this text's walks alone
set_option linter.unusedVariables false
set_option linter.unusedSimpArgs false

/-! ### carapaceref01_Same: function 23 -/
def carapaceref01_Same.l0 : Nat → List Int → List Int → Int → Option (Bool)
  | 0, _, _, _ => none
  | k + 1, x0, x1, x5 => if x5 < (x0.length : Int) then (if 0 ≤ x5 then (if x5 < (x1.length : Int) then (if (rd x0 x5) = (rd x1 x5) then (carapaceref01_Same.l0 k x0 x1 (wrap64 (x5 + 1))) else (some false)) else (none)) else (none)) else (some true)
def carapaceref01_Same.f (k : Nat) (l0 : List Int) (l1 : List Int) : Option (Bool) := if (l0.length : Int) = (l1.length : Int) then (carapaceref01_Same.l0 k l0 l1 0) else (some false)
theorem carapaceref01_Same.mono_l : ∀ k, (∀ y0 y1 y2, LeO (carapaceref01_Same.l0 k y0 y1 y2) (carapaceref01_Same.l0 (k + 1) y0 y1 y2))
  | 0 => fun _ _ _ r h => by simp [carapaceref01_Same.l0] at h
  | k + 1 => by
    have ih0 := carapaceref01_Same.mono_l k
    · intro y0 y1 y2
      unfold carapaceref01_Same.l0
      repeat' first
      | (with_reducible exact ih0 _ _ _)
      | (with_reducible exact LeO.refl _)
      | (with_reducible exact LeO.none _)
      | (with_reducible refine LeO.ite ?_ ?_)
      | (with_reducible refine LeO.bind ?_ (fun _ => ?_))
      | exact ih0 _ _ _
      | exact LeO.none _
      | refine LeO.ite ?_ ?_
      | refine LeO.bind ?_ (fun _ => ?_)
theorem carapaceref01_Same.mono : ∀ a0 a1 k, LeO (carapaceref01_Same.f k a0 a1) (carapaceref01_Same.f (k + 1) a0 a1) := by
  intro a0 a1 k
  have ih0 := carapaceref01_Same.mono_l k
  unfold carapaceref01_Same.f
  repeat' first
      | (with_reducible exact ih0 _ _ _)
      | (with_reducible exact LeO.refl _)
      | (with_reducible exact LeO.none _)
      | (with_reducible refine LeO.ite ?_ ?_)
      | (with_reducible refine LeO.bind ?_ (fun _ => ?_))
      | exact ih0 _ _ _
      | exact LeO.none _
      | refine LeO.ite ?_ ?_
      | refine LeO.bind ?_ (fun _ => ?_)
set_option maxHeartbeats 8000000 in
set_option maxRecDepth 100000 in
theorem carapaceref01_Same.calls (k : Nat) (A0 : Option Addr) (c0 : Nat) (l0 : List Int) (A1 : Option Addr) (c1 : Nat) (l1 : List Int) (r : Bool) (w : World) (hr0 : Kd.C (Kd.int .u8) w A0 l0.length l0) (hc0 : l0.length ≤ c0) (hr1 : Kd.C (Kd.int .u8) w A1 l1.length l1) (hc1 : l1.length ≤ c1) (h : carapaceref01_Same.f k l0 l1 = some r) :
    Calls Try.prog 23 #[.slice A0 l0.length c0, .slice A1 l1.length c1] w fun e w' => e = .returned (.bool r) ∧ Drawn0 w w' := by
  have HR0 := Aside0.mk hr0
  have HC0 := Aside0.mk hc0
  clear hr0 hc0
  have HR1 := Aside0.mk hr1
  have HC1 := Aside0.mk hc1
  clear hr1 hc1
  have H : (if (l0.length : Int) = (l1.length : Int) then (carapaceref01_Same.l0 k l0 l1 0) else (some false)) = some r := h
  clear h
  by_cases c3 : (l0.length : Int) = (l1.length : Int)
  · rw [if_pos c3] at H
    have c3b0 : ((l0.length : Int) == (l1.length : Int)) = true := beq_iff_eq.mpr c3
    have c3b1 : ((l0.length : Int) != (l1.length : Int)) = false := bne_eq_false_iff_eq.mpr c3
    have c3b2 : (l0.length == l1.length) = true := by first | simpa using c3 | (simp at c3 ⊢; omega)
    clear c3
    have H' := Aside0.mk H
    clear H
    go_enter Try.func23, Try.ntmps23
    go_wp2
    repeat (go_quiet (fail); try go_wp2)
    go_loopg [5] k (fun kq v5 w' => ∃ (x5_1 : Int), v5 = .int .i64 x5_1 ∧ Aside0 (carapaceref01_Same.l0 kq l0 l1 x5_1 = some r) ∧ Aside0 (kq ≤ k) ∧ Drawn0 w w')
    case atStart => exact ⟨(0), (by first | rfl | (simp; done) | (simp [*]; done)), H', ⟨Nat.le_refl _⟩, by repeat (first | exact Drawn0.refl _ | apply Drawn0.step)⟩
    case round =>
      clear H'
      try clear c1
      try clear c2
      try clear p2
      try clear c3
      try clear c3b0
      try clear c3b1
      try clear c3b2
      obtain ⟨x5_1, rfl, HA, HK1, ⟨m1, rfl⟩⟩ := hrel
      cases gk with
      | zero => exact absurd HA.out (by simp [carapaceref01_Same.l0])
      | succ k1 =>
        have H := HA.out
        clear HA
        simp only [carapaceref01_Same.l0] at H
        by_cases c4 : x5_1 < (l0.length : Int)
        · rw [if_pos c4] at H
          have c4b0 : decide (x5_1 < (l0.length : Int)) = true := decide_eq_true c4
          clear c4
          by_cases c5 : 0 ≤ x5_1
          · rw [if_pos c5] at H
            have c5b0 : decide (0 ≤ x5_1) = true := decide_eq_true c5
            clear c5
            by_cases c6 : x5_1 < (l1.length : Int)
            · rw [if_pos c6] at H
              have c6b0 : decide (x5_1 < (l1.length : Int)) = true := decide_eq_true c6
              clear c6
              by_cases c7 : (rd l0 x5_1) = (rd l1 x5_1)
              · rw [if_pos c7] at H
                have c7b0 : ((rd l0 x5_1) == (rd l1 x5_1)) = true := beq_iff_eq.mpr c7
                have c7b1 : ((rd l0 x5_1) != (rd l1 x5_1)) = false := bne_eq_false_iff_eq.mpr c7
                clear c7
                have H' := Aside0.mk H
                clear H
                have p101 : 0 ≤ (x5_1 : Int) := of_decide_eq_true (by first | (with_reducible assumption) | assumption)
                have q101 : x5_1 < (l0.length : Int) := of_decide_eq_true (by first | (with_reducible assumption) | assumption)
                obtain ⟨ad101, e101, hx101_0⟩ := Kd.at_int HR0.out x5_1 p101 q101
                cases e101
                replace p101 := eq_true p101
                replace q101 := eq_true q101
                have p102 : 0 ≤ (x5_1 : Int) := of_decide_eq_true (by first | (with_reducible assumption) | assumption)
                have q102 : x5_1 < (l1.length : Int) := of_decide_eq_true (by first | (with_reducible assumption) | assumption)
                obtain ⟨ad102, e102, hx102_0⟩ := Kd.at_int HR1.out x5_1 p102 q102
                cases e102
                replace p102 := eq_true p102
                replace q102 := eq_true q102
                go_wp2
                repeat (go_quiet (fail); try go_wp2)
                go_roundg k1
                case measure => have := HK1.out; omega
                case rel => exact ⟨(wrap64 (x5_1 + 1)), (by first | rfl | (simp; done) | (simp [*]; done)), H', ⟨by have := HK1.out; omega⟩, by repeat (first | exact Drawn0.refl _ | apply Drawn0.step)⟩
              · rw [if_neg c7] at H
                have c7b0 : ((rd l0 x5_1) == (rd l1 x5_1)) = false := beq_eq_false_iff_ne.mpr c7
                have c7b1 : ((rd l0 x5_1) != (rd l1 x5_1)) = true := bne_iff_ne.mpr c7
                obtain rfl := Option.some.inj H
                have p101 : 0 ≤ (x5_1 : Int) := of_decide_eq_true (by first | (with_reducible assumption) | assumption)
                have q101 : x5_1 < (l0.length : Int) := of_decide_eq_true (by first | (with_reducible assumption) | assumption)
                obtain ⟨ad101, e101, hx101_0⟩ := Kd.at_int HR0.out x5_1 p101 q101
                cases e101
                replace p101 := eq_true p101
                replace q101 := eq_true q101
                have p102 : 0 ≤ (x5_1 : Int) := of_decide_eq_true (by first | (with_reducible assumption) | assumption)
                have q102 : x5_1 < (l1.length : Int) := of_decide_eq_true (by first | (with_reducible assumption) | assumption)
                obtain ⟨ad102, e102, hx102_0⟩ := Kd.at_int HR1.out x5_1 p102 q102
                cases e102
                replace p102 := eq_true p102
                replace q102 := eq_true q102
                go_wp2
                repeat (go_quiet (fail); try go_wp2)
                go_ret
                exact ⟨by first | rfl | (simp; done) | (simp [*]; done), by repeat (first | exact Drawn0.refl _ | apply Drawn0.step)⟩
            · rw [if_neg c6] at H
              exact absurd H (by simp)
          · rw [if_neg c5] at H
            exact absurd H (by simp)
        · rw [if_neg c4] at H
          have c4b0 : decide (x5_1 < (l0.length : Int)) = false := decide_eq_false c4
          clear c4
          obtain rfl := Option.some.inj H
          go_wp2
          repeat (go_quiet (fail); try go_wp2)
          go_ret
          exact ⟨by first | rfl | (simp; done) | (simp [*]; done), by repeat (first | exact Drawn0.refl _ | apply Drawn0.step)⟩
  · rw [if_neg c3] at H
    have c3b0 : ((l0.length : Int) == (l1.length : Int)) = false := beq_eq_false_iff_ne.mpr c3
    have c3b1 : ((l0.length : Int) != (l1.length : Int)) = true := bne_iff_ne.mpr c3
    have c3b2 : (l0.length == l1.length) = false := by first | simpa using c3 | (simp at c3 ⊢; omega)
    obtain rfl := Option.some.inj H
    go_enter Try.func23, Try.ntmps23
    go_wp2
    repeat (go_quiet (fail); try go_wp2)
    go_ret
    exact ⟨by first | rfl | (simp; done) | (simp [*]; done), by repeat (first | exact Drawn0.refl _ | apply Drawn0.step)⟩

/-! ### slices_Clone_byte_byte: function 52 -/
def slices_Clone_byte_byte.f (l0 : List Int) : Option (List Int) := if l0.length < 140737488355328 then some l0 else none
theorem slices_Clone_byte_byte.info : (Try.prog.info? 5).map (fun i => (i.zero, i.size, i.bytes)) = some (some (.int .u8 0), 1, 1) := by kernel_rfl
set_option maxHeartbeats 800000 in
set_option maxRecDepth 100000 in
theorem slices_Clone_byte_byte.calls (A0 : Option Addr) (c0 : Nat) (l0 : List Int) (r : List Int) (w : World) (hr0 : Kd.C (Kd.int .u8) w A0 l0.length l0) (hc0 : l0.length ≤ c0) (h : slices_Clone_byte_byte.f l0 = some r) :
    Calls Try.prog 52 #[.slice A0 l0.length c0] w fun e w' => ∃ v0_ : Value, e = .returned (v0_) ∧ Kd.R (Kd.int .u8) 5 w' w.heap.size (fun _ => True) v0_ r ∧ Below w.heap.size w w' := by
  unfold slices_Clone_byte_byte.f at h
  split at h
  case isFalse => cases h
  case isTrue hlt =>
  obtain rfl := Option.some.inj h
  clear h
  have HL := Aside0.mk hlt
  clear hlt
  have HB := Aside0.mk (Below.refl w.heap.size w)
  have hnil := fun (w : World) (a : Option Addr) (n c n' c' : Nat) => Lib.run_eql_slice_nil (P := Try.prog) w 23 5 a n c n' c' Try.underlying23
  rcases A0 with _ | a0
  · have h0 : l0 = [] := by
      rcases Nat.eq_zero_or_pos l0.length with h0 | h0
      · exact List.eq_nil_of_length_eq_zero h0
      · obtain ⟨ad, h, _⟩ := hr0.2.2 h0
        cases h
    subst h0
    go_enter Try.func52, Try.ntmps52
    go_wp2
    go_ret
    exact ⟨_, rfl, Kd.R_nil _ _ _ _ _, Below.refl _ _⟩
  · have HR0 := Aside0.mk hr0
    clear hr0
    go_enter Try.func52, Try.ntmps52
    go_wp2_with (first
      | ((with_reducible refine gate_dst (N := 5) rfl ?_); refine Kd.R_lit (Kd.int .u8) _ 5 ?hg (N := 5) ?hd (xs := ([] : List Int)) (inner := []) (ok := fun _ => True) (okp := fun _ => True) ?hr ?hp (fun _ hk => hk) trivial (Below.refl _ _) (Nat.le_refl _) (by simp) ?_; (case hd => rfl); (case hg => rfl); (case hr => first | (go_simp; done) | (go_simp; rfl)); (case hp => exact (Reps.none _ _)); intro v1 w2 ho hb hg_ hnew_; clear hg_ hnew_; have n0 := Aside0.mk (Kd.R_lower ho (below_size (by repeat (first | (with_reducible first | exact HB.out | apply below_alloc | apply pw_below_drewN | apply below_drew1) | exact HB.out)))); have n1 := Aside0.mk (below_step (by repeat (first | (with_reducible first | exact HB.out | apply below_alloc | apply pw_below_drewN | apply below_drew1) | exact HB.out)) hb); clear HB; have HO := n0; have HB := n1; clear n0 n1; clear hb ho)
      | ((with_reducible refine gate_builtin (b := .append) (xs := #[.tmp 5, .tmp 6]) rfl ?_); at_builtin; refine Kd.R_append_rows (Kd.int .u8) (w0 := w) w.heap.size rfl (.tmp 5) (.tmp 6) 23 5 (.int .u8 0) 1 rfl Try.underlying23 slices_Clone_byte_byte.info rfl (by decide) (by omega) v1 [] l0 _ _ _ (fun _ => True) (fun _ => False) rfl rfl ?aO ?aR (fun _ _ h => h) (fun _ h => h.elim) ?aF ?aB ?aS ?aL ?_; (case aR => exact (Kd.C_below HR0.out HB.out)); (case aB => exact (by repeat (first | (with_reducible first | exact HB.out | apply below_alloc | apply pw_below_drewN | apply below_drew1) | exact HB.out))); (case aF => exact (fun _ _ => trivial)); (case aO => exact HO.out); (case aS => exact (below_size (by repeat (first | (with_reducible first | exact HB.out | apply below_alloc | apply pw_below_drewN | apply below_drew1) | exact HB.out)))); (case aL => have := HL.out; simp; omega); intro v2 w3 ho hb hg hat; have n0 := Aside0.mk hb; have n1 := Aside0.mk (show Kd.R (Kd.int .u8) 5 w3 w.heap.size (fun _ => True) v2 l0 from ho); clear HB; clear HO; have HB := n0; have HO := n1; clear n0 n1; clear ho hb hg hat))
    go_ret
    exact ⟨_, rfl, HO.out, HB.out⟩

-- NOT PRINTED: function 45 (delta_through)

/-! ### delta_Put: function 29 -/
/-- m bytes' step: f of a byte and the one so many ahead, of what came in or of what was made. -/
def deltaStage (f : Int → Int → Int) (was : Bool) (l : List Int) (by_ : Nat) : Nat → List Int
  | 0 => l
  | m + 1 => (deltaStage f was l by_ m).set (by_ + m) (f (l.getD (by_ + m) 0) ((if was then l else deltaStage f was l by_ m).getD m 0))
theorem deltaStage_length (f : Int → Int → Int) (was : Bool) (l : List Int) (by_ m : Nat) : (deltaStage f was l by_ m).length = l.length := by
  induction m with
  | zero => rfl
  | succ m ih => unfold deltaStage; rw [List.length_set, ih]
def delta_Put.g (b ahead : Int) : Int := (b - ahead) % 256
def delta_Put.f (l0 : List Int) (a1 : Int) : Option (List Int) :=
  if l0.length < 140737488355328 then (if a1 < 1 ∨ a1 > 255 then some l0 else some (deltaStage delta_Put.g true l0 a1.toNat (l0.length - a1.toNat))) else none
theorem delta_Put.turn (x y : Int) (w : World) : Calls Try.prog 46 #[.int .u8 x, .int .u8 y] w fun e w' => e = .returned (.int .u8 (delta_Put.g x y)) ∧ w' = w := by
  go_enter Try.func46, Try.ntmps46
  go_wp2
  go_ret
  exact ⟨rfl, rfl⟩
set_option maxHeartbeats 1600000 in
set_option maxRecDepth 100000 in
theorem delta_Put.through (A0 : Option Addr) (c0 : Nat) (l0 : List Int) (a1 : Int) (w : World) (r : List Int) (hr0 : Kd.C (Kd.int .u8) w A0 l0.length l0) (hc0 : l0.length ≤ c0) (h : delta_Put.f l0 a1 = some r) :
    Calls Try.prog 45 #[.slice A0 l0.length c0, .int .i64 a1, .agg #[.func (.func 46) #[] #[], .bool true]] w fun e w' => ∃ v0_ : Value, e = .returned (v0_) ∧ Kd.R (Kd.int .u8) 5 w' w.heap.size (fun _ => True) v0_ r ∧ Below w.heap.size w w' := by
  unfold delta_Put.f at h
  split at h
  case isFalse => cases h
  case isTrue hlen =>
  have HR0 := Aside0.mk hr0
  clear hr0
  have HCL := Aside0.mk (show slices_Clone_byte_byte.f l0 = some l0 by unfold slices_Clone_byte_byte.f; rw [if_pos hlen])
  have HB := Aside0.mk (Below.refl w.heap.size w)
  by_cases hby : a1 < 1 ∨ a1 > 255
  · rw [if_pos hby] at h
    obtain rfl := Option.some.inj h
    clear h
    rcases hby with hby | hby
    · have d1 : decide (a1 < 1) = true := decide_eq_true hby
      clear hby
      go_enter Try.func45, Try.ntmps45
      go_wp2_with (first | (go_at_call 52; (with_reducible refine (slices_Clone_byte_byte.calls A0 c0 l0 l0 _ ?s1 hc0 HCL.out).mono ?_); (case s1 => exact Kd.C_below HR0.out (by repeat (first | (with_reducible first | exact HB.out | apply below_alloc | apply pw_below_drewN | apply below_drew1) | exact HB.out))); rintro e w1 ⟨v1, rfl, ho, hb⟩; have n0 := Aside0.mk (below_then (by repeat (first | (with_reducible first | exact HB.out | apply below_alloc | apply pw_below_drewN | apply below_drew1) | exact HB.out)) (by simp) hb); have HO := Aside0.mk (Kd.R_lower (base' := w.heap.size) ho (by simp)); clear ho hb HB; have HB := n0; clear n0))
      go_ret
      exact ⟨_, rfl, HO.out, HB.out⟩
    · have d1 : decide (a1 < 1) = false := decide_eq_false (by omega)
      have d2 : decide (255 < a1) = true := decide_eq_true hby
      clear hby
      go_enter Try.func45, Try.ntmps45
      go_wp2_with (first | (go_at_call 52; (with_reducible refine (slices_Clone_byte_byte.calls A0 c0 l0 l0 _ ?s1 hc0 HCL.out).mono ?_); (case s1 => exact Kd.C_below HR0.out (by repeat (first | (with_reducible first | exact HB.out | apply below_alloc | apply pw_below_drewN | apply below_drew1) | exact HB.out))); rintro e w1 ⟨v1, rfl, ho, hb⟩; have n0 := Aside0.mk (below_then (by repeat (first | (with_reducible first | exact HB.out | apply below_alloc | apply pw_below_drewN | apply below_drew1) | exact HB.out)) (by simp) hb); have HO := Aside0.mk (Kd.R_lower (base' := w.heap.size) ho (by simp)); clear ho hb HB; have HB := n0; clear n0))
      go_ret
      exact ⟨_, rfl, HO.out, HB.out⟩
  rw [if_neg hby] at h
  obtain ⟨n, rfl⟩ := Int.eq_ofNat_of_zero_le (show 0 ≤ a1 by omega)
  simp only [Int.toNat_natCast] at h
  obtain rfl := Option.some.inj h
  clear h
  have d1 : decide ((n : Int) < 1) = false := decide_eq_false (by omega)
  have d2 : decide (255 < (n : Int)) = false := decide_eq_false (by omega)
  have hn1 : 1 ≤ n := by omega
  have hn2 : n ≤ 255 := by omega
  clear hby
  go_enter Try.func45, Try.ntmps45
  go_wp2_with (first | (go_at_call 52; (with_reducible refine (slices_Clone_byte_byte.calls A0 c0 l0 l0 _ ?s1 hc0 HCL.out).mono ?_); (case s1 => exact Kd.C_below HR0.out (by repeat (first | (with_reducible first | exact HB.out | apply below_alloc | apply pw_below_drewN | apply below_drew1) | exact HB.out))); rintro e w1 ⟨v1, rfl, ho, hb⟩; have n0 := Aside0.mk (below_then (by repeat (first | (with_reducible first | exact HB.out | apply below_alloc | apply pw_below_drewN | apply below_drew1) | exact HB.out)) (by simp) hb); have HO := Aside0.mk ho; have HX0 := (hb.cell (p := ⟨w.heap.size, 0, none⟩) (by simp)).trans (show _ = some (Value.func (.func 46) #[] #[]) by go_simp); have HX1 := (hb.cell (p := ⟨w.heap.size, 1, none⟩) (by simp)).trans (show _ = some (Value.bool true) by go_simp); clear ho hb HB; have HB := n0; clear n0; obtain ⟨A1, c1, e1⟩ := Kd.R_slice HO.out; subst e1))
  have HCC := Aside0.mk (Kd.R_reads' HO.out).2.1
  have HO1 := Aside0.mk (show Kd.R (Kd.int .u8) 5 w1 (w.heap.size + 1) (fun _ => True) (.slice A1 l0.length c1) (deltaStage delta_Put.g true l0 n 0) by have z := HO.out; rw [show (w.alloc (Obj.cells #[Value.func (Fn.func 46) #[] #[], Value.bool true] 61)).heap.size = w.heap.size + 1 by simp] at z; exact z)
  have HXA := Aside0.mk HX0
  clear HO HX0 HX1
  go_loopw [9] (fun v9 w' => ∃ (at_ : Int) (m : Nat), v9 = .int .i64 at_ ∧ Aside0 (at_ = (n : Int) + (m : Int)) ∧ Aside0 (m ≤ l0.length - n) ∧ Aside0 (Kd.R (Kd.int .u8) 5 w' (w.heap.size + 1) (fun _ => True) (.slice A1 l0.length c1) (deltaStage delta_Put.g true l0 n m)) ∧ Aside0 (Below w.heap.size w w') ∧ Aside0 (w'.cell? ⟨w.heap.size, 0, none⟩ = some (Value.func (.func 46) #[] #[]))) (fun v9 _ => l0.length - (intOf v9).toNat)
  case atStart => exact ⟨n, 0, rfl, ⟨by omega⟩, ⟨Nat.zero_le _⟩, HO1, HB, HXA⟩
  case round =>
    clear HO1 HB HXA
    obtain ⟨at_, m, rfl, HAT, HM, HO, HB, HXA⟩ := hrel
    have hat := HAT.out
    have hm := HM.out
    have hxl := deltaStage_length delta_Put.g true l0 n m
    generalize hxe : deltaStage delta_Put.g true l0 n m = x at *
    by_cases hlt : n + m < l0.length
    · obtain ⟨g, cp, eg, hgb, hgl, hgc⟩ := Kd.R_form HO.out (by omega)
      rw [hxl] at eg
      injection eg with ea _ ec
      subst ea ec
      obtain ⟨j, hj⟩ : ∃ j : Int, wrap64 (at_ - (n : Int)) = j := ⟨_, rfl⟩
      have hjw : IntKind.i64.wrap (at_ - (n : Int)) = j := (i64_w _).trans hj
      have ej : j = (m : Int) := by rw [← hj, hat]; unfold wrap64; omega
      obtain ⟨j4, h4⟩ : ∃ j : Int, wrap64 (at_ + 1) = j := ⟨_, rfl⟩
      have h4w : IntKind.i64.wrap (at_ + 1) = j4 := (i64_w _).trans h4
      have e4 : j4 = (n : Int) + ((m + 1 : Nat) : Int) := by rw [← h4, hat]; unfold wrap64; omega
      obtain ⟨a0, rfl, k0⟩ := Kd.at_int HR0.out at_ (by omega) (by omega)
      obtain ⟨a0', ea, k1⟩ := Kd.at_int HR0.out j (by omega) (by omega)
      obtain rfl : a0 = a0' := by injection ea
      replace k0 := (HB.out.cell (World.block_lt_of_cell? w _ k0)).trans k0
      replace k1 := (HB.out.cell (World.block_lt_of_cell? w _ k1)).trans k1
      obtain ⟨q0, f0⟩ := Kd.R_celln 0 HO.out at_ (by omega) (by omega)
      have kx := HXA.out
      have hcc := HCC.out
      have dl : decide (at_ < (l0.length : Int)) = true := decide_eq_true (by omega)
      have n0 : (0 ≤ at_) = True := eq_true (by omega)
      have m0 : (at_ < (l0.length : Int)) = True := eq_true (by omega)
      have n1 : (0 ≤ j) = True := eq_true (by omega)
      have m1 : (j < (l0.length : Int)) = True := eq_true (by omega)
      have HXE := Aside0.mk hxe
      have HGB := Aside0.mk hgb
      have HMS := Aside0.mk (show l0.length - j4.toNat < l0.length - at_.toNat by omega)
      have HE4 := Aside0.mk e4
      have HLE := Aside0.mk (show m + 1 ≤ l0.length - n by omega)
      have HT0 := Aside0.mk (show at_.toNat = n + m by omega)
      have hr1 : rd l0 j = l0.getD m 0 := by unfold rd; rw [show j.toNat = m by omega]
      have hr0 : rd l0 at_ = l0.getD (n + m) 0 := by unfold rd; rw [HT0.out]
      rw [hr1] at k1
      rw [hr0] at k0
      have HS := Aside0.mk (show deltaStage delta_Put.g true l0 n (m + 1) = x.set (n + m) (delta_Put.g (l0.getD (n + m) 0) (l0.getD m 0)) by
        show (deltaStage delta_Put.g true l0 n m).set (n + m) (delta_Put.g (l0.getD (n + m) 0) ((if true then l0 else deltaStage delta_Put.g true l0 n m).getD m 0)) = _
        rw [HXE.out, if_pos rfl])
      generalize l0.getD (n + m) 0 = a at *
      generalize l0.getD m 0 = b at *
      generalize rdOf 0 x at_ = a' at *
      clear hxe hxl hgl hgc hgb ej e4 hj h4 hat hlt hr1 hr0 hm
      go_wp2
      refine wp_region_still_tail 15 (by kernel_rfl) (by kernel_rfl) ?_
      simp only [List.take_succ_cons, List.take_zero, List.drop_succ_cons, List.drop_zero]
      repeat still_step
      still_call (delta_Put.turn _ _ _)
      refine wpStill_nil ?_
      change wpList _ _ _ _ _ wr.drew
      go_wp2
      refine ⟨⟨j4, m + 1, by go_num, ⟨HE4.out⟩, ⟨HLE.out⟩, ⟨?_⟩, ⟨?_⟩, ⟨?_⟩⟩, HMS.out⟩
      · rw [HS.out, ← HT0.out]
        exact Kd.R_drew (Kd.R_putn HO.out at_ _)
      · exact below_drew (below_set HB.out (Nat.le_trans (Nat.le_succ _) HGB.out))
      · exact (World.cell?_setCell_far wr _ _ _ (by have := HGB.out; show g ≠ w.heap.size; omega)).trans HXA.out
    · have dl : decide (at_ < (l0.length : Int)) = false := decide_eq_false (by omega)
      have HI := Aside0.mk (show m = l0.length - n by omega)
      clear hlt hat hm
      go_wp2
      go_ret
      exact ⟨_, rfl, by rw [← HI.out, hxe]; exact Kd.R_lower HO.out (Nat.le_succ _), HB.out⟩
set_option maxHeartbeats 800000 in
theorem delta_Put.calls (A0 : Option Addr) (c0 : Nat) (l0 : List Int) (a1 : Int) (r : List Int) (w : World) (hr0 : Kd.C (Kd.int .u8) w A0 l0.length l0) (hc0 : l0.length ≤ c0) (h : delta_Put.f l0 a1 = some r) :
    Calls Try.prog 29 #[.slice A0 l0.length c0, .int .i64 a1] w fun e w' => ∃ v0_ : Value, e = .returned (v0_) ∧ Kd.R (Kd.int .u8) 5 w' w.heap.size (fun _ => True) v0_ r ∧ Below w.heap.size w w' := by
  have HR0 := Aside0.mk hr0
  have HH := Aside0.mk h
  clear hr0 h
  go_enter Try.func29, Try.ntmps29
  go_wp2_with (first | (go_at_call 45; (with_reducible refine (delta_Put.through A0 c0 l0 a1 _ r HR0.out hc0 HH.out).mono ?_); rintro e w1 ⟨v1, rfl, ho, hb⟩; have HO := Aside0.mk ho; have HB := Aside0.mk hb; clear ho hb))
  go_ret
  exact ⟨_, rfl, HO.out, HB.out⟩

/-! ### delta_Back: function 31 -/
def delta_Back.g (b ahead : Int) : Int := (b + ahead) % 256
def delta_Back.f (l0 : List Int) (a1 : Int) : Option (List Int) :=
  if l0.length < 140737488355328 then (if a1 < 1 ∨ a1 > 255 then some l0 else some (deltaStage delta_Back.g false l0 a1.toNat (l0.length - a1.toNat))) else none
theorem delta_Back.turn (x y : Int) (w : World) : Calls Try.prog 47 #[.int .u8 x, .int .u8 y] w fun e w' => e = .returned (.int .u8 (delta_Back.g x y)) ∧ w' = w := by
  go_enter Try.func47, Try.ntmps47
  go_wp2
  go_ret
  exact ⟨rfl, rfl⟩
set_option maxHeartbeats 1600000 in
set_option maxRecDepth 100000 in
theorem delta_Back.through (A0 : Option Addr) (c0 : Nat) (l0 : List Int) (a1 : Int) (w : World) (r : List Int) (hr0 : Kd.C (Kd.int .u8) w A0 l0.length l0) (hc0 : l0.length ≤ c0) (h : delta_Back.f l0 a1 = some r) :
    Calls Try.prog 45 #[.slice A0 l0.length c0, .int .i64 a1, .agg #[.func (.func 47) #[] #[], .bool false]] w fun e w' => ∃ v0_ : Value, e = .returned (v0_) ∧ Kd.R (Kd.int .u8) 5 w' w.heap.size (fun _ => True) v0_ r ∧ Below w.heap.size w w' := by
  unfold delta_Back.f at h
  split at h
  case isFalse => cases h
  case isTrue hlen =>
  have HR0 := Aside0.mk hr0
  clear hr0
  have HCL := Aside0.mk (show slices_Clone_byte_byte.f l0 = some l0 by unfold slices_Clone_byte_byte.f; rw [if_pos hlen])
  have HB := Aside0.mk (Below.refl w.heap.size w)
  by_cases hby : a1 < 1 ∨ a1 > 255
  · rw [if_pos hby] at h
    obtain rfl := Option.some.inj h
    clear h
    rcases hby with hby | hby
    · have d1 : decide (a1 < 1) = true := decide_eq_true hby
      clear hby
      go_enter Try.func45, Try.ntmps45
      go_wp2_with (first | (go_at_call 52; (with_reducible refine (slices_Clone_byte_byte.calls A0 c0 l0 l0 _ ?s1 hc0 HCL.out).mono ?_); (case s1 => exact Kd.C_below HR0.out (by repeat (first | (with_reducible first | exact HB.out | apply below_alloc | apply pw_below_drewN | apply below_drew1) | exact HB.out))); rintro e w1 ⟨v1, rfl, ho, hb⟩; have n0 := Aside0.mk (below_then (by repeat (first | (with_reducible first | exact HB.out | apply below_alloc | apply pw_below_drewN | apply below_drew1) | exact HB.out)) (by simp) hb); have HO := Aside0.mk (Kd.R_lower (base' := w.heap.size) ho (by simp)); clear ho hb HB; have HB := n0; clear n0))
      go_ret
      exact ⟨_, rfl, HO.out, HB.out⟩
    · have d1 : decide (a1 < 1) = false := decide_eq_false (by omega)
      have d2 : decide (255 < a1) = true := decide_eq_true hby
      clear hby
      go_enter Try.func45, Try.ntmps45
      go_wp2_with (first | (go_at_call 52; (with_reducible refine (slices_Clone_byte_byte.calls A0 c0 l0 l0 _ ?s1 hc0 HCL.out).mono ?_); (case s1 => exact Kd.C_below HR0.out (by repeat (first | (with_reducible first | exact HB.out | apply below_alloc | apply pw_below_drewN | apply below_drew1) | exact HB.out))); rintro e w1 ⟨v1, rfl, ho, hb⟩; have n0 := Aside0.mk (below_then (by repeat (first | (with_reducible first | exact HB.out | apply below_alloc | apply pw_below_drewN | apply below_drew1) | exact HB.out)) (by simp) hb); have HO := Aside0.mk (Kd.R_lower (base' := w.heap.size) ho (by simp)); clear ho hb HB; have HB := n0; clear n0))
      go_ret
      exact ⟨_, rfl, HO.out, HB.out⟩
  rw [if_neg hby] at h
  obtain ⟨n, rfl⟩ := Int.eq_ofNat_of_zero_le (show 0 ≤ a1 by omega)
  simp only [Int.toNat_natCast] at h
  obtain rfl := Option.some.inj h
  clear h
  have d1 : decide ((n : Int) < 1) = false := decide_eq_false (by omega)
  have d2 : decide (255 < (n : Int)) = false := decide_eq_false (by omega)
  have hn1 : 1 ≤ n := by omega
  have hn2 : n ≤ 255 := by omega
  clear hby
  go_enter Try.func45, Try.ntmps45
  go_wp2_with (first | (go_at_call 52; (with_reducible refine (slices_Clone_byte_byte.calls A0 c0 l0 l0 _ ?s1 hc0 HCL.out).mono ?_); (case s1 => exact Kd.C_below HR0.out (by repeat (first | (with_reducible first | exact HB.out | apply below_alloc | apply pw_below_drewN | apply below_drew1) | exact HB.out))); rintro e w1 ⟨v1, rfl, ho, hb⟩; have n0 := Aside0.mk (below_then (by repeat (first | (with_reducible first | exact HB.out | apply below_alloc | apply pw_below_drewN | apply below_drew1) | exact HB.out)) (by simp) hb); have HO := Aside0.mk ho; have HX0 := (hb.cell (p := ⟨w.heap.size, 0, none⟩) (by simp)).trans (show _ = some (Value.func (.func 47) #[] #[]) by go_simp); have HX1 := (hb.cell (p := ⟨w.heap.size, 1, none⟩) (by simp)).trans (show _ = some (Value.bool false) by go_simp); clear ho hb HB; have HB := n0; clear n0; obtain ⟨A1, c1, e1⟩ := Kd.R_slice HO.out; subst e1))
  have HCC := Aside0.mk (Kd.R_reads' HO.out).2.1
  have HO1 := Aside0.mk (show Kd.R (Kd.int .u8) 5 w1 (w.heap.size + 1) (fun _ => True) (.slice A1 l0.length c1) (deltaStage delta_Back.g false l0 n 0) by have z := HO.out; rw [show (w.alloc (Obj.cells #[Value.func (Fn.func 47) #[] #[], Value.bool false] 61)).heap.size = w.heap.size + 1 by simp] at z; exact z)
  have HXA := Aside0.mk HX0
  clear HO HX0 HX1
  go_loopw [9] (fun v9 w' => ∃ (at_ : Int) (m : Nat), v9 = .int .i64 at_ ∧ Aside0 (at_ = (n : Int) + (m : Int)) ∧ Aside0 (m ≤ l0.length - n) ∧ Aside0 (Kd.R (Kd.int .u8) 5 w' (w.heap.size + 1) (fun _ => True) (.slice A1 l0.length c1) (deltaStage delta_Back.g false l0 n m)) ∧ Aside0 (Below w.heap.size w w') ∧ Aside0 (w'.cell? ⟨w.heap.size, 0, none⟩ = some (Value.func (.func 47) #[] #[]))) (fun v9 _ => l0.length - (intOf v9).toNat)
  case atStart => exact ⟨n, 0, rfl, ⟨by omega⟩, ⟨Nat.zero_le _⟩, HO1, HB, HXA⟩
  case round =>
    clear HO1 HB HXA
    obtain ⟨at_, m, rfl, HAT, HM, HO, HB, HXA⟩ := hrel
    have hat := HAT.out
    have hm := HM.out
    have hxl := deltaStage_length delta_Back.g false l0 n m
    generalize hxe : deltaStage delta_Back.g false l0 n m = x at *
    by_cases hlt : n + m < l0.length
    · obtain ⟨g, cp, eg, hgb, hgl, hgc⟩ := Kd.R_form HO.out (by omega)
      rw [hxl] at eg
      injection eg with ea _ ec
      subst ea ec
      obtain ⟨j, hj⟩ : ∃ j : Int, wrap64 (at_ - (n : Int)) = j := ⟨_, rfl⟩
      have hjw : IntKind.i64.wrap (at_ - (n : Int)) = j := (i64_w _).trans hj
      have ej : j = (m : Int) := by rw [← hj, hat]; unfold wrap64; omega
      obtain ⟨j4, h4⟩ : ∃ j : Int, wrap64 (at_ + 1) = j := ⟨_, rfl⟩
      have h4w : IntKind.i64.wrap (at_ + 1) = j4 := (i64_w _).trans h4
      have e4 : j4 = (n : Int) + ((m + 1 : Nat) : Int) := by rw [← h4, hat]; unfold wrap64; omega
      obtain ⟨a0, rfl, k0⟩ := Kd.at_int HR0.out at_ (by omega) (by omega)
      obtain ⟨k1, f1⟩ := Kd.R_celln 0 HO.out j (by omega) (by omega)
      replace k0 := (HB.out.cell (World.block_lt_of_cell? w _ k0)).trans k0
      obtain ⟨q0, f0⟩ := Kd.R_celln 0 HO.out at_ (by omega) (by omega)
      have kx := HXA.out
      have hcc := HCC.out
      have dl : decide (at_ < (l0.length : Int)) = true := decide_eq_true (by omega)
      have n0 : (0 ≤ at_) = True := eq_true (by omega)
      have m0 : (at_ < (l0.length : Int)) = True := eq_true (by omega)
      have n1 : (0 ≤ j) = True := eq_true (by omega)
      have m1 : (j < (l0.length : Int)) = True := eq_true (by omega)
      have HXE := Aside0.mk hxe
      have HGB := Aside0.mk hgb
      have HMS := Aside0.mk (show l0.length - j4.toNat < l0.length - at_.toNat by omega)
      have HE4 := Aside0.mk e4
      have HLE := Aside0.mk (show m + 1 ≤ l0.length - n by omega)
      have HT0 := Aside0.mk (show at_.toNat = n + m by omega)
      have hr1 : rdOf 0 x j = x.getD m 0 := by unfold rdOf; rw [show j.toNat = m by omega]
      have hr0 : rd l0 at_ = l0.getD (n + m) 0 := by unfold rd; rw [HT0.out]
      rw [hr1] at k1
      rw [hr0] at k0
      have HS := Aside0.mk (show deltaStage delta_Back.g false l0 n (m + 1) = x.set (n + m) (delta_Back.g (l0.getD (n + m) 0) (x.getD m 0)) by
        show (deltaStage delta_Back.g false l0 n m).set (n + m) (delta_Back.g (l0.getD (n + m) 0) ((if false then l0 else deltaStage delta_Back.g false l0 n m).getD m 0)) = _
        rw [HXE.out]; rfl)
      generalize l0.getD (n + m) 0 = a at *
      generalize x.getD m 0 = b at *
      generalize rdOf 0 x at_ = a' at *
      clear hxe hxl hgl hgc hgb ej e4 hj h4 hat hlt hr1 hr0 hm
      go_wp2
      refine wp_region_still_tail 15 (by kernel_rfl) (by kernel_rfl) ?_
      simp only [List.take_succ_cons, List.take_zero, List.drop_succ_cons, List.drop_zero]
      repeat still_step
      still_call (delta_Back.turn _ _ _)
      refine wpStill_nil ?_
      change wpList _ _ _ _ _ wr.drew
      go_wp2
      refine ⟨⟨j4, m + 1, by go_num, ⟨HE4.out⟩, ⟨HLE.out⟩, ⟨?_⟩, ⟨?_⟩, ⟨?_⟩⟩, HMS.out⟩
      · rw [HS.out, ← HT0.out]
        exact Kd.R_drew (Kd.R_putn HO.out at_ _)
      · exact below_drew (below_set HB.out (Nat.le_trans (Nat.le_succ _) HGB.out))
      · exact (World.cell?_setCell_far wr _ _ _ (by have := HGB.out; show g ≠ w.heap.size; omega)).trans HXA.out
    · have dl : decide (at_ < (l0.length : Int)) = false := decide_eq_false (by omega)
      have HI := Aside0.mk (show m = l0.length - n by omega)
      clear hlt hat hm
      go_wp2
      go_ret
      exact ⟨_, rfl, by rw [← HI.out, hxe]; exact Kd.R_lower HO.out (Nat.le_succ _), HB.out⟩
set_option maxHeartbeats 800000 in
theorem delta_Back.calls (A0 : Option Addr) (c0 : Nat) (l0 : List Int) (a1 : Int) (r : List Int) (w : World) (hr0 : Kd.C (Kd.int .u8) w A0 l0.length l0) (hc0 : l0.length ≤ c0) (h : delta_Back.f l0 a1 = some r) :
    Calls Try.prog 31 #[.slice A0 l0.length c0, .int .i64 a1] w fun e w' => ∃ v0_ : Value, e = .returned (v0_) ∧ Kd.R (Kd.int .u8) 5 w' w.heap.size (fun _ => True) v0_ r ∧ Below w.heap.size w w' := by
  have HR0 := Aside0.mk hr0
  have HH := Aside0.mk h
  clear hr0 h
  go_enter Try.func31, Try.ntmps31
  go_wp2_with (first | (go_at_call 45; (with_reducible refine (delta_Back.through A0 c0 l0 a1 _ r HR0.out hc0 HH.out).mono ?_); rintro e w1 ⟨v1, rfl, ho, hb⟩; have HO := Aside0.mk ho; have HB := Aside0.mk hb; clear ho hb))
  go_ret
  exact ⟨_, rfl, HO.out, HB.out⟩

/-! ### carapacelaw03_awake: function 28 -/
def carapacelaw03_awake.f  : Option (Bool) := (delta_Put.f (([5, 7, 4] : List Int)) 1).bind fun t106 => ((delta_Back.f t106 1).bind fun t109 => (if (t106.length : Int) = 3 then (if 1 < (t106.length : Int) then (if (rd t106 1) = 2 then (if 2 < (t106.length : Int) then (if (rd t106 2) = 253 then (if (t109.length : Int) = 3 then (if 2 < (t109.length : Int) then (some ((rd t109 2) == 4)) else (none)) else (some false)) else (some false)) else (none)) else (some false)) else (none)) else (some false)))
set_option maxHeartbeats 8000000 in
set_option maxRecDepth 100000 in
theorem carapacelaw03_awake.calls  (r : Bool) (w : World) (h : carapacelaw03_awake.f  = some r) :
    Calls Try.prog 28 #[] w fun e w' => e = .returned (.bool r) ∧ Below w.heap.size w w' := by
  have HB := Aside0.mk (Below.refl w.heap.size w)
  have H : ((delta_Put.f (([5, 7, 4] : List Int)) 1).bind fun t106 => ((delta_Back.f t106 1).bind fun t109 => (if (t106.length : Int) = 3 then (if 1 < (t106.length : Int) then (if (rd t106 1) = 2 then (if 2 < (t106.length : Int) then (if (rd t106 2) = 253 then (if (t109.length : Int) = 3 then (if 2 < (t109.length : Int) then (some ((rd t109 2) == 4)) else (none)) else (some false)) else (some false)) else (none)) else (some false)) else (none)) else (some false)))) = some r := h
  clear h
  obtain ⟨y103, hy103⟩ : ∃ y_ : List Int, y_ = (([5, 7, 4] : List Int)) := ⟨_, rfl⟩
  replace H : ((delta_Put.f y103 1).bind fun t106 => ((delta_Back.f t106 1).bind fun t109 => (if (t106.length : Int) = 3 then (if 1 < (t106.length : Int) then (if (rd t106 1) = 2 then (if 2 < (t106.length : Int) then (if (rd t106 2) = 253 then (if (t109.length : Int) = 3 then (if 2 < (t109.length : Int) then (some ((rd t109 2) == 4)) else (none)) else (some false)) else (some false)) else (none)) else (some false)) else (none)) else (some false)))) = some r := by first | (rw [hy103]; with_reducible exact H) | (have H2_ := (Option.bind_some _ _).symm.trans H; rw [hy103]; with_reducible exact H2_) | (have H2_ := (Option.bind_some _ _).symm.trans H; with_reducible exact H2_) | with_reducible exact H | (rw [hy103]; exact H) | exact H
  have Ny103 := Aside0.mk hy103
  clear hy103
  replace H := Option.bind_eq_some_iff.mp H
  obtain ⟨t106, A10, H⟩ := H
  replace H : ((delta_Back.f t106 1).bind fun t109 => (if (t106.length : Int) = 3 then (if 1 < (t106.length : Int) then (if (rd t106 1) = 2 then (if 2 < (t106.length : Int) then (if (rd t106 2) = 253 then (if (t109.length : Int) = 3 then (if 2 < (t109.length : Int) then (some ((rd t109 2) == 4)) else (none)) else (some false)) else (some false)) else (none)) else (some false)) else (none)) else (some false))) = some r := H
  have A1 := Aside0.mk A10
  clear A10
  replace H := Option.bind_eq_some_iff.mp H
  obtain ⟨t109, A20, H⟩ := H
  replace H : (if (t106.length : Int) = 3 then (if 1 < (t106.length : Int) then (if (rd t106 1) = 2 then (if 2 < (t106.length : Int) then (if (rd t106 2) = 253 then (if (t109.length : Int) = 3 then (if 2 < (t109.length : Int) then (some ((rd t109 2) == 4)) else (none)) else (some false)) else (some false)) else (none)) else (some false)) else (none)) else (some false)) = some r := H
  have A2 := Aside0.mk A20
  clear A20
  by_cases c3 : (t106.length : Int) = 3
  · rw [if_pos c3] at H
    have c3b0 : ((t106.length : Int) == 3) = true := beq_iff_eq.mpr c3
    have c3b1 : ((t106.length : Int) != 3) = false := bne_eq_false_iff_eq.mpr c3
    clear c3
    by_cases c4 : 1 < (t106.length : Int)
    · rw [if_pos c4] at H
      have c4b0 : decide (1 < (t106.length : Int)) = true := decide_eq_true c4
      have c4b1 : decide (1 < t106.length) = true := decide_eq_true (by omega)
      clear c4
      by_cases c5 : (rd t106 1) = 2
      · rw [if_pos c5] at H
        have c5b0 : ((rd t106 1) == 2) = true := beq_iff_eq.mpr c5
        have c5b1 : ((rd t106 1) != 2) = false := bne_eq_false_iff_eq.mpr c5
        clear c5
        by_cases c6 : 2 < (t106.length : Int)
        · rw [if_pos c6] at H
          have c6b0 : decide (2 < (t106.length : Int)) = true := decide_eq_true c6
          have c6b1 : decide (2 < t106.length) = true := decide_eq_true (by omega)
          clear c6
          by_cases c7 : (rd t106 2) = 253
          · rw [if_pos c7] at H
            have c7b0 : ((rd t106 2) == 253) = true := beq_iff_eq.mpr c7
            have c7b1 : ((rd t106 2) != 253) = false := bne_eq_false_iff_eq.mpr c7
            clear c7
            by_cases c8 : (t109.length : Int) = 3
            · rw [if_pos c8] at H
              have c8b0 : ((t109.length : Int) == 3) = true := beq_iff_eq.mpr c8
              have c8b1 : ((t109.length : Int) != 3) = false := bne_eq_false_iff_eq.mpr c8
              clear c8
              by_cases c9 : 2 < (t109.length : Int)
              · rw [if_pos c9] at H
                have c9b0 : decide (2 < (t109.length : Int)) = true := decide_eq_true c9
                have c9b1 : decide (2 < t109.length) = true := decide_eq_true (by omega)
                clear c9
                obtain rfl := Option.some.inj H
                go_enter Try.func28, Try.ntmps28
                go_wp2_with (first | ((with_reducible refine gate_dst (N := 3) rfl ?_); (try (refine gate_guard (by rfl) ?_; dsimp only)); refine Kd.R_lit (Kd.int .u8) _ 5 ?hg (N := 3) ?hd (xs := ([5, 7, 4] : List Int)) (inner := [.int .u8 5, .int .u8 7, .int .u8 4]) (ok := fun _ => True) (okp := fun _ => True) ?hr ?hp (fun _ hk => hk) trivial (Below.refl _ _) (Nat.le_refl _) (by simp) ?_; (case hd => rfl); (case hg => rfl); (case hr => first | (go_simp; done) | (go_simp; rfl)); (case hp => exact (Reps.one (show Kd.M (Kd.int .u8) _ _ _ 5 [.int .u8 5] from rfl) (Reps.one (show Kd.M (Kd.int .u8) _ _ _ 7 [.int .u8 7] from rfl) (Reps.one (show Kd.M (Kd.int .u8) _ _ _ 4 [.int .u8 4] from rfl) (Reps.none _ _))))); intro v104 w10 ho11 hb hg_ hnew_; clear hg_ hnew_; (first | rw [← Ny103.out] at ho11 | (simp only [Int.reduceToNat] at ho11; rw [← Ny103.out] at ho11)); have n0_ := Aside0.mk (Kd.R_lower ho11 (below_size (by repeat (first | (with_reducible first | exact HB.out | apply below_alloc | apply pw_below_drewN | apply below_drew1) | exact HB.out)))); have n1_ := Aside0.mk (below_step (by repeat (first | (with_reducible first | exact HB.out | apply below_alloc | apply pw_below_drewN | apply below_drew1) | exact HB.out)) hb); clear HB; have HO105 := n0_; have HB := n1_; clear n0_ n1_; clear hb ho11; obtain ⟨Ao12, co12, eo12⟩ := Kd.R_slice HO105.out; subst eo12) | ((with_reducible refine gate_callee (f := 29) rfl ?_); refine goesL_ (some 4) rfl rfl Try.func29 (by kernel_rfl) rfl #[.slice Ao12 y103.length co12, .int .i64 1] rfl (by (try simp only [List.map_toArray, List.map_cons, List.map_nil]); first | done | rfl | (simp only [List.length_drop, List.length_take]; rfl)) ?_; (with_reducible refine (delta_Put.calls _ _ y103 1 t106 _ ?side1 ?side2 A1.out).mono ?_); (case side1 => repeat (first | exact (Kd.R_reads' HO105.out).2.2 | (with_reducible refine Kd.C_alloc ?_ _) | (with_reducible refine Kd.C_drewN ?_ _) | (with_reducible refine Kd.C_drew ?_))); (case side2 => exact (Kd.R_reads' HO105.out).2.1); rintro e w13 ⟨v107, rfl, ho0, hb⟩; refine ⟨_, rfl, ?_⟩; have n0_ := Aside0.mk (Kd.R_elder' (by (with_reducible repeat (first | apply Kd.R_alloc | apply Kd.R_drewN | apply Kd.R_drew)); exact HO105.out) (Kd.R_base ho0) hb); have n1_ := Aside0.mk (Kd.R_lower (Kd.R_new' ho0 (Kd.R_lt (by (with_reducible repeat (first | apply Kd.R_alloc | apply Kd.R_drewN | apply Kd.R_drew)); exact HO105.out))) (below_size (by repeat (first | (with_reducible first | exact HB.out | apply below_alloc | apply pw_below_drewN | apply below_drew1) | exact HB.out)))); have n2_ := Aside0.mk (below_step (by repeat (first | (with_reducible first | exact HB.out | apply below_alloc | apply pw_below_drewN | apply below_drew1) | exact HB.out)) hb); clear HO105; clear HB; have HO105 := n0_; have HO108 := n1_; have HB := n2_; clear n0_ n1_ n2_; (try clear hb); (try clear hb2); (try clear hk); (try clear hi); (try clear ho0); obtain ⟨Ao14, co14, eo14⟩ := Kd.R_slice HO108.out; subst eo14) | ((with_reducible refine gate_callee (f := 31) rfl ?_); refine goesL_ (some 6) rfl rfl Try.func31 (by kernel_rfl) rfl #[.slice Ao14 t106.length co14, .int .i64 1] rfl (by (try simp only [List.map_toArray, List.map_cons, List.map_nil]); first | done | rfl | (simp only [List.length_drop, List.length_take]; rfl)) ?_; (with_reducible refine (delta_Back.calls _ _ t106 1 t109 _ ?side1 ?side2 A2.out).mono ?_); (case side1 => repeat (first | exact (Kd.R_reads' HO108.out).2.2 | (with_reducible refine Kd.C_alloc ?_ _) | (with_reducible refine Kd.C_drewN ?_ _) | (with_reducible refine Kd.C_drew ?_))); (case side2 => exact (Kd.R_reads' HO108.out).2.1); rintro e w15 ⟨v110, rfl, ho0, hb⟩; refine ⟨_, rfl, ?_⟩; have n0_ := Aside0.mk (Kd.R_elder' (by (with_reducible repeat (first | apply Kd.R_alloc | apply Kd.R_drewN | apply Kd.R_drew)); exact HO105.out) (Kd.R_base ho0) hb); have n1_ := Aside0.mk (Kd.R_elder' (by (with_reducible repeat (first | apply Kd.R_alloc | apply Kd.R_drewN | apply Kd.R_drew)); exact HO108.out) (Kd.R_base ho0) hb); have n2_ := Aside0.mk (Kd.R_lower (Kd.R_new' (Kd.R_new' ho0 (Kd.R_lt (by (with_reducible repeat (first | apply Kd.R_alloc | apply Kd.R_drewN | apply Kd.R_drew)); exact HO105.out))) (Kd.R_lt (by (with_reducible repeat (first | apply Kd.R_alloc | apply Kd.R_drewN | apply Kd.R_drew)); exact HO108.out))) (below_size (by repeat (first | (with_reducible first | exact HB.out | apply below_alloc | apply pw_below_drewN | apply below_drew1) | exact HB.out)))); have n3_ := Aside0.mk (below_step (by repeat (first | (with_reducible first | exact HB.out | apply below_alloc | apply pw_below_drewN | apply below_drew1) | exact HB.out)) hb); clear HO105; clear HO108; clear HB; have HO105 := n0_; have HO108 := n1_; have HO111 := n2_; have HB := n3_; clear n0_ n1_ n2_ n3_; (try clear hb); (try clear hb2); (try clear hk); (try clear hi); (try clear ho0); have p112 : 0 ≤ (1 : Int) := (by omega); have q112 : 1 < (t106.length : Int) := of_decide_eq_true (by first | (with_reducible assumption) | assumption); obtain ⟨ad112, e112, hx112_0⟩ := Kd.at_int (Kd.R_reads' HO108.out).2.2 1 p112 q112; cases e112; (try simp only [show (1 : Int).toNat = 1 from rfl, Nat.reduceMul, Nat.reduceEqDiff, Go.Addr.add, ↓reduceIte] at hx112_0); have qi112 : (1 < t106.length) = True := eq_true (by omega); (try rw [show ((1 : Int)).toNat = 1 from rfl] at hx112_0); replace p112 := eq_true p112; replace q112 := eq_true q112; have p113 : 0 ≤ (2 : Int) := (by omega); have q113 : 2 < (t106.length : Int) := of_decide_eq_true (by first | (with_reducible assumption) | assumption); obtain ⟨ad113, e113, hx113_0⟩ := Kd.at_int (Kd.R_reads' HO108.out).2.2 2 p113 q113; obtain rfl : ad112 = ad113 := (by injection e113); (try simp only [show (2 : Int).toNat = 2 from rfl, Nat.reduceMul, Nat.reduceEqDiff, Go.Addr.add, ↓reduceIte] at hx113_0); have qi113 : (2 < t106.length) = True := eq_true (by omega); (try rw [show ((2 : Int)).toNat = 2 from rfl] at hx113_0); replace p113 := eq_true p113; replace q113 := eq_true q113; obtain ⟨Ao16, co16, eo16⟩ := Kd.R_slice HO111.out; subst eo16; have p114 : 0 ≤ (2 : Int) := (by omega); have q114 : 2 < (t109.length : Int) := of_decide_eq_true (by first | (with_reducible assumption) | assumption); obtain ⟨ad114, e114, hx114_0⟩ := Kd.at_int (Kd.R_reads' HO111.out).2.2 2 p114 q114; cases e114; (try simp only [show (2 : Int).toNat = 2 from rfl, Nat.reduceMul, Nat.reduceEqDiff, Go.Addr.add, ↓reduceIte] at hx114_0); have qi114 : (2 < t109.length) = True := eq_true (by omega); (try rw [show ((2 : Int)).toNat = 2 from rfl] at hx114_0); replace p114 := eq_true p114; replace q114 := eq_true q114))
                go_ret
                exact ⟨by first | rfl | (simp [errW_none, errW_some] <;> rfl) | (simp [*, errW_none, errW_some] <;> rfl), by repeat (first | (with_reducible first | exact HB.out | apply below_alloc | apply pw_below_drewN | apply below_drew1) | exact HB.out)⟩
              · rw [if_neg c9] at H
                exact absurd H (by simp)
            · rw [if_neg c8] at H
              have c8b0 : ((t109.length : Int) == 3) = false := beq_eq_false_iff_ne.mpr c8
              have c8b1 : ((t109.length : Int) != 3) = true := bne_iff_ne.mpr c8
              obtain rfl := Option.some.inj H
              go_enter Try.func28, Try.ntmps28
              go_wp2_with (first | ((with_reducible refine gate_dst (N := 3) rfl ?_); (try (refine gate_guard (by rfl) ?_; dsimp only)); refine Kd.R_lit (Kd.int .u8) _ 5 ?hg (N := 3) ?hd (xs := ([5, 7, 4] : List Int)) (inner := [.int .u8 5, .int .u8 7, .int .u8 4]) (ok := fun _ => True) (okp := fun _ => True) ?hr ?hp (fun _ hk => hk) trivial (Below.refl _ _) (Nat.le_refl _) (by simp) ?_; (case hd => rfl); (case hg => rfl); (case hr => first | (go_simp; done) | (go_simp; rfl)); (case hp => exact (Reps.one (show Kd.M (Kd.int .u8) _ _ _ 5 [.int .u8 5] from rfl) (Reps.one (show Kd.M (Kd.int .u8) _ _ _ 7 [.int .u8 7] from rfl) (Reps.one (show Kd.M (Kd.int .u8) _ _ _ 4 [.int .u8 4] from rfl) (Reps.none _ _))))); intro v104 w17 ho18 hb hg_ hnew_; clear hg_ hnew_; (first | rw [← Ny103.out] at ho18 | (simp only [Int.reduceToNat] at ho18; rw [← Ny103.out] at ho18)); have n0_ := Aside0.mk (Kd.R_lower ho18 (below_size (by repeat (first | (with_reducible first | exact HB.out | apply below_alloc | apply pw_below_drewN | apply below_drew1) | exact HB.out)))); have n1_ := Aside0.mk (below_step (by repeat (first | (with_reducible first | exact HB.out | apply below_alloc | apply pw_below_drewN | apply below_drew1) | exact HB.out)) hb); clear HB; have HO105 := n0_; have HB := n1_; clear n0_ n1_; clear hb ho18; obtain ⟨Ao19, co19, eo19⟩ := Kd.R_slice HO105.out; subst eo19) | ((with_reducible refine gate_callee (f := 29) rfl ?_); refine goesL_ (some 4) rfl rfl Try.func29 (by kernel_rfl) rfl #[.slice Ao19 y103.length co19, .int .i64 1] rfl (by (try simp only [List.map_toArray, List.map_cons, List.map_nil]); first | done | rfl | (simp only [List.length_drop, List.length_take]; rfl)) ?_; (with_reducible refine (delta_Put.calls _ _ y103 1 t106 _ ?side1 ?side2 A1.out).mono ?_); (case side1 => repeat (first | exact (Kd.R_reads' HO105.out).2.2 | (with_reducible refine Kd.C_alloc ?_ _) | (with_reducible refine Kd.C_drewN ?_ _) | (with_reducible refine Kd.C_drew ?_))); (case side2 => exact (Kd.R_reads' HO105.out).2.1); rintro e w20 ⟨v107, rfl, ho0, hb⟩; refine ⟨_, rfl, ?_⟩; have n0_ := Aside0.mk (Kd.R_elder' (by (with_reducible repeat (first | apply Kd.R_alloc | apply Kd.R_drewN | apply Kd.R_drew)); exact HO105.out) (Kd.R_base ho0) hb); have n1_ := Aside0.mk (Kd.R_lower (Kd.R_new' ho0 (Kd.R_lt (by (with_reducible repeat (first | apply Kd.R_alloc | apply Kd.R_drewN | apply Kd.R_drew)); exact HO105.out))) (below_size (by repeat (first | (with_reducible first | exact HB.out | apply below_alloc | apply pw_below_drewN | apply below_drew1) | exact HB.out)))); have n2_ := Aside0.mk (below_step (by repeat (first | (with_reducible first | exact HB.out | apply below_alloc | apply pw_below_drewN | apply below_drew1) | exact HB.out)) hb); clear HO105; clear HB; have HO105 := n0_; have HO108 := n1_; have HB := n2_; clear n0_ n1_ n2_; (try clear hb); (try clear hb2); (try clear hk); (try clear hi); (try clear ho0); obtain ⟨Ao21, co21, eo21⟩ := Kd.R_slice HO108.out; subst eo21) | ((with_reducible refine gate_callee (f := 31) rfl ?_); refine goesL_ (some 6) rfl rfl Try.func31 (by kernel_rfl) rfl #[.slice Ao21 t106.length co21, .int .i64 1] rfl (by (try simp only [List.map_toArray, List.map_cons, List.map_nil]); first | done | rfl | (simp only [List.length_drop, List.length_take]; rfl)) ?_; (with_reducible refine (delta_Back.calls _ _ t106 1 t109 _ ?side1 ?side2 A2.out).mono ?_); (case side1 => repeat (first | exact (Kd.R_reads' HO108.out).2.2 | (with_reducible refine Kd.C_alloc ?_ _) | (with_reducible refine Kd.C_drewN ?_ _) | (with_reducible refine Kd.C_drew ?_))); (case side2 => exact (Kd.R_reads' HO108.out).2.1); rintro e w22 ⟨v110, rfl, ho0, hb⟩; refine ⟨_, rfl, ?_⟩; have n0_ := Aside0.mk (Kd.R_elder' (by (with_reducible repeat (first | apply Kd.R_alloc | apply Kd.R_drewN | apply Kd.R_drew)); exact HO105.out) (Kd.R_base ho0) hb); have n1_ := Aside0.mk (Kd.R_elder' (by (with_reducible repeat (first | apply Kd.R_alloc | apply Kd.R_drewN | apply Kd.R_drew)); exact HO108.out) (Kd.R_base ho0) hb); have n2_ := Aside0.mk (Kd.R_lower (Kd.R_new' (Kd.R_new' ho0 (Kd.R_lt (by (with_reducible repeat (first | apply Kd.R_alloc | apply Kd.R_drewN | apply Kd.R_drew)); exact HO105.out))) (Kd.R_lt (by (with_reducible repeat (first | apply Kd.R_alloc | apply Kd.R_drewN | apply Kd.R_drew)); exact HO108.out))) (below_size (by repeat (first | (with_reducible first | exact HB.out | apply below_alloc | apply pw_below_drewN | apply below_drew1) | exact HB.out)))); have n3_ := Aside0.mk (below_step (by repeat (first | (with_reducible first | exact HB.out | apply below_alloc | apply pw_below_drewN | apply below_drew1) | exact HB.out)) hb); clear HO105; clear HO108; clear HB; have HO105 := n0_; have HO108 := n1_; have HO111 := n2_; have HB := n3_; clear n0_ n1_ n2_ n3_; (try clear hb); (try clear hb2); (try clear hk); (try clear hi); (try clear ho0); have p112 : 0 ≤ (1 : Int) := (by omega); have q112 : 1 < (t106.length : Int) := of_decide_eq_true (by first | (with_reducible assumption) | assumption); obtain ⟨ad112, e112, hx112_0⟩ := Kd.at_int (Kd.R_reads' HO108.out).2.2 1 p112 q112; cases e112; (try simp only [show (1 : Int).toNat = 1 from rfl, Nat.reduceMul, Nat.reduceEqDiff, Go.Addr.add, ↓reduceIte] at hx112_0); have qi112 : (1 < t106.length) = True := eq_true (by omega); (try rw [show ((1 : Int)).toNat = 1 from rfl] at hx112_0); replace p112 := eq_true p112; replace q112 := eq_true q112; have p113 : 0 ≤ (2 : Int) := (by omega); have q113 : 2 < (t106.length : Int) := of_decide_eq_true (by first | (with_reducible assumption) | assumption); obtain ⟨ad113, e113, hx113_0⟩ := Kd.at_int (Kd.R_reads' HO108.out).2.2 2 p113 q113; obtain rfl : ad112 = ad113 := (by injection e113); (try simp only [show (2 : Int).toNat = 2 from rfl, Nat.reduceMul, Nat.reduceEqDiff, Go.Addr.add, ↓reduceIte] at hx113_0); have qi113 : (2 < t106.length) = True := eq_true (by omega); (try rw [show ((2 : Int)).toNat = 2 from rfl] at hx113_0); replace p113 := eq_true p113; replace q113 := eq_true q113; obtain ⟨Ao23, co23, eo23⟩ := Kd.R_slice HO111.out; subst eo23))
              go_ret
              exact ⟨by first | rfl | (simp [errW_none, errW_some] <;> rfl) | (simp [*, errW_none, errW_some] <;> rfl), by repeat (first | (with_reducible first | exact HB.out | apply below_alloc | apply pw_below_drewN | apply below_drew1) | exact HB.out)⟩
          · rw [if_neg c7] at H
            have c7b0 : ((rd t106 2) == 253) = false := beq_eq_false_iff_ne.mpr c7
            have c7b1 : ((rd t106 2) != 253) = true := bne_iff_ne.mpr c7
            obtain rfl := Option.some.inj H
            go_enter Try.func28, Try.ntmps28
            go_wp2_with (first | ((with_reducible refine gate_dst (N := 3) rfl ?_); (try (refine gate_guard (by rfl) ?_; dsimp only)); refine Kd.R_lit (Kd.int .u8) _ 5 ?hg (N := 3) ?hd (xs := ([5, 7, 4] : List Int)) (inner := [.int .u8 5, .int .u8 7, .int .u8 4]) (ok := fun _ => True) (okp := fun _ => True) ?hr ?hp (fun _ hk => hk) trivial (Below.refl _ _) (Nat.le_refl _) (by simp) ?_; (case hd => rfl); (case hg => rfl); (case hr => first | (go_simp; done) | (go_simp; rfl)); (case hp => exact (Reps.one (show Kd.M (Kd.int .u8) _ _ _ 5 [.int .u8 5] from rfl) (Reps.one (show Kd.M (Kd.int .u8) _ _ _ 7 [.int .u8 7] from rfl) (Reps.one (show Kd.M (Kd.int .u8) _ _ _ 4 [.int .u8 4] from rfl) (Reps.none _ _))))); intro v104 w24 ho25 hb hg_ hnew_; clear hg_ hnew_; (first | rw [← Ny103.out] at ho25 | (simp only [Int.reduceToNat] at ho25; rw [← Ny103.out] at ho25)); have n0_ := Aside0.mk (Kd.R_lower ho25 (below_size (by repeat (first | (with_reducible first | exact HB.out | apply below_alloc | apply pw_below_drewN | apply below_drew1) | exact HB.out)))); have n1_ := Aside0.mk (below_step (by repeat (first | (with_reducible first | exact HB.out | apply below_alloc | apply pw_below_drewN | apply below_drew1) | exact HB.out)) hb); clear HB; have HO105 := n0_; have HB := n1_; clear n0_ n1_; clear hb ho25; obtain ⟨Ao26, co26, eo26⟩ := Kd.R_slice HO105.out; subst eo26) | ((with_reducible refine gate_callee (f := 29) rfl ?_); refine goesL_ (some 4) rfl rfl Try.func29 (by kernel_rfl) rfl #[.slice Ao26 y103.length co26, .int .i64 1] rfl (by (try simp only [List.map_toArray, List.map_cons, List.map_nil]); first | done | rfl | (simp only [List.length_drop, List.length_take]; rfl)) ?_; (with_reducible refine (delta_Put.calls _ _ y103 1 t106 _ ?side1 ?side2 A1.out).mono ?_); (case side1 => repeat (first | exact (Kd.R_reads' HO105.out).2.2 | (with_reducible refine Kd.C_alloc ?_ _) | (with_reducible refine Kd.C_drewN ?_ _) | (with_reducible refine Kd.C_drew ?_))); (case side2 => exact (Kd.R_reads' HO105.out).2.1); rintro e w27 ⟨v107, rfl, ho0, hb⟩; refine ⟨_, rfl, ?_⟩; have n0_ := Aside0.mk (Kd.R_elder' (by (with_reducible repeat (first | apply Kd.R_alloc | apply Kd.R_drewN | apply Kd.R_drew)); exact HO105.out) (Kd.R_base ho0) hb); have n1_ := Aside0.mk (Kd.R_lower (Kd.R_new' ho0 (Kd.R_lt (by (with_reducible repeat (first | apply Kd.R_alloc | apply Kd.R_drewN | apply Kd.R_drew)); exact HO105.out))) (below_size (by repeat (first | (with_reducible first | exact HB.out | apply below_alloc | apply pw_below_drewN | apply below_drew1) | exact HB.out)))); have n2_ := Aside0.mk (below_step (by repeat (first | (with_reducible first | exact HB.out | apply below_alloc | apply pw_below_drewN | apply below_drew1) | exact HB.out)) hb); clear HO105; clear HB; have HO105 := n0_; have HO108 := n1_; have HB := n2_; clear n0_ n1_ n2_; (try clear hb); (try clear hb2); (try clear hk); (try clear hi); (try clear ho0); obtain ⟨Ao28, co28, eo28⟩ := Kd.R_slice HO108.out; subst eo28) | ((with_reducible refine gate_callee (f := 31) rfl ?_); refine goesL_ (some 6) rfl rfl Try.func31 (by kernel_rfl) rfl #[.slice Ao28 t106.length co28, .int .i64 1] rfl (by (try simp only [List.map_toArray, List.map_cons, List.map_nil]); first | done | rfl | (simp only [List.length_drop, List.length_take]; rfl)) ?_; (with_reducible refine (delta_Back.calls _ _ t106 1 t109 _ ?side1 ?side2 A2.out).mono ?_); (case side1 => repeat (first | exact (Kd.R_reads' HO108.out).2.2 | (with_reducible refine Kd.C_alloc ?_ _) | (with_reducible refine Kd.C_drewN ?_ _) | (with_reducible refine Kd.C_drew ?_))); (case side2 => exact (Kd.R_reads' HO108.out).2.1); rintro e w29 ⟨v110, rfl, ho0, hb⟩; refine ⟨_, rfl, ?_⟩; have n0_ := Aside0.mk (Kd.R_elder' (by (with_reducible repeat (first | apply Kd.R_alloc | apply Kd.R_drewN | apply Kd.R_drew)); exact HO105.out) (Kd.R_base ho0) hb); have n1_ := Aside0.mk (Kd.R_elder' (by (with_reducible repeat (first | apply Kd.R_alloc | apply Kd.R_drewN | apply Kd.R_drew)); exact HO108.out) (Kd.R_base ho0) hb); have n2_ := Aside0.mk (Kd.R_lower (Kd.R_new' (Kd.R_new' ho0 (Kd.R_lt (by (with_reducible repeat (first | apply Kd.R_alloc | apply Kd.R_drewN | apply Kd.R_drew)); exact HO105.out))) (Kd.R_lt (by (with_reducible repeat (first | apply Kd.R_alloc | apply Kd.R_drewN | apply Kd.R_drew)); exact HO108.out))) (below_size (by repeat (first | (with_reducible first | exact HB.out | apply below_alloc | apply pw_below_drewN | apply below_drew1) | exact HB.out)))); have n3_ := Aside0.mk (below_step (by repeat (first | (with_reducible first | exact HB.out | apply below_alloc | apply pw_below_drewN | apply below_drew1) | exact HB.out)) hb); clear HO105; clear HO108; clear HB; have HO105 := n0_; have HO108 := n1_; have HO111 := n2_; have HB := n3_; clear n0_ n1_ n2_ n3_; (try clear hb); (try clear hb2); (try clear hk); (try clear hi); (try clear ho0); have p112 : 0 ≤ (1 : Int) := (by omega); have q112 : 1 < (t106.length : Int) := of_decide_eq_true (by first | (with_reducible assumption) | assumption); obtain ⟨ad112, e112, hx112_0⟩ := Kd.at_int (Kd.R_reads' HO108.out).2.2 1 p112 q112; cases e112; (try simp only [show (1 : Int).toNat = 1 from rfl, Nat.reduceMul, Nat.reduceEqDiff, Go.Addr.add, ↓reduceIte] at hx112_0); have qi112 : (1 < t106.length) = True := eq_true (by omega); (try rw [show ((1 : Int)).toNat = 1 from rfl] at hx112_0); replace p112 := eq_true p112; replace q112 := eq_true q112; have p113 : 0 ≤ (2 : Int) := (by omega); have q113 : 2 < (t106.length : Int) := of_decide_eq_true (by first | (with_reducible assumption) | assumption); obtain ⟨ad113, e113, hx113_0⟩ := Kd.at_int (Kd.R_reads' HO108.out).2.2 2 p113 q113; obtain rfl : ad112 = ad113 := (by injection e113); (try simp only [show (2 : Int).toNat = 2 from rfl, Nat.reduceMul, Nat.reduceEqDiff, Go.Addr.add, ↓reduceIte] at hx113_0); have qi113 : (2 < t106.length) = True := eq_true (by omega); (try rw [show ((2 : Int)).toNat = 2 from rfl] at hx113_0); replace p113 := eq_true p113; replace q113 := eq_true q113))
            go_ret
            exact ⟨by first | rfl | (simp [errW_none, errW_some] <;> rfl) | (simp [*, errW_none, errW_some] <;> rfl), by repeat (first | (with_reducible first | exact HB.out | apply below_alloc | apply pw_below_drewN | apply below_drew1) | exact HB.out)⟩
        · rw [if_neg c6] at H
          exact absurd H (by simp)
      · rw [if_neg c5] at H
        have c5b0 : ((rd t106 1) == 2) = false := beq_eq_false_iff_ne.mpr c5
        have c5b1 : ((rd t106 1) != 2) = true := bne_iff_ne.mpr c5
        obtain rfl := Option.some.inj H
        go_enter Try.func28, Try.ntmps28
        go_wp2_with (first | ((with_reducible refine gate_dst (N := 3) rfl ?_); (try (refine gate_guard (by rfl) ?_; dsimp only)); refine Kd.R_lit (Kd.int .u8) _ 5 ?hg (N := 3) ?hd (xs := ([5, 7, 4] : List Int)) (inner := [.int .u8 5, .int .u8 7, .int .u8 4]) (ok := fun _ => True) (okp := fun _ => True) ?hr ?hp (fun _ hk => hk) trivial (Below.refl _ _) (Nat.le_refl _) (by simp) ?_; (case hd => rfl); (case hg => rfl); (case hr => first | (go_simp; done) | (go_simp; rfl)); (case hp => exact (Reps.one (show Kd.M (Kd.int .u8) _ _ _ 5 [.int .u8 5] from rfl) (Reps.one (show Kd.M (Kd.int .u8) _ _ _ 7 [.int .u8 7] from rfl) (Reps.one (show Kd.M (Kd.int .u8) _ _ _ 4 [.int .u8 4] from rfl) (Reps.none _ _))))); intro v104 w30 ho31 hb hg_ hnew_; clear hg_ hnew_; (first | rw [← Ny103.out] at ho31 | (simp only [Int.reduceToNat] at ho31; rw [← Ny103.out] at ho31)); have n0_ := Aside0.mk (Kd.R_lower ho31 (below_size (by repeat (first | (with_reducible first | exact HB.out | apply below_alloc | apply pw_below_drewN | apply below_drew1) | exact HB.out)))); have n1_ := Aside0.mk (below_step (by repeat (first | (with_reducible first | exact HB.out | apply below_alloc | apply pw_below_drewN | apply below_drew1) | exact HB.out)) hb); clear HB; have HO105 := n0_; have HB := n1_; clear n0_ n1_; clear hb ho31; obtain ⟨Ao32, co32, eo32⟩ := Kd.R_slice HO105.out; subst eo32) | ((with_reducible refine gate_callee (f := 29) rfl ?_); refine goesL_ (some 4) rfl rfl Try.func29 (by kernel_rfl) rfl #[.slice Ao32 y103.length co32, .int .i64 1] rfl (by (try simp only [List.map_toArray, List.map_cons, List.map_nil]); first | done | rfl | (simp only [List.length_drop, List.length_take]; rfl)) ?_; (with_reducible refine (delta_Put.calls _ _ y103 1 t106 _ ?side1 ?side2 A1.out).mono ?_); (case side1 => repeat (first | exact (Kd.R_reads' HO105.out).2.2 | (with_reducible refine Kd.C_alloc ?_ _) | (with_reducible refine Kd.C_drewN ?_ _) | (with_reducible refine Kd.C_drew ?_))); (case side2 => exact (Kd.R_reads' HO105.out).2.1); rintro e w33 ⟨v107, rfl, ho0, hb⟩; refine ⟨_, rfl, ?_⟩; have n0_ := Aside0.mk (Kd.R_elder' (by (with_reducible repeat (first | apply Kd.R_alloc | apply Kd.R_drewN | apply Kd.R_drew)); exact HO105.out) (Kd.R_base ho0) hb); have n1_ := Aside0.mk (Kd.R_lower (Kd.R_new' ho0 (Kd.R_lt (by (with_reducible repeat (first | apply Kd.R_alloc | apply Kd.R_drewN | apply Kd.R_drew)); exact HO105.out))) (below_size (by repeat (first | (with_reducible first | exact HB.out | apply below_alloc | apply pw_below_drewN | apply below_drew1) | exact HB.out)))); have n2_ := Aside0.mk (below_step (by repeat (first | (with_reducible first | exact HB.out | apply below_alloc | apply pw_below_drewN | apply below_drew1) | exact HB.out)) hb); clear HO105; clear HB; have HO105 := n0_; have HO108 := n1_; have HB := n2_; clear n0_ n1_ n2_; (try clear hb); (try clear hb2); (try clear hk); (try clear hi); (try clear ho0); obtain ⟨Ao34, co34, eo34⟩ := Kd.R_slice HO108.out; subst eo34) | ((with_reducible refine gate_callee (f := 31) rfl ?_); refine goesL_ (some 6) rfl rfl Try.func31 (by kernel_rfl) rfl #[.slice Ao34 t106.length co34, .int .i64 1] rfl (by (try simp only [List.map_toArray, List.map_cons, List.map_nil]); first | done | rfl | (simp only [List.length_drop, List.length_take]; rfl)) ?_; (with_reducible refine (delta_Back.calls _ _ t106 1 t109 _ ?side1 ?side2 A2.out).mono ?_); (case side1 => repeat (first | exact (Kd.R_reads' HO108.out).2.2 | (with_reducible refine Kd.C_alloc ?_ _) | (with_reducible refine Kd.C_drewN ?_ _) | (with_reducible refine Kd.C_drew ?_))); (case side2 => exact (Kd.R_reads' HO108.out).2.1); rintro e w35 ⟨v110, rfl, ho0, hb⟩; refine ⟨_, rfl, ?_⟩; have n0_ := Aside0.mk (Kd.R_elder' (by (with_reducible repeat (first | apply Kd.R_alloc | apply Kd.R_drewN | apply Kd.R_drew)); exact HO105.out) (Kd.R_base ho0) hb); have n1_ := Aside0.mk (Kd.R_elder' (by (with_reducible repeat (first | apply Kd.R_alloc | apply Kd.R_drewN | apply Kd.R_drew)); exact HO108.out) (Kd.R_base ho0) hb); have n2_ := Aside0.mk (Kd.R_lower (Kd.R_new' (Kd.R_new' ho0 (Kd.R_lt (by (with_reducible repeat (first | apply Kd.R_alloc | apply Kd.R_drewN | apply Kd.R_drew)); exact HO105.out))) (Kd.R_lt (by (with_reducible repeat (first | apply Kd.R_alloc | apply Kd.R_drewN | apply Kd.R_drew)); exact HO108.out))) (below_size (by repeat (first | (with_reducible first | exact HB.out | apply below_alloc | apply pw_below_drewN | apply below_drew1) | exact HB.out)))); have n3_ := Aside0.mk (below_step (by repeat (first | (with_reducible first | exact HB.out | apply below_alloc | apply pw_below_drewN | apply below_drew1) | exact HB.out)) hb); clear HO105; clear HO108; clear HB; have HO105 := n0_; have HO108 := n1_; have HO111 := n2_; have HB := n3_; clear n0_ n1_ n2_ n3_; (try clear hb); (try clear hb2); (try clear hk); (try clear hi); (try clear ho0); have p112 : 0 ≤ (1 : Int) := (by omega); have q112 : 1 < (t106.length : Int) := of_decide_eq_true (by first | (with_reducible assumption) | assumption); obtain ⟨ad112, e112, hx112_0⟩ := Kd.at_int (Kd.R_reads' HO108.out).2.2 1 p112 q112; cases e112; (try simp only [show (1 : Int).toNat = 1 from rfl, Nat.reduceMul, Nat.reduceEqDiff, Go.Addr.add, ↓reduceIte] at hx112_0); have qi112 : (1 < t106.length) = True := eq_true (by omega); (try rw [show ((1 : Int)).toNat = 1 from rfl] at hx112_0); replace p112 := eq_true p112; replace q112 := eq_true q112))
        go_ret
        exact ⟨by first | rfl | (simp [errW_none, errW_some] <;> rfl) | (simp [*, errW_none, errW_some] <;> rfl), by repeat (first | (with_reducible first | exact HB.out | apply below_alloc | apply pw_below_drewN | apply below_drew1) | exact HB.out)⟩
    · rw [if_neg c4] at H
      exact absurd H (by simp)
  · rw [if_neg c3] at H
    have c3b0 : ((t106.length : Int) == 3) = false := beq_eq_false_iff_ne.mpr c3
    have c3b1 : ((t106.length : Int) != 3) = true := bne_iff_ne.mpr c3
    obtain rfl := Option.some.inj H
    go_enter Try.func28, Try.ntmps28
    go_wp2_with (first | ((with_reducible refine gate_dst (N := 3) rfl ?_); (try (refine gate_guard (by rfl) ?_; dsimp only)); refine Kd.R_lit (Kd.int .u8) _ 5 ?hg (N := 3) ?hd (xs := ([5, 7, 4] : List Int)) (inner := [.int .u8 5, .int .u8 7, .int .u8 4]) (ok := fun _ => True) (okp := fun _ => True) ?hr ?hp (fun _ hk => hk) trivial (Below.refl _ _) (Nat.le_refl _) (by simp) ?_; (case hd => rfl); (case hg => rfl); (case hr => first | (go_simp; done) | (go_simp; rfl)); (case hp => exact (Reps.one (show Kd.M (Kd.int .u8) _ _ _ 5 [.int .u8 5] from rfl) (Reps.one (show Kd.M (Kd.int .u8) _ _ _ 7 [.int .u8 7] from rfl) (Reps.one (show Kd.M (Kd.int .u8) _ _ _ 4 [.int .u8 4] from rfl) (Reps.none _ _))))); intro v104 w36 ho37 hb hg_ hnew_; clear hg_ hnew_; (first | rw [← Ny103.out] at ho37 | (simp only [Int.reduceToNat] at ho37; rw [← Ny103.out] at ho37)); have n0_ := Aside0.mk (Kd.R_lower ho37 (below_size (by repeat (first | (with_reducible first | exact HB.out | apply below_alloc | apply pw_below_drewN | apply below_drew1) | exact HB.out)))); have n1_ := Aside0.mk (below_step (by repeat (first | (with_reducible first | exact HB.out | apply below_alloc | apply pw_below_drewN | apply below_drew1) | exact HB.out)) hb); clear HB; have HO105 := n0_; have HB := n1_; clear n0_ n1_; clear hb ho37; obtain ⟨Ao38, co38, eo38⟩ := Kd.R_slice HO105.out; subst eo38) | ((with_reducible refine gate_callee (f := 29) rfl ?_); refine goesL_ (some 4) rfl rfl Try.func29 (by kernel_rfl) rfl #[.slice Ao38 y103.length co38, .int .i64 1] rfl (by (try simp only [List.map_toArray, List.map_cons, List.map_nil]); first | done | rfl | (simp only [List.length_drop, List.length_take]; rfl)) ?_; (with_reducible refine (delta_Put.calls _ _ y103 1 t106 _ ?side1 ?side2 A1.out).mono ?_); (case side1 => repeat (first | exact (Kd.R_reads' HO105.out).2.2 | (with_reducible refine Kd.C_alloc ?_ _) | (with_reducible refine Kd.C_drewN ?_ _) | (with_reducible refine Kd.C_drew ?_))); (case side2 => exact (Kd.R_reads' HO105.out).2.1); rintro e w39 ⟨v107, rfl, ho0, hb⟩; refine ⟨_, rfl, ?_⟩; have n0_ := Aside0.mk (Kd.R_elder' (by (with_reducible repeat (first | apply Kd.R_alloc | apply Kd.R_drewN | apply Kd.R_drew)); exact HO105.out) (Kd.R_base ho0) hb); have n1_ := Aside0.mk (Kd.R_lower (Kd.R_new' ho0 (Kd.R_lt (by (with_reducible repeat (first | apply Kd.R_alloc | apply Kd.R_drewN | apply Kd.R_drew)); exact HO105.out))) (below_size (by repeat (first | (with_reducible first | exact HB.out | apply below_alloc | apply pw_below_drewN | apply below_drew1) | exact HB.out)))); have n2_ := Aside0.mk (below_step (by repeat (first | (with_reducible first | exact HB.out | apply below_alloc | apply pw_below_drewN | apply below_drew1) | exact HB.out)) hb); clear HO105; clear HB; have HO105 := n0_; have HO108 := n1_; have HB := n2_; clear n0_ n1_ n2_; (try clear hb); (try clear hb2); (try clear hk); (try clear hi); (try clear ho0); obtain ⟨Ao40, co40, eo40⟩ := Kd.R_slice HO108.out; subst eo40) | ((with_reducible refine gate_callee (f := 31) rfl ?_); refine goesL_ (some 6) rfl rfl Try.func31 (by kernel_rfl) rfl #[.slice Ao40 t106.length co40, .int .i64 1] rfl (by (try simp only [List.map_toArray, List.map_cons, List.map_nil]); first | done | rfl | (simp only [List.length_drop, List.length_take]; rfl)) ?_; (with_reducible refine (delta_Back.calls _ _ t106 1 t109 _ ?side1 ?side2 A2.out).mono ?_); (case side1 => repeat (first | exact (Kd.R_reads' HO108.out).2.2 | (with_reducible refine Kd.C_alloc ?_ _) | (with_reducible refine Kd.C_drewN ?_ _) | (with_reducible refine Kd.C_drew ?_))); (case side2 => exact (Kd.R_reads' HO108.out).2.1); rintro e w41 ⟨v110, rfl, ho0, hb⟩; refine ⟨_, rfl, ?_⟩; have n0_ := Aside0.mk (Kd.R_elder' (by (with_reducible repeat (first | apply Kd.R_alloc | apply Kd.R_drewN | apply Kd.R_drew)); exact HO105.out) (Kd.R_base ho0) hb); have n1_ := Aside0.mk (Kd.R_elder' (by (with_reducible repeat (first | apply Kd.R_alloc | apply Kd.R_drewN | apply Kd.R_drew)); exact HO108.out) (Kd.R_base ho0) hb); have n2_ := Aside0.mk (Kd.R_lower (Kd.R_new' (Kd.R_new' ho0 (Kd.R_lt (by (with_reducible repeat (first | apply Kd.R_alloc | apply Kd.R_drewN | apply Kd.R_drew)); exact HO105.out))) (Kd.R_lt (by (with_reducible repeat (first | apply Kd.R_alloc | apply Kd.R_drewN | apply Kd.R_drew)); exact HO108.out))) (below_size (by repeat (first | (with_reducible first | exact HB.out | apply below_alloc | apply pw_below_drewN | apply below_drew1) | exact HB.out)))); have n3_ := Aside0.mk (below_step (by repeat (first | (with_reducible first | exact HB.out | apply below_alloc | apply pw_below_drewN | apply below_drew1) | exact HB.out)) hb); clear HO105; clear HO108; clear HB; have HO105 := n0_; have HO108 := n1_; have HO111 := n2_; have HB := n3_; clear n0_ n1_ n2_ n3_; (try clear hb); (try clear hb2); (try clear hk); (try clear hi); (try clear ho0)))
    go_ret
    exact ⟨by first | rfl | (simp [errW_none, errW_some] <;> rfl) | (simp [*, errW_none, errW_some] <;> rfl), by repeat (first | (with_reducible first | exact HB.out | apply below_alloc | apply pw_below_drewN | apply below_drew1) | exact HB.out)⟩

end Go.Proofs.Ytmibdlapjddfoaa.QDelta
