-- Text written by a program of this session (wip/tools).
import Derived.Test.YtmibdlapjddfoaaQXteax0
import Derived.Test.YtmibdlapjddfoaaQXteax1
import Derived.Test.YtmibdlapjddfoaaQXteax2
import Derived.Test.YtmibdlapjddfoaaQXteax3
namespace Go.Proofs.Ytmibdlapjddfoaa.QXtea
open Go.RowKit Go.Proofs.YtmibdlapjddfoaaW.PrintWords Go.Proofs.YtmibdlapjddfoaaW.PrintLast Go.Proofs.YtmibdlapjddfoaaW.PrintMore
attribute [local go_sem] max2_int min2_int max_two min_two max_three min_three max_four min_four   -- for this text's walks alone
set_option linter.unusedVariables false
set_option linter.unusedSimpArgs false

attribute [local go_sem high] eqA46
/-! ### carapacelaw02_awake: function 33 -/
def carapacelaw02_awake.f  : Option (Bool) := (xtea_Stream.f 0 0 0 0 0 0 0 0 0 0 0 0 0 0 0 0 0 0 (([1, 2, 3] : List Int))).bind fun t116 => ((xtea_Stream.f 0 0 0 0 0 0 0 0 0 0 0 0 0 0 0 0 0 0 t116).bind fun t119 => ((xtea_Block.f 0 0 0 0 0 0 0 0 0 0 0 0 0 0 0 0 0 0).bind fun bt122 => ((carapaceref02_Block.f 0 0 0 0 0 0 0 0 0 0 0 0 0 0 0 0 0 0).bind fun bt124 => (if (bt122.1 == bt124.1 && (bt122.2 == bt124.2)) = true then (if (t119.length : Int) = 3 then (if 2 < (t119.length : Int) then (if (rd t119 2) = 3 then (some ((t116.length : Int) == 3)) else (some false)) else (none)) else (some false)) else (some false)))))
def carapacelaw02_awake.T4 : Bool × List (List Nat × List Nat) := (true, [([], []), ([], []), ([0, 1], [0, 1]), ([], []), ([], []), ([3, 4, 2], [3, 4]), ([2, 5], [2, 5]), ([6, 5], [6]), ([7], [7]), ([8, 7], [7, 8]), ([9, 7], [7, 9]), ([7, 10], [7, 10]), ([11, 7], [11]), ([12], [12]), ([13, 12], [12, 13]), ([14, 12], [12, 14]), ([15, 12], [12, 15]), ([12, 16], [12, 16]), ([17, 12], [17]), ([18], [18]), ([19, 18], [18, 19]), ([20, 18], [18, 20]), ([18, 21], [18, 21]), ([22, 18, 0, 1, 2, 3, 4, 5, 6, 7, 8, 9, 10, 11, 12, 13, 14, 15, 16, 17, 18, 19, 20, 21, 22], [22])])
def carapacelaw02_awake.B4 : List Nat := [0, 0, 3, 0, 0, 31, 63, 127, 255, 511, 1023, 2047, 4095, 8191, 16383, 32767, 65535, 131071, 262143, 524287, 1048575, 2097151, 4194303, 8388607]
theorem carapacelaw02_awake.tab4 : rtab .any (opsOf Try.f33 4) = carapacelaw02_awake.T4 := by kernel_rfl
theorem carapacelaw02_awake.bits4 : waitsOk carapacelaw02_awake.T4.2 carapacelaw02_awake.B4 = true := by kernel_rfl
theorem carapacelaw02_awake.s1 : xtea_Stream.f 0 0 0 0 0 0 0 0 0 0 0 0 0 0 0 0 0 0 [1, 2, 3] = some [217, 214, 234] := by decide +kernel
theorem carapacelaw02_awake.s2 : xtea_Stream.f 0 0 0 0 0 0 0 0 0 0 0 0 0 0 0 0 0 0 [217, 214, 234] = some [1, 2, 3] := by decide +kernel
set_option maxHeartbeats 8000000 in
set_option maxRecDepth 100000 in
theorem carapacelaw02_awake.calls  (r : Bool) (w : World) (h : carapacelaw02_awake.f  = some r) :
    Calls Try.prog 33 #[] w fun e w' => e = .returned (.bool r) ∧ Below w.heap.size w w' := by
  have hu44 := Try.underlying44
  have hu47 := Try.underlying47
  have hu46 := Try.underlying46
  have HB := Aside0.mk (Below.refl w.heap.size w)
  have H : ((xtea_Stream.f 0 0 0 0 0 0 0 0 0 0 0 0 0 0 0 0 0 0 (([1, 2, 3] : List Int))).bind fun t116 => ((xtea_Stream.f 0 0 0 0 0 0 0 0 0 0 0 0 0 0 0 0 0 0 t116).bind fun t119 => ((xtea_Block.f 0 0 0 0 0 0 0 0 0 0 0 0 0 0 0 0 0 0).bind fun bt122 => ((carapaceref02_Block.f 0 0 0 0 0 0 0 0 0 0 0 0 0 0 0 0 0 0).bind fun bt124 => (if (bt122.1 == bt124.1 && (bt122.2 == bt124.2)) = true then (if (t119.length : Int) = 3 then (if 2 < (t119.length : Int) then (if (rd t119 2) = 3 then (some ((t116.length : Int) == 3)) else (some false)) else (none)) else (some false)) else (some false)))))) = some r := h
  clear h
  obtain ⟨y113, hy113⟩ : ∃ y_ : List Int, y_ = (([1, 2, 3] : List Int)) := ⟨_, rfl⟩
  replace H : ((xtea_Stream.f 0 0 0 0 0 0 0 0 0 0 0 0 0 0 0 0 0 0 y113).bind fun t116 => ((xtea_Stream.f 0 0 0 0 0 0 0 0 0 0 0 0 0 0 0 0 0 0 t116).bind fun t119 => ((xtea_Block.f 0 0 0 0 0 0 0 0 0 0 0 0 0 0 0 0 0 0).bind fun bt122 => ((carapaceref02_Block.f 0 0 0 0 0 0 0 0 0 0 0 0 0 0 0 0 0 0).bind fun bt124 => (if (bt122.1 == bt124.1 && (bt122.2 == bt124.2)) = true then (if (t119.length : Int) = 3 then (if 2 < (t119.length : Int) then (if (rd t119 2) = 3 then (some ((t116.length : Int) == 3)) else (some false)) else (none)) else (some false)) else (some false)))))) = some r := by first | (rw [hy113]; with_reducible exact H) | (have H2_ := (Option.bind_some _ _).symm.trans H; rw [hy113]; with_reducible exact H2_) | (have H2_ := (Option.bind_some _ _).symm.trans H; with_reducible exact H2_) | with_reducible exact H | (rw [hy113]; exact H) | exact H
  have Ny113 := Aside0.mk hy113
  clear hy113
  replace H := Option.bind_eq_some_iff.mp H
  obtain ⟨t116, A10, H⟩ := H
  replace H : ((xtea_Stream.f 0 0 0 0 0 0 0 0 0 0 0 0 0 0 0 0 0 0 t116).bind fun t119 => ((xtea_Block.f 0 0 0 0 0 0 0 0 0 0 0 0 0 0 0 0 0 0).bind fun bt122 => ((carapaceref02_Block.f 0 0 0 0 0 0 0 0 0 0 0 0 0 0 0 0 0 0).bind fun bt124 => (if (bt122.1 == bt124.1 && (bt122.2 == bt124.2)) = true then (if (t119.length : Int) = 3 then (if 2 < (t119.length : Int) then (if (rd t119 2) = 3 then (some ((t116.length : Int) == 3)) else (some false)) else (none)) else (some false)) else (some false))))) = some r := H
  have A1 := Aside0.mk A10
  clear A10
  replace H := Option.bind_eq_some_iff.mp H
  obtain ⟨t119, A20, H⟩ := H
  replace H : ((xtea_Block.f 0 0 0 0 0 0 0 0 0 0 0 0 0 0 0 0 0 0).bind fun bt122 => ((carapaceref02_Block.f 0 0 0 0 0 0 0 0 0 0 0 0 0 0 0 0 0 0).bind fun bt124 => (if (bt122.1 == bt124.1 && (bt122.2 == bt124.2)) = true then (if (t119.length : Int) = 3 then (if 2 < (t119.length : Int) then (if (rd t119 2) = 3 then (some ((t116.length : Int) == 3)) else (some false)) else (none)) else (some false)) else (some false)))) = some r := H
  have A2 := Aside0.mk A20
  clear A20
  replace H := Option.bind_eq_some_iff.mp H
  obtain ⟨⟨t122, t123⟩, A30, H⟩ := H
  replace H : ((carapaceref02_Block.f 0 0 0 0 0 0 0 0 0 0 0 0 0 0 0 0 0 0).bind fun bt124 => (if (t122 == bt124.1 && (t123 == bt124.2)) = true then (if (t119.length : Int) = 3 then (if 2 < (t119.length : Int) then (if (rd t119 2) = 3 then (some ((t116.length : Int) == 3)) else (some false)) else (none)) else (some false)) else (some false))) = some r := H
  have A3 := Aside0.mk A30
  clear A30
  replace H := Option.bind_eq_some_iff.mp H
  obtain ⟨⟨t124, t125⟩, A40, H⟩ := H
  replace H : (if (t122 == t124 && (t123 == t125)) = true then (if (t119.length : Int) = 3 then (if 2 < (t119.length : Int) then (if (rd t119 2) = 3 then (some ((t116.length : Int) == 3)) else (some false)) else (none)) else (some false)) else (some false)) = some r := H
  have A4 := Aside0.mk A40
  clear A40
  have z1 : t116 = [217, 214, 234] := by have h := A1.out; rw [Ny113.out, carapacelaw02_awake.s1] at h; exact (Option.some.inj h).symm
  have z2 : t119 = [1, 2, 3] := by have h := A2.out; rw [z1, carapacelaw02_awake.s2] at h; exact (Option.some.inj h).symm
  by_cases c5 : (t122 == t124 && (t123 == t125)) = true
  · rw [if_pos c5] at H
    have c5b0 : (t122 == t124 && (t123 == t125)) = true := c5
    (try (have c5b1 : decide (t122 = t124 && (t123 == t125)) = true := by simpa using c5))
    (try (have c5b2 : (t122 == t124 && (t123 == t125)) = true := by simpa using c5))
    clear c5
    by_cases c6 : (t119.length : Int) = 3
    · rw [if_pos c6] at H
      have c6b0 : ((t119.length : Int) == 3) = true := beq_iff_eq.mpr c6
      have c6b1 : ((t119.length : Int) != 3) = false := bne_eq_false_iff_eq.mpr c6
      clear c6
      by_cases c7 : 2 < (t119.length : Int)
      · rw [if_pos c7] at H
        have c7b0 : decide (2 < (t119.length : Int)) = true := decide_eq_true c7
        have c7b1 : decide (2 < t119.length) = true := decide_eq_true (by omega)
        clear c7
        by_cases c8 : (rd t119 2) = 3
        · rw [if_pos c8] at H
          have c8b0 : ((rd t119 2) == 3) = true := beq_iff_eq.mpr c8
          have c8b1 : ((rd t119 2) != 3) = false := bne_eq_false_iff_eq.mpr c8
          clear c8
          obtain rfl := Option.some.inj H
          clear z1 z2
          go_enter Try.func33, Try.ntmps33
          try go_wp2_with (first | ((with_reducible refine gate_dst (N := 1) rfl ?_); (try (refine gate_guard (by rfl) ?_; dsimp only)); refine box_event ?hg (N := 1) ?hd (cs := #[.int .u8 0, .int .u8 0, .int .u8 0, .int .u8 0, .int .u8 0, .int .u8 0, .int .u8 0, .int .u8 0, .int .u8 0, .int .u8 0, .int .u8 0, .int .u8 0, .int .u8 0, .int .u8 0, .int .u8 0, .int .u8 0]) (t := 44) ?hr ?_; (case hd => rfl); (case hg => rfl); (case hr => first | (go_simp; done) | (go_simp; rfl)); intro gb112 hg w9 hbox hb; have n0_ := Aside0.mk (below_step (by repeat (first | (with_reducible first | exact HB.out | apply below_alloc | apply pw_below_drewN | apply below_drew1) | exact HB.out)) hb); have n1_ := Aside0.mk (hbox); have n2_ := Aside0.mk ((by rw [hg]; exact (below_size (by repeat (first | (with_reducible first | exact HB.out | apply below_alloc | apply pw_below_drewN | apply below_drew1) | exact HB.out))) : w.heap.size ≤ gb112)); have n3_ := Aside0.mk ((by rw [hg]; exact (below_size (by repeat (first | (with_reducible first | exact HB.out | apply below_alloc | apply pw_below_drewN | apply below_drew1) | exact HB.out))) : w.heap.size ≤ gb112)); clear HB; have HB := n0_; have BK112 := n1_; have GW112 := n2_; have GE112 := n3_; clear n0_ n1_ n2_ n3_; clear hb hbox hg; have hcz10_0 : w9.cell? ⟨gb112, 0, none⟩ = some (.int .u8 0) := (blk_cell BK112.out 0).trans rfl; have hcz10_1 : w9.cell? ⟨gb112, 1, none⟩ = some (.int .u8 0) := (blk_cell BK112.out 1).trans rfl; have hcz10_2 : w9.cell? ⟨gb112, 2, none⟩ = some (.int .u8 0) := (blk_cell BK112.out 2).trans rfl; have hcz10_3 : w9.cell? ⟨gb112, 3, none⟩ = some (.int .u8 0) := (blk_cell BK112.out 3).trans rfl; have hcz10_4 : w9.cell? ⟨gb112, 4, none⟩ = some (.int .u8 0) := (blk_cell BK112.out 4).trans rfl; have hcz10_5 : w9.cell? ⟨gb112, 5, none⟩ = some (.int .u8 0) := (blk_cell BK112.out 5).trans rfl; have hcz10_6 : w9.cell? ⟨gb112, 6, none⟩ = some (.int .u8 0) := (blk_cell BK112.out 6).trans rfl; have hcz10_7 : w9.cell? ⟨gb112, 7, none⟩ = some (.int .u8 0) := (blk_cell BK112.out 7).trans rfl; have hcz10_8 : w9.cell? ⟨gb112, 8, none⟩ = some (.int .u8 0) := (blk_cell BK112.out 8).trans rfl; have hcz10_9 : w9.cell? ⟨gb112, 9, none⟩ = some (.int .u8 0) := (blk_cell BK112.out 9).trans rfl; have hcz10_10 : w9.cell? ⟨gb112, 10, none⟩ = some (.int .u8 0) := (blk_cell BK112.out 10).trans rfl; have hcz10_11 : w9.cell? ⟨gb112, 11, none⟩ = some (.int .u8 0) := (blk_cell BK112.out 11).trans rfl; have hcz10_12 : w9.cell? ⟨gb112, 12, none⟩ = some (.int .u8 0) := (blk_cell BK112.out 12).trans rfl; have hcz10_13 : w9.cell? ⟨gb112, 13, none⟩ = some (.int .u8 0) := (blk_cell BK112.out 13).trans rfl; have hcz10_14 : w9.cell? ⟨gb112, 14, none⟩ = some (.int .u8 0) := (blk_cell BK112.out 14).trans rfl; have hcz10_15 : w9.cell? ⟨gb112, 15, none⟩ = some (.int .u8 0) := (blk_cell BK112.out 15).trans rfl; have hfz10_0 := blk_frozen BK112.out 0; have hfz10_1 := blk_frozen BK112.out 1; have hfz10_2 := blk_frozen BK112.out 2; have hfz10_3 := blk_frozen BK112.out 3; have hfz10_4 := blk_frozen BK112.out 4; have hfz10_5 := blk_frozen BK112.out 5; have hfz10_6 := blk_frozen BK112.out 6; have hfz10_7 := blk_frozen BK112.out 7; have hfz10_8 := blk_frozen BK112.out 8; have hfz10_9 := blk_frozen BK112.out 9; have hfz10_10 := blk_frozen BK112.out 10; have hfz10_11 := blk_frozen BK112.out 11; have hfz10_12 := blk_frozen BK112.out 12; have hfz10_13 := blk_frozen BK112.out 13; have hfz10_14 := blk_frozen BK112.out 14; have hfz10_15 := blk_frozen BK112.out 15) | ((with_reducible refine gate_dst (N := 6) rfl ?_); (try (refine gate_guard (by rfl) ?_; dsimp only)); refine Kd.R_lit (Kd.int .u8) _ 5 ?hg (N := 6) ?hd (xs := ([1, 2, 3] : List Int)) (inner := [.int .u8 1, .int .u8 2, .int .u8 3]) (ok := fun _ => True) (okp := fun _ => True) ?hr ?hp (fun _ hk => hk) trivial (Below.refl _ _) (Nat.le_refl _) (by simp) ?_; (case hd => rfl); (case hg => rfl); (case hr => first | (go_simp; done) | (go_simp; rfl)); (case hp => exact (Reps.one (show Kd.M (Kd.int .u8) _ _ _ 1 [.int .u8 1] from rfl) (Reps.one (show Kd.M (Kd.int .u8) _ _ _ 2 [.int .u8 2] from rfl) (Reps.one (show Kd.M (Kd.int .u8) _ _ _ 3 [.int .u8 3] from rfl) (Reps.none _ _))))); intro v114 w11 ho12 hb hg_ hnew_; clear hg_ hnew_; (first | rw [← Ny113.out] at ho12 | (simp only [Int.reduceToNat] at ho12; rw [← Ny113.out] at ho12)); have n0_ := Aside0.mk (Kd.R_lower ho12 (below_size (by repeat (first | (with_reducible first | exact HB.out | apply below_alloc | apply pw_below_drewN | apply below_drew1 | refine below_set ?_ GE112.out) | exact HB.out)))); have n1_ := Aside0.mk (blk_below (g := gb112) (o := .cells #[.int .u8 0, .int .u8 0, .int .u8 0, .int .u8 0, .int .u8 0, .int .u8 0, .int .u8 0, .int .u8 0, .int .u8 0, .int .u8 0, .int .u8 0, .int .u8 0, .int .u8 0, .int .u8 0, .int .u8 0, .int .u8 0] 44 (0, 0)) (by (with_reducible repeat (first | refine blk_drewN ?_ _ | refine blk_drew ?_ | refine blk_alloc ?_ _)); exact BK112.out) hb); have n2_ := Aside0.mk (below_step (by repeat (first | (with_reducible first | exact HB.out | apply below_alloc | apply pw_below_drewN | apply below_drew1 | refine below_set ?_ GE112.out) | exact HB.out)) hb); clear BK112; clear HB; have HO115 := n0_; have BK112 := n1_; have HB := n2_; clear n0_ n1_ n2_; clear hb ho12; obtain ⟨Ao13, co13, eo13⟩ := Kd.R_slice HO115.out; subst eo13) | ((with_reducible refine gate_callee (f := 36) rfl ?_); refine goesL_ (some 7) rfl rfl Try.func36 (by kernel_rfl) rfl #[.agg #[.int .u8 0, .int .u8 0, .int .u8 0, .int .u8 0, .int .u8 0, .int .u8 0, .int .u8 0, .int .u8 0, .int .u8 0, .int .u8 0, .int .u8 0, .int .u8 0, .int .u8 0, .int .u8 0, .int .u8 0, .int .u8 0], .agg #[.int .u32 0, .int .u32 0], .slice Ao13 y113.length co13] rfl (by (try simp only [List.map_toArray, List.map_cons, List.map_nil]); first | done | rfl | (simp only [List.length_drop, List.length_take]; rfl)) ?_; (with_reducible refine (xtea_Stream.calls 0 0 0 0 0 0 0 0 0 0 0 0 0 0 0 0 0 0 _ _ y113 t116 _ ?side1 ?side2 A1.out).mono ?_); (case side1 => repeat (first | exact (Kd.R_reads' HO115.out).2.2 | (with_reducible refine Kd.C_alloc ?_ _) | (with_reducible refine Kd.C_drewN ?_ _) | (with_reducible refine Kd.C_drew ?_))); (case side2 => exact (Kd.R_reads' HO115.out).2.1); rintro e w14 ⟨v117, rfl, ho0, hb⟩; refine ⟨_, rfl, ?_⟩; have n0_ := Aside0.mk (Kd.R_elder' (by (with_reducible repeat (first | apply Kd.R_alloc | apply Kd.R_drewN | apply Kd.R_drew)); exact HO115.out) (Kd.R_base ho0) hb); have n1_ := Aside0.mk (Kd.R_lower (Kd.R_new' ho0 (Kd.R_lt (by (with_reducible repeat (first | apply Kd.R_alloc | apply Kd.R_drewN | apply Kd.R_drew)); exact HO115.out))) (below_size (by repeat (first | (with_reducible first | exact HB.out | apply below_alloc | apply pw_below_drewN | apply below_drew1 | refine below_set ?_ GE112.out) | exact HB.out)))); have n2_ := Aside0.mk (blk_below (g := gb112) (o := .cells #[.int .u8 0, .int .u8 0, .int .u8 0, .int .u8 0, .int .u8 0, .int .u8 0, .int .u8 0, .int .u8 0, .int .u8 0, .int .u8 0, .int .u8 0, .int .u8 0, .int .u8 0, .int .u8 0, .int .u8 0, .int .u8 0] 44 (0, 0)) (by (with_reducible repeat (first | refine blk_drewN ?_ _ | refine blk_drew ?_ | refine blk_alloc ?_ _)); exact BK112.out) hb); have n3_ := Aside0.mk (below_step (by repeat (first | (with_reducible first | exact HB.out | apply below_alloc | apply pw_below_drewN | apply below_drew1 | refine below_set ?_ GE112.out) | exact HB.out)) hb); clear HO115; clear BK112; clear HB; have HO115 := n0_; have HO118 := n1_; have BK112 := n2_; have HB := n3_; clear n0_ n1_ n2_ n3_; (try clear hb); (try clear hb2); (try clear hk); (try clear hi); (try clear ho0); have hcz15_0 : w14.cell? ⟨gb112, 0, none⟩ = some (.int .u8 0) := (blk_cell BK112.out 0).trans rfl; have hcz15_1 : w14.cell? ⟨gb112, 1, none⟩ = some (.int .u8 0) := (blk_cell BK112.out 1).trans rfl; have hcz15_2 : w14.cell? ⟨gb112, 2, none⟩ = some (.int .u8 0) := (blk_cell BK112.out 2).trans rfl; have hcz15_3 : w14.cell? ⟨gb112, 3, none⟩ = some (.int .u8 0) := (blk_cell BK112.out 3).trans rfl; have hcz15_4 : w14.cell? ⟨gb112, 4, none⟩ = some (.int .u8 0) := (blk_cell BK112.out 4).trans rfl; have hcz15_5 : w14.cell? ⟨gb112, 5, none⟩ = some (.int .u8 0) := (blk_cell BK112.out 5).trans rfl; have hcz15_6 : w14.cell? ⟨gb112, 6, none⟩ = some (.int .u8 0) := (blk_cell BK112.out 6).trans rfl; have hcz15_7 : w14.cell? ⟨gb112, 7, none⟩ = some (.int .u8 0) := (blk_cell BK112.out 7).trans rfl; have hcz15_8 : w14.cell? ⟨gb112, 8, none⟩ = some (.int .u8 0) := (blk_cell BK112.out 8).trans rfl; have hcz15_9 : w14.cell? ⟨gb112, 9, none⟩ = some (.int .u8 0) := (blk_cell BK112.out 9).trans rfl; have hcz15_10 : w14.cell? ⟨gb112, 10, none⟩ = some (.int .u8 0) := (blk_cell BK112.out 10).trans rfl; have hcz15_11 : w14.cell? ⟨gb112, 11, none⟩ = some (.int .u8 0) := (blk_cell BK112.out 11).trans rfl; have hcz15_12 : w14.cell? ⟨gb112, 12, none⟩ = some (.int .u8 0) := (blk_cell BK112.out 12).trans rfl; have hcz15_13 : w14.cell? ⟨gb112, 13, none⟩ = some (.int .u8 0) := (blk_cell BK112.out 13).trans rfl; have hcz15_14 : w14.cell? ⟨gb112, 14, none⟩ = some (.int .u8 0) := (blk_cell BK112.out 14).trans rfl; have hcz15_15 : w14.cell? ⟨gb112, 15, none⟩ = some (.int .u8 0) := (blk_cell BK112.out 15).trans rfl; have hfz15_0 := blk_frozen BK112.out 0; have hfz15_1 := blk_frozen BK112.out 1; have hfz15_2 := blk_frozen BK112.out 2; have hfz15_3 := blk_frozen BK112.out 3; have hfz15_4 := blk_frozen BK112.out 4; have hfz15_5 := blk_frozen BK112.out 5; have hfz15_6 := blk_frozen BK112.out 6; have hfz15_7 := blk_frozen BK112.out 7; have hfz15_8 := blk_frozen BK112.out 8; have hfz15_9 := blk_frozen BK112.out 9; have hfz15_10 := blk_frozen BK112.out 10; have hfz15_11 := blk_frozen BK112.out 11; have hfz15_12 := blk_frozen BK112.out 12; have hfz15_13 := blk_frozen BK112.out 13; have hfz15_14 := blk_frozen BK112.out 14; have hfz15_15 := blk_frozen BK112.out 15; obtain ⟨Ao16, co16, eo16⟩ := Kd.R_slice HO118.out; subst eo16) | ((with_reducible refine gate_callee (f := 36) rfl ?_); refine goesL_ (some 11) rfl rfl Try.func36 (by kernel_rfl) rfl #[.agg #[.int .u8 0, .int .u8 0, .int .u8 0, .int .u8 0, .int .u8 0, .int .u8 0, .int .u8 0, .int .u8 0, .int .u8 0, .int .u8 0, .int .u8 0, .int .u8 0, .int .u8 0, .int .u8 0, .int .u8 0, .int .u8 0], .agg #[.int .u32 0, .int .u32 0], .slice Ao16 t116.length co16] rfl (by (try simp only [List.map_toArray, List.map_cons, List.map_nil]); first | done | rfl | (simp only [List.length_drop, List.length_take]; rfl)) ?_; (with_reducible refine (xtea_Stream.calls 0 0 0 0 0 0 0 0 0 0 0 0 0 0 0 0 0 0 _ _ t116 t119 _ ?side1 ?side2 A2.out).mono ?_); (case side1 => repeat (first | exact (Kd.R_reads' HO118.out).2.2 | (with_reducible refine Kd.C_alloc ?_ _) | (with_reducible refine Kd.C_drewN ?_ _) | (with_reducible refine Kd.C_drew ?_))); (case side2 => exact (Kd.R_reads' HO118.out).2.1); rintro e w17 ⟨v120, rfl, ho0, hb⟩; refine ⟨_, rfl, ?_⟩; have n0_ := Aside0.mk (Kd.R_elder' (by (with_reducible repeat (first | apply Kd.R_alloc | apply Kd.R_drewN | apply Kd.R_drew)); exact HO115.out) (Kd.R_base ho0) hb); have n1_ := Aside0.mk (Kd.R_elder' (by (with_reducible repeat (first | apply Kd.R_alloc | apply Kd.R_drewN | apply Kd.R_drew)); exact HO118.out) (Kd.R_base ho0) hb); have n2_ := Aside0.mk (Kd.R_lower (Kd.R_new' (Kd.R_new' ho0 (Kd.R_lt (by (with_reducible repeat (first | apply Kd.R_alloc | apply Kd.R_drewN | apply Kd.R_drew)); exact HO115.out))) (Kd.R_lt (by (with_reducible repeat (first | apply Kd.R_alloc | apply Kd.R_drewN | apply Kd.R_drew)); exact HO118.out))) (below_size (by repeat (first | (with_reducible first | exact HB.out | apply below_alloc | apply pw_below_drewN | apply below_drew1 | refine below_set ?_ GE112.out) | exact HB.out)))); have n3_ := Aside0.mk (blk_below (g := gb112) (o := .cells #[.int .u8 0, .int .u8 0, .int .u8 0, .int .u8 0, .int .u8 0, .int .u8 0, .int .u8 0, .int .u8 0, .int .u8 0, .int .u8 0, .int .u8 0, .int .u8 0, .int .u8 0, .int .u8 0, .int .u8 0, .int .u8 0] 44 (0, 0)) (by (with_reducible repeat (first | refine blk_drewN ?_ _ | refine blk_drew ?_ | refine blk_alloc ?_ _)); exact BK112.out) hb); have n4_ := Aside0.mk (below_step (by repeat (first | (with_reducible first | exact HB.out | apply below_alloc | apply pw_below_drewN | apply below_drew1 | refine below_set ?_ GE112.out) | exact HB.out)) hb); clear HO115; clear HO118; clear BK112; clear HB; have HO115 := n0_; have HO118 := n1_; have HO121 := n2_; have BK112 := n3_; have HB := n4_; clear n0_ n1_ n2_ n3_ n4_; (try clear hb); (try clear hb2); (try clear hk); (try clear hi); (try clear ho0)))
          have n0_ := Aside0.mk (Kd.R_drew HO115.out)
          have n1_ := Aside0.mk (Kd.R_drew HO118.out)
          have n2_ := Aside0.mk (Kd.R_drew HO121.out)
          have n3_ := Aside0.mk (blk_drew BK112.out)
          have n4_ := Aside0.mk (below_drew1 HB.out)
          clear HO115
          clear HO118
          clear HO121
          clear BK112
          clear HB
          have HO115 := n0_
          have HO118 := n1_
          have HO121 := n2_
          have BK112 := n3_
          have HB := n4_
          clear n0_ n1_ n2_ n3_ n4_
          have p126 : 0 ≤ (2 : Int) := (by omega)
          have q126 : 2 < (t119.length : Int) := of_decide_eq_true (by first | (with_reducible assumption) | assumption)
          (try (obtain ⟨Az_, cz_, hz_, -, -⟩ := Kd.R_reads HO121.out; subst hz_))
          obtain ⟨ad126, e126, hx126_0⟩ := Kd.at_int (Kd.R_reads' HO121.out).2.2 2 p126 q126
          cases e126
          (try simp only [show (2 : Int).toNat = 2 from rfl, Nat.reduceMul, Nat.reduceEqDiff, Go.Addr.add, ↓reduceIte] at hx126_0)
          have qi126 : (2 < t119.length) = True := eq_true (by omega)
          (try rw [show ((2 : Int)).toNat = 2 from rfl] at hx126_0)
          replace p126 := eq_true p126
          replace q126 := eq_true q126
          refine start_ (n := 24) (S := fun w' => w'.cell? ⟨gb112, 0, none⟩ = some (.int .u8 0) ∧ w'.cell? ⟨gb112, 1, none⟩ = some (.int .u8 0) ∧ w'.cell? ⟨gb112, 2, none⟩ = some (.int .u8 0) ∧ w'.cell? ⟨gb112, 3, none⟩ = some (.int .u8 0) ∧ w'.cell? ⟨gb112, 4, none⟩ = some (.int .u8 0) ∧ w'.cell? ⟨gb112, 5, none⟩ = some (.int .u8 0) ∧ w'.cell? ⟨gb112, 6, none⟩ = some (.int .u8 0) ∧ w'.cell? ⟨gb112, 7, none⟩ = some (.int .u8 0) ∧ w'.cell? ⟨gb112, 8, none⟩ = some (.int .u8 0) ∧ w'.cell? ⟨gb112, 9, none⟩ = some (.int .u8 0) ∧ w'.cell? ⟨gb112, 10, none⟩ = some (.int .u8 0) ∧ w'.cell? ⟨gb112, 11, none⟩ = some (.int .u8 0) ∧ w'.cell? ⟨gb112, 12, none⟩ = some (.int .u8 0) ∧ w'.cell? ⟨gb112, 13, none⟩ = some (.int .u8 0) ∧ w'.cell? ⟨gb112, 14, none⟩ = some (.int .u8 0) ∧ w'.cell? ⟨gb112, 15, none⟩ = some (.int .u8 0) ∧ w'.cell? ⟨ad126.block, ad126.off + 2, none⟩ = some (.int .u8 (rd t119 2))) (ds := []) #[false, false, false, false, false, false, false, false, false, false, false, false, false, false, false, false, false, false, false, false, false, false, false, false] (by kernel_rfl) rfl rfl ⟨(blk_cell BK112.out 0).trans rfl, (blk_cell BK112.out 1).trans rfl, (blk_cell BK112.out 2).trans rfl, (blk_cell BK112.out 3).trans rfl, (blk_cell BK112.out 4).trans rfl, (blk_cell BK112.out 5).trans rfl, (blk_cell BK112.out 6).trans rfl, (blk_cell BK112.out 7).trans rfl, (blk_cell BK112.out 8).trans rfl, (blk_cell BK112.out 9).trans rfl, (blk_cell BK112.out 10).trans rfl, (blk_cell BK112.out 11).trans rfl, (blk_cell BK112.out 12).trans rfl, (blk_cell BK112.out 13).trans rfl, (blk_cell BK112.out 14).trans rfl, (blk_cell BK112.out 15).trans rfl, hx126_0⟩ (fun hHeld => ?_); refine with_tabW carapacelaw02_awake.tab4 carapacelaw02_awake.bits4 (fun HT_ HW_ => ?_)
          generalize w17.drew = w18 at HO115 HO118 HO121 BK112 HB hx126_0 hHeld ⊢
          refine pure_ (i := 1) (N := some 13) (v := ?_) (a' := ?_) #[false, true, false, false, false, false, false, false, false, false, false, false, false, false, false, false, false, false, false, false, false, false, false, false] rfl rfl (any_of HT_.out (by kernel_rfl)) (fun _ _ _ h => h) (Or.inl ⟨by rfl, ?_⟩) ?_ ?_
          rotate_left
          · intro w'
            go_simp
            with_reducible rfl
          rotate_left
          · simp only [Act.put, List.setIfInBounds_toArray, List.set_cons_zero, List.set_cons_succ, i64_w, i32_w]
            rfl
          refine pure_ (i := 4) (N := some 16) (v := ?_) (a' := ?_) #[false, true, false, false, true, false, false, false, false, false, false, false, false, false, false, false, false, false, false, false, false, false, false, false] rfl rfl (any_of HT_.out (by kernel_rfl)) (fun _ _ _ h => h) (Or.inl ⟨by rfl, ?_⟩) ?_ ?_
          rotate_left
          · intro w'
            go_simp
            with_reducible rfl
          rotate_left
          · simp only [Act.put, List.setIfInBounds_toArray, List.set_cons_zero, List.set_cons_succ, i64_w, i32_w]
            rfl
          refine take_ (i := 0) (N := some 12) (v := ?_) (a' := ?_) #[true, true, false, false, true, false, false, false, false, false, false, false, false, false, false, false, false, false, false, false, false, false, false, false] rfl rfl (take_ofW HT_.out HW_.out (by kernel_rfl)) (fun _ _ _ h => h) (Or.inl ⟨by rfl, ?_⟩) hHeld ?_ ?_
          rotate_left
          · rintro w' ⟨s0, s1, s2, s3, s4, s5, s6, s7, s8, s9, s10, s11, s12, s13, s14, s15, s16⟩
            go_simp
            with_reducible rfl
          rotate_left
          · simp only [Act.put, List.setIfInBounds_toArray, List.set_cons_zero, List.set_cons_succ, i64_w, i32_w]
            rfl
          refine take_ (i := 3) (N := some 15) (v := ?_) (a' := ?_) #[true, true, false, true, true, false, false, false, false, false, false, false, false, false, false, false, false, false, false, false, false, false, false, false] rfl rfl (take_ofW HT_.out HW_.out (by kernel_rfl)) (fun _ _ _ h => h) (Or.inl ⟨by rfl, ?_⟩) hHeld ?_ ?_
          rotate_left
          · rintro w' ⟨s0, s1, s2, s3, s4, s5, s6, s7, s8, s9, s10, s11, s12, s13, s14, s15, s16⟩
            go_simp
            with_reducible rfl
          rotate_left
          · simp only [Act.put, List.setIfInBounds_toArray, List.set_cons_zero, List.set_cons_succ, i64_w, i32_w]
            rfl
          refine one_ (i := 2) (N := some 14) #[true, true, true, true, true, false, false, false, false, false, false, false, false, false, false, false, false, false, false, false, false, false, false, false] rfl rfl (one_of HT_.out (by kernel_rfl)) (by decide) (fun K hK => ?_)
          refine goes_ Try.func38 (by kernel_rfl) rfl #[.agg #[.int .u8 0, .int .u8 0, .int .u8 0, .int .u8 0, .int .u8 0, .int .u8 0, .int .u8 0, .int .u8 0, .int .u8 0, .int .u8 0, .int .u8 0, .int .u8 0, .int .u8 0, .int .u8 0, .int .u8 0, .int .u8 0], .agg #[.int .u32 0, .int .u32 0]] (by rfl) rfl rfl (by (try simp only [List.map_toArray, List.map_cons, List.map_nil]); first | done | rfl | (simp only [List.length_drop, List.length_take]; rfl)) ?_
          with_reducible refine (xtea_Block.calls 0 0 0 0 0 0 0 0 0 0 0 0 0 0 0 0 0 0 t122 t123 _ A3.out).mono ?_
          rintro e w19 ⟨rfl, hb⟩
          have HS16_ := (hb.cell (World.block_lt_of_cell? _ _ (hHeld.2.2.2.2.2.2.2.2.2.2.2.2.2.2.2.2))).trans (hHeld.2.2.2.2.2.2.2.2.2.2.2.2.2.2.2.2)
          refine ⟨_, rfl, ?_⟩
          have n0_ := Aside0.mk (Kd.R_below (by (with_reducible repeat (first | apply Kd.R_alloc | apply Kd.R_drewN | apply Kd.R_drew)); exact HO115.out) hb)
          have n1_ := Aside0.mk (Kd.R_below (by (with_reducible repeat (first | apply Kd.R_alloc | apply Kd.R_drewN | apply Kd.R_drew)); exact HO118.out) hb)
          have n2_ := Aside0.mk (Kd.R_below (by (with_reducible repeat (first | apply Kd.R_alloc | apply Kd.R_drewN | apply Kd.R_drew)); exact HO121.out) hb)
          have n3_ := Aside0.mk (blk_below (g := gb112) (o := .cells #[.int .u8 0, .int .u8 0, .int .u8 0, .int .u8 0, .int .u8 0, .int .u8 0, .int .u8 0, .int .u8 0, .int .u8 0, .int .u8 0, .int .u8 0, .int .u8 0, .int .u8 0, .int .u8 0, .int .u8 0, .int .u8 0] 44 (0, 0)) (by (with_reducible repeat (first | refine blk_drewN ?_ _ | refine blk_drew ?_ | refine blk_alloc ?_ _)); exact BK112.out) hb)
          have n4_ := Aside0.mk (below_step (by repeat (first | (with_reducible first | exact HB.out | apply below_alloc | apply pw_below_drewN | apply below_drew1 | refine below_set ?_ GE112.out) | exact HB.out)) hb)
          clear HO115
          clear HO118
          clear HO121
          clear BK112
          clear HB
          have HO115 := n0_
          have HO118 := n1_
          have HO121 := n2_
          have BK112 := n3_
          have HB := n4_
          clear n0_ n1_ n2_ n3_ n4_
          (try clear hb)
          (try clear hb2)
          (try clear hk)
          (try clear hi)
          refine hK.out _ _ ⟨(blk_cell BK112.out 0).trans rfl, (blk_cell BK112.out 1).trans rfl, (blk_cell BK112.out 2).trans rfl, (blk_cell BK112.out 3).trans rfl, (blk_cell BK112.out 4).trans rfl, (blk_cell BK112.out 5).trans rfl, (blk_cell BK112.out 6).trans rfl, (blk_cell BK112.out 7).trans rfl, (blk_cell BK112.out 8).trans rfl, (blk_cell BK112.out 9).trans rfl, (blk_cell BK112.out 10).trans rfl, (blk_cell BK112.out 11).trans rfl, (blk_cell BK112.out 12).trans rfl, (blk_cell BK112.out 13).trans rfl, (blk_cell BK112.out 14).trans rfl, (blk_cell BK112.out 15).trans rfl, HS16_⟩ (fun hHeld => ?_)
          clear hK K
          refine norm_ (a' := ?_) ?_ ?_
          rotate_left
          · show Act.put _ (some 14) _ = _
            simp only [Act.put, List.setIfInBounds_toArray, List.set_cons_zero, List.set_cons_succ, i64_w, i32_w]
            rfl
          refine one_ (i := 5) (N := some 17) #[true, true, true, true, true, true, false, false, false, false, false, false, false, false, false, false, false, false, false, false, false, false, false, false] rfl rfl (one_of HT_.out (by kernel_rfl)) (by decide) (fun K hK => ?_)
          refine goes_ Try.func39 (by kernel_rfl) rfl #[.agg #[.int .u8 0, .int .u8 0, .int .u8 0, .int .u8 0, .int .u8 0, .int .u8 0, .int .u8 0, .int .u8 0, .int .u8 0, .int .u8 0, .int .u8 0, .int .u8 0, .int .u8 0, .int .u8 0, .int .u8 0, .int .u8 0], .agg #[.int .u32 0, .int .u32 0]] (by rfl) rfl rfl (by (try simp only [List.map_toArray, List.map_cons, List.map_nil]); first | done | rfl | (simp only [List.length_drop, List.length_take]; rfl)) ?_
          with_reducible refine (carapaceref02_Block.calls 0 0 0 0 0 0 0 0 0 0 0 0 0 0 0 0 0 0 t124 t125 _ A4.out).mono ?_
          rintro e w20 ⟨rfl, hb⟩
          have HS16_ := (hb.cell (World.block_lt_of_cell? _ _ (hHeld.2.2.2.2.2.2.2.2.2.2.2.2.2.2.2.2))).trans (hHeld.2.2.2.2.2.2.2.2.2.2.2.2.2.2.2.2)
          refine ⟨_, rfl, ?_⟩
          have n0_ := Aside0.mk (Kd.R_below (by (with_reducible repeat (first | apply Kd.R_alloc | apply Kd.R_drewN | apply Kd.R_drew)); exact HO115.out) hb)
          have n1_ := Aside0.mk (Kd.R_below (by (with_reducible repeat (first | apply Kd.R_alloc | apply Kd.R_drewN | apply Kd.R_drew)); exact HO118.out) hb)
          have n2_ := Aside0.mk (Kd.R_below (by (with_reducible repeat (first | apply Kd.R_alloc | apply Kd.R_drewN | apply Kd.R_drew)); exact HO121.out) hb)
          have n3_ := Aside0.mk (blk_below (g := gb112) (o := .cells #[.int .u8 0, .int .u8 0, .int .u8 0, .int .u8 0, .int .u8 0, .int .u8 0, .int .u8 0, .int .u8 0, .int .u8 0, .int .u8 0, .int .u8 0, .int .u8 0, .int .u8 0, .int .u8 0, .int .u8 0, .int .u8 0] 44 (0, 0)) (by (with_reducible repeat (first | refine blk_drewN ?_ _ | refine blk_drew ?_ | refine blk_alloc ?_ _)); exact BK112.out) hb)
          have n4_ := Aside0.mk (below_step (by repeat (first | (with_reducible first | exact HB.out | apply below_alloc | apply pw_below_drewN | apply below_drew1 | refine below_set ?_ GE112.out) | exact HB.out)) hb)
          clear HO115
          clear HO118
          clear HO121
          clear BK112
          clear HB
          have HO115 := n0_
          have HO118 := n1_
          have HO121 := n2_
          have BK112 := n3_
          have HB := n4_
          clear n0_ n1_ n2_ n3_ n4_
          (try clear hb)
          (try clear hb2)
          (try clear hk)
          (try clear hi)
          obtain ⟨Ao21, co21, eo21⟩ := Kd.R_slice HO121.out
          (first | subst eo21 | (injection eo21 with f1_ f2_ f3_; have f4_ := f1_.symm; have f5_ := f3_.symm; clear f1_ f2_ f3_; subst f4_; subst f5_))
          refine hK.out _ _ ⟨(blk_cell BK112.out 0).trans rfl, (blk_cell BK112.out 1).trans rfl, (blk_cell BK112.out 2).trans rfl, (blk_cell BK112.out 3).trans rfl, (blk_cell BK112.out 4).trans rfl, (blk_cell BK112.out 5).trans rfl, (blk_cell BK112.out 6).trans rfl, (blk_cell BK112.out 7).trans rfl, (blk_cell BK112.out 8).trans rfl, (blk_cell BK112.out 9).trans rfl, (blk_cell BK112.out 10).trans rfl, (blk_cell BK112.out 11).trans rfl, (blk_cell BK112.out 12).trans rfl, (blk_cell BK112.out 13).trans rfl, (blk_cell BK112.out 14).trans rfl, (blk_cell BK112.out 15).trans rfl, HS16_⟩ (fun hHeld => ?_)
          clear hK K
          refine norm_ (a' := ?_) ?_ ?_
          rotate_left
          · show Act.put _ (some 17) _ = _
            simp only [Act.put, List.setIfInBounds_toArray, List.set_cons_zero, List.set_cons_succ, i64_w, i32_w]
            rfl
          refine pure_ (i := 6) (N := some 18) (v := ?_) (a' := ?_) #[true, true, true, true, true, true, true, false, false, false, false, false, false, false, false, false, false, false, false, false, false, false, false, false] rfl rfl (any_of HT_.out (by kernel_rfl)) (fun _ _ _ h => h) (Or.inl ⟨by rfl, ?_⟩) ?_ ?_
          rotate_left
          · intro w'
            go_simp
            with_reducible rfl
          rotate_left
          · simp only [Act.put, List.setIfInBounds_toArray, List.set_cons_zero, List.set_cons_succ, i64_w, i32_w]
            rfl
          refine pure_ (i := 7) (N := some 19) (v := ?_) (a' := ?_) #[true, true, true, true, true, true, true, true, false, false, false, false, false, false, false, false, false, false, false, false, false, false, false, false] rfl rfl (any_of HT_.out (by kernel_rfl)) (fun _ _ _ h => h) (Or.inl ⟨by rfl, ?_⟩) ?_ ?_
          rotate_left
          · intro w'
            go_simp
            with_reducible rfl
          rotate_left
          · simp only [Act.put, List.setIfInBounds_toArray, List.set_cons_zero, List.set_cons_succ, i64_w, i32_w]
            rfl
          refine pure_ (i := 8) (N := some 20) (v := ?_) (a' := ?_) #[true, true, true, true, true, true, true, true, true, false, false, false, false, false, false, false, false, false, false, false, false, false, false, false] rfl rfl (any_of HT_.out (by kernel_rfl)) (fun _ _ _ h => h) (Or.inl ⟨by rfl, ?_⟩) ?_ ?_
          rotate_left
          · intro w'
            go_simp
            with_reducible rfl
          rotate_left
          · simp only [Act.put, List.setIfInBounds_toArray, List.set_cons_zero, List.set_cons_succ, i64_w, i32_w]
            rfl
          refine pure_ (i := 9) (N := some 21) (v := ?_) (a' := ?_) #[true, true, true, true, true, true, true, true, true, true, false, false, false, false, false, false, false, false, false, false, false, false, false, false] rfl rfl (any_of HT_.out (by kernel_rfl)) (fun _ _ _ h => h) (Or.inl ⟨by rfl, ?_⟩) ?_ ?_
          rotate_left
          · intro w'
            go_simp
            with_reducible rfl
          rotate_left
          · simp only [Act.put, List.setIfInBounds_toArray, List.set_cons_zero, List.set_cons_succ, i64_w, i32_w]
            rfl
          refine pure_ (i := 10) (N := some 22) (v := ?_) (a' := ?_) #[true, true, true, true, true, true, true, true, true, true, true, false, false, false, false, false, false, false, false, false, false, false, false, false] rfl rfl (any_of HT_.out (by kernel_rfl)) (fun _ _ _ h => h) (Or.inl ⟨by rfl, ?_⟩) ?_ ?_
          rotate_left
          · intro w'
            go_simp
            with_reducible rfl
          rotate_left
          · simp only [Act.put, List.setIfInBounds_toArray, List.set_cons_zero, List.set_cons_succ, i64_w, i32_w]
            rfl
          refine pure_ (i := 11) (N := some 23) (v := ?_) (a' := ?_) #[true, true, true, true, true, true, true, true, true, true, true, true, false, false, false, false, false, false, false, false, false, false, false, false] rfl rfl (any_of HT_.out (by kernel_rfl)) (fun _ _ _ h => h) (Or.inl ⟨by rfl, ?_⟩) ?_ ?_
          rotate_left
          · intro w'
            go_simp
            with_reducible rfl
          rotate_left
          · simp only [Act.put, List.setIfInBounds_toArray, List.set_cons_zero, List.set_cons_succ, i64_w, i32_w]
            rfl
          refine pure_ (i := 12) (N := some 24) (v := ?_) (a' := ?_) #[true, true, true, true, true, true, true, true, true, true, true, true, true, false, false, false, false, false, false, false, false, false, false, false] rfl rfl (any_of HT_.out (by kernel_rfl)) (fun _ _ _ h => h) (Or.inl ⟨by rfl, ?_⟩) ?_ ?_
          rotate_left
          · intro w'
            go_simp
            with_reducible rfl
          rotate_left
          · simp only [Act.put, List.setIfInBounds_toArray, List.set_cons_zero, List.set_cons_succ, i64_w, i32_w]
            rfl
          refine pure_ (i := 13) (N := some 25) (v := ?_) (a' := ?_) #[true, true, true, true, true, true, true, true, true, true, true, true, true, true, false, false, false, false, false, false, false, false, false, false] rfl rfl (any_of HT_.out (by kernel_rfl)) (fun _ _ _ h => h) (Or.inl ⟨by rfl, ?_⟩) ?_ ?_
          rotate_left
          · intro w'
            go_simp
            with_reducible rfl
          rotate_left
          · simp only [Act.put, List.setIfInBounds_toArray, List.set_cons_zero, List.set_cons_succ, i64_w, i32_w]
            rfl
          refine pure_ (i := 14) (N := some 26) (v := ?_) (a' := ?_) #[true, true, true, true, true, true, true, true, true, true, true, true, true, true, true, false, false, false, false, false, false, false, false, false] rfl rfl (any_of HT_.out (by kernel_rfl)) (fun _ _ _ h => h) (Or.inl ⟨by rfl, ?_⟩) ?_ ?_
          rotate_left
          · intro w'
            go_simp
            with_reducible rfl
          rotate_left
          · simp only [Act.put, List.setIfInBounds_toArray, List.set_cons_zero, List.set_cons_succ, i64_w, i32_w]
            rfl
          refine take_ (i := 15) (N := some 27) (v := ?_) (a' := ?_) #[true, true, true, true, true, true, true, true, true, true, true, true, true, true, true, true, false, false, false, false, false, false, false, false] rfl rfl (take_ofW HT_.out HW_.out (by kernel_rfl)) (fun _ _ _ h => h) (Or.inl ⟨by rfl, ?_⟩) hHeld ?_ ?_
          rotate_left
          · rintro w' ⟨s0, s1, s2, s3, s4, s5, s6, s7, s8, s9, s10, s11, s12, s13, s14, s15, s16⟩
            go_simp
            with_reducible rfl
          rotate_left
          · simp only [Act.put, List.setIfInBounds_toArray, List.set_cons_zero, List.set_cons_succ, i64_w, i32_w]
            rfl
          refine pure_ (i := 16) (N := some 28) (v := ?_) (a' := ?_) #[true, true, true, true, true, true, true, true, true, true, true, true, true, true, true, true, true, false, false, false, false, false, false, false] rfl rfl (any_of HT_.out (by kernel_rfl)) (fun _ _ _ h => h) (Or.inl ⟨by rfl, ?_⟩) ?_ ?_
          rotate_left
          · intro w'
            go_simp
            with_reducible rfl
          rotate_left
          · simp only [Act.put, List.setIfInBounds_toArray, List.set_cons_zero, List.set_cons_succ, i64_w, i32_w]
            rfl
          refine pure_ (i := 17) (N := some 29) (v := ?_) (a' := ?_) #[true, true, true, true, true, true, true, true, true, true, true, true, true, true, true, true, true, true, false, false, false, false, false, false] rfl rfl (any_of HT_.out (by kernel_rfl)) (fun _ _ _ h => h) (Or.inl ⟨by rfl, ?_⟩) ?_ ?_
          rotate_left
          · intro w'
            go_simp
            with_reducible rfl
          rotate_left
          · simp only [Act.put, List.setIfInBounds_toArray, List.set_cons_zero, List.set_cons_succ, i64_w, i32_w]
            rfl
          refine pure_ (i := 18) (N := some 30) (v := ?_) (a' := ?_) #[true, true, true, true, true, true, true, true, true, true, true, true, true, true, true, true, true, true, true, false, false, false, false, false] rfl rfl (any_of HT_.out (by kernel_rfl)) (fun _ _ _ h => h) (Or.inl ⟨by rfl, ?_⟩) ?_ ?_
          rotate_left
          · intro w'
            go_simp
            with_reducible rfl
          rotate_left
          · simp only [Act.put, List.setIfInBounds_toArray, List.set_cons_zero, List.set_cons_succ, i64_w, i32_w]
            rfl
          refine pure_ (i := 19) (N := some 31) (v := ?_) (a' := ?_) #[true, true, true, true, true, true, true, true, true, true, true, true, true, true, true, true, true, true, true, true, false, false, false, false] rfl rfl (any_of HT_.out (by kernel_rfl)) (fun _ _ _ h => h) (Or.inl ⟨by rfl, ?_⟩) ?_ ?_
          rotate_left
          · intro w'
            go_simp
            with_reducible rfl
          rotate_left
          · simp only [Act.put, List.setIfInBounds_toArray, List.set_cons_zero, List.set_cons_succ, i64_w, i32_w]
            rfl
          refine pure_ (i := 20) (N := some 32) (v := ?_) (a' := ?_) #[true, true, true, true, true, true, true, true, true, true, true, true, true, true, true, true, true, true, true, true, true, false, false, false] rfl rfl (any_of HT_.out (by kernel_rfl)) (fun _ _ _ h => h) (Or.inl ⟨by rfl, ?_⟩) ?_ ?_
          rotate_left
          · intro w'
            go_simp
            with_reducible rfl
          rotate_left
          · simp only [Act.put, List.setIfInBounds_toArray, List.set_cons_zero, List.set_cons_succ, i64_w, i32_w]
            rfl
          refine pure_ (i := 21) (N := some 33) (v := ?_) (a' := ?_) #[true, true, true, true, true, true, true, true, true, true, true, true, true, true, true, true, true, true, true, true, true, true, false, false] rfl rfl (any_of HT_.out (by kernel_rfl)) (fun _ _ _ h => h) (Or.inl ⟨by rfl, ?_⟩) ?_ ?_
          rotate_left
          · intro w'
            go_simp
            with_reducible rfl
          rotate_left
          · simp only [Act.put, List.setIfInBounds_toArray, List.set_cons_zero, List.set_cons_succ, i64_w, i32_w]
            rfl
          refine pure_ (i := 22) (N := some 34) (v := ?_) (a' := ?_) #[true, true, true, true, true, true, true, true, true, true, true, true, true, true, true, true, true, true, true, true, true, true, true, false] rfl rfl (any_of HT_.out (by kernel_rfl)) (fun _ _ _ h => h) (Or.inl ⟨by rfl, ?_⟩) ?_ ?_
          rotate_left
          · intro w'
            go_simp
            with_reducible rfl
          rotate_left
          · simp only [Act.put, List.setIfInBounds_toArray, List.set_cons_zero, List.set_cons_succ, i64_w, i32_w]
            rfl
          refine pure_ (i := 23) (N := some 0) (v := ?_) (a' := ?_) #[true, true, true, true, true, true, true, true, true, true, true, true, true, true, true, true, true, true, true, true, true, true, true, true] rfl rfl (any_of HT_.out (by kernel_rfl)) (fun _ _ _ h => h) (Or.inl ⟨by rfl, ?_⟩) ?_ ?_
          rotate_left
          · intro w'
            go_simp
            with_reducible rfl
          rotate_left
          · simp only [Act.put, List.setIfInBounds_toArray, List.set_cons_zero, List.set_cons_succ, i64_w, i32_w]
            rfl
          refine done_ (done_of HT_.out (by kernel_rfl)) ?_
          try go_wp2
          go_ret
          exact ⟨by first | rfl | (simp [errW_none, errW_some] <;> rfl) | (simp [*, errW_none, errW_some] <;> rfl), by repeat (first | (with_reducible first | exact HB.out | apply below_alloc | apply pw_below_drewN | apply below_drew1 | refine below_set ?_ GE112.out) | exact HB.out)⟩
        · exact absurd (by rw [z2]; rfl) c8
      · exact absurd (by rw [z2]; decide) c7
    · exact absurd (by rw [z2]; rfl) c6
  · exact absurd (by obtain ⟨e1, e2⟩ : t122 = t124 ∧ t123 = t125 := (by have h := A4.out; unfold carapaceref02_Block.f at h; rw [A3.out] at h; injection h with h; injection h with h1 h2; exact ⟨h1, h2⟩); rw [e1, e2]; simp) c5
end Go.Proofs.Ytmibdlapjddfoaa.QXtea
