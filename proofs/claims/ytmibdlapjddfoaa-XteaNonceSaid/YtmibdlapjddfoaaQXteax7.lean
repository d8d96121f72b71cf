-- Text written by a program of this session (wip/tools).
import Derived.Test.YtmibdlapjddfoaaQXteax0
import Derived.Test.YtmibdlapjddfoaaQXteax1
import Derived.Test.YtmibdlapjddfoaaQXteax2
import Derived.Test.YtmibdlapjddfoaaQXteax4
namespace Go.Proofs.Ytmibdlapjddfoaa.QXtea
open Go.RowKit Go.Proofs.YtmibdlapjddfoaaW.PrintWords Go.Proofs.YtmibdlapjddfoaaW.PrintLast Go.Proofs.YtmibdlapjddfoaaW.PrintMore
attribute [local go_sem] max2_int min2_int max_two min_two max_three min_three max_four min_four   -- for this text's walks alone
set_option linter.unusedVariables false
set_option linter.unusedSimpArgs false

attribute [local go_sem high] eqA46
/-! ### carapacelaw02_XteaNonce: function 14 -/
def carapacelaw02_XteaNonce.f (k : Nat) (a0_0 : Int) (a0_1 : Int) (a0_2 : Int) (a0_3 : Int) (a0_4 : Int) (a0_5 : Int) (a0_6 : Int) (a0_7 : Int) (a0_8 : Int) (a0_9 : Int) (a0_10 : Int) (a0_11 : Int) (a0_12 : Int) (a0_13 : Int) (a0_14 : Int) (a0_15 : Int) (a1_0 : Int) (a1_1 : Int) (a1_2 : Int) (a2_0 : Int) (a2_1 : Int) : Option (Bool) := (carapacelaw02_awake.f).bind fun t185 => (if 20 ≤ 281474976710656 then ((some (List.replicate 20 0 : List Int)).bind fun y186 => ((xtea_From.f a0_0 a0_1 a0_2 a0_3 a0_4 a0_5 a0_6 a0_7 a0_8 a0_9 a0_10 a0_11 a0_12 a0_13 a0_14 a0_15 a1_0 a1_1 a1_2 y186).bind fun t189 => ((xtea_Stream.f a0_0 a0_1 a0_2 a0_3 a0_4 a0_5 a0_6 a0_7 a0_8 a0_9 a0_10 a0_11 a0_12 a0_13 a0_14 a0_15 ((a1_0 + a1_2) % 4294967296) a1_1 y186).bind fun t192 => ((carapaceref01_Same.f k t189 t192).bind fun t195 => (if t185 = true then (if t195 = true then ((xtea_Block.f a0_0 a0_1 a0_2 a0_3 a0_4 a0_5 a0_6 a0_7 a0_8 a0_9 a0_10 a0_11 a0_12 a0_13 a0_14 a0_15 a2_0 a2_1).bind fun bt197 => ((xtea_Block.f a0_0 a0_1 a0_2 a0_3 a0_4 a0_5 a0_6 a0_7 a0_8 a0_9 a0_10 a0_11 a0_12 a0_13 a0_14 a0_15 a1_0 a1_1).bind fun bt199 => (some ((bt197.1 == bt199.1 && (bt197.2 == bt199.2)) == (a2_0 == a1_0 && (a2_1 == a1_1)))))) else (some false)) else (some false)))))) else (none))
theorem carapacelaw02_XteaNonce.mono : ∀ a0 a1 a2 a3 a4 a5 a6 a7 a8 a9 a10 a11 a12 a13 a14 a15 a16 a17 a18 a19 a20 k, LeO (carapacelaw02_XteaNonce.f k a0 a1 a2 a3 a4 a5 a6 a7 a8 a9 a10 a11 a12 a13 a14 a15 a16 a17 a18 a19 a20) (carapacelaw02_XteaNonce.f (k + 1) a0 a1 a2 a3 a4 a5 a6 a7 a8 a9 a10 a11 a12 a13 a14 a15 a16 a17 a18 a19 a20) := by
  intro a0 a1 a2 a3 a4 a5 a6 a7 a8 a9 a10 a11 a12 a13 a14 a15 a16 a17 a18 a19 a20 k
  unfold carapacelaw02_XteaNonce.f
  repeat' first
      | (with_reducible exact carapaceref01_Same.mono _ _ _)
      | (with_reducible exact LeO.refl _)
      | (with_reducible exact LeO.none _)
      | (with_reducible refine LeO.ite ?_ ?_)
      | (with_reducible refine LeO.bind ?_ (fun _ => ?_))
      | exact carapaceref01_Same.mono _ _ _
      | exact LeO.none _
      | refine LeO.ite ?_ ?_
      | refine LeO.bind ?_ (fun _ => ?_)
def carapacelaw02_XteaNonce.T7 : Bool × List (List Nat × List Nat) := (true, [([], []), ([0], [0]), ([1], [1]), ([1, 2], [1, 2]), ([3, 1], [3]), ([4], [4]), ([4], [4]), ([5, 6, 4, 4], [4, 5, 6]), ([4], [4]), ([4], [4]), ([8, 9, 7, 4], [4, 8, 9]), ([7, 10, 4], [4, 7, 10]), ([4], [4]), ([4], [4]), ([12, 13, 4], [4, 12, 13]), ([11, 14, 4], [4, 11, 14]), ([4, 15], [4, 15]), ([16, 10, 0, 1, 2, 3, 4, 5, 6, 7, 8, 9, 10, 11, 12, 13, 14, 15, 16], [16])])
def carapacelaw02_XteaNonce.B7 : List Nat := [0, 1, 3, 7, 15, 31, 31, 127, 31, 31, 1023, 2047, 31, 31, 12319, 32767, 65535, 131071]
theorem carapacelaw02_XteaNonce.tab7 : rtab .any (opsOf Try.f14 7) = carapacelaw02_XteaNonce.T7 := by kernel_rfl
theorem carapacelaw02_XteaNonce.bits7 : waitsOk carapacelaw02_XteaNonce.T7.2 carapacelaw02_XteaNonce.B7 = true := by kernel_rfl
set_option maxHeartbeats 8000000 in
set_option maxRecDepth 100000 in
theorem carapacelaw02_XteaNonce.calls (k : Nat) (a0_0 : Int) (a0_1 : Int) (a0_2 : Int) (a0_3 : Int) (a0_4 : Int) (a0_5 : Int) (a0_6 : Int) (a0_7 : Int) (a0_8 : Int) (a0_9 : Int) (a0_10 : Int) (a0_11 : Int) (a0_12 : Int) (a0_13 : Int) (a0_14 : Int) (a0_15 : Int) (a1_0 : Int) (a1_1 : Int) (a1_2 : Int) (a2_0 : Int) (a2_1 : Int) (r : Bool) (hrt : Aside0 (r = true)) (w : World) (h : carapacelaw02_XteaNonce.f k a0_0 a0_1 a0_2 a0_3 a0_4 a0_5 a0_6 a0_7 a0_8 a0_9 a0_10 a0_11 a0_12 a0_13 a0_14 a0_15 a1_0 a1_1 a1_2 a2_0 a2_1 = some r) :
    Calls Try.prog 14 #[.agg #[.int .u8 a0_0, .int .u8 a0_1, .int .u8 a0_2, .int .u8 a0_3, .int .u8 a0_4, .int .u8 a0_5, .int .u8 a0_6, .int .u8 a0_7, .int .u8 a0_8, .int .u8 a0_9, .int .u8 a0_10, .int .u8 a0_11, .int .u8 a0_12, .int .u8 a0_13, .int .u8 a0_14, .int .u8 a0_15], .agg #[.int .u32 a1_0, .int .u32 a1_1, .int .u32 a1_2], .agg #[.int .u32 a2_0, .int .u32 a2_1]] w fun e w' => e = .returned (.bool r) ∧ Below w.heap.size w w' := by
  have hu44 := Try.underlying44
  have hu45 := Try.underlying45
  have hu46 := Try.underlying46
  have hu47 := Try.underlying47
  have HB := Aside0.mk (Below.refl w.heap.size w)
  have H : ((carapacelaw02_awake.f).bind fun t185 => (if 20 ≤ 281474976710656 then ((some (List.replicate 20 0 : List Int)).bind fun y186 => ((xtea_From.f a0_0 a0_1 a0_2 a0_3 a0_4 a0_5 a0_6 a0_7 a0_8 a0_9 a0_10 a0_11 a0_12 a0_13 a0_14 a0_15 a1_0 a1_1 a1_2 y186).bind fun t189 => ((xtea_Stream.f a0_0 a0_1 a0_2 a0_3 a0_4 a0_5 a0_6 a0_7 a0_8 a0_9 a0_10 a0_11 a0_12 a0_13 a0_14 a0_15 ((a1_0 + a1_2) % 4294967296) a1_1 y186).bind fun t192 => ((carapaceref01_Same.f k t189 t192).bind fun t195 => (if t185 = true then (if t195 = true then ((xtea_Block.f a0_0 a0_1 a0_2 a0_3 a0_4 a0_5 a0_6 a0_7 a0_8 a0_9 a0_10 a0_11 a0_12 a0_13 a0_14 a0_15 a2_0 a2_1).bind fun bt197 => ((xtea_Block.f a0_0 a0_1 a0_2 a0_3 a0_4 a0_5 a0_6 a0_7 a0_8 a0_9 a0_10 a0_11 a0_12 a0_13 a0_14 a0_15 a1_0 a1_1).bind fun bt199 => (some ((bt197.1 == bt199.1 && (bt197.2 == bt199.2)) == (a2_0 == a1_0 && (a2_1 == a1_1)))))) else (some false)) else (some false)))))) else (none))) = some r := h
  clear h
  replace H := Option.bind_eq_some_iff.mp H
  obtain ⟨t185, A40, H⟩ := H
  replace H : (if 20 ≤ 281474976710656 then ((some (List.replicate 20 0 : List Int)).bind fun y186 => ((xtea_From.f a0_0 a0_1 a0_2 a0_3 a0_4 a0_5 a0_6 a0_7 a0_8 a0_9 a0_10 a0_11 a0_12 a0_13 a0_14 a0_15 a1_0 a1_1 a1_2 y186).bind fun t189 => ((xtea_Stream.f a0_0 a0_1 a0_2 a0_3 a0_4 a0_5 a0_6 a0_7 a0_8 a0_9 a0_10 a0_11 a0_12 a0_13 a0_14 a0_15 ((a1_0 + a1_2) % 4294967296) a1_1 y186).bind fun t192 => ((carapaceref01_Same.f k t189 t192).bind fun t195 => (if t185 = true then (if t195 = true then ((xtea_Block.f a0_0 a0_1 a0_2 a0_3 a0_4 a0_5 a0_6 a0_7 a0_8 a0_9 a0_10 a0_11 a0_12 a0_13 a0_14 a0_15 a2_0 a2_1).bind fun bt197 => ((xtea_Block.f a0_0 a0_1 a0_2 a0_3 a0_4 a0_5 a0_6 a0_7 a0_8 a0_9 a0_10 a0_11 a0_12 a0_13 a0_14 a0_15 a1_0 a1_1).bind fun bt199 => (some ((bt197.1 == bt199.1 && (bt197.2 == bt199.2)) == (a2_0 == a1_0 && (a2_1 == a1_1)))))) else (some false)) else (some false)))))) else (none)) = some r := H
  have A4 := Aside0.mk A40
  clear A40
  by_cases c5 : 20 ≤ 281474976710656
  · rw [if_pos c5] at H
    have c5b0 := eq_true c5
    have c5b1 : decide (20 ≤ 281474976710656) = true := decide_eq_true c5
    clear c5
    obtain ⟨y186, hy186⟩ : ∃ y_ : List Int, y_ = (List.replicate 20 0) := ⟨_, rfl⟩
    replace H : ((xtea_From.f a0_0 a0_1 a0_2 a0_3 a0_4 a0_5 a0_6 a0_7 a0_8 a0_9 a0_10 a0_11 a0_12 a0_13 a0_14 a0_15 a1_0 a1_1 a1_2 y186).bind fun t189 => ((xtea_Stream.f a0_0 a0_1 a0_2 a0_3 a0_4 a0_5 a0_6 a0_7 a0_8 a0_9 a0_10 a0_11 a0_12 a0_13 a0_14 a0_15 ((a1_0 + a1_2) % 4294967296) a1_1 y186).bind fun t192 => ((carapaceref01_Same.f k t189 t192).bind fun t195 => (if t185 = true then (if t195 = true then ((xtea_Block.f a0_0 a0_1 a0_2 a0_3 a0_4 a0_5 a0_6 a0_7 a0_8 a0_9 a0_10 a0_11 a0_12 a0_13 a0_14 a0_15 a2_0 a2_1).bind fun bt197 => ((xtea_Block.f a0_0 a0_1 a0_2 a0_3 a0_4 a0_5 a0_6 a0_7 a0_8 a0_9 a0_10 a0_11 a0_12 a0_13 a0_14 a0_15 a1_0 a1_1).bind fun bt199 => (some ((bt197.1 == bt199.1 && (bt197.2 == bt199.2)) == (a2_0 == a1_0 && (a2_1 == a1_1)))))) else (some false)) else (some false))))) = some r := by first | (rw [hy186]; with_reducible exact H) | (have H2_ := (Option.bind_some _ _).symm.trans H; rw [hy186]; with_reducible exact H2_) | (have H2_ := (Option.bind_some _ _).symm.trans H; with_reducible exact H2_) | with_reducible exact H | (rw [hy186]; exact H) | exact H
    have Ny186 := Aside0.mk hy186
    clear hy186
    replace H := Option.bind_eq_some_iff.mp H
    obtain ⟨t189, A60, H⟩ := H
    replace H : ((xtea_Stream.f a0_0 a0_1 a0_2 a0_3 a0_4 a0_5 a0_6 a0_7 a0_8 a0_9 a0_10 a0_11 a0_12 a0_13 a0_14 a0_15 ((a1_0 + a1_2) % 4294967296) a1_1 y186).bind fun t192 => ((carapaceref01_Same.f k t189 t192).bind fun t195 => (if t185 = true then (if t195 = true then ((xtea_Block.f a0_0 a0_1 a0_2 a0_3 a0_4 a0_5 a0_6 a0_7 a0_8 a0_9 a0_10 a0_11 a0_12 a0_13 a0_14 a0_15 a2_0 a2_1).bind fun bt197 => ((xtea_Block.f a0_0 a0_1 a0_2 a0_3 a0_4 a0_5 a0_6 a0_7 a0_8 a0_9 a0_10 a0_11 a0_12 a0_13 a0_14 a0_15 a1_0 a1_1).bind fun bt199 => (some ((bt197.1 == bt199.1 && (bt197.2 == bt199.2)) == (a2_0 == a1_0 && (a2_1 == a1_1)))))) else (some false)) else (some false)))) = some r := H
    have A6 := Aside0.mk A60
    clear A60
    replace H := Option.bind_eq_some_iff.mp H
    obtain ⟨t192, A70, H⟩ := H
    replace H : ((carapaceref01_Same.f k t189 t192).bind fun t195 => (if t185 = true then (if t195 = true then ((xtea_Block.f a0_0 a0_1 a0_2 a0_3 a0_4 a0_5 a0_6 a0_7 a0_8 a0_9 a0_10 a0_11 a0_12 a0_13 a0_14 a0_15 a2_0 a2_1).bind fun bt197 => ((xtea_Block.f a0_0 a0_1 a0_2 a0_3 a0_4 a0_5 a0_6 a0_7 a0_8 a0_9 a0_10 a0_11 a0_12 a0_13 a0_14 a0_15 a1_0 a1_1).bind fun bt199 => (some ((bt197.1 == bt199.1 && (bt197.2 == bt199.2)) == (a2_0 == a1_0 && (a2_1 == a1_1)))))) else (some false)) else (some false))) = some r := H
    have A7 := Aside0.mk A70
    clear A70
    replace H := Option.bind_eq_some_iff.mp H
    obtain ⟨t195, A80, H⟩ := H
    replace H : (if t185 = true then (if t195 = true then ((xtea_Block.f a0_0 a0_1 a0_2 a0_3 a0_4 a0_5 a0_6 a0_7 a0_8 a0_9 a0_10 a0_11 a0_12 a0_13 a0_14 a0_15 a2_0 a2_1).bind fun bt197 => ((xtea_Block.f a0_0 a0_1 a0_2 a0_3 a0_4 a0_5 a0_6 a0_7 a0_8 a0_9 a0_10 a0_11 a0_12 a0_13 a0_14 a0_15 a1_0 a1_1).bind fun bt199 => (some ((bt197.1 == bt199.1 && (bt197.2 == bt199.2)) == (a2_0 == a1_0 && (a2_1 == a1_1)))))) else (some false)) else (some false)) = some r := H
    have A8 := Aside0.mk A80
    clear A80
    by_cases c9 : t185 = true
    · subst c9
      have H1 : (if t195 = true then ((xtea_Block.f a0_0 a0_1 a0_2 a0_3 a0_4 a0_5 a0_6 a0_7 a0_8 a0_9 a0_10 a0_11 a0_12 a0_13 a0_14 a0_15 a2_0 a2_1).bind fun bt197 => ((xtea_Block.f a0_0 a0_1 a0_2 a0_3 a0_4 a0_5 a0_6 a0_7 a0_8 a0_9 a0_10 a0_11 a0_12 a0_13 a0_14 a0_15 a1_0 a1_1).bind fun bt199 => (some ((bt197.1 == bt199.1 && (bt197.2 == bt199.2)) == (a2_0 == a1_0 && (a2_1 == a1_1)))))) else (some false)) = some r := by rw [if_pos rfl] at H; exact H
      clear H
      have H := H1
      clear H1
      by_cases c10 : t195 = true
      · subst c10
        have H1 : ((xtea_Block.f a0_0 a0_1 a0_2 a0_3 a0_4 a0_5 a0_6 a0_7 a0_8 a0_9 a0_10 a0_11 a0_12 a0_13 a0_14 a0_15 a2_0 a2_1).bind fun bt197 => ((xtea_Block.f a0_0 a0_1 a0_2 a0_3 a0_4 a0_5 a0_6 a0_7 a0_8 a0_9 a0_10 a0_11 a0_12 a0_13 a0_14 a0_15 a1_0 a1_1).bind fun bt199 => (some ((bt197.1 == bt199.1 && (bt197.2 == bt199.2)) == (a2_0 == a1_0 && (a2_1 == a1_1)))))) = some r := by rw [if_pos rfl] at H; exact H
        clear H
        have H := H1
        clear H1
        replace H := Option.bind_eq_some_iff.mp H
        obtain ⟨⟨t197, t198⟩, A110, H⟩ := H
        replace H : ((xtea_Block.f a0_0 a0_1 a0_2 a0_3 a0_4 a0_5 a0_6 a0_7 a0_8 a0_9 a0_10 a0_11 a0_12 a0_13 a0_14 a0_15 a1_0 a1_1).bind fun bt199 => (some ((t197 == bt199.1 && (t198 == bt199.2)) == (a2_0 == a1_0 && (a2_1 == a1_1))))) = some r := H
        have A11 := Aside0.mk A110
        clear A110
        replace H := Option.bind_eq_some_iff.mp H
        obtain ⟨⟨t199, t200⟩, A120, H⟩ := H
        replace H : (some ((t197 == t199 && (t198 == t200)) == (a2_0 == a1_0 && (a2_1 == a1_1)))) = some r := H
        have A12 := Aside0.mk A120
        clear A120
        obtain rfl := Option.some.inj H
        go_enter Try.func14, Try.ntmps14
        try go_wp2_with (first | ((with_reducible refine gate_dst (N := 3) rfl ?_); refine box_event ?hg (N := 3) ?hd (cs := #[.int .u8 a0_0, .int .u8 a0_1, .int .u8 a0_2, .int .u8 a0_3, .int .u8 a0_4, .int .u8 a0_5, .int .u8 a0_6, .int .u8 a0_7, .int .u8 a0_8, .int .u8 a0_9, .int .u8 a0_10, .int .u8 a0_11, .int .u8 a0_12, .int .u8 a0_13, .int .u8 a0_14, .int .u8 a0_15]) (t := 44) ?hr ?_; (case hd => rfl); (case hg => rfl); (case hr => first | (go_simp; done) | (go_simp; rfl)); intro gb182 hg w13 hbox hb; have n0_ := Aside0.mk (below_step (by repeat (first | (with_reducible first | exact HB.out | apply below_alloc | apply pw_below_drewN | apply below_drew1) | exact HB.out)) hb); have n1_ := Aside0.mk (hbox); have n2_ := Aside0.mk ((by rw [hg]; exact (below_size (by repeat (first | (with_reducible first | exact HB.out | apply below_alloc | apply pw_below_drewN | apply below_drew1) | exact HB.out))) : w.heap.size ≤ gb182)); have n3_ := Aside0.mk ((by rw [hg]; exact (below_size (by repeat (first | (with_reducible first | exact HB.out | apply below_alloc | apply pw_below_drewN | apply below_drew1) | exact HB.out))) : w.heap.size ≤ gb182)); clear HB; have HB := n0_; have BK182 := n1_; have GW182 := n2_; have GE182 := n3_; clear n0_ n1_ n2_ n3_; clear hb hbox hg) | ((with_reducible refine gate_dst (N := 4) rfl ?_); refine box_event ?hg (N := 4) ?hd (cs := #[.int .u32 a1_0, .int .u32 a1_1, .int .u32 a1_2]) (t := 45) ?hr ?_; (case hd => rfl); (case hg => rfl); (case hr => first | (go_simp; done) | (go_simp; rfl)); intro gb183 hg w14 hbox hb; have n0_ := Aside0.mk (blk_below (g := gb182) (o := .cells #[.int .u8 a0_0, .int .u8 a0_1, .int .u8 a0_2, .int .u8 a0_3, .int .u8 a0_4, .int .u8 a0_5, .int .u8 a0_6, .int .u8 a0_7, .int .u8 a0_8, .int .u8 a0_9, .int .u8 a0_10, .int .u8 a0_11, .int .u8 a0_12, .int .u8 a0_13, .int .u8 a0_14, .int .u8 a0_15] 44 (0, 0)) (by (with_reducible repeat (first | refine blk_drewN ?_ _ | refine blk_drew ?_ | refine blk_alloc ?_ _)); exact BK182.out) hb); have n1_ := Aside0.mk (below_step (by repeat (first | (with_reducible first | exact HB.out | apply below_alloc | apply pw_below_drewN | apply below_drew1 | refine below_set ?_ GE182.out) | exact HB.out)) hb); have n2_ := Aside0.mk (hbox); have n3_ := Aside0.mk ((by rw [hg]; exact (below_size (by repeat (first | (with_reducible first | exact HB.out | apply below_alloc | apply pw_below_drewN | apply below_drew1 | refine below_set ?_ GE182.out) | exact HB.out))) : w.heap.size ≤ gb183)); have n4_ := Aside0.mk ((by rw [hg]; exact (below_size (by repeat (first | (with_reducible first | exact HB.out | apply below_alloc | apply pw_below_drewN | apply below_drew1 | refine below_set ?_ GE182.out) | exact HB.out))) : w.heap.size ≤ gb183)); have n5_ := Aside0.mk ((by rw [hg]; exact Nat.ne_of_lt (blk_lt (g := gb182) (o := .cells #[.int .u8 a0_0, .int .u8 a0_1, .int .u8 a0_2, .int .u8 a0_3, .int .u8 a0_4, .int .u8 a0_5, .int .u8 a0_6, .int .u8 a0_7, .int .u8 a0_8, .int .u8 a0_9, .int .u8 a0_10, .int .u8 a0_11, .int .u8 a0_12, .int .u8 a0_13, .int .u8 a0_14, .int .u8 a0_15] 44 (0, 0)) (by (with_reducible repeat (first | refine blk_drewN ?_ _ | refine blk_drew ?_ | refine blk_alloc ?_ _)); exact BK182.out)) : gb182 ≠ gb183)); have n6_ := Aside0.mk ((by rw [hg]; exact Nat.ne_of_gt (blk_lt (g := gb182) (o := .cells #[.int .u8 a0_0, .int .u8 a0_1, .int .u8 a0_2, .int .u8 a0_3, .int .u8 a0_4, .int .u8 a0_5, .int .u8 a0_6, .int .u8 a0_7, .int .u8 a0_8, .int .u8 a0_9, .int .u8 a0_10, .int .u8 a0_11, .int .u8 a0_12, .int .u8 a0_13, .int .u8 a0_14, .int .u8 a0_15] 44 (0, 0)) (by (with_reducible repeat (first | refine blk_drewN ?_ _ | refine blk_drew ?_ | refine blk_alloc ?_ _)); exact BK182.out)) : gb183 ≠ gb182)); clear BK182; clear HB; have BK182 := n0_; have HB := n1_; have BK183 := n2_; have GW183 := n3_; have GE183 := n4_; have NB182_183 := n5_; have NB183_182 := n6_; clear n0_ n1_ n2_ n3_ n4_ n5_ n6_; clear hb hbox hg) | ((with_reducible refine gate_dst (N := 5) rfl ?_); refine box_event ?hg (N := 5) ?hd (cs := #[.int .u32 a2_0, .int .u32 a2_1]) (t := 46) ?hr ?_; (case hd => rfl); (case hg => rfl); (case hr => first | (go_simp; done) | (go_simp; rfl)); intro gb184 hg w15 hbox hb; have n0_ := Aside0.mk (blk_below (g := gb182) (o := .cells #[.int .u8 a0_0, .int .u8 a0_1, .int .u8 a0_2, .int .u8 a0_3, .int .u8 a0_4, .int .u8 a0_5, .int .u8 a0_6, .int .u8 a0_7, .int .u8 a0_8, .int .u8 a0_9, .int .u8 a0_10, .int .u8 a0_11, .int .u8 a0_12, .int .u8 a0_13, .int .u8 a0_14, .int .u8 a0_15] 44 (0, 0)) (by (with_reducible repeat (first | refine blk_drewN ?_ _ | refine blk_drew ?_ | refine blk_alloc ?_ _)); exact BK182.out) hb); have n1_ := Aside0.mk (blk_below (g := gb183) (o := .cells #[.int .u32 a1_0, .int .u32 a1_1, .int .u32 a1_2] 45 (0, 0)) (by (with_reducible repeat (first | refine blk_drewN ?_ _ | refine blk_drew ?_ | refine blk_alloc ?_ _)); exact BK183.out) hb); have n2_ := Aside0.mk (below_step (by repeat (first | (with_reducible first | exact HB.out | apply below_alloc | apply pw_below_drewN | apply below_drew1 | refine below_set ?_ GE182.out | refine below_set ?_ GE183.out) | exact HB.out)) hb); have n3_ := Aside0.mk (hbox); have n4_ := Aside0.mk ((by rw [hg]; exact (below_size (by repeat (first | (with_reducible first | exact HB.out | apply below_alloc | apply pw_below_drewN | apply below_drew1 | refine below_set ?_ GE182.out | refine below_set ?_ GE183.out) | exact HB.out))) : w.heap.size ≤ gb184)); have n5_ := Aside0.mk ((by rw [hg]; exact (below_size (by repeat (first | (with_reducible first | exact HB.out | apply below_alloc | apply pw_below_drewN | apply below_drew1 | refine below_set ?_ GE182.out | refine below_set ?_ GE183.out) | exact HB.out))) : w.heap.size ≤ gb184)); have n6_ := Aside0.mk ((by rw [hg]; exact Nat.ne_of_lt (blk_lt (g := gb182) (o := .cells #[.int .u8 a0_0, .int .u8 a0_1, .int .u8 a0_2, .int .u8 a0_3, .int .u8 a0_4, .int .u8 a0_5, .int .u8 a0_6, .int .u8 a0_7, .int .u8 a0_8, .int .u8 a0_9, .int .u8 a0_10, .int .u8 a0_11, .int .u8 a0_12, .int .u8 a0_13, .int .u8 a0_14, .int .u8 a0_15] 44 (0, 0)) (by (with_reducible repeat (first | refine blk_drewN ?_ _ | refine blk_drew ?_ | refine blk_alloc ?_ _)); exact BK182.out)) : gb182 ≠ gb184)); have n7_ := Aside0.mk ((by rw [hg]; exact Nat.ne_of_gt (blk_lt (g := gb182) (o := .cells #[.int .u8 a0_0, .int .u8 a0_1, .int .u8 a0_2, .int .u8 a0_3, .int .u8 a0_4, .int .u8 a0_5, .int .u8 a0_6, .int .u8 a0_7, .int .u8 a0_8, .int .u8 a0_9, .int .u8 a0_10, .int .u8 a0_11, .int .u8 a0_12, .int .u8 a0_13, .int .u8 a0_14, .int .u8 a0_15] 44 (0, 0)) (by (with_reducible repeat (first | refine blk_drewN ?_ _ | refine blk_drew ?_ | refine blk_alloc ?_ _)); exact BK182.out)) : gb184 ≠ gb182)); have n8_ := Aside0.mk ((by rw [hg]; exact Nat.ne_of_lt (blk_lt (g := gb183) (o := .cells #[.int .u32 a1_0, .int .u32 a1_1, .int .u32 a1_2] 45 (0, 0)) (by (with_reducible repeat (first | refine blk_drewN ?_ _ | refine blk_drew ?_ | refine blk_alloc ?_ _)); exact BK183.out)) : gb183 ≠ gb184)); have n9_ := Aside0.mk ((by rw [hg]; exact Nat.ne_of_gt (blk_lt (g := gb183) (o := .cells #[.int .u32 a1_0, .int .u32 a1_1, .int .u32 a1_2] 45 (0, 0)) (by (with_reducible repeat (first | refine blk_drewN ?_ _ | refine blk_drew ?_ | refine blk_alloc ?_ _)); exact BK183.out)) : gb184 ≠ gb183)); clear BK182; clear BK183; clear HB; have BK182 := n0_; have BK183 := n1_; have HB := n2_; have BK184 := n3_; have GW184 := n4_; have GE184 := n5_; have NB182_184 := n6_; have NB184_182 := n7_; have NB183_184 := n8_; have NB184_183 := n9_; clear n0_ n1_ n2_ n3_ n4_ n5_ n6_ n7_ n8_ n9_; clear hb hbox hg) | ((with_reducible refine gate_callee (f := 33) rfl ?_); refine goesL_ (some 13) rfl rfl Try.func33 (by kernel_rfl) rfl #[] rfl (by (try simp only [List.map_toArray, List.map_cons, List.map_nil]); first | done | rfl | (simp only [List.length_drop, List.length_take]; rfl)) ?_; (with_reducible refine (carapacelaw02_awake.calls  true _ A4.out).mono ?_); rintro e w16 ⟨rfl, hb⟩; refine ⟨_, rfl, ?_⟩; have n0_ := Aside0.mk (blk_below (g := gb182) (o := .cells #[.int .u8 a0_0, .int .u8 a0_1, .int .u8 a0_2, .int .u8 a0_3, .int .u8 a0_4, .int .u8 a0_5, .int .u8 a0_6, .int .u8 a0_7, .int .u8 a0_8, .int .u8 a0_9, .int .u8 a0_10, .int .u8 a0_11, .int .u8 a0_12, .int .u8 a0_13, .int .u8 a0_14, .int .u8 a0_15] 44 (0, 0)) (by (with_reducible repeat (first | refine blk_drewN ?_ _ | refine blk_drew ?_ | refine blk_alloc ?_ _)); exact BK182.out) hb); have n1_ := Aside0.mk (blk_below (g := gb183) (o := .cells #[.int .u32 a1_0, .int .u32 a1_1, .int .u32 a1_2] 45 (0, 0)) (by (with_reducible repeat (first | refine blk_drewN ?_ _ | refine blk_drew ?_ | refine blk_alloc ?_ _)); exact BK183.out) hb); have n2_ := Aside0.mk (blk_below (g := gb184) (o := .cells #[.int .u32 a2_0, .int .u32 a2_1] 46 (0, 0)) (by (with_reducible repeat (first | refine blk_drewN ?_ _ | refine blk_drew ?_ | refine blk_alloc ?_ _)); exact BK184.out) hb); have n3_ := Aside0.mk (below_step (by repeat (first | (with_reducible first | exact HB.out | apply below_alloc | apply pw_below_drewN | apply below_drew1 | refine below_set ?_ GE182.out | refine below_set ?_ GE183.out | refine below_set ?_ GE184.out) | exact HB.out)) hb); clear BK182; clear BK183; clear BK184; clear HB; have BK182 := n0_; have BK183 := n1_; have BK184 := n2_; have HB := n3_; clear n0_ n1_ n2_ n3_; (try clear hb); (try clear hb2); (try clear hk); (try clear hi)) | ((with_reducible refine gate_dst (N := 14) rfl ?_); refine Kd.R_make (Kd.int .u8) _ 5 rfl (N := 14) rfl 23 _ _ rfl 20 rfl rfl Try.underlying23 (.int .u8 0) 1 info5 rfl (by decide) (by omega) 0 (ok := fun _ => True) (okp := fun _ => True) rfl (fun _ hk => hk) trivial (by omega) (by omega) (Below.refl _ _) (Nat.le_refl _) ?_; intro v187 w17 ho18 hb hg_ hnew_; clear hg_ hnew_; (first | rw [← Ny186.out] at ho18 | (simp only [Int.reduceToNat] at ho18; rw [← Ny186.out] at ho18)); have n0_ := Aside0.mk (Kd.R_lower ho18 (below_size (by repeat (first | (with_reducible first | exact HB.out | apply below_alloc | apply pw_below_drewN | apply below_drew1 | refine below_set ?_ GE182.out | refine below_set ?_ GE183.out | refine below_set ?_ GE184.out) | exact HB.out)))); have n1_ := Aside0.mk (blk_below (g := gb182) (o := .cells #[.int .u8 a0_0, .int .u8 a0_1, .int .u8 a0_2, .int .u8 a0_3, .int .u8 a0_4, .int .u8 a0_5, .int .u8 a0_6, .int .u8 a0_7, .int .u8 a0_8, .int .u8 a0_9, .int .u8 a0_10, .int .u8 a0_11, .int .u8 a0_12, .int .u8 a0_13, .int .u8 a0_14, .int .u8 a0_15] 44 (0, 0)) (by (with_reducible repeat (first | refine blk_drewN ?_ _ | refine blk_drew ?_ | refine blk_alloc ?_ _)); exact BK182.out) hb); have n2_ := Aside0.mk (blk_below (g := gb183) (o := .cells #[.int .u32 a1_0, .int .u32 a1_1, .int .u32 a1_2] 45 (0, 0)) (by (with_reducible repeat (first | refine blk_drewN ?_ _ | refine blk_drew ?_ | refine blk_alloc ?_ _)); exact BK183.out) hb); have n3_ := Aside0.mk (blk_below (g := gb184) (o := .cells #[.int .u32 a2_0, .int .u32 a2_1] 46 (0, 0)) (by (with_reducible repeat (first | refine blk_drewN ?_ _ | refine blk_drew ?_ | refine blk_alloc ?_ _)); exact BK184.out) hb); have n4_ := Aside0.mk (below_step (by repeat (first | (with_reducible first | exact HB.out | apply below_alloc | apply pw_below_drewN | apply below_drew1 | refine below_set ?_ GE182.out | refine below_set ?_ GE183.out | refine below_set ?_ GE184.out) | exact HB.out)) hb); clear BK182; clear BK183; clear BK184; clear HB; have HO188 := n0_; have BK182 := n1_; have BK183 := n2_; have BK184 := n3_; have HB := n4_; clear n0_ n1_ n2_ n3_ n4_; clear hb ho18; have hnb19 := NB182_183.out; have hnc19 := NB183_182.out; have hnb20 := NB182_184.out; have hnc20 := NB184_182.out; have hcz21_0 : w17.cell? ⟨gb182, 0, none⟩ = some (.int .u8 a0_0) := (blk_cell BK182.out 0).trans rfl; have hcz21_1 : w17.cell? ⟨gb182, 1, none⟩ = some (.int .u8 a0_1) := (blk_cell BK182.out 1).trans rfl; have hcz21_2 : w17.cell? ⟨gb182, 2, none⟩ = some (.int .u8 a0_2) := (blk_cell BK182.out 2).trans rfl; have hcz21_3 : w17.cell? ⟨gb182, 3, none⟩ = some (.int .u8 a0_3) := (blk_cell BK182.out 3).trans rfl; have hcz21_4 : w17.cell? ⟨gb182, 4, none⟩ = some (.int .u8 a0_4) := (blk_cell BK182.out 4).trans rfl; have hcz21_5 : w17.cell? ⟨gb182, 5, none⟩ = some (.int .u8 a0_5) := (blk_cell BK182.out 5).trans rfl; have hcz21_6 : w17.cell? ⟨gb182, 6, none⟩ = some (.int .u8 a0_6) := (blk_cell BK182.out 6).trans rfl; have hcz21_7 : w17.cell? ⟨gb182, 7, none⟩ = some (.int .u8 a0_7) := (blk_cell BK182.out 7).trans rfl; have hcz21_8 : w17.cell? ⟨gb182, 8, none⟩ = some (.int .u8 a0_8) := (blk_cell BK182.out 8).trans rfl; have hcz21_9 : w17.cell? ⟨gb182, 9, none⟩ = some (.int .u8 a0_9) := (blk_cell BK182.out 9).trans rfl; have hcz21_10 : w17.cell? ⟨gb182, 10, none⟩ = some (.int .u8 a0_10) := (blk_cell BK182.out 10).trans rfl; have hcz21_11 : w17.cell? ⟨gb182, 11, none⟩ = some (.int .u8 a0_11) := (blk_cell BK182.out 11).trans rfl; have hcz21_12 : w17.cell? ⟨gb182, 12, none⟩ = some (.int .u8 a0_12) := (blk_cell BK182.out 12).trans rfl; have hcz21_13 : w17.cell? ⟨gb182, 13, none⟩ = some (.int .u8 a0_13) := (blk_cell BK182.out 13).trans rfl; have hcz21_14 : w17.cell? ⟨gb182, 14, none⟩ = some (.int .u8 a0_14) := (blk_cell BK182.out 14).trans rfl; have hcz21_15 : w17.cell? ⟨gb182, 15, none⟩ = some (.int .u8 a0_15) := (blk_cell BK182.out 15).trans rfl; have hfz21_0 := blk_frozen BK182.out 0; have hfz21_1 := blk_frozen BK182.out 1; have hfz21_2 := blk_frozen BK182.out 2; have hfz21_3 := blk_frozen BK182.out 3; have hfz21_4 := blk_frozen BK182.out 4; have hfz21_5 := blk_frozen BK182.out 5; have hfz21_6 := blk_frozen BK182.out 6; have hfz21_7 := blk_frozen BK182.out 7; have hfz21_8 := blk_frozen BK182.out 8; have hfz21_9 := blk_frozen BK182.out 9; have hfz21_10 := blk_frozen BK182.out 10; have hfz21_11 := blk_frozen BK182.out 11; have hfz21_12 := blk_frozen BK182.out 12; have hfz21_13 := blk_frozen BK182.out 13; have hfz21_14 := blk_frozen BK182.out 14; have hfz21_15 := blk_frozen BK182.out 15; have hnb22 := NB183_184.out; have hnc22 := NB184_183.out; have hcz23_0 : w17.cell? ⟨gb183, 0, none⟩ = some (.int .u32 a1_0) := (blk_cell BK183.out 0).trans rfl; have hcz23_1 : w17.cell? ⟨gb183, 1, none⟩ = some (.int .u32 a1_1) := (blk_cell BK183.out 1).trans rfl; have hcz23_2 : w17.cell? ⟨gb183, 2, none⟩ = some (.int .u32 a1_2) := (blk_cell BK183.out 2).trans rfl; have hfz23_0 := blk_frozen BK183.out 0; have hfz23_1 := blk_frozen BK183.out 1; have hfz23_2 := blk_frozen BK183.out 2; obtain ⟨Ao24, co24, eo24⟩ := Kd.R_slice HO188.out; subst eo24) | ((with_reducible refine gate_callee (f := 34) rfl ?_); refine goesL_ (some 24) rfl rfl Try.func34 (by kernel_rfl) rfl #[.agg #[.int .u8 a0_0, .int .u8 a0_1, .int .u8 a0_2, .int .u8 a0_3, .int .u8 a0_4, .int .u8 a0_5, .int .u8 a0_6, .int .u8 a0_7, .int .u8 a0_8, .int .u8 a0_9, .int .u8 a0_10, .int .u8 a0_11, .int .u8 a0_12, .int .u8 a0_13, .int .u8 a0_14, .int .u8 a0_15], .agg #[.int .u32 a1_0, .int .u32 a1_1], .int .u32 a1_2, .slice Ao24 y186.length co24] rfl (by (try simp only [List.map_toArray, List.map_cons, List.map_nil]); first | done | rfl | (simp only [List.length_drop, List.length_take]; rfl)) ?_; (with_reducible refine (xtea_From.calls a0_0 a0_1 a0_2 a0_3 a0_4 a0_5 a0_6 a0_7 a0_8 a0_9 a0_10 a0_11 a0_12 a0_13 a0_14 a0_15 a1_0 a1_1 a1_2 _ _ y186 t189 _ ?side1 ?side2 A6.out).mono ?_); (case side1 => repeat (first | exact (Kd.R_reads' HO188.out).2.2 | (with_reducible refine Kd.C_alloc ?_ _) | (with_reducible refine Kd.C_drewN ?_ _) | (with_reducible refine Kd.C_drew ?_))); (case side2 => exact (Kd.R_reads' HO188.out).2.1); rintro e w25 ⟨v190, rfl, ho0, hb⟩; refine ⟨_, rfl, ?_⟩; have n0_ := Aside0.mk (Kd.R_elder' (by (with_reducible repeat (first | apply Kd.R_alloc | apply Kd.R_drewN | apply Kd.R_drew)); exact HO188.out) (Kd.R_base ho0) hb); have n1_ := Aside0.mk (Kd.R_lower (Kd.R_new' ho0 (Kd.R_lt (by (with_reducible repeat (first | apply Kd.R_alloc | apply Kd.R_drewN | apply Kd.R_drew)); exact HO188.out))) (below_size (by repeat (first | (with_reducible first | exact HB.out | apply below_alloc | apply pw_below_drewN | apply below_drew1 | refine below_set ?_ GE182.out | refine below_set ?_ GE183.out | refine below_set ?_ GE184.out) | exact HB.out)))); have n2_ := Aside0.mk (blk_below (g := gb182) (o := .cells #[.int .u8 a0_0, .int .u8 a0_1, .int .u8 a0_2, .int .u8 a0_3, .int .u8 a0_4, .int .u8 a0_5, .int .u8 a0_6, .int .u8 a0_7, .int .u8 a0_8, .int .u8 a0_9, .int .u8 a0_10, .int .u8 a0_11, .int .u8 a0_12, .int .u8 a0_13, .int .u8 a0_14, .int .u8 a0_15] 44 (0, 0)) (by (with_reducible repeat (first | refine blk_drewN ?_ _ | refine blk_drew ?_ | refine blk_alloc ?_ _)); exact BK182.out) hb); have n3_ := Aside0.mk (blk_below (g := gb183) (o := .cells #[.int .u32 a1_0, .int .u32 a1_1, .int .u32 a1_2] 45 (0, 0)) (by (with_reducible repeat (first | refine blk_drewN ?_ _ | refine blk_drew ?_ | refine blk_alloc ?_ _)); exact BK183.out) hb); have n4_ := Aside0.mk (blk_below (g := gb184) (o := .cells #[.int .u32 a2_0, .int .u32 a2_1] 46 (0, 0)) (by (with_reducible repeat (first | refine blk_drewN ?_ _ | refine blk_drew ?_ | refine blk_alloc ?_ _)); exact BK184.out) hb); have n5_ := Aside0.mk (below_step (by repeat (first | (with_reducible first | exact HB.out | apply below_alloc | apply pw_below_drewN | apply below_drew1 | refine below_set ?_ GE182.out | refine below_set ?_ GE183.out | refine below_set ?_ GE184.out) | exact HB.out)) hb); clear HO188; clear BK182; clear BK183; clear BK184; clear HB; have HO188 := n0_; have HO191 := n1_; have BK182 := n2_; have BK183 := n3_; have BK184 := n4_; have HB := n5_; clear n0_ n1_ n2_ n3_ n4_ n5_; (try clear hb); (try clear hb2); (try clear hk); (try clear hi); (try clear ho0); have hcz26_0 : w25.cell? ⟨gb182, 0, none⟩ = some (.int .u8 a0_0) := (blk_cell BK182.out 0).trans rfl; have hcz26_1 : w25.cell? ⟨gb182, 1, none⟩ = some (.int .u8 a0_1) := (blk_cell BK182.out 1).trans rfl; have hcz26_2 : w25.cell? ⟨gb182, 2, none⟩ = some (.int .u8 a0_2) := (blk_cell BK182.out 2).trans rfl; have hcz26_3 : w25.cell? ⟨gb182, 3, none⟩ = some (.int .u8 a0_3) := (blk_cell BK182.out 3).trans rfl; have hcz26_4 : w25.cell? ⟨gb182, 4, none⟩ = some (.int .u8 a0_4) := (blk_cell BK182.out 4).trans rfl; have hcz26_5 : w25.cell? ⟨gb182, 5, none⟩ = some (.int .u8 a0_5) := (blk_cell BK182.out 5).trans rfl; have hcz26_6 : w25.cell? ⟨gb182, 6, none⟩ = some (.int .u8 a0_6) := (blk_cell BK182.out 6).trans rfl; have hcz26_7 : w25.cell? ⟨gb182, 7, none⟩ = some (.int .u8 a0_7) := (blk_cell BK182.out 7).trans rfl; have hcz26_8 : w25.cell? ⟨gb182, 8, none⟩ = some (.int .u8 a0_8) := (blk_cell BK182.out 8).trans rfl; have hcz26_9 : w25.cell? ⟨gb182, 9, none⟩ = some (.int .u8 a0_9) := (blk_cell BK182.out 9).trans rfl; have hcz26_10 : w25.cell? ⟨gb182, 10, none⟩ = some (.int .u8 a0_10) := (blk_cell BK182.out 10).trans rfl; have hcz26_11 : w25.cell? ⟨gb182, 11, none⟩ = some (.int .u8 a0_11) := (blk_cell BK182.out 11).trans rfl; have hcz26_12 : w25.cell? ⟨gb182, 12, none⟩ = some (.int .u8 a0_12) := (blk_cell BK182.out 12).trans rfl; have hcz26_13 : w25.cell? ⟨gb182, 13, none⟩ = some (.int .u8 a0_13) := (blk_cell BK182.out 13).trans rfl; have hcz26_14 : w25.cell? ⟨gb182, 14, none⟩ = some (.int .u8 a0_14) := (blk_cell BK182.out 14).trans rfl; have hcz26_15 : w25.cell? ⟨gb182, 15, none⟩ = some (.int .u8 a0_15) := (blk_cell BK182.out 15).trans rfl; have hfz26_0 := blk_frozen BK182.out 0; have hfz26_1 := blk_frozen BK182.out 1; have hfz26_2 := blk_frozen BK182.out 2; have hfz26_3 := blk_frozen BK182.out 3; have hfz26_4 := blk_frozen BK182.out 4; have hfz26_5 := blk_frozen BK182.out 5; have hfz26_6 := blk_frozen BK182.out 6; have hfz26_7 := blk_frozen BK182.out 7; have hfz26_8 := blk_frozen BK182.out 8; have hfz26_9 := blk_frozen BK182.out 9; have hfz26_10 := blk_frozen BK182.out 10; have hfz26_11 := blk_frozen BK182.out 11; have hfz26_12 := blk_frozen BK182.out 12; have hfz26_13 := blk_frozen BK182.out 13; have hfz26_14 := blk_frozen BK182.out 14; have hfz26_15 := blk_frozen BK182.out 15; have hcz27_0 : w25.cell? ⟨gb183, 0, none⟩ = some (.int .u32 a1_0) := (blk_cell BK183.out 0).trans rfl; have hcz27_1 : w25.cell? ⟨gb183, 1, none⟩ = some (.int .u32 a1_1) := (blk_cell BK183.out 1).trans rfl; have hcz27_2 : w25.cell? ⟨gb183, 2, none⟩ = some (.int .u32 a1_2) := (blk_cell BK183.out 2).trans rfl; have hfz27_0 := blk_frozen BK183.out 0; have hfz27_1 := blk_frozen BK183.out 1; have hfz27_2 := blk_frozen BK183.out 2) | ((with_reducible refine gate_callee (f := 36) rfl ?_); refine goesL_ (some 35) rfl rfl Try.func36 (by kernel_rfl) rfl #[.agg #[.int .u8 a0_0, .int .u8 a0_1, .int .u8 a0_2, .int .u8 a0_3, .int .u8 a0_4, .int .u8 a0_5, .int .u8 a0_6, .int .u8 a0_7, .int .u8 a0_8, .int .u8 a0_9, .int .u8 a0_10, .int .u8 a0_11, .int .u8 a0_12, .int .u8 a0_13, .int .u8 a0_14, .int .u8 a0_15], .agg #[.int .u32 ((a1_0 + a1_2) % 4294967296), .int .u32 a1_1], .slice Ao24 y186.length co24] rfl (by (try simp only [List.map_toArray, List.map_cons, List.map_nil]); first | done | rfl | (simp only [List.length_drop, List.length_take]; rfl)) ?_; (with_reducible refine (xtea_Stream.calls a0_0 a0_1 a0_2 a0_3 a0_4 a0_5 a0_6 a0_7 a0_8 a0_9 a0_10 a0_11 a0_12 a0_13 a0_14 a0_15 ((a1_0 + a1_2) % 4294967296) a1_1 _ _ y186 t192 _ ?side1 ?side2 A7.out).mono ?_); (case side1 => repeat (first | exact (Kd.R_reads' HO188.out).2.2 | (with_reducible refine Kd.C_alloc ?_ _) | (with_reducible refine Kd.C_drewN ?_ _) | (with_reducible refine Kd.C_drew ?_))); (case side2 => exact (Kd.R_reads' HO188.out).2.1); rintro e w28 ⟨v193, rfl, ho0, hb⟩; refine ⟨_, rfl, ?_⟩; have n0_ := Aside0.mk (Kd.R_elder' (by (with_reducible repeat (first | apply Kd.R_alloc | apply Kd.R_drewN | apply Kd.R_drew)); exact HO188.out) (Kd.R_base ho0) hb); have n1_ := Aside0.mk (Kd.R_elder' (by (with_reducible repeat (first | apply Kd.R_alloc | apply Kd.R_drewN | apply Kd.R_drew)); exact HO191.out) (Kd.R_base ho0) hb); have n2_ := Aside0.mk (Kd.R_lower (Kd.R_new' (Kd.R_new' ho0 (Kd.R_lt (by (with_reducible repeat (first | apply Kd.R_alloc | apply Kd.R_drewN | apply Kd.R_drew)); exact HO188.out))) (Kd.R_lt (by (with_reducible repeat (first | apply Kd.R_alloc | apply Kd.R_drewN | apply Kd.R_drew)); exact HO191.out))) (below_size (by repeat (first | (with_reducible first | exact HB.out | apply below_alloc | apply pw_below_drewN | apply below_drew1 | refine below_set ?_ GE182.out | refine below_set ?_ GE183.out | refine below_set ?_ GE184.out) | exact HB.out)))); have n3_ := Aside0.mk (blk_below (g := gb182) (o := .cells #[.int .u8 a0_0, .int .u8 a0_1, .int .u8 a0_2, .int .u8 a0_3, .int .u8 a0_4, .int .u8 a0_5, .int .u8 a0_6, .int .u8 a0_7, .int .u8 a0_8, .int .u8 a0_9, .int .u8 a0_10, .int .u8 a0_11, .int .u8 a0_12, .int .u8 a0_13, .int .u8 a0_14, .int .u8 a0_15] 44 (0, 0)) (by (with_reducible repeat (first | refine blk_drewN ?_ _ | refine blk_drew ?_ | refine blk_alloc ?_ _)); exact BK182.out) hb); have n4_ := Aside0.mk (blk_below (g := gb183) (o := .cells #[.int .u32 a1_0, .int .u32 a1_1, .int .u32 a1_2] 45 (0, 0)) (by (with_reducible repeat (first | refine blk_drewN ?_ _ | refine blk_drew ?_ | refine blk_alloc ?_ _)); exact BK183.out) hb); have n5_ := Aside0.mk (blk_below (g := gb184) (o := .cells #[.int .u32 a2_0, .int .u32 a2_1] 46 (0, 0)) (by (with_reducible repeat (first | refine blk_drewN ?_ _ | refine blk_drew ?_ | refine blk_alloc ?_ _)); exact BK184.out) hb); have n6_ := Aside0.mk (below_step (by repeat (first | (with_reducible first | exact HB.out | apply below_alloc | apply pw_below_drewN | apply below_drew1 | refine below_set ?_ GE182.out | refine below_set ?_ GE183.out | refine below_set ?_ GE184.out) | exact HB.out)) hb); clear HO188; clear HO191; clear BK182; clear BK183; clear BK184; clear HB; have HO188 := n0_; have HO191 := n1_; have HO194 := n2_; have BK182 := n3_; have BK183 := n4_; have BK184 := n5_; have HB := n6_; clear n0_ n1_ n2_ n3_ n4_ n5_ n6_; (try clear hb); (try clear hb2); (try clear hk); (try clear hi); (try clear ho0); obtain ⟨Ao29, co29, eo29⟩ := Kd.R_slice HO191.out; subst eo29; obtain ⟨Ao30, co30, eo30⟩ := Kd.R_slice HO194.out; subst eo30) | ((with_reducible refine gate_callee (f := 23) rfl ?_); refine goesL_ (some 38) rfl rfl Try.func23 (by kernel_rfl) rfl #[.slice Ao29 t189.length co29, .slice Ao30 t192.length co30] rfl (by (try simp only [List.map_toArray, List.map_cons, List.map_nil]); first | done | rfl | (simp only [List.length_drop, List.length_take]; rfl)) ?_; (with_reducible refine (carapaceref01_Same.calls k _ _ t189 _ _ t192 true _ ?side1 ?side2 ?side3 ?side4 A8.out).mono ?_); (case side1 => repeat (first | exact (Kd.R_reads' HO191.out).2.2 | (with_reducible refine Kd.C_alloc ?_ _) | (with_reducible refine Kd.C_drewN ?_ _) | (with_reducible refine Kd.C_drew ?_))); (case side2 => exact (Kd.R_reads' HO191.out).2.1); (case side3 => repeat (first | exact (Kd.R_reads' HO194.out).2.2 | (with_reducible refine Kd.C_alloc ?_ _) | (with_reducible refine Kd.C_drewN ?_ _) | (with_reducible refine Kd.C_drew ?_))); (case side4 => exact (Kd.R_reads' HO194.out).2.1); rintro e w' ⟨rfl, ⟨nd, rfl⟩⟩; refine ⟨_, rfl, ?_⟩; (try (rw [drewN_self w28]; generalize hq_ : World.drewN w28 _ = w28; have n0_ : Aside0 (Kd.R (Kd.int .u8) 5 w28 w.heap.size (fun k_ => some k_ ≠ (.slice Ao29 t189.length co29 : Value).ownBlock ∧ some k_ ≠ (.slice Ao30 t192.length co30 : Value).ownBlock) (.slice Ao24 y186.length co24) y186) := ⟨by rw [← hq_]; exact (by (with_reducible repeat (first | apply Kd.R_alloc | apply Kd.R_drewN | apply Kd.R_drew)); exact Kd.R_mono HO188.out (fun _ hk => ⟨hk.1.2, hk.2⟩))⟩; have n1_ : Aside0 (Kd.R (Kd.int .u8) 5 w28 w.heap.size (fun k_ => some k_ ≠ (.slice Ao24 y186.length co24 : Value).ownBlock ∧ some k_ ≠ (.slice Ao30 t192.length co30 : Value).ownBlock) (.slice Ao29 t189.length co29) t189) := ⟨by rw [← hq_]; exact (by (with_reducible repeat (first | apply Kd.R_alloc | apply Kd.R_drewN | apply Kd.R_drew)); exact Kd.R_mono HO191.out (fun _ hk => ⟨hk.1.2, hk.2⟩))⟩; have n2_ : Aside0 (Kd.R (Kd.int .u8) 5 w28 w.heap.size (fun k_ => some k_ ≠ (.slice Ao24 y186.length co24 : Value).ownBlock ∧ some k_ ≠ (.slice Ao29 t189.length co29 : Value).ownBlock) (.slice Ao30 t192.length co30) t192) := ⟨by rw [← hq_]; exact (by (with_reducible repeat (first | apply Kd.R_alloc | apply Kd.R_drewN | apply Kd.R_drew)); exact Kd.R_mono HO194.out (fun _ hk => ⟨hk.1.2, hk.2⟩))⟩; have n3_ : Aside0 (w28.heap[gb182]? = some (.cells #[.int .u8 a0_0, .int .u8 a0_1, .int .u8 a0_2, .int .u8 a0_3, .int .u8 a0_4, .int .u8 a0_5, .int .u8 a0_6, .int .u8 a0_7, .int .u8 a0_8, .int .u8 a0_9, .int .u8 a0_10, .int .u8 a0_11, .int .u8 a0_12, .int .u8 a0_13, .int .u8 a0_14, .int .u8 a0_15] 44 (0, 0))) := ⟨by rw [← hq_]; exact (by (with_reducible repeat (first | refine blk_drewN ?_ _ | refine blk_drew ?_ | refine blk_alloc ?_ _)); exact BK182.out)⟩; have n4_ : Aside0 (w28.heap[gb183]? = some (.cells #[.int .u32 a1_0, .int .u32 a1_1, .int .u32 a1_2] 45 (0, 0))) := ⟨by rw [← hq_]; exact (by (with_reducible repeat (first | refine blk_drewN ?_ _ | refine blk_drew ?_ | refine blk_alloc ?_ _)); exact BK183.out)⟩; have n5_ : Aside0 (w28.heap[gb184]? = some (.cells #[.int .u32 a2_0, .int .u32 a2_1] 46 (0, 0))) := ⟨by rw [← hq_]; exact (by (with_reducible repeat (first | refine blk_drewN ?_ _ | refine blk_drew ?_ | refine blk_alloc ?_ _)); exact BK184.out)⟩; have n6_ : Aside0 (Below w.heap.size w w28) := ⟨by rw [← hq_]; exact (by repeat (first | (with_reducible first | exact HB.out | apply below_alloc | apply pw_below_drewN | apply below_drew1 | refine below_set ?_ GE182.out | refine below_set ?_ GE183.out | refine below_set ?_ GE184.out) | exact HB.out))⟩; clear HO188 HO191 HO194 BK182 BK183 BK184 HB hq_; have HO188 := n0_; have HO191 := n1_; have HO194 := n2_; have BK182 := n3_; have BK183 := n4_; have BK184 := n5_; have HB := n6_; clear n0_ n1_ n2_ n3_ n4_ n5_ n6_)); have hcz31_0 : w28.cell? ⟨gb183, 0, none⟩ = some (.int .u32 a1_0) := (blk_cell BK183.out 0).trans rfl; have hcz31_1 : w28.cell? ⟨gb183, 1, none⟩ = some (.int .u32 a1_1) := (blk_cell BK183.out 1).trans rfl; have hcz31_2 : w28.cell? ⟨gb183, 2, none⟩ = some (.int .u32 a1_2) := (blk_cell BK183.out 2).trans rfl; have hfz31_0 := blk_frozen BK183.out 0; have hfz31_1 := blk_frozen BK183.out 1; have hfz31_2 := blk_frozen BK183.out 2) | ((with_reducible refine gate_dst (N := 12) rfl ?_); refine box_event ?hg (N := 12) ?hd (cs := #[.int .u32 0, .int .u32 0]) (t := 46) ?hr ?_; (case hd => rfl); (case hg => rfl); (case hr => first | (go_simp; done) | (go_simp; rfl)); intro gb196 hg w32 hbox hb; have n0_ := Aside0.mk (Kd.R_below (by (with_reducible repeat (first | apply Kd.R_alloc | apply Kd.R_drewN | apply Kd.R_drew)); exact HO188.out) hb); have n1_ := Aside0.mk (Kd.R_below (by (with_reducible repeat (first | apply Kd.R_alloc | apply Kd.R_drewN | apply Kd.R_drew)); exact HO191.out) hb); have n2_ := Aside0.mk (Kd.R_below (by (with_reducible repeat (first | apply Kd.R_alloc | apply Kd.R_drewN | apply Kd.R_drew)); exact HO194.out) hb); have n3_ := Aside0.mk (blk_below (g := gb182) (o := .cells #[.int .u8 a0_0, .int .u8 a0_1, .int .u8 a0_2, .int .u8 a0_3, .int .u8 a0_4, .int .u8 a0_5, .int .u8 a0_6, .int .u8 a0_7, .int .u8 a0_8, .int .u8 a0_9, .int .u8 a0_10, .int .u8 a0_11, .int .u8 a0_12, .int .u8 a0_13, .int .u8 a0_14, .int .u8 a0_15] 44 (0, 0)) (by (with_reducible repeat (first | refine blk_drewN ?_ _ | refine blk_drew ?_ | refine blk_alloc ?_ _)); exact BK182.out) hb); have n4_ := Aside0.mk (blk_below (g := gb183) (o := .cells #[.int .u32 a1_0, .int .u32 a1_1, .int .u32 a1_2] 45 (0, 0)) (by (with_reducible repeat (first | refine blk_drewN ?_ _ | refine blk_drew ?_ | refine blk_alloc ?_ _)); exact BK183.out) hb); have n5_ := Aside0.mk (blk_below (g := gb184) (o := .cells #[.int .u32 a2_0, .int .u32 a2_1] 46 (0, 0)) (by (with_reducible repeat (first | refine blk_drewN ?_ _ | refine blk_drew ?_ | refine blk_alloc ?_ _)); exact BK184.out) hb); have n6_ := Aside0.mk (below_step (by repeat (first | (with_reducible first | exact HB.out | apply below_alloc | apply pw_below_drewN | apply below_drew1 | refine below_set ?_ GE182.out | refine below_set ?_ GE183.out | refine below_set ?_ GE184.out) | exact HB.out)) hb); have n7_ := Aside0.mk (hbox); have n8_ := Aside0.mk ((by rw [hg]; exact (below_size (by repeat (first | (with_reducible first | exact HB.out | apply below_alloc | apply pw_below_drewN | apply below_drew1 | refine below_set ?_ GE182.out | refine below_set ?_ GE183.out | refine below_set ?_ GE184.out) | exact HB.out))) : w.heap.size ≤ gb196)); have n9_ := Aside0.mk ((by rw [hg]; exact (below_size (by repeat (first | (with_reducible first | exact HB.out | apply below_alloc | apply pw_below_drewN | apply below_drew1 | refine below_set ?_ GE182.out | refine below_set ?_ GE183.out | refine below_set ?_ GE184.out) | exact HB.out))) : w.heap.size ≤ gb196)); have n10_ := Aside0.mk ((by rw [hg]; exact Nat.ne_of_lt (blk_lt (g := gb182) (o := .cells #[.int .u8 a0_0, .int .u8 a0_1, .int .u8 a0_2, .int .u8 a0_3, .int .u8 a0_4, .int .u8 a0_5, .int .u8 a0_6, .int .u8 a0_7, .int .u8 a0_8, .int .u8 a0_9, .int .u8 a0_10, .int .u8 a0_11, .int .u8 a0_12, .int .u8 a0_13, .int .u8 a0_14, .int .u8 a0_15] 44 (0, 0)) (by (with_reducible repeat (first | refine blk_drewN ?_ _ | refine blk_drew ?_ | refine blk_alloc ?_ _)); exact BK182.out)) : gb182 ≠ gb196)); have n11_ := Aside0.mk ((by rw [hg]; exact Nat.ne_of_gt (blk_lt (g := gb182) (o := .cells #[.int .u8 a0_0, .int .u8 a0_1, .int .u8 a0_2, .int .u8 a0_3, .int .u8 a0_4, .int .u8 a0_5, .int .u8 a0_6, .int .u8 a0_7, .int .u8 a0_8, .int .u8 a0_9, .int .u8 a0_10, .int .u8 a0_11, .int .u8 a0_12, .int .u8 a0_13, .int .u8 a0_14, .int .u8 a0_15] 44 (0, 0)) (by (with_reducible repeat (first | refine blk_drewN ?_ _ | refine blk_drew ?_ | refine blk_alloc ?_ _)); exact BK182.out)) : gb196 ≠ gb182)); have n12_ := Aside0.mk ((by rw [hg]; exact Nat.ne_of_lt (blk_lt (g := gb183) (o := .cells #[.int .u32 a1_0, .int .u32 a1_1, .int .u32 a1_2] 45 (0, 0)) (by (with_reducible repeat (first | refine blk_drewN ?_ _ | refine blk_drew ?_ | refine blk_alloc ?_ _)); exact BK183.out)) : gb183 ≠ gb196)); have n13_ := Aside0.mk ((by rw [hg]; exact Nat.ne_of_gt (blk_lt (g := gb183) (o := .cells #[.int .u32 a1_0, .int .u32 a1_1, .int .u32 a1_2] 45 (0, 0)) (by (with_reducible repeat (first | refine blk_drewN ?_ _ | refine blk_drew ?_ | refine blk_alloc ?_ _)); exact BK183.out)) : gb196 ≠ gb183)); have n14_ := Aside0.mk ((by rw [hg]; exact Nat.ne_of_lt (blk_lt (g := gb184) (o := .cells #[.int .u32 a2_0, .int .u32 a2_1] 46 (0, 0)) (by (with_reducible repeat (first | refine blk_drewN ?_ _ | refine blk_drew ?_ | refine blk_alloc ?_ _)); exact BK184.out)) : gb184 ≠ gb196)); have n15_ := Aside0.mk ((by rw [hg]; exact Nat.ne_of_gt (blk_lt (g := gb184) (o := .cells #[.int .u32 a2_0, .int .u32 a2_1] 46 (0, 0)) (by (with_reducible repeat (first | refine blk_drewN ?_ _ | refine blk_drew ?_ | refine blk_alloc ?_ _)); exact BK184.out)) : gb196 ≠ gb184)); clear HO188; clear HO191; clear HO194; clear BK182; clear BK183; clear BK184; clear HB; have HO188 := n0_; have HO191 := n1_; have HO194 := n2_; have BK182 := n3_; have BK183 := n4_; have BK184 := n5_; have HB := n6_; have BK196 := n7_; have GW196 := n8_; have GE196 := n9_; have NB182_196 := n10_; have NB196_182 := n11_; have NB183_196 := n12_; have NB196_183 := n13_; have NB184_196 := n14_; have NB196_184 := n15_; clear n0_ n1_ n2_ n3_ n4_ n5_ n6_ n7_ n8_ n9_ n10_ n11_ n12_ n13_ n14_ n15_; clear hb hbox hg; have hnb33 := NB196_182.out; have hnc33 := NB182_196.out; have hnb34 := NB196_183.out; have hnc34 := NB183_196.out; have hnb35 := NB196_184.out; have hnc35 := NB184_196.out; have hcz36_0 : w32.cell? ⟨gb196, 0, none⟩ = some (.int .u32 0) := (blk_cell BK196.out 0).trans rfl; have hcz36_1 : w32.cell? ⟨gb196, 1, none⟩ = some (.int .u32 0) := (blk_cell BK196.out 1).trans rfl; have hfz36_0 := blk_frozen BK196.out 0; have hfz36_1 := blk_frozen BK196.out 1))
        have n0_ : Aside0 (Kd.R (Kd.int .u8) 5 ((w32.setCell ⟨gb196, 0, none⟩ (.int .u32 a1_0)).setCell ⟨gb196, 1, none⟩ (.int .u32 a1_1)) w.heap.size (fun k_ => some k_ ≠ (.slice Ao29 t189.length co29 : Value).ownBlock ∧ some k_ ≠ (.slice Ao30 t192.length co30 : Value).ownBlock) (.slice Ao24 y186.length co24) y186) := ⟨by (with_reducible repeat (first | apply Kd.R_alloc | apply Kd.R_drewN | apply Kd.R_drew)); exact Kd.R_mono (Kd.R_far (p := ⟨gb196, 1, none⟩) (Kd.R_far (p := ⟨gb196, 0, none⟩) (Kd.R_types HO188.out BK196.out (by decide)) (fun _ hk => hk.2) (.int .u32 a1_0)) (fun _ hk => hk.2) (.int .u32 a1_1)) (fun _ hk => by have h_ := hk.1; first | exact ⟨h_.1.2, h_.2⟩ | exact h_)⟩
        have n1_ : Aside0 (Kd.R (Kd.int .u8) 5 ((w32.setCell ⟨gb196, 0, none⟩ (.int .u32 a1_0)).setCell ⟨gb196, 1, none⟩ (.int .u32 a1_1)) w.heap.size (fun k_ => some k_ ≠ (.slice Ao24 y186.length co24 : Value).ownBlock ∧ some k_ ≠ (.slice Ao30 t192.length co30 : Value).ownBlock) (.slice Ao29 t189.length co29) t189) := ⟨by (with_reducible repeat (first | apply Kd.R_alloc | apply Kd.R_drewN | apply Kd.R_drew)); exact Kd.R_mono (Kd.R_far (p := ⟨gb196, 1, none⟩) (Kd.R_far (p := ⟨gb196, 0, none⟩) (Kd.R_types HO191.out BK196.out (by decide)) (fun _ hk => hk.2) (.int .u32 a1_0)) (fun _ hk => hk.2) (.int .u32 a1_1)) (fun _ hk => by have h_ := hk.1; first | exact ⟨h_.1.2, h_.2⟩ | exact h_)⟩
        have n2_ : Aside0 (Kd.R (Kd.int .u8) 5 ((w32.setCell ⟨gb196, 0, none⟩ (.int .u32 a1_0)).setCell ⟨gb196, 1, none⟩ (.int .u32 a1_1)) w.heap.size (fun k_ => some k_ ≠ (.slice Ao24 y186.length co24 : Value).ownBlock ∧ some k_ ≠ (.slice Ao29 t189.length co29 : Value).ownBlock) (.slice Ao30 t192.length co30) t192) := ⟨by (with_reducible repeat (first | apply Kd.R_alloc | apply Kd.R_drewN | apply Kd.R_drew)); exact Kd.R_mono (Kd.R_far (p := ⟨gb196, 1, none⟩) (Kd.R_far (p := ⟨gb196, 0, none⟩) (Kd.R_types HO194.out BK196.out (by decide)) (fun _ hk => hk.2) (.int .u32 a1_0)) (fun _ hk => hk.2) (.int .u32 a1_1)) (fun _ hk => by have h_ := hk.1; first | exact ⟨h_.1.2, h_.2⟩ | exact h_)⟩
        have n3_ : Aside0 (((w32.setCell ⟨gb196, 0, none⟩ (.int .u32 a1_0)).setCell ⟨gb196, 1, none⟩ (.int .u32 a1_1)).heap[gb182]? = some (.cells #[.int .u8 a0_0, .int .u8 a0_1, .int .u8 a0_2, .int .u8 a0_3, .int .u8 a0_4, .int .u8 a0_5, .int .u8 a0_6, .int .u8 a0_7, .int .u8 a0_8, .int .u8 a0_9, .int .u8 a0_10, .int .u8 a0_11, .int .u8 a0_12, .int .u8 a0_13, .int .u8 a0_14, .int .u8 a0_15] 44 (0, 0))) := ⟨by (with_reducible repeat (first | refine blk_drewN ?_ _ | refine blk_drew ?_ | refine blk_alloc ?_ _)); refine blk_far ?_ NB182_196.out _; (with_reducible repeat (first | refine blk_drewN ?_ _ | refine blk_drew ?_ | refine blk_alloc ?_ _)); refine blk_far ?_ NB182_196.out _; (with_reducible repeat (first | refine blk_drewN ?_ _ | refine blk_drew ?_ | refine blk_alloc ?_ _)); exact BK182.out⟩
        have n4_ : Aside0 (((w32.setCell ⟨gb196, 0, none⟩ (.int .u32 a1_0)).setCell ⟨gb196, 1, none⟩ (.int .u32 a1_1)).heap[gb183]? = some (.cells #[.int .u32 a1_0, .int .u32 a1_1, .int .u32 a1_2] 45 (0, 0))) := ⟨by (with_reducible repeat (first | refine blk_drewN ?_ _ | refine blk_drew ?_ | refine blk_alloc ?_ _)); refine blk_far ?_ NB183_196.out _; (with_reducible repeat (first | refine blk_drewN ?_ _ | refine blk_drew ?_ | refine blk_alloc ?_ _)); refine blk_far ?_ NB183_196.out _; (with_reducible repeat (first | refine blk_drewN ?_ _ | refine blk_drew ?_ | refine blk_alloc ?_ _)); exact BK183.out⟩
        have n5_ : Aside0 (((w32.setCell ⟨gb196, 0, none⟩ (.int .u32 a1_0)).setCell ⟨gb196, 1, none⟩ (.int .u32 a1_1)).heap[gb184]? = some (.cells #[.int .u32 a2_0, .int .u32 a2_1] 46 (0, 0))) := ⟨by (with_reducible repeat (first | refine blk_drewN ?_ _ | refine blk_drew ?_ | refine blk_alloc ?_ _)); refine blk_far ?_ NB184_196.out _; (with_reducible repeat (first | refine blk_drewN ?_ _ | refine blk_drew ?_ | refine blk_alloc ?_ _)); refine blk_far ?_ NB184_196.out _; (with_reducible repeat (first | refine blk_drewN ?_ _ | refine blk_drew ?_ | refine blk_alloc ?_ _)); exact BK184.out⟩
        have n6_ : Aside0 (((w32.setCell ⟨gb196, 0, none⟩ (.int .u32 a1_0)).setCell ⟨gb196, 1, none⟩ (.int .u32 a1_1)).heap[gb196]? = some (.cells #[.int .u32 a1_0, .int .u32 a1_1] 46 (0, 0))) := ⟨by (with_reducible repeat (first | refine blk_drewN ?_ _ | refine blk_drew ?_ | refine blk_alloc ?_ _)); refine blk_put (cs := #[.int .u32 a1_0, .int .u32 0]) ?_ 1 _ rfl; (with_reducible repeat (first | refine blk_drewN ?_ _ | refine blk_drew ?_ | refine blk_alloc ?_ _)); refine blk_put (cs := #[.int .u32 0, .int .u32 0]) ?_ 0 _ rfl; (with_reducible repeat (first | refine blk_drewN ?_ _ | refine blk_drew ?_ | refine blk_alloc ?_ _)); exact BK196.out⟩
        have n7_ : Aside0 (Below w.heap.size w ((w32.setCell ⟨gb196, 0, none⟩ (.int .u32 a1_0)).setCell ⟨gb196, 1, none⟩ (.int .u32 a1_1))) := ⟨by repeat (first | (with_reducible first | exact HB.out | apply below_alloc | apply pw_below_drewN | apply below_drew1 | refine below_set ?_ GE182.out | refine below_set ?_ GE183.out | refine below_set ?_ GE184.out | refine below_set ?_ GE196.out) | exact HB.out)⟩
        (try clear HO188)
        (try clear HO191)
        (try clear HO194)
        (try clear BK182)
        (try clear BK183)
        (try clear BK184)
        (try clear BK196)
        (try clear HB)
        generalize ((w32.setCell ⟨gb196, 0, none⟩ (.int .u32 a1_0)).setCell ⟨gb196, 1, none⟩ (.int .u32 a1_1)) = w37 at n0_ n1_ n2_ n3_ n4_ n5_ n6_ n7_ ⊢
        have HO188 := n0_
        have HO191 := n1_
        have HO194 := n2_
        have BK182 := n3_
        have BK183 := n4_
        have BK184 := n5_
        have BK196 := n6_
        have HB := n7_
        clear n0_ n1_ n2_ n3_ n4_ n5_ n6_ n7_
        have n0_ := Aside0.mk (Kd.R_drew HO188.out)
        have n1_ := Aside0.mk (Kd.R_drew HO191.out)
        have n2_ := Aside0.mk (Kd.R_drew HO194.out)
        have n3_ := Aside0.mk (blk_drew BK182.out)
        have n4_ := Aside0.mk (blk_drew BK183.out)
        have n5_ := Aside0.mk (blk_drew BK184.out)
        have n6_ := Aside0.mk (blk_drew BK196.out)
        have n7_ := Aside0.mk (below_drew1 HB.out)
        clear HO188
        clear HO191
        clear HO194
        clear BK182
        clear BK183
        clear BK184
        clear BK196
        clear HB
        have HO188 := n0_
        have HO191 := n1_
        have HO194 := n2_
        have BK182 := n3_
        have BK183 := n4_
        have BK184 := n5_
        have BK196 := n6_
        have HB := n7_
        clear n0_ n1_ n2_ n3_ n4_ n5_ n6_ n7_
        refine start_ (n := 18) (S := fun w' => w'.cell? ⟨gb182, 0, none⟩ = some (.int .u8 a0_0) ∧ w'.cell? ⟨gb182, 1, none⟩ = some (.int .u8 a0_1) ∧ w'.cell? ⟨gb182, 2, none⟩ = some (.int .u8 a0_2) ∧ w'.cell? ⟨gb182, 3, none⟩ = some (.int .u8 a0_3) ∧ w'.cell? ⟨gb182, 4, none⟩ = some (.int .u8 a0_4) ∧ w'.cell? ⟨gb182, 5, none⟩ = some (.int .u8 a0_5) ∧ w'.cell? ⟨gb182, 6, none⟩ = some (.int .u8 a0_6) ∧ w'.cell? ⟨gb182, 7, none⟩ = some (.int .u8 a0_7) ∧ w'.cell? ⟨gb182, 8, none⟩ = some (.int .u8 a0_8) ∧ w'.cell? ⟨gb182, 9, none⟩ = some (.int .u8 a0_9) ∧ w'.cell? ⟨gb182, 10, none⟩ = some (.int .u8 a0_10) ∧ w'.cell? ⟨gb182, 11, none⟩ = some (.int .u8 a0_11) ∧ w'.cell? ⟨gb182, 12, none⟩ = some (.int .u8 a0_12) ∧ w'.cell? ⟨gb182, 13, none⟩ = some (.int .u8 a0_13) ∧ w'.cell? ⟨gb182, 14, none⟩ = some (.int .u8 a0_14) ∧ w'.cell? ⟨gb182, 15, none⟩ = some (.int .u8 a0_15) ∧ w'.cell? ⟨gb184, 0, none⟩ = some (.int .u32 a2_0) ∧ w'.cell? ⟨gb184, 1, none⟩ = some (.int .u32 a2_1) ∧ w'.cell? ⟨gb196, 0, none⟩ = some (.int .u32 a1_0) ∧ w'.cell? ⟨gb196, 1, none⟩ = some (.int .u32 a1_1)) (ds := []) #[false, false, false, false, false, false, false, false, false, false, false, false, false, false, false, false, false, false] (by kernel_rfl) rfl rfl ⟨(blk_cell BK182.out 0).trans rfl, (blk_cell BK182.out 1).trans rfl, (blk_cell BK182.out 2).trans rfl, (blk_cell BK182.out 3).trans rfl, (blk_cell BK182.out 4).trans rfl, (blk_cell BK182.out 5).trans rfl, (blk_cell BK182.out 6).trans rfl, (blk_cell BK182.out 7).trans rfl, (blk_cell BK182.out 8).trans rfl, (blk_cell BK182.out 9).trans rfl, (blk_cell BK182.out 10).trans rfl, (blk_cell BK182.out 11).trans rfl, (blk_cell BK182.out 12).trans rfl, (blk_cell BK182.out 13).trans rfl, (blk_cell BK182.out 14).trans rfl, (blk_cell BK182.out 15).trans rfl, (blk_cell BK184.out 0).trans rfl, (blk_cell BK184.out 1).trans rfl, (blk_cell BK196.out 0).trans rfl, (blk_cell BK196.out 1).trans rfl⟩ (fun hHeld => ?_); refine with_tabW carapacelaw02_XteaNonce.tab7 carapacelaw02_XteaNonce.bits7 (fun HT_ HW_ => ?_)
        generalize w37.drew = w38 at HO188 HO191 HO194 BK182 BK183 BK184 BK196 HB hHeld ⊢
        refine pure_ (i := 0) (N := some 44) (v := ?_) (a' := ?_) #[true, false, false, false, false, false, false, false, false, false, false, false, false, false, false, false, false, false] rfl rfl (any_of HT_.out (by kernel_rfl)) (fun _ _ _ h => h) (Or.inl ⟨by rfl, ?_⟩) ?_ ?_
        rotate_left
        · intro w'
          go_simp
          with_reducible rfl
        rotate_left
        · simp only [Act.put, List.setIfInBounds_toArray, List.set_cons_zero, List.set_cons_succ, i64_w, i32_w]
          rfl
        refine pure_ (i := 1) (N := some 45) (v := ?_) (a' := ?_) #[true, true, false, false, false, false, false, false, false, false, false, false, false, false, false, false, false, false] rfl rfl (any_of HT_.out (by kernel_rfl)) (fun _ _ _ h => h) (Or.inl ⟨by rfl, ?_⟩) ?_ ?_
        rotate_left
        · intro w'
          go_simp
          with_reducible rfl
        rotate_left
        · simp only [Act.put, List.setIfInBounds_toArray, List.set_cons_zero, List.set_cons_succ, i64_w, i32_w]
          rfl
        refine pure_ (i := 2) (N := some 46) (v := ?_) (a' := ?_) #[true, true, true, false, false, false, false, false, false, false, false, false, false, false, false, false, false, false] rfl rfl (any_of HT_.out (by kernel_rfl)) (fun _ _ _ h => h) (Or.inl ⟨by rfl, ?_⟩) ?_ ?_
        rotate_left
        · intro w'
          go_simp
          with_reducible rfl
        rotate_left
        · simp only [Act.put, List.setIfInBounds_toArray, List.set_cons_zero, List.set_cons_succ, i64_w, i32_w]
          rfl
        refine pure_ (i := 3) (N := some 47) (v := ?_) (a' := ?_) #[true, true, true, true, false, false, false, false, false, false, false, false, false, false, false, false, false, false] rfl rfl (any_of HT_.out (by kernel_rfl)) (fun _ _ _ h => h) (Or.inl ⟨by rfl, ?_⟩) ?_ ?_
        rotate_left
        · intro w'
          go_simp
          with_reducible rfl
        rotate_left
        · simp only [Act.put, List.setIfInBounds_toArray, List.set_cons_zero, List.set_cons_succ, i64_w, i32_w]
          rfl
        refine pure_ (i := 4) (N := some 48) (v := ?_) (a' := ?_) #[true, true, true, true, true, false, false, false, false, false, false, false, false, false, false, false, false, false] rfl rfl (any_of HT_.out (by kernel_rfl)) (fun _ _ _ h => h) (Or.inl ⟨by rfl, ?_⟩) ?_ ?_
        rotate_left
        · intro w'
          go_simp
          with_reducible rfl
        rotate_left
        · simp only [Act.put, List.setIfInBounds_toArray, List.set_cons_zero, List.set_cons_succ, i64_w, i32_w]
          rfl
        refine take_ (i := 5) (N := some 49) (v := ?_) (a' := ?_) #[true, true, true, true, true, true, false, false, false, false, false, false, false, false, false, false, false, false] rfl rfl (take_ofW HT_.out HW_.out (by kernel_rfl)) (fun _ _ _ h => h) (Or.inl ⟨by rfl, ?_⟩) hHeld ?_ ?_
        rotate_left
        · rintro w' ⟨s0, s1, s2, s3, s4, s5, s6, s7, s8, s9, s10, s11, s12, s13, s14, s15, s16, s17, s18, s19⟩
          go_simp
          with_reducible rfl
        rotate_left
        · simp only [Act.put, List.setIfInBounds_toArray, List.set_cons_zero, List.set_cons_succ, i64_w, i32_w]
          rfl
        refine take_ (i := 6) (N := some 50) (v := ?_) (a' := ?_) #[true, true, true, true, true, true, true, false, false, false, false, false, false, false, false, false, false, false] rfl rfl (take_ofW HT_.out HW_.out (by kernel_rfl)) (fun _ _ _ h => h) (Or.inl ⟨by rfl, ?_⟩) hHeld ?_ ?_
        rotate_left
        · rintro w' ⟨s0, s1, s2, s3, s4, s5, s6, s7, s8, s9, s10, s11, s12, s13, s14, s15, s16, s17, s18, s19⟩
          go_simp
          with_reducible rfl
        rotate_left
        · simp only [Act.put, List.setIfInBounds_toArray, List.set_cons_zero, List.set_cons_succ, i64_w, i32_w]
          rfl
        refine take_ (i := 8) (N := some 52) (v := ?_) (a' := ?_) #[true, true, true, true, true, true, true, false, true, false, false, false, false, false, false, false, false, false] rfl rfl (take_ofW HT_.out HW_.out (by kernel_rfl)) (fun _ _ _ h => h) (Or.inl ⟨by rfl, ?_⟩) hHeld ?_ ?_
        rotate_left
        · rintro w' ⟨s0, s1, s2, s3, s4, s5, s6, s7, s8, s9, s10, s11, s12, s13, s14, s15, s16, s17, s18, s19⟩
          go_simp
          with_reducible rfl
        rotate_left
        · simp only [Act.put, List.setIfInBounds_toArray, List.set_cons_zero, List.set_cons_succ, i64_w, i32_w]
          rfl
        refine take_ (i := 9) (N := some 53) (v := ?_) (a' := ?_) #[true, true, true, true, true, true, true, false, true, true, false, false, false, false, false, false, false, false] rfl rfl (take_ofW HT_.out HW_.out (by kernel_rfl)) (fun _ _ _ h => h) (Or.inl ⟨by rfl, ?_⟩) hHeld ?_ ?_
        rotate_left
        · rintro w' ⟨s0, s1, s2, s3, s4, s5, s6, s7, s8, s9, s10, s11, s12, s13, s14, s15, s16, s17, s18, s19⟩
          go_simp
          with_reducible rfl
        rotate_left
        · simp only [Act.put, List.setIfInBounds_toArray, List.set_cons_zero, List.set_cons_succ, i64_w, i32_w]
          rfl
        refine take_ (i := 12) (N := some 56) (v := ?_) (a' := ?_) #[true, true, true, true, true, true, true, false, true, true, false, false, true, false, false, false, false, false] rfl rfl (take_ofW HT_.out HW_.out (by kernel_rfl)) (fun _ _ _ h => h) (Or.inl ⟨by rfl, ?_⟩) hHeld ?_ ?_
        rotate_left
        · rintro w' ⟨s0, s1, s2, s3, s4, s5, s6, s7, s8, s9, s10, s11, s12, s13, s14, s15, s16, s17, s18, s19⟩
          go_simp
          with_reducible rfl
        rotate_left
        · simp only [Act.put, List.setIfInBounds_toArray, List.set_cons_zero, List.set_cons_succ, i64_w, i32_w]
          rfl
        refine take_ (i := 13) (N := some 57) (v := ?_) (a' := ?_) #[true, true, true, true, true, true, true, false, true, true, false, false, true, true, false, false, false, false] rfl rfl (take_ofW HT_.out HW_.out (by kernel_rfl)) (fun _ _ _ h => h) (Or.inl ⟨by rfl, ?_⟩) hHeld ?_ ?_
        rotate_left
        · rintro w' ⟨s0, s1, s2, s3, s4, s5, s6, s7, s8, s9, s10, s11, s12, s13, s14, s15, s16, s17, s18, s19⟩
          go_simp
          with_reducible rfl
        rotate_left
        · simp only [Act.put, List.setIfInBounds_toArray, List.set_cons_zero, List.set_cons_succ, i64_w, i32_w]
          rfl
        refine pure_ (i := 14) (N := some 58) (v := ?_) (a' := ?_) #[true, true, true, true, true, true, true, false, true, true, false, false, true, true, true, false, false, false] rfl rfl (any_of HT_.out (by kernel_rfl)) (fun _ _ _ h => h) (Or.inl ⟨by rfl, ?_⟩) ?_ ?_
        rotate_left
        · intro w'
          go_simp
          with_reducible rfl
        rotate_left
        · simp only [Act.put, List.setIfInBounds_toArray, List.set_cons_zero, List.set_cons_succ, i64_w, i32_w]
          rfl
        refine one_ (i := 7) (N := some 51) #[true, true, true, true, true, true, true, true, true, true, false, false, true, true, true, false, false, false] rfl rfl (one_of HT_.out (by kernel_rfl)) (by decide) (fun K hK => ?_)
        refine goes_ Try.func38 (by kernel_rfl) rfl #[.agg #[.int .u8 a0_0, .int .u8 a0_1, .int .u8 a0_2, .int .u8 a0_3, .int .u8 a0_4, .int .u8 a0_5, .int .u8 a0_6, .int .u8 a0_7, .int .u8 a0_8, .int .u8 a0_9, .int .u8 a0_10, .int .u8 a0_11, .int .u8 a0_12, .int .u8 a0_13, .int .u8 a0_14, .int .u8 a0_15], .agg #[.int .u32 a2_0, .int .u32 a2_1]] (by rfl) rfl rfl (by (try simp only [List.map_toArray, List.map_cons, List.map_nil]); first | done | rfl | (simp only [List.length_drop, List.length_take]; rfl)) ?_
        with_reducible refine (xtea_Block.calls a0_0 a0_1 a0_2 a0_3 a0_4 a0_5 a0_6 a0_7 a0_8 a0_9 a0_10 a0_11 a0_12 a0_13 a0_14 a0_15 a2_0 a2_1 t197 t198 _ A11.out).mono ?_
        rintro e w39 ⟨rfl, hb⟩
        refine ⟨_, rfl, ?_⟩
        have n0_ := Aside0.mk (Kd.R_below (by (with_reducible repeat (first | apply Kd.R_alloc | apply Kd.R_drewN | apply Kd.R_drew)); exact HO188.out) hb)
        have n1_ := Aside0.mk (Kd.R_below (by (with_reducible repeat (first | apply Kd.R_alloc | apply Kd.R_drewN | apply Kd.R_drew)); exact HO191.out) hb)
        have n2_ := Aside0.mk (Kd.R_below (by (with_reducible repeat (first | apply Kd.R_alloc | apply Kd.R_drewN | apply Kd.R_drew)); exact HO194.out) hb)
        have n3_ := Aside0.mk (blk_below (g := gb182) (o := .cells #[.int .u8 a0_0, .int .u8 a0_1, .int .u8 a0_2, .int .u8 a0_3, .int .u8 a0_4, .int .u8 a0_5, .int .u8 a0_6, .int .u8 a0_7, .int .u8 a0_8, .int .u8 a0_9, .int .u8 a0_10, .int .u8 a0_11, .int .u8 a0_12, .int .u8 a0_13, .int .u8 a0_14, .int .u8 a0_15] 44 (0, 0)) (by (with_reducible repeat (first | refine blk_drewN ?_ _ | refine blk_drew ?_ | refine blk_alloc ?_ _)); exact BK182.out) hb)
        have n4_ := Aside0.mk (blk_below (g := gb183) (o := .cells #[.int .u32 a1_0, .int .u32 a1_1, .int .u32 a1_2] 45 (0, 0)) (by (with_reducible repeat (first | refine blk_drewN ?_ _ | refine blk_drew ?_ | refine blk_alloc ?_ _)); exact BK183.out) hb)
        have n5_ := Aside0.mk (blk_below (g := gb184) (o := .cells #[.int .u32 a2_0, .int .u32 a2_1] 46 (0, 0)) (by (with_reducible repeat (first | refine blk_drewN ?_ _ | refine blk_drew ?_ | refine blk_alloc ?_ _)); exact BK184.out) hb)
        have n6_ := Aside0.mk (blk_below (g := gb196) (o := .cells #[.int .u32 a1_0, .int .u32 a1_1] 46 (0, 0)) (by (with_reducible repeat (first | refine blk_drewN ?_ _ | refine blk_drew ?_ | refine blk_alloc ?_ _)); exact BK196.out) hb)
        have n7_ := Aside0.mk (below_step (by repeat (first | (with_reducible first | exact HB.out | apply below_alloc | apply pw_below_drewN | apply below_drew1 | refine below_set ?_ GE182.out | refine below_set ?_ GE183.out | refine below_set ?_ GE184.out | refine below_set ?_ GE196.out) | exact HB.out)) hb)
        clear HO188
        clear HO191
        clear HO194
        clear BK182
        clear BK183
        clear BK184
        clear BK196
        clear HB
        have HO188 := n0_
        have HO191 := n1_
        have HO194 := n2_
        have BK182 := n3_
        have BK183 := n4_
        have BK184 := n5_
        have BK196 := n6_
        have HB := n7_
        clear n0_ n1_ n2_ n3_ n4_ n5_ n6_ n7_
        (try clear hb)
        (try clear hb2)
        (try clear hk)
        (try clear hi)
        refine hK.out _ _ ⟨(blk_cell BK182.out 0).trans rfl, (blk_cell BK182.out 1).trans rfl, (blk_cell BK182.out 2).trans rfl, (blk_cell BK182.out 3).trans rfl, (blk_cell BK182.out 4).trans rfl, (blk_cell BK182.out 5).trans rfl, (blk_cell BK182.out 6).trans rfl, (blk_cell BK182.out 7).trans rfl, (blk_cell BK182.out 8).trans rfl, (blk_cell BK182.out 9).trans rfl, (blk_cell BK182.out 10).trans rfl, (blk_cell BK182.out 11).trans rfl, (blk_cell BK182.out 12).trans rfl, (blk_cell BK182.out 13).trans rfl, (blk_cell BK182.out 14).trans rfl, (blk_cell BK182.out 15).trans rfl, (blk_cell BK184.out 0).trans rfl, (blk_cell BK184.out 1).trans rfl, (blk_cell BK196.out 0).trans rfl, (blk_cell BK196.out 1).trans rfl⟩ (fun hHeld => ?_)
        clear hK K
        refine norm_ (a' := ?_) ?_ ?_
        rotate_left
        · show Act.put _ (some 51) _ = _
          simp only [Act.put, List.setIfInBounds_toArray, List.set_cons_zero, List.set_cons_succ, i64_w, i32_w]
          rfl
        refine one_ (i := 10) (N := some 54) #[true, true, true, true, true, true, true, true, true, true, true, false, true, true, true, false, false, false] rfl rfl (one_of HT_.out (by kernel_rfl)) (by decide) (fun K hK => ?_)
        refine goes_ Try.func38 (by kernel_rfl) rfl #[.agg #[.int .u8 a0_0, .int .u8 a0_1, .int .u8 a0_2, .int .u8 a0_3, .int .u8 a0_4, .int .u8 a0_5, .int .u8 a0_6, .int .u8 a0_7, .int .u8 a0_8, .int .u8 a0_9, .int .u8 a0_10, .int .u8 a0_11, .int .u8 a0_12, .int .u8 a0_13, .int .u8 a0_14, .int .u8 a0_15], .agg #[.int .u32 a1_0, .int .u32 a1_1]] (by rfl) rfl rfl (by (try simp only [List.map_toArray, List.map_cons, List.map_nil]); first | done | rfl | (simp only [List.length_drop, List.length_take]; rfl)) ?_
        with_reducible refine (xtea_Block.calls a0_0 a0_1 a0_2 a0_3 a0_4 a0_5 a0_6 a0_7 a0_8 a0_9 a0_10 a0_11 a0_12 a0_13 a0_14 a0_15 a1_0 a1_1 t199 t200 _ A12.out).mono ?_
        rintro e w40 ⟨rfl, hb⟩
        refine ⟨_, rfl, ?_⟩
        have n0_ := Aside0.mk (Kd.R_below (by (with_reducible repeat (first | apply Kd.R_alloc | apply Kd.R_drewN | apply Kd.R_drew)); exact HO188.out) hb)
        have n1_ := Aside0.mk (Kd.R_below (by (with_reducible repeat (first | apply Kd.R_alloc | apply Kd.R_drewN | apply Kd.R_drew)); exact HO191.out) hb)
        have n2_ := Aside0.mk (Kd.R_below (by (with_reducible repeat (first | apply Kd.R_alloc | apply Kd.R_drewN | apply Kd.R_drew)); exact HO194.out) hb)
        have n3_ := Aside0.mk (blk_below (g := gb182) (o := .cells #[.int .u8 a0_0, .int .u8 a0_1, .int .u8 a0_2, .int .u8 a0_3, .int .u8 a0_4, .int .u8 a0_5, .int .u8 a0_6, .int .u8 a0_7, .int .u8 a0_8, .int .u8 a0_9, .int .u8 a0_10, .int .u8 a0_11, .int .u8 a0_12, .int .u8 a0_13, .int .u8 a0_14, .int .u8 a0_15] 44 (0, 0)) (by (with_reducible repeat (first | refine blk_drewN ?_ _ | refine blk_drew ?_ | refine blk_alloc ?_ _)); exact BK182.out) hb)
        have n4_ := Aside0.mk (blk_below (g := gb183) (o := .cells #[.int .u32 a1_0, .int .u32 a1_1, .int .u32 a1_2] 45 (0, 0)) (by (with_reducible repeat (first | refine blk_drewN ?_ _ | refine blk_drew ?_ | refine blk_alloc ?_ _)); exact BK183.out) hb)
        have n5_ := Aside0.mk (blk_below (g := gb184) (o := .cells #[.int .u32 a2_0, .int .u32 a2_1] 46 (0, 0)) (by (with_reducible repeat (first | refine blk_drewN ?_ _ | refine blk_drew ?_ | refine blk_alloc ?_ _)); exact BK184.out) hb)
        have n6_ := Aside0.mk (blk_below (g := gb196) (o := .cells #[.int .u32 a1_0, .int .u32 a1_1] 46 (0, 0)) (by (with_reducible repeat (first | refine blk_drewN ?_ _ | refine blk_drew ?_ | refine blk_alloc ?_ _)); exact BK196.out) hb)
        have n7_ := Aside0.mk (below_step (by repeat (first | (with_reducible first | exact HB.out | apply below_alloc | apply pw_below_drewN | apply below_drew1 | refine below_set ?_ GE182.out | refine below_set ?_ GE183.out | refine below_set ?_ GE184.out | refine below_set ?_ GE196.out) | exact HB.out)) hb)
        clear HO188
        clear HO191
        clear HO194
        clear BK182
        clear BK183
        clear BK184
        clear BK196
        clear HB
        have HO188 := n0_
        have HO191 := n1_
        have HO194 := n2_
        have BK182 := n3_
        have BK183 := n4_
        have BK184 := n5_
        have BK196 := n6_
        have HB := n7_
        clear n0_ n1_ n2_ n3_ n4_ n5_ n6_ n7_
        (try clear hb)
        (try clear hb2)
        (try clear hk)
        (try clear hi)
        refine hK.out _ _ ⟨(blk_cell BK182.out 0).trans rfl, (blk_cell BK182.out 1).trans rfl, (blk_cell BK182.out 2).trans rfl, (blk_cell BK182.out 3).trans rfl, (blk_cell BK182.out 4).trans rfl, (blk_cell BK182.out 5).trans rfl, (blk_cell BK182.out 6).trans rfl, (blk_cell BK182.out 7).trans rfl, (blk_cell BK182.out 8).trans rfl, (blk_cell BK182.out 9).trans rfl, (blk_cell BK182.out 10).trans rfl, (blk_cell BK182.out 11).trans rfl, (blk_cell BK182.out 12).trans rfl, (blk_cell BK182.out 13).trans rfl, (blk_cell BK182.out 14).trans rfl, (blk_cell BK182.out 15).trans rfl, (blk_cell BK184.out 0).trans rfl, (blk_cell BK184.out 1).trans rfl, (blk_cell BK196.out 0).trans rfl, (blk_cell BK196.out 1).trans rfl⟩ (fun hHeld => ?_)
        clear hK K
        refine norm_ (a' := ?_) ?_ ?_
        rotate_left
        · show Act.put _ (some 54) _ = _
          simp only [Act.put, List.setIfInBounds_toArray, List.set_cons_zero, List.set_cons_succ, i64_w, i32_w]
          rfl
        refine pure_ (i := 11) (N := some 55) (v := ?_) (a' := ?_) #[true, true, true, true, true, true, true, true, true, true, true, true, true, true, true, false, false, false] rfl rfl (any_of HT_.out (by kernel_rfl)) (fun _ _ _ h => h) (Or.inl ⟨by rfl, ?_⟩) ?_ ?_
        rotate_left
        · intro w'
          go_simp
          with_reducible rfl
        rotate_left
        · simp only [Act.put, List.setIfInBounds_toArray, List.set_cons_zero, List.set_cons_succ, i64_w, i32_w]
          rfl
        refine pure_ (i := 15) (N := some 59) (v := ?_) (a' := ?_) #[true, true, true, true, true, true, true, true, true, true, true, true, true, true, true, true, false, false] rfl rfl (any_of HT_.out (by kernel_rfl)) (fun _ _ _ h => h) (Or.inl ⟨by rfl, ?_⟩) ?_ ?_
        rotate_left
        · intro w'
          go_simp
          with_reducible rfl
        rotate_left
        · simp only [Act.put, List.setIfInBounds_toArray, List.set_cons_zero, List.set_cons_succ, i64_w, i32_w]
          rfl
        refine pure_ (i := 16) (N := some 60) (v := ?_) (a' := ?_) #[true, true, true, true, true, true, true, true, true, true, true, true, true, true, true, true, true, false] rfl rfl (any_of HT_.out (by kernel_rfl)) (fun _ _ _ h => h) (Or.inl ⟨by rfl, ?_⟩) ?_ ?_
        rotate_left
        · intro w'
          go_simp
          with_reducible rfl
        rotate_left
        · simp only [Act.put, List.setIfInBounds_toArray, List.set_cons_zero, List.set_cons_succ, i64_w, i32_w]
          rfl
        refine pure_ (i := 17) (N := some 6) (v := ?_) (a' := ?_) #[true, true, true, true, true, true, true, true, true, true, true, true, true, true, true, true, true, true] rfl rfl (any_of HT_.out (by kernel_rfl)) (fun _ _ _ h => h) (Or.inl ⟨by rfl, ?_⟩) ?_ ?_
        rotate_left
        · intro w'
          go_simp
          with_reducible rfl
        rotate_left
        · simp only [Act.put, List.setIfInBounds_toArray, List.set_cons_zero, List.set_cons_succ, i64_w, i32_w]
          rfl
        refine done_ (done_of HT_.out (by kernel_rfl)) ?_
        try go_wp2
        go_ret
        exact ⟨by first | rfl | (simp [errW_none, errW_some] <;> rfl) | (simp [*, errW_none, errW_some] <;> rfl), by repeat (first | (with_reducible first | exact HB.out | apply below_alloc | apply pw_below_drewN | apply below_drew1 | refine below_set ?_ GE182.out | refine below_set ?_ GE183.out | refine below_set ?_ GE184.out | refine below_set ?_ GE196.out) | exact HB.out)⟩
      · replace c10 := Bool.eq_false_iff.mpr c10
        subst c10
        have H1 : (some false) = some r := by rw [if_neg (show ¬ (false = true) by decide)] at H; exact H
        rw [hrt.out] at H1
        cases H1
    · replace c9 := Bool.eq_false_iff.mpr c9
      subst c9
      have H1 : (some false) = some r := by rw [if_neg (show ¬ (false = true) by decide)] at H; exact H
      rw [hrt.out] at H1
      cases H1
  · rw [if_neg c5] at H
    exact absurd H (by simp)

end Go.Proofs.Ytmibdlapjddfoaa.QXtea
