-- Text written by a program of this session (wip/tools).
import Derived.Test.YtmibdlapjddfoaaQXteax0
import Derived.Test.YtmibdlapjddfoaaQXteax2
namespace Go.Proofs.Ytmibdlapjddfoaa.QXtea
open Go.RowKit Go.Proofs.YtmibdlapjddfoaaW.PrintWords Go.Proofs.YtmibdlapjddfoaaW.PrintLast Go.Proofs.YtmibdlapjddfoaaW.PrintMore
attribute [local go_sem] max2_int min2_int max_two min_two max_three min_three max_four min_four   -- for this text's walks alone
set_option linter.unusedVariables false
set_option linter.unusedSimpArgs false

/-! ### carapaceref02_Block: function 39 -/
set_option maxHeartbeats 1600000 in
theorem carapaceref02_Block.word0 (k0 k1 k2 k3 k4 k5 k6 k7 k8 k9 k10 k11 k12 k13 k14 k15 : Int) (w : World) (h0 : Aside0 (0 ≤ k0 ∧ k0 < 256)) (h1 : Aside0 (0 ≤ k1 ∧ k1 < 256)) (h2 : Aside0 (0 ≤ k2 ∧ k2 < 256)) (h3 : Aside0 (0 ≤ k3 ∧ k3 < 256)) : Calls Try.prog 51 #[.agg #[.int .u8 k0, .int .u8 k1, .int .u8 k2, .int .u8 k3, .int .u8 k4, .int .u8 k5, .int .u8 k6, .int .u8 k7, .int .u8 k8, .int .u8 k9, .int .u8 k10, .int .u8 k11, .int .u8 k12, .int .u8 k13, .int .u8 k14, .int .u8 k15], .int .u32 0] w fun e w' => e = .returned (.int .u32 (xtea_wd k0 k1 k2 k3)) ∧ Below w.heap.size w w' := by
  have v1 : IntKind.i64.wrap 1 = 1 := by decide
  have v2 : IntKind.i64.wrap 2 = 2 := by decide
  have v3 : IntKind.i64.wrap 3 = 3 := by decide
  go_enter Try.func51, Try.ntmps51
  go_wp2
  have hbk := blk_new w (.cells #[.int .u8 k0, .int .u8 k1, .int .u8 k2, .int .u8 k3, .int .u8 k4, .int .u8 k5, .int .u8 k6, .int .u8 k7, .int .u8 k8, .int .u8 k9, .int .u8 k10, .int .u8 k11, .int .u8 k12, .int .u8 k13, .int .u8 k14, .int .u8 k15] 44)
  have c0 : World.cell? (w.alloc (.cells #[.int .u8 k0, .int .u8 k1, .int .u8 k2, .int .u8 k3, .int .u8 k4, .int .u8 k5, .int .u8 k6, .int .u8 k7, .int .u8 k8, .int .u8 k9, .int .u8 k10, .int .u8 k11, .int .u8 k12, .int .u8 k13, .int .u8 k14, .int .u8 k15] 44)) ⟨w.heap.size, 0, none⟩ = some (.int .u8 k0) := by rw [blk_cell hbk]; rfl
  have c1 : World.cell? (w.alloc (.cells #[.int .u8 k0, .int .u8 k1, .int .u8 k2, .int .u8 k3, .int .u8 k4, .int .u8 k5, .int .u8 k6, .int .u8 k7, .int .u8 k8, .int .u8 k9, .int .u8 k10, .int .u8 k11, .int .u8 k12, .int .u8 k13, .int .u8 k14, .int .u8 k15] 44)) ⟨w.heap.size, 1, none⟩ = some (.int .u8 k1) := by rw [blk_cell hbk]; rfl
  have c2 : World.cell? (w.alloc (.cells #[.int .u8 k0, .int .u8 k1, .int .u8 k2, .int .u8 k3, .int .u8 k4, .int .u8 k5, .int .u8 k6, .int .u8 k7, .int .u8 k8, .int .u8 k9, .int .u8 k10, .int .u8 k11, .int .u8 k12, .int .u8 k13, .int .u8 k14, .int .u8 k15] 44)) ⟨w.heap.size, 2, none⟩ = some (.int .u8 k2) := by rw [blk_cell hbk]; rfl
  have c3 : World.cell? (w.alloc (.cells #[.int .u8 k0, .int .u8 k1, .int .u8 k2, .int .u8 k3, .int .u8 k4, .int .u8 k5, .int .u8 k6, .int .u8 k7, .int .u8 k8, .int .u8 k9, .int .u8 k10, .int .u8 k11, .int .u8 k12, .int .u8 k13, .int .u8 k14, .int .u8 k15] 44)) ⟨w.heap.size, 3, none⟩ = some (.int .u8 k3) := by rw [blk_cell hbk]; rfl
  have HB := Aside0.mk (below_alloc (Below.refl w.heap.size w) (.cells #[.int .u8 k0, .int .u8 k1, .int .u8 k2, .int .u8 k3, .int .u8 k4, .int .u8 k5, .int .u8 k6, .int .u8 k7, .int .u8 k8, .int .u8 k9, .int .u8 k10, .int .u8 k11, .int .u8 k12, .int .u8 k13, .int .u8 k14, .int .u8 k15] 44))
  clear hbk
  generalize w.alloc (.cells #[.int .u8 k0, .int .u8 k1, .int .u8 k2, .int .u8 k3, .int .u8 k4, .int .u8 k5, .int .u8 k6, .int .u8 k7, .int .u8 k8, .int .u8 k9, .int .u8 k10, .int .u8 k11, .int .u8 k12, .int .u8 k13, .int .u8 k14, .int .u8 k15] 44) = W1 at *
  refine wp_region_still_tail 25 (by kernel_rfl) (by kernel_rfl) ?_
  simp only [List.take_succ_cons, List.take_zero, List.drop_succ_cons, List.drop_zero]
  repeat still_step
  refine wpStill_nil ?_
  change wpList _ _ _ _ _ W1.drew
  go_wp2
  go_ret
  have uw : ∀ n, IntKind.u32.wrap n = n % 4294967296 := IntKind.wrap_u32
  have := h0.out
  have := h1.out
  have := h2.out
  have := h3.out
  exact ⟨congrArg (fun z => Ending.returned (.int .u32 z)) (by simp only [uw]; unfold xtea_wd; omega), below_drew HB.out⟩
set_option maxHeartbeats 1600000 in
theorem carapaceref02_Block.word1 (k0 k1 k2 k3 k4 k5 k6 k7 k8 k9 k10 k11 k12 k13 k14 k15 : Int) (w : World) (h4 : Aside0 (0 ≤ k4 ∧ k4 < 256)) (h5 : Aside0 (0 ≤ k5 ∧ k5 < 256)) (h6 : Aside0 (0 ≤ k6 ∧ k6 < 256)) (h7 : Aside0 (0 ≤ k7 ∧ k7 < 256)) : Calls Try.prog 51 #[.agg #[.int .u8 k0, .int .u8 k1, .int .u8 k2, .int .u8 k3, .int .u8 k4, .int .u8 k5, .int .u8 k6, .int .u8 k7, .int .u8 k8, .int .u8 k9, .int .u8 k10, .int .u8 k11, .int .u8 k12, .int .u8 k13, .int .u8 k14, .int .u8 k15], .int .u32 1] w fun e w' => e = .returned (.int .u32 (xtea_wd k4 k5 k6 k7)) ∧ Below w.heap.size w w' := by
  have v1 : IntKind.i64.wrap 5 = 5 := by decide
  have v2 : IntKind.i64.wrap 6 = 6 := by decide
  have v3 : IntKind.i64.wrap 7 = 7 := by decide
  go_enter Try.func51, Try.ntmps51
  go_wp2
  have hbk := blk_new w (.cells #[.int .u8 k0, .int .u8 k1, .int .u8 k2, .int .u8 k3, .int .u8 k4, .int .u8 k5, .int .u8 k6, .int .u8 k7, .int .u8 k8, .int .u8 k9, .int .u8 k10, .int .u8 k11, .int .u8 k12, .int .u8 k13, .int .u8 k14, .int .u8 k15] 44)
  have c0 : World.cell? (w.alloc (.cells #[.int .u8 k0, .int .u8 k1, .int .u8 k2, .int .u8 k3, .int .u8 k4, .int .u8 k5, .int .u8 k6, .int .u8 k7, .int .u8 k8, .int .u8 k9, .int .u8 k10, .int .u8 k11, .int .u8 k12, .int .u8 k13, .int .u8 k14, .int .u8 k15] 44)) ⟨w.heap.size, 4, none⟩ = some (.int .u8 k4) := by rw [blk_cell hbk]; rfl
  have c1 : World.cell? (w.alloc (.cells #[.int .u8 k0, .int .u8 k1, .int .u8 k2, .int .u8 k3, .int .u8 k4, .int .u8 k5, .int .u8 k6, .int .u8 k7, .int .u8 k8, .int .u8 k9, .int .u8 k10, .int .u8 k11, .int .u8 k12, .int .u8 k13, .int .u8 k14, .int .u8 k15] 44)) ⟨w.heap.size, 5, none⟩ = some (.int .u8 k5) := by rw [blk_cell hbk]; rfl
  have c2 : World.cell? (w.alloc (.cells #[.int .u8 k0, .int .u8 k1, .int .u8 k2, .int .u8 k3, .int .u8 k4, .int .u8 k5, .int .u8 k6, .int .u8 k7, .int .u8 k8, .int .u8 k9, .int .u8 k10, .int .u8 k11, .int .u8 k12, .int .u8 k13, .int .u8 k14, .int .u8 k15] 44)) ⟨w.heap.size, 6, none⟩ = some (.int .u8 k6) := by rw [blk_cell hbk]; rfl
  have c3 : World.cell? (w.alloc (.cells #[.int .u8 k0, .int .u8 k1, .int .u8 k2, .int .u8 k3, .int .u8 k4, .int .u8 k5, .int .u8 k6, .int .u8 k7, .int .u8 k8, .int .u8 k9, .int .u8 k10, .int .u8 k11, .int .u8 k12, .int .u8 k13, .int .u8 k14, .int .u8 k15] 44)) ⟨w.heap.size, 7, none⟩ = some (.int .u8 k7) := by rw [blk_cell hbk]; rfl
  have HB := Aside0.mk (below_alloc (Below.refl w.heap.size w) (.cells #[.int .u8 k0, .int .u8 k1, .int .u8 k2, .int .u8 k3, .int .u8 k4, .int .u8 k5, .int .u8 k6, .int .u8 k7, .int .u8 k8, .int .u8 k9, .int .u8 k10, .int .u8 k11, .int .u8 k12, .int .u8 k13, .int .u8 k14, .int .u8 k15] 44))
  clear hbk
  generalize w.alloc (.cells #[.int .u8 k0, .int .u8 k1, .int .u8 k2, .int .u8 k3, .int .u8 k4, .int .u8 k5, .int .u8 k6, .int .u8 k7, .int .u8 k8, .int .u8 k9, .int .u8 k10, .int .u8 k11, .int .u8 k12, .int .u8 k13, .int .u8 k14, .int .u8 k15] 44) = W1 at *
  refine wp_region_still_tail 25 (by kernel_rfl) (by kernel_rfl) ?_
  simp only [List.take_succ_cons, List.take_zero, List.drop_succ_cons, List.drop_zero]
  repeat still_step
  refine wpStill_nil ?_
  change wpList _ _ _ _ _ W1.drew
  go_wp2
  go_ret
  have uw : ∀ n, IntKind.u32.wrap n = n % 4294967296 := IntKind.wrap_u32
  have := h4.out
  have := h5.out
  have := h6.out
  have := h7.out
  exact ⟨congrArg (fun z => Ending.returned (.int .u32 z)) (by simp only [uw]; unfold xtea_wd; omega), below_drew HB.out⟩
set_option maxHeartbeats 1600000 in
theorem carapaceref02_Block.word2 (k0 k1 k2 k3 k4 k5 k6 k7 k8 k9 k10 k11 k12 k13 k14 k15 : Int) (w : World) (h8 : Aside0 (0 ≤ k8 ∧ k8 < 256)) (h9 : Aside0 (0 ≤ k9 ∧ k9 < 256)) (h10 : Aside0 (0 ≤ k10 ∧ k10 < 256)) (h11 : Aside0 (0 ≤ k11 ∧ k11 < 256)) : Calls Try.prog 51 #[.agg #[.int .u8 k0, .int .u8 k1, .int .u8 k2, .int .u8 k3, .int .u8 k4, .int .u8 k5, .int .u8 k6, .int .u8 k7, .int .u8 k8, .int .u8 k9, .int .u8 k10, .int .u8 k11, .int .u8 k12, .int .u8 k13, .int .u8 k14, .int .u8 k15], .int .u32 2] w fun e w' => e = .returned (.int .u32 (xtea_wd k8 k9 k10 k11)) ∧ Below w.heap.size w w' := by
  have v1 : IntKind.i64.wrap 9 = 9 := by decide
  have v2 : IntKind.i64.wrap 10 = 10 := by decide
  have v3 : IntKind.i64.wrap 11 = 11 := by decide
  go_enter Try.func51, Try.ntmps51
  go_wp2
  have hbk := blk_new w (.cells #[.int .u8 k0, .int .u8 k1, .int .u8 k2, .int .u8 k3, .int .u8 k4, .int .u8 k5, .int .u8 k6, .int .u8 k7, .int .u8 k8, .int .u8 k9, .int .u8 k10, .int .u8 k11, .int .u8 k12, .int .u8 k13, .int .u8 k14, .int .u8 k15] 44)
  have c0 : World.cell? (w.alloc (.cells #[.int .u8 k0, .int .u8 k1, .int .u8 k2, .int .u8 k3, .int .u8 k4, .int .u8 k5, .int .u8 k6, .int .u8 k7, .int .u8 k8, .int .u8 k9, .int .u8 k10, .int .u8 k11, .int .u8 k12, .int .u8 k13, .int .u8 k14, .int .u8 k15] 44)) ⟨w.heap.size, 8, none⟩ = some (.int .u8 k8) := by rw [blk_cell hbk]; rfl
  have c1 : World.cell? (w.alloc (.cells #[.int .u8 k0, .int .u8 k1, .int .u8 k2, .int .u8 k3, .int .u8 k4, .int .u8 k5, .int .u8 k6, .int .u8 k7, .int .u8 k8, .int .u8 k9, .int .u8 k10, .int .u8 k11, .int .u8 k12, .int .u8 k13, .int .u8 k14, .int .u8 k15] 44)) ⟨w.heap.size, 9, none⟩ = some (.int .u8 k9) := by rw [blk_cell hbk]; rfl
  have c2 : World.cell? (w.alloc (.cells #[.int .u8 k0, .int .u8 k1, .int .u8 k2, .int .u8 k3, .int .u8 k4, .int .u8 k5, .int .u8 k6, .int .u8 k7, .int .u8 k8, .int .u8 k9, .int .u8 k10, .int .u8 k11, .int .u8 k12, .int .u8 k13, .int .u8 k14, .int .u8 k15] 44)) ⟨w.heap.size, 10, none⟩ = some (.int .u8 k10) := by rw [blk_cell hbk]; rfl
  have c3 : World.cell? (w.alloc (.cells #[.int .u8 k0, .int .u8 k1, .int .u8 k2, .int .u8 k3, .int .u8 k4, .int .u8 k5, .int .u8 k6, .int .u8 k7, .int .u8 k8, .int .u8 k9, .int .u8 k10, .int .u8 k11, .int .u8 k12, .int .u8 k13, .int .u8 k14, .int .u8 k15] 44)) ⟨w.heap.size, 11, none⟩ = some (.int .u8 k11) := by rw [blk_cell hbk]; rfl
  have HB := Aside0.mk (below_alloc (Below.refl w.heap.size w) (.cells #[.int .u8 k0, .int .u8 k1, .int .u8 k2, .int .u8 k3, .int .u8 k4, .int .u8 k5, .int .u8 k6, .int .u8 k7, .int .u8 k8, .int .u8 k9, .int .u8 k10, .int .u8 k11, .int .u8 k12, .int .u8 k13, .int .u8 k14, .int .u8 k15] 44))
  clear hbk
  generalize w.alloc (.cells #[.int .u8 k0, .int .u8 k1, .int .u8 k2, .int .u8 k3, .int .u8 k4, .int .u8 k5, .int .u8 k6, .int .u8 k7, .int .u8 k8, .int .u8 k9, .int .u8 k10, .int .u8 k11, .int .u8 k12, .int .u8 k13, .int .u8 k14, .int .u8 k15] 44) = W1 at *
  refine wp_region_still_tail 25 (by kernel_rfl) (by kernel_rfl) ?_
  simp only [List.take_succ_cons, List.take_zero, List.drop_succ_cons, List.drop_zero]
  repeat still_step
  refine wpStill_nil ?_
  change wpList _ _ _ _ _ W1.drew
  go_wp2
  go_ret
  have uw : ∀ n, IntKind.u32.wrap n = n % 4294967296 := IntKind.wrap_u32
  have := h8.out
  have := h9.out
  have := h10.out
  have := h11.out
  exact ⟨congrArg (fun z => Ending.returned (.int .u32 z)) (by simp only [uw]; unfold xtea_wd; omega), below_drew HB.out⟩
set_option maxHeartbeats 1600000 in
theorem carapaceref02_Block.word3 (k0 k1 k2 k3 k4 k5 k6 k7 k8 k9 k10 k11 k12 k13 k14 k15 : Int) (w : World) (h12 : Aside0 (0 ≤ k12 ∧ k12 < 256)) (h13 : Aside0 (0 ≤ k13 ∧ k13 < 256)) (h14 : Aside0 (0 ≤ k14 ∧ k14 < 256)) (h15 : Aside0 (0 ≤ k15 ∧ k15 < 256)) : Calls Try.prog 51 #[.agg #[.int .u8 k0, .int .u8 k1, .int .u8 k2, .int .u8 k3, .int .u8 k4, .int .u8 k5, .int .u8 k6, .int .u8 k7, .int .u8 k8, .int .u8 k9, .int .u8 k10, .int .u8 k11, .int .u8 k12, .int .u8 k13, .int .u8 k14, .int .u8 k15], .int .u32 3] w fun e w' => e = .returned (.int .u32 (xtea_wd k12 k13 k14 k15)) ∧ Below w.heap.size w w' := by
  have v1 : IntKind.i64.wrap 13 = 13 := by decide
  have v2 : IntKind.i64.wrap 14 = 14 := by decide
  have v3 : IntKind.i64.wrap 15 = 15 := by decide
  go_enter Try.func51, Try.ntmps51
  go_wp2
  have hbk := blk_new w (.cells #[.int .u8 k0, .int .u8 k1, .int .u8 k2, .int .u8 k3, .int .u8 k4, .int .u8 k5, .int .u8 k6, .int .u8 k7, .int .u8 k8, .int .u8 k9, .int .u8 k10, .int .u8 k11, .int .u8 k12, .int .u8 k13, .int .u8 k14, .int .u8 k15] 44)
  have c0 : World.cell? (w.alloc (.cells #[.int .u8 k0, .int .u8 k1, .int .u8 k2, .int .u8 k3, .int .u8 k4, .int .u8 k5, .int .u8 k6, .int .u8 k7, .int .u8 k8, .int .u8 k9, .int .u8 k10, .int .u8 k11, .int .u8 k12, .int .u8 k13, .int .u8 k14, .int .u8 k15] 44)) ⟨w.heap.size, 12, none⟩ = some (.int .u8 k12) := by rw [blk_cell hbk]; rfl
  have c1 : World.cell? (w.alloc (.cells #[.int .u8 k0, .int .u8 k1, .int .u8 k2, .int .u8 k3, .int .u8 k4, .int .u8 k5, .int .u8 k6, .int .u8 k7, .int .u8 k8, .int .u8 k9, .int .u8 k10, .int .u8 k11, .int .u8 k12, .int .u8 k13, .int .u8 k14, .int .u8 k15] 44)) ⟨w.heap.size, 13, none⟩ = some (.int .u8 k13) := by rw [blk_cell hbk]; rfl
  have c2 : World.cell? (w.alloc (.cells #[.int .u8 k0, .int .u8 k1, .int .u8 k2, .int .u8 k3, .int .u8 k4, .int .u8 k5, .int .u8 k6, .int .u8 k7, .int .u8 k8, .int .u8 k9, .int .u8 k10, .int .u8 k11, .int .u8 k12, .int .u8 k13, .int .u8 k14, .int .u8 k15] 44)) ⟨w.heap.size, 14, none⟩ = some (.int .u8 k14) := by rw [blk_cell hbk]; rfl
  have c3 : World.cell? (w.alloc (.cells #[.int .u8 k0, .int .u8 k1, .int .u8 k2, .int .u8 k3, .int .u8 k4, .int .u8 k5, .int .u8 k6, .int .u8 k7, .int .u8 k8, .int .u8 k9, .int .u8 k10, .int .u8 k11, .int .u8 k12, .int .u8 k13, .int .u8 k14, .int .u8 k15] 44)) ⟨w.heap.size, 15, none⟩ = some (.int .u8 k15) := by rw [blk_cell hbk]; rfl
  have HB := Aside0.mk (below_alloc (Below.refl w.heap.size w) (.cells #[.int .u8 k0, .int .u8 k1, .int .u8 k2, .int .u8 k3, .int .u8 k4, .int .u8 k5, .int .u8 k6, .int .u8 k7, .int .u8 k8, .int .u8 k9, .int .u8 k10, .int .u8 k11, .int .u8 k12, .int .u8 k13, .int .u8 k14, .int .u8 k15] 44))
  clear hbk
  generalize w.alloc (.cells #[.int .u8 k0, .int .u8 k1, .int .u8 k2, .int .u8 k3, .int .u8 k4, .int .u8 k5, .int .u8 k6, .int .u8 k7, .int .u8 k8, .int .u8 k9, .int .u8 k10, .int .u8 k11, .int .u8 k12, .int .u8 k13, .int .u8 k14, .int .u8 k15] 44) = W1 at *
  refine wp_region_still_tail 25 (by kernel_rfl) (by kernel_rfl) ?_
  simp only [List.take_succ_cons, List.take_zero, List.drop_succ_cons, List.drop_zero]
  repeat still_step
  refine wpStill_nil ?_
  change wpList _ _ _ _ _ W1.drew
  go_wp2
  go_ret
  have uw : ∀ n, IntKind.u32.wrap n = n % 4294967296 := IntKind.wrap_u32
  have := h12.out
  have := h13.out
  have := h14.out
  have := h15.out
  exact ⟨congrArg (fun z => Ending.returned (.int .u32 z)) (by simp only [uw]; unfold xtea_wd; omega), below_drew HB.out⟩
theorem carapaceref02_Block.word (k0 k1 k2 k3 k4 k5 k6 k7 k8 k9 k10 k11 k12 k13 k14 k15 i : Int) (w : World) (h0 : Aside0 (0 ≤ k0 ∧ k0 < 256)) (h1 : Aside0 (0 ≤ k1 ∧ k1 < 256)) (h2 : Aside0 (0 ≤ k2 ∧ k2 < 256)) (h3 : Aside0 (0 ≤ k3 ∧ k3 < 256)) (h4 : Aside0 (0 ≤ k4 ∧ k4 < 256)) (h5 : Aside0 (0 ≤ k5 ∧ k5 < 256)) (h6 : Aside0 (0 ≤ k6 ∧ k6 < 256)) (h7 : Aside0 (0 ≤ k7 ∧ k7 < 256)) (h8 : Aside0 (0 ≤ k8 ∧ k8 < 256)) (h9 : Aside0 (0 ≤ k9 ∧ k9 < 256)) (h10 : Aside0 (0 ≤ k10 ∧ k10 < 256)) (h11 : Aside0 (0 ≤ k11 ∧ k11 < 256)) (h12 : Aside0 (0 ≤ k12 ∧ k12 < 256)) (h13 : Aside0 (0 ≤ k13 ∧ k13 < 256)) (h14 : Aside0 (0 ≤ k14 ∧ k14 < 256)) (h15 : Aside0 (0 ≤ k15 ∧ k15 < 256)) (hi : 0 ≤ i ∧ i < 4) : Calls Try.prog 51 #[.agg #[.int .u8 k0, .int .u8 k1, .int .u8 k2, .int .u8 k3, .int .u8 k4, .int .u8 k5, .int .u8 k6, .int .u8 k7, .int .u8 k8, .int .u8 k9, .int .u8 k10, .int .u8 k11, .int .u8 k12, .int .u8 k13, .int .u8 k14, .int .u8 k15], .int .u32 i] w fun e w' => e = .returned (.int .u32 (rd [xtea_wd k0 k1 k2 k3, xtea_wd k4 k5 k6 k7, xtea_wd k8 k9 k10 k11, xtea_wd k12 k13 k14 k15] i)) ∧ Below w.heap.size w w' := by
  have h : i = 0 ∨ i = 1 ∨ i = 2 ∨ i = 3 := by omega
  rcases h with rfl | rfl | rfl | rfl
  · exact carapaceref02_Block.word0 k0 k1 k2 k3 k4 k5 k6 k7 k8 k9 k10 k11 k12 k13 k14 k15 w h0 h1 h2 h3
  · exact carapaceref02_Block.word1 k0 k1 k2 k3 k4 k5 k6 k7 k8 k9 k10 k11 k12 k13 k14 k15 w h4 h5 h6 h7
  · exact carapaceref02_Block.word2 k0 k1 k2 k3 k4 k5 k6 k7 k8 k9 k10 k11 k12 k13 k14 k15 w h8 h9 h10 h11
  · exact carapaceref02_Block.word3 k0 k1 k2 k3 k4 k5 k6 k7 k8 k9 k10 k11 k12 k13 k14 k15 w h12 h13 h14 h15
theorem carapaceref02_Block.mix (x s k : Int) (w : World) (hx : 0 ≤ x ∧ x < 4294967296) : Calls Try.prog 50 #[.int .u32 x, .int .u32 s, .int .u32 k] w fun e w' => e = .returned (.int .u32 (xtea_mx x s k)) ∧ w' = w := by
  have HX := Aside0.mk hx
  clear hx
  go_enter Try.func50, Try.ntmps50
  go_wp2
  go_ret
  have hx := HX.out
  have e : Int.tdiv x 32 % 4294967296 = x / 32 := by rw [Int.tdiv_eq_ediv_of_nonneg hx.1]; omega
  unfold xtea_mx
  rw [← e]
  exact ⟨rfl, rfl⟩
set_option maxHeartbeats 1600000 in
set_option maxRecDepth 100000 in
theorem carapaceref02_Block.walk (k0 k1 k2 k3 k4 k5 k6 k7 k8 k9 k10 k11 k12 k13 k14 k15 a b : Int) (w : World) (h0 : Aside0 (0 ≤ k0 ∧ k0 < 256)) (h1 : Aside0 (0 ≤ k1 ∧ k1 < 256)) (h2 : Aside0 (0 ≤ k2 ∧ k2 < 256)) (h3 : Aside0 (0 ≤ k3 ∧ k3 < 256)) (h4 : Aside0 (0 ≤ k4 ∧ k4 < 256)) (h5 : Aside0 (0 ≤ k5 ∧ k5 < 256)) (h6 : Aside0 (0 ≤ k6 ∧ k6 < 256)) (h7 : Aside0 (0 ≤ k7 ∧ k7 < 256)) (h8 : Aside0 (0 ≤ k8 ∧ k8 < 256)) (h9 : Aside0 (0 ≤ k9 ∧ k9 < 256)) (h10 : Aside0 (0 ≤ k10 ∧ k10 < 256)) (h11 : Aside0 (0 ≤ k11 ∧ k11 < 256)) (h12 : Aside0 (0 ≤ k12 ∧ k12 < 256)) (h13 : Aside0 (0 ≤ k13 ∧ k13 < 256)) (h14 : Aside0 (0 ≤ k14 ∧ k14 < 256)) (h15 : Aside0 (0 ≤ k15 ∧ k15 < 256)) (ha : Aside0 (0 ≤ a ∧ a < 4294967296)) (hb : Aside0 (0 ≤ b ∧ b < 4294967296)) :
    Calls Try.prog 39 #[.agg #[.int .u8 k0, .int .u8 k1, .int .u8 k2, .int .u8 k3, .int .u8 k4, .int .u8 k5, .int .u8 k6, .int .u8 k7, .int .u8 k8, .int .u8 k9, .int .u8 k10, .int .u8 k11, .int .u8 k12, .int .u8 k13, .int .u8 k14, .int .u8 k15], .agg #[.int .u32 a, .int .u32 b]] w fun e w' => e = .returned (.agg #[.int .u32 (xtea_run [xtea_wd k0 k1 k2 k3, xtea_wd k4 k5 k6 k7, xtea_wd k8 k9 k10 k11, xtea_wd k12 k13 k14 k15] a b 32).1, .int .u32 (xtea_run [xtea_wd k0 k1 k2 k3, xtea_wd k4 k5 k6 k7, xtea_wd k8 k9 k10 k11, xtea_wd k12 k13 k14 k15] a b 32).2.1]) ∧ Below w.heap.size w w' := by
  go_enter Try.func39, Try.ntmps39
  go_wp2
  go_loopw [5, 6, 7, 8] (fun v5 v6 v7 v8 w' => ∃ (m : Nat) (x y s : Int), v5 = .int .u32 x ∧ v6 = .int .u32 y ∧ v7 = .int .u32 s ∧ v8 = .int .i64 (m : Int) ∧ Aside0 (m ≤ 32) ∧ Aside0 (xtea_run [xtea_wd k0 k1 k2 k3, xtea_wd k4 k5 k6 k7, xtea_wd k8 k9 k10 k11, xtea_wd k12 k13 k14 k15] a b m = (x, y, s)) ∧ Aside0 (0 ≤ s ∧ s < 4294967296) ∧ Aside0 (0 ≤ x ∧ x < 4294967296) ∧ Aside0 (0 ≤ y ∧ y < 4294967296) ∧ Aside0 (w'.heap[w.heap.size]? = some (.cells #[.int .u8 k0, .int .u8 k1, .int .u8 k2, .int .u8 k3, .int .u8 k4, .int .u8 k5, .int .u8 k6, .int .u8 k7, .int .u8 k8, .int .u8 k9, .int .u8 k10, .int .u8 k11, .int .u8 k12, .int .u8 k13, .int .u8 k14, .int .u8 k15] 44 (0, 0))) ∧ Aside0 (w'.heap[w.heap.size + 2]? = some (.cells #[.int .u32 0, .int .u32 0] 46 (0, 0))) ∧ Aside0 (Below w.heap.size w w')) (fun v5 v6 v7 v8 w' => match v8 with | .int _ m => 32 - m.toNat | _ => 0)
  case atStart => exact ⟨0, a, b, 0, rfl, rfl, rfl, rfl, ⟨by omega⟩, ⟨rfl⟩, ⟨by decide⟩, ha, hb, ⟨blk_alloc (blk_alloc (blk_new w _) _) _⟩, ⟨by have := blk_new ((w.alloc (Obj.cells #[.int .u8 k0, .int .u8 k1, .int .u8 k2, .int .u8 k3, .int .u8 k4, .int .u8 k5, .int .u8 k6, .int .u8 k7, .int .u8 k8, .int .u8 k9, .int .u8 k10, .int .u8 k11, .int .u8 k12, .int .u8 k13, .int .u8 k14, .int .u8 k15] 44)).alloc (.cells #[.int .u32 a, .int .u32 b] 46)) (.cells #[.int .u32 0, .int .u32 0] 46); simpa using this⟩, ⟨below_alloc (below_alloc (below_alloc (Below.refl _ _) _) _) _⟩⟩
  case round =>
    obtain ⟨m, x, y, s, rfl, rfl, rfl, rfl, HM, HR, HS, HX, HY, HK, HZ, HB⟩ := hrel
    have hm := HM.out
    by_cases hlt : m < 32
    · have dl : decide ((m : Int) < 32) = true := decide_eq_true (by omega)
      have HL := Aside0.mk hlt
      have hs := HS.out
      have HT := Aside0.mk (show 0 ≤ Int.tmod s 4 ∧ Int.tmod s 4 < 4 by rw [Int.tmod_eq_emod_of_nonneg hs.1]; omega)
      clear hm hlt hs
      go_wp2_with (first | ((with_reducible refine gate_dst (N := 20) rfl ?_); refine wpList_load_mid rfl 44 (Operand.tmp 2) rfl w.heap.size 0 rfl [.int .u8 k0, .int .u8 k1, .int .u8 k2, .int .u8 k3, .int .u8 k4, .int .u8 k5, .int .u8 k6, .int .u8 k7, .int .u8 k8, .int .u8 k9, .int .u8 k10, .int .u8 k11, .int .u8 k12, .int .u8 k13, .int .u8 k14, .int .u8 k15] _ (xtea_range HK.out) Try.underlying44 rfl (by show _ = some 16; kernel_rfl) ?_) | ((with_reducible refine gate_dst (N := 31) rfl ?_); refine wpList_load_mid rfl 44 (Operand.tmp 2) rfl w.heap.size 0 rfl [.int .u8 k0, .int .u8 k1, .int .u8 k2, .int .u8 k3, .int .u8 k4, .int .u8 k5, .int .u8 k6, .int .u8 k7, .int .u8 k8, .int .u8 k9, .int .u8 k10, .int .u8 k11, .int .u8 k12, .int .u8 k13, .int .u8 k14, .int .u8 k15] _ (xtea_range HK.out) Try.underlying44 rfl (by show _ = some 16; kernel_rfl) ?_) | (go_at_call 51; (with_reducible refine (carapaceref02_Block.word k0 k1 k2 k3 k4 k5 k6 k7 k8 k9 k10 k11 k12 k13 k14 k15 _ _ h0 h1 h2 h3 h4 h5 h6 h7 h8 h9 h10 h11 h12 h13 h14 h15 ?hi).mono ?_); (case hi => first | exact HT.out | (constructor <;> omega)); rintro e w1 ⟨rfl, hb⟩; have n0 := Aside0.mk (blk_below HK.out hb); have n1 := Aside0.mk (blk_below HZ.out hb); have n2 := Aside0.mk (below_step HB.out hb); clear HK HZ HB hb; have HK := n0; have HZ := n1; have HB := n2; clear n0 n1 n2) | (go_at_call 50; (with_reducible refine (carapaceref02_Block.mix _ _ _ _ ?hx).mono ?_); (case hx => first | exact HY.out | (constructor <;> omega)); rintro e w' ⟨rfl, rfl⟩))
      have hs := HS.out
      have hx := HX.out
      have hy := HY.out
      have hl := HL.out
      have hw : wrap64 ((m : Int) + 1) = ((m + 1 : Nat) : Int) := by unfold wrap64; omega
      rw [Int.tmod_eq_emod_of_nonneg hs.1, hw]
      exact ⟨⟨m + 1, _, _, _, rfl, rfl, rfl, rfl, ⟨by omega⟩, ⟨xtea_run_step HR.out⟩, ⟨by omega⟩, ⟨by omega⟩, ⟨by omega⟩, HK, HZ, HB⟩, by show 32 - (((m + 1 : Nat) : Int)).toNat < 32 - (m : Int).toNat; omega⟩
    · obtain rfl : m = 32 := by omega
      have dl : decide (((32 : Nat) : Int) < 32) = false := by decide
      obtain ⟨z0, z1⟩ := xtea_cell2 HZ.out
      have f0 := blk_frozen HZ.out 0
      have f1 := blk_frozen HZ.out 1
      clear hm
      go_wp2
      have HZ2 := blk_put (blk_put HZ.out 0 (.int .u32 x) rfl) 1 (.int .u32 y) rfl
      obtain ⟨e0, e1⟩ := xtea_cell2 HZ2
      refine bodyPost_ret (v := .agg #[.int .u32 x, .int .u32 y]) (by simp [results, Try.results39, go_sem, e0, e1]) rfl ?_
      refine ⟨by rw [HR.out], below_set (below_set HB.out (by omega)) (by omega)⟩
def carapaceref02_Block.f (a0_0 : Int) (a0_1 : Int) (a0_2 : Int) (a0_3 : Int) (a0_4 : Int) (a0_5 : Int) (a0_6 : Int) (a0_7 : Int) (a0_8 : Int) (a0_9 : Int) (a0_10 : Int) (a0_11 : Int) (a0_12 : Int) (a0_13 : Int) (a0_14 : Int) (a0_15 : Int) (a1_0 : Int) (a1_1 : Int) : Option (Int × Int) := xtea_Block.f a0_0 a0_1 a0_2 a0_3 a0_4 a0_5 a0_6 a0_7 a0_8 a0_9 a0_10 a0_11 a0_12 a0_13 a0_14 a0_15 a1_0 a1_1
theorem carapaceref02_Block.calls (a0_0 : Int) (a0_1 : Int) (a0_2 : Int) (a0_3 : Int) (a0_4 : Int) (a0_5 : Int) (a0_6 : Int) (a0_7 : Int) (a0_8 : Int) (a0_9 : Int) (a0_10 : Int) (a0_11 : Int) (a0_12 : Int) (a0_13 : Int) (a0_14 : Int) (a0_15 : Int) (a1_0 : Int) (a1_1 : Int) (r1 r2 : Int) (w : World) (h : carapaceref02_Block.f a0_0 a0_1 a0_2 a0_3 a0_4 a0_5 a0_6 a0_7 a0_8 a0_9 a0_10 a0_11 a0_12 a0_13 a0_14 a0_15 a1_0 a1_1 = some (r1, r2)) :
    Calls Try.prog 39 #[.agg #[.int .u8 a0_0, .int .u8 a0_1, .int .u8 a0_2, .int .u8 a0_3, .int .u8 a0_4, .int .u8 a0_5, .int .u8 a0_6, .int .u8 a0_7, .int .u8 a0_8, .int .u8 a0_9, .int .u8 a0_10, .int .u8 a0_11, .int .u8 a0_12, .int .u8 a0_13, .int .u8 a0_14, .int .u8 a0_15], .agg #[.int .u32 a1_0, .int .u32 a1_1]] w fun e w' => e = .returned (.agg #[.int .u32 r1, .int .u32 r2]) ∧ Below w.heap.size w w' := by
  unfold carapaceref02_Block.f xtea_Block.f at h
  split at h
  case isFalse => cases h
  case isTrue hg =>
  obtain ⟨hk, ha, hb⟩ := hg
  injection h with h
  injection h with h1 h2
  subst h1 h2
  exact carapaceref02_Block.walk a0_0 a0_1 a0_2 a0_3 a0_4 a0_5 a0_6 a0_7 a0_8 a0_9 a0_10 a0_11 a0_12 a0_13 a0_14 a0_15 a1_0 a1_1 w ⟨hk _ (by simp)⟩ ⟨hk _ (by simp)⟩ ⟨hk _ (by simp)⟩ ⟨hk _ (by simp)⟩ ⟨hk _ (by simp)⟩ ⟨hk _ (by simp)⟩ ⟨hk _ (by simp)⟩ ⟨hk _ (by simp)⟩ ⟨hk _ (by simp)⟩ ⟨hk _ (by simp)⟩ ⟨hk _ (by simp)⟩ ⟨hk _ (by simp)⟩ ⟨hk _ (by simp)⟩ ⟨hk _ (by simp)⟩ ⟨hk _ (by simp)⟩ ⟨hk _ (by simp)⟩ ⟨ha⟩ ⟨hb⟩


end Go.Proofs.Ytmibdlapjddfoaa.QXtea
