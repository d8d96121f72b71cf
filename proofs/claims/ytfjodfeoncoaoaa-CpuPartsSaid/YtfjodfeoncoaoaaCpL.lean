-- carapacelaw11: awake.
import Derived.Test.YtfjodfeoncoaoaaCpK
namespace Go.Proofs.Ytfjodfeoncoaoaa.Pv
set_option linter.all false
open Go.RowKit Go.Proofs
set_option maxRecDepth 100000
set_option maxHeartbeats 4000000
theorem gcall_lend1 {P : Program} {f : FuncId} {x y : PV} {S : List Blk} {R : PV → List Blk → Prop} (h : GCall P f [y] S R) (hL : Lend S [] x y) : GCall P f [x] S R := by
  intro c vals hi hs hl hv
  refine h c vals hi hs hl fun i z v hz hw => ?_
  match i, hz with
  | 0, hz =>
    cases hz
    exact Lend.frel hi (T := []) (by rw [hs]; exact hL) (by simp) (hv 0 x v rfl hw)
theorem stateX_ok (s : CS) (hs : CsOk s) (gc gm gb gt : Nat) : GCall Try.prog 22 [.ptr 0 gc 0 0] (cpuB s gc gm gb gt) fun x S' => x = .agg s.stC ∧ S' = cpuB s gc gm gb gt := by
  refine gcall_drop ?_
  have e : ci .u32 s.regs ++ cpuTl s 1 gm 3 gt = [.v (.int .u32 (s.regs.getD 0 0)), .v (.int .u32 (s.regs.getD 1 0)), .v (.int .u32 (s.regs.getD 2 0)), .v (.int .u32 (s.regs.getD 3 0)), .v (.int .u32 (s.regs.getD 4 0)), .v (.int .u32 (s.regs.getD 5 0)), .v (.int .u32 (s.regs.getD 6 0)), .v (.int .u32 (s.regs.getD 7 0)), .v (.int .u32 (s.regs.getD 8 0)), .v (.int .u32 (s.regs.getD 9 0)), .v (.int .u32 (s.regs.getD 10 0)), .v (.int .u32 (s.regs.getD 11 0)), .v (.int .u32 (s.regs.getD 12 0)), .v (.int .u32 (s.regs.getD 13 0)), .v (.int .u32 (s.regs.getD 14 0)), .v (.int .u32 (s.regs.getD 15 0))] ++ cpuTl s 1 gm 3 gt := by rw [ci16 hs.rl]
  rw [cpuB, e]
  simp only [List.cons_append, List.nil_append, cpuTl]
  refine gcall_of_tr Try.func22 rfl [.cell 2 64] Try.results22 7 rfl (tk_start ?_)
  (repeat' (first | refine ka ?_ | refine ksk ?_ | (refine kr ?_ ?_ ?_; first | refine pops_end ?_ | (refine ps_split (fun hb => ?_) (fun hb => ?_); (fail_if_success (guard_hyp hb : true = true)); (fail_if_success (guard_hyp hb : false = true)); all_goals (have hp := hb; (try simp only [decide_eq_true_eq, Bool.eq_false_iff, ne_eq, Bool.not_eq_true', Bool.not_eq_false', Bool.and_eq_true, Bool.or_eq_true, decide_true, decide_false, Bool.and_true, Bool.true_and, Bool.false_eq_true, not_false_eq_true, true_and, and_true] at hp); (try rw [hb]); (try clear hb))) | refine ps_alloc fun g => ?_ | refine ps_box fun g => ?_ | refine ps_store ?_ | refine ps_lit fun g => ?_ | refine pops_nil ?_ | skip) | (refine kd ?_ ?_ ?_; first | refine pstl_end ?_ | (refine pd_split (fun hb => ?_) (fun hb => ?_); (fail_if_success (guard_hyp hb : true = true)); (fail_if_success (guard_hyp hb : false = true)); all_goals (have hp := hb; (try simp only [decide_eq_true_eq, Bool.eq_false_iff, ne_eq, Bool.not_eq_true', Bool.not_eq_false', Bool.and_eq_true, Bool.or_eq_true, decide_true, decide_false, Bool.and_true, Bool.true_and, Bool.false_eq_true, not_false_eq_true, true_and, and_true] at hp); (try rw [hb]); (try clear hb))) | skip) | refine kct ?_ | refine kcf ?_ | (refine kcs (fun hb => ?_) (fun hb => ?_) <;> (have hp := hb; (try simp only [decide_eq_true_eq, Bool.eq_false_iff, ne_eq, Bool.not_eq_true', Bool.not_eq_false', Bool.and_eq_true, Bool.or_eq_true, decide_true, decide_false, Bool.and_true, Bool.true_and, Bool.false_eq_true, not_false_eq_true, true_and, and_true] at hp); (try rw [hb]); (try clear hb))) | (refine kret ?_; repeat (first | with_reducible refine beh_r ?_ | with_reducible refine blk_r ?_)) | refine kb ?_ | (refine ps_split (fun hb => ?_) (fun hb => ?_); (fail_if_success (guard_hyp hb : true = true)); (fail_if_success (guard_hyp hb : false = true)); all_goals (have hp := hb; (try simp only [decide_eq_true_eq, Bool.eq_false_iff, ne_eq, Bool.not_eq_true', Bool.not_eq_false', Bool.and_eq_true, Bool.or_eq_true, decide_true, decide_false, Bool.and_true, Bool.true_and, Bool.false_eq_true, not_false_eq_true, true_and, and_true] at hp); (try rw [hb]); (try clear hb))) | refine ps_alloc fun g => ?_ | refine ps_box fun g => ?_ | refine ps_store ?_ | refine ps_lit fun g => ?_ | refine pops_nil ?_ | (refine pd_split (fun hb => ?_) (fun hb => ?_); (fail_if_success (guard_hyp hb : true = true)); (fail_if_success (guard_hyp hb : false = true)); all_goals (have hp := hb; (try simp only [decide_eq_true_eq, Bool.eq_false_iff, ne_eq, Bool.not_eq_true', Bool.not_eq_false', Bool.and_eq_true, Bool.or_eq_true, decide_true, decide_false, Bool.and_true, Bool.true_and, Bool.false_eq_true, not_false_eq_true, true_and, and_true] at hp); (try rw [hb]); (try clear hb))) | (refine pops_go ?_ ?_ ?_; first | refine pops_end ?_ | (refine ps_split (fun hb => ?_) (fun hb => ?_); (fail_if_success (guard_hyp hb : true = true)); (fail_if_success (guard_hyp hb : false = true)); all_goals (have hp := hb; (try simp only [decide_eq_true_eq, Bool.eq_false_iff, ne_eq, Bool.not_eq_true', Bool.not_eq_false', Bool.and_eq_true, Bool.or_eq_true, decide_true, decide_false, Bool.and_true, Bool.true_and, Bool.false_eq_true, not_false_eq_true, true_and, and_true] at hp); (try rw [hb]); (try clear hb))) | refine ps_alloc fun g => ?_ | refine ps_box fun g => ?_ | refine ps_store ?_ | refine ps_lit fun g => ?_ | refine pops_nil ?_) | (refine pstl_go ?_ ?_ ?_; first | refine pstl_end ?_ | (refine pd_split (fun hb => ?_) (fun hb => ?_); (fail_if_success (guard_hyp hb : true = true)); (fail_if_success (guard_hyp hb : false = true)); all_goals (have hp := hb; (try simp only [decide_eq_true_eq, Bool.eq_false_iff, ne_eq, Bool.not_eq_true', Bool.not_eq_false', Bool.and_eq_true, Bool.or_eq_true, decide_true, decide_false, Bool.and_true, Bool.true_and, Bool.false_eq_true, not_false_eq_true, true_and, and_true] at hp); (try rw [hb]); (try clear hb)))) | (refine kn ?_; repeat (first | with_reducible refine blk_n ?_ | with_reducible refine beh_n ?_)) | (refine kx ?_; (repeat (first | with_reducible refine beh_x ?_ | with_reducible refine blk_up rfl ?_)); refine blk_here ?_; refine beh_n ?_)))
  all_goals (refine ends_ret ?_ (by exact retPV_1 res_cella); exact ⟨4, rfl, rfl⟩)
def aw0 : CS := mk 16 [7, 0, 16, 1] [] 0 0 0 0 0 0 0 0 0 0 0 0 0 0 0 0 0 0 0 0 0 0 0 0 0 0 0 0 0 0 0 0 0
def aw1 : CS := ⟨[0, 7, 0, 0, 0, 0, 0, 0, 0, 0, 0, 0, 0, 0, 0, 0], 4, 1, 0, 0, false, [7, 0, 16, 1, 0, 0, 0, 0, 0, 0, 0, 0, 0, 0, 0, 0], [], [0, 0, 0, 0, 0, 0, 0, 0, 0, 0, 0, 0, 0, 0, 0, 0], [], 0⟩
def aw2 : CS := ⟨[0, 7, 0, 0, 0, 0, 0, 0, 0, 0, 0, 0, 0, 0, 0, 0], 8, 2, 7, 0, true, [7, 0, 16, 1, 0, 0, 0, 0, 0, 0, 0, 0, 0, 0, 0, 0], [], [0, 0, 0, 0, 0, 0, 0, 0, 0, 0, 0, 0, 0, 0, 0, 0], [], 0⟩
theorem aw_run1 : aw0.run 1 = aw1 := by kernel_rfl
theorem aw_run2 : aw1.run 5 = aw2 := by kernel_rfl
theorem cs_mk {regs : List Int} {pc : Int} {mem img key : List Int} (h1 : regs.length = 16) (h2 : ∀ x ∈ regs, 0 ≤ x ∧ x < 4294967296) (h3 : 0 ≤ pc ∧ pc < 4294967296) (h4 : mem.length ≤ 1048576) (h5 : Oct mem) (h6 : img.length ≤ 1000000000) (h7 : Oct img) (h8 : key.length = 16) (h9 : Oct key) (h0 : regs.getD 0 0 = 0) : CInv (CS.made regs pc mem img key) :=
  ⟨⟨h1, h2, h3, ⟨Int.le_refl 0, by show (0 : Int) ≤ _; decide⟩, h4, h5, h6, h7, h8, h9, by show 0 ≤ _; decide, (fun r hr => by cases hr), ⟨Int.le_refl 0, by show (0 : Int) ≤ _; decide⟩⟩, h0, fun _ => rfl⟩
theorem aw_inv : CInv aw0 := by
  unfold aw0 mk
  refine cs_mk rfl (by decide) (by decide) (by decide) (by decide +kernel) (by decide) (by decide) rfl (by decide) rfl
theorem aw_word : PCall Try.prog 43 [.agg [.v (.int .i64 1), .v (.int .i64 1), .v (.int .i64 0), .v (.int .i64 0), .v (.int .i64 7)]] (.tup [.v (.int .u32 17825799), .v (.int .i64 0)]) := by
  have h := word_ok 1 1 0 0 7
  have hr : rightF (form 1) 1 0 0 7 := by decide
  rw [if_pos hr, if_pos hr] at h
  exact h
def awA (i : Nat) : Int := [17825799, 69632, 272, 1, 0].getD i 0
theorem cpu_awake : PCall Try.prog 18 [] (.v (.bool true)) := by
  have i0 := aw_inv
  have i1 : CInv aw1 := by have := (aw_inv.run 1 (by decide)).1; rwa [aw_run1] at this
  have i2 : CInv aw2 := by have := (i1.run 5 (by decide)).1; rwa [aw_run2] at this
  have m0 := made11_ok 16 [7, 0, 16, 1] [] 0 0 0 0 0 0 0 0 0 0 0 0 0 0 0 0 0 0 0 0 0 0 0 0 0 0 0 0 0 0 0 0 0 (by decide) (by decide) (by decide) (by decide)
  have q1 := run_ok aw0 i0 1 (by decide)
  have q2 := state_ok aw1 i1.ok
  have q3 := run_ok aw1 i1 5 (by decide)
  have q4 := state_ok aw2 i2.ok
  have q5 := step_ok aw2 i2.ok (by decide)
  have q6 := records_ok aw2 i2.ok
  rw [aw_run1] at q1
  rw [aw_run2] at q3
  rw [show aw2.step = aw2 from rfl, show (!aw2.ended) = false from rfl] at q5
  rw [show aw1.err = 9 from rfl] at q1
  rw [show aw2.err = 0 from rfl] at q3
  rw [show recRows aw2.told = [] from rfl] at q6
  have e1 : aw1.stC = [.v (.int .u32 0), .v (.int .u32 7), .v (.int .u32 0), .v (.int .u32 0), .v (.int .u32 0), .v (.int .u32 0), .v (.int .u32 0), .v (.int .u32 0), .v (.int .u32 0), .v (.int .u32 0), .v (.int .u32 0), .v (.int .u32 0), .v (.int .u32 0), .v (.int .u32 0), .v (.int .u32 0), .v (.int .u32 0), .v (.int .u32 4), .v (.int .i64 1), .v (.int .i64 0), .v (.int .i64 0), .v (.bool false)] := rfl
  have e2 : aw2.stC = [.v (.int .u32 0), .v (.int .u32 7), .v (.int .u32 0), .v (.int .u32 0), .v (.int .u32 0), .v (.int .u32 0), .v (.int .u32 0), .v (.int .u32 0), .v (.int .u32 0), .v (.int .u32 0), .v (.int .u32 0), .v (.int .u32 0), .v (.int .u32 0), .v (.int .u32 0), .v (.int .u32 0), .v (.int .u32 0), .v (.int .u32 8), .v (.int .i64 2), .v (.int .i64 7), .v (.int .i64 0), .v (.bool true)] := rfl
  rw [e1] at q2
  rw [e2] at q4
  have em : mk 16 [7, 0, 16, 1] [] 0 0 0 0 0 0 0 0 0 0 0 0 0 0 0 0 0 0 0 0 0 0 0 0 0 0 0 0 0 0 0 0 0 = aw0 := rfl
  rw [em] at m0
  have hL := Lends.get (S := []) (T := []) (xs := [.v (.int .i64 16), .ro 1 false (ints .u8 [7, 0, 16, 1]), .v (.slice none 0 0), .v (.int .u8 0), .v (.int .u8 0), .v (.int .u8 0), .v (.int .u8 0), .v (.int .u8 0), .v (.int .u8 0), .v (.int .u8 0), .v (.int .u8 0), .v (.int .u8 0), .v (.int .u8 0), .v (.int .u8 0), .v (.int .u8 0), .v (.int .u8 0), .v (.int .u8 0), .v (.int .u8 0), .v (.int .u8 0), .v (.int .u32 0), .v (.int .u32 0), .v (.int .u32 0), .v (.int .u32 0), .v (.int .u32 0), .v (.int .u32 0), .v (.int .u32 0), .v (.int .u32 0), .v (.int .u32 0), .v (.int .u32 0), .v (.int .u32 0), .v (.int .u32 0), .v (.int .u32 0), .v (.int .u32 0), .v (.int .u32 0), .v (.int .u32 0), .v (.int .u32 0)]) (ys := startV 16 [7, 0, 16, 1] [] 0 0 0 0 0 0 0 0 0 0 0 0 0 0 0 0 0 0 0 0 0 0 0 0 0 0 0 0 0 0 0 0 0) (by unfold startV; repeat (first | exact .nil | refine .cons (.same (by first | exact .v _ | exact .ro (intsPu _))) ?_ | refine .cons .nil ?_))
  have m1 := gcall_lend1 m0 (.agg hL.1 hL.2)
  clear hL m0
  clear e1 e2 em
  refine pcall_mk Try.func18 rfl [.tmp 0] Try.results18 91 rfl (tk_start ?_)
  (repeat refine ka ?_); refine kr ?_ ?_ (pops_end ?_)
  (repeat refine ka ?_); refine kr ?_ ?_ ?_
  refine ps_pcall aw_word ?_
  refine pops_go ?_ ?_ (pops_end ?_)
  (repeat refine ka ?_); refine kr ?_ ?_ (pops_end ?_)
  (repeat refine ka ?_); refine kr ?_ ?_ (pops_end ?_)
  refine kvoid 3 1 (fun g0 => ?_)
  (repeat refine ka ?_); refine kb ?_
  refine kw (fun s : Nat × Nat => [(1, .v (.int .u32 (awA s.1))), (3, .vw 0 s.2 0 s.1), (4, .v (.int .i64 s.1))]) (fun s => [⟨s.2, true, 1, ints .u8 ([7, 0, 16, 1].take s.1)⟩]) (fun s => s.1 ≤ 4) (fun s => 4 - s.1) (0, g0) (Nat.zero_le _) (holds 1 (by repeat (first | exact .nil | refine has1 ?_))) ?_
  rintro ⟨i, g0⟩ (hi : i ≤ 4)
  have hc : i = 0 ∨ i = 1 ∨ i = 2 ∨ i = 3 ∨ i = 4 := by omega
  rcases hc with rfl | rfl | rfl | rfl | rfl
  · show Tk _ _ ⟨_, [(1, .v (.int .u32 17825799)), (3, .vw 0 g0 0 0), (4, .v (.int .i64 0))], [⟨g0, true, 1, ints .u8 []⟩]⟩ _
    have hw : IntKind.u8.wrap 7 = 7 := by decide
    (repeat refine ka ?_); refine kr ?_ ?_ (pops_end ?_)
    (repeat refine ka ?_); refine kct ?_
    (repeat refine ka ?_); refine ksk ?_
    (repeat refine ka ?_); refine kb ?_
    (repeat refine ka ?_); refine kr ?_ ?_ ?_
    refine ps_lit fun g2 => ?_
    refine ps_app_vw (rows' := ints .u8 [7]) (m := 1) (fun g3 => ?_) (hrows := rfl)
    refine pops_go ?_ ?_ (pops_end ?_)
    (repeat refine ka ?_); refine kr ?_ ?_ (pops_end ?_)
    refine kn ?_; repeat (first | with_reducible refine blk_n ?_ | with_reducible refine beh_n ?_)
    (repeat refine ka ?_); refine kr ?_ ?_ (pops_end ?_)
    refine kn ?_; repeat (first | with_reducible refine blk_n ?_ | with_reducible refine beh_n ?_)
    exact ⟨(1, g3), by simp only; omega, by simp only; omega, (holds 1 (by repeat (first | exact .nil | refine has1 ?_)))⟩
  · show Tk _ _ ⟨_, [(1, .v (.int .u32 69632)), (3, .vw 0 g0 0 1), (4, .v (.int .i64 1))], [⟨g0, true, 1, ints .u8 [7]⟩]⟩ _
    have hw : IntKind.u8.wrap 0 = 0 := by decide
    (repeat refine ka ?_); refine kr ?_ ?_ (pops_end ?_)
    (repeat refine ka ?_); refine kct ?_
    (repeat refine ka ?_); refine ksk ?_
    (repeat refine ka ?_); refine kb ?_
    (repeat refine ka ?_); refine kr ?_ ?_ ?_
    refine ps_lit fun g2 => ?_
    refine ps_app_vw (rows' := ints .u8 [7, 0]) (m := 2) (fun g3 => ?_) (hrows := rfl)
    refine pops_go ?_ ?_ (pops_end ?_)
    (repeat refine ka ?_); refine kr ?_ ?_ (pops_end ?_)
    refine kn ?_; repeat (first | with_reducible refine blk_n ?_ | with_reducible refine beh_n ?_)
    (repeat refine ka ?_); refine kr ?_ ?_ (pops_end ?_)
    refine kn ?_; repeat (first | with_reducible refine blk_n ?_ | with_reducible refine beh_n ?_)
    exact ⟨(2, g3), by simp only; omega, by simp only; omega, (holds 1 (by repeat (first | exact .nil | refine has1 ?_)))⟩
  · show Tk _ _ ⟨_, [(1, .v (.int .u32 272)), (3, .vw 0 g0 0 2), (4, .v (.int .i64 2))], [⟨g0, true, 1, ints .u8 [7, 0]⟩]⟩ _
    have hw : IntKind.u8.wrap 16 = 16 := by decide
    (repeat refine ka ?_); refine kr ?_ ?_ (pops_end ?_)
    (repeat refine ka ?_); refine kct ?_
    (repeat refine ka ?_); refine ksk ?_
    (repeat refine ka ?_); refine kb ?_
    (repeat refine ka ?_); refine kr ?_ ?_ ?_
    refine ps_lit fun g2 => ?_
    refine ps_app_vw (rows' := ints .u8 [7, 0, 16]) (m := 3) (fun g3 => ?_) (hrows := rfl)
    refine pops_go ?_ ?_ (pops_end ?_)
    (repeat refine ka ?_); refine kr ?_ ?_ (pops_end ?_)
    refine kn ?_; repeat (first | with_reducible refine blk_n ?_ | with_reducible refine beh_n ?_)
    (repeat refine ka ?_); refine kr ?_ ?_ (pops_end ?_)
    refine kn ?_; repeat (first | with_reducible refine blk_n ?_ | with_reducible refine beh_n ?_)
    exact ⟨(3, g3), by simp only; omega, by simp only; omega, (holds 1 (by repeat (first | exact .nil | refine has1 ?_)))⟩
  · show Tk _ _ ⟨_, [(1, .v (.int .u32 1)), (3, .vw 0 g0 0 3), (4, .v (.int .i64 3))], [⟨g0, true, 1, ints .u8 [7, 0, 16]⟩]⟩ _
    have hw : IntKind.u8.wrap 1 = 1 := by decide
    (repeat refine ka ?_); refine kr ?_ ?_ (pops_end ?_)
    (repeat refine ka ?_); refine kct ?_
    (repeat refine ka ?_); refine ksk ?_
    (repeat refine ka ?_); refine kb ?_
    (repeat refine ka ?_); refine kr ?_ ?_ ?_
    refine ps_lit fun g2 => ?_
    refine ps_app_vw (rows' := ints .u8 [7, 0, 16, 1]) (m := 4) (fun g3 => ?_) (hrows := rfl)
    refine pops_go ?_ ?_ (pops_end ?_)
    (repeat refine ka ?_); refine kr ?_ ?_ (pops_end ?_)
    refine kn ?_; repeat (first | with_reducible refine blk_n ?_ | with_reducible refine beh_n ?_)
    (repeat refine ka ?_); refine kr ?_ ?_ (pops_end ?_)
    refine kn ?_; repeat (first | with_reducible refine blk_n ?_ | with_reducible refine beh_n ?_)
    exact ⟨(4, g3), by simp only; omega, by simp only; omega, (holds 1 (by repeat (first | exact .nil | refine has1 ?_)))⟩
  · show Tk _ _ ⟨_, [(1, .v (.int .u32 0)), (3, .vw 0 g0 0 4), (4, .v (.int .i64 4))], [⟨g0, true, 1, ints .u8 [7, 0, 16, 1]⟩]⟩ _
    (repeat refine ka ?_); refine kr ?_ ?_ (pops_end ?_)
    (repeat refine ka ?_); refine kcf ?_
    (repeat refine ka ?_); refine kx ?_; (repeat (first | with_reducible refine beh_x ?_ | with_reducible refine blk_up rfl ?_)); refine blk_here ?_; refine beh_n ?_
    refine kfreeze 0 ?_
    refine kfzT 3 [0] (y := .ro 1 false (ints .u8 [7, 0, 16, 1])) ?_ (lend_ints (List.mem_singleton.2 rfl) rfl rfl rfl) (by intro τ hτ blk hb; cases List.mem_singleton.1 hτ; cases hb; rfl)
    (repeat refine ka ?_); refine kr ?_ ?_ ?_
    refine ps_fcall [] m1 ?_ (by rintro x S' _; exact Nat.zero_le _)
    rintro x S' ⟨J0, J1, J2, gb, gm, gc, gt, rfl, rfl⟩
    (intro x1 S1 hx1 hS1; simp only [List.map_cons, List.map_nil, renB, ren_ints, ren_ci,ren_cpuTl,ren_recRows, putB, List.set_cons_zero, List.set_cons_succ, List.cons_append, List.nil_append, List.append_nil, renL, ren, sg, List.length_cons, List.length_nil, Nat.reduceAdd, Nat.zero_add, Nat.add_zero] at hx1 hS1; subst hx1 hS1)
    refine pops_go ?_ ?_ (pops_end ?_)
    (repeat refine ka ?_); refine kr ?_ ?_ (pops_end ?_)
    (repeat refine ka ?_); refine kcf ?_
    (repeat refine ka ?_); refine ksk ?_
    (repeat refine ka ?_); refine kr ?_ ?_ ?_
    refine ps_mcall 6 3 2 7 q1 fun g2 => ?_
    refine pops_go ?_ ?_ (pops_end ?_)
    (repeat refine ka ?_); refine kr ?_ ?_ ?_
    refine ps_mcall 6 3 2 7 q2 fun g3 => ?_
    refine pops_go ?_ ?_ ?_
    refine ps_alloc fun g4 => ?_
    refine pops_go ?_ ?_ ?_
    refine ps_store ?_
    refine pops_go ?_ ?_ (pops_end ?_)
    (repeat refine ka ?_); refine kr ?_ ?_ ?_
    refine ps_mcall 6 3 2 7 q3 fun g5 => ?_
    refine pops_go ?_ ?_ (pops_end ?_)
    (repeat refine ka ?_); refine kr ?_ ?_ ?_
    refine ps_mcall 6 3 2 7 q4 fun g6 => ?_
    refine pops_go ?_ ?_ ?_
    refine ps_alloc fun g7 => ?_
    refine pops_go ?_ ?_ ?_
    refine ps_store ?_
    refine pops_go ?_ ?_ (pops_end ?_)
    (repeat refine ka ?_); refine kr ?_ ?_ ?_
    refine ps_mcall_g 6 3 2 7 q5 fun g8 => ?_
    refine pops_go ?_ ?_ ?_
    refine ps_mcall_g 6 3 2 7 q6 fun g9 => ?_
    refine pops_go ?_ ?_ (pops_end ?_)
    (repeat refine ka ?_); refine kret ?_; repeat (first | with_reducible refine beh_r ?_ | with_reducible refine blk_r ?_)
    refine ends_ret ?_ retPV_one
    rfl
end Go.Proofs.Ytfjodfeoncoaoaa.Pv
