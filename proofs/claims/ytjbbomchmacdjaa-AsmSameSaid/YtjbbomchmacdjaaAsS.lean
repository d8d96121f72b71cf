-- AsmSame.
import Derived.Test.YtjbbomchmacdjaaAsR
namespace Go.Proofs.Ytjbbomchmacdjaa.Pv
set_option linter.all false
open Go.RowKit Go.Proofs
set_option maxRecDepth 100000
set_option maxHeartbeats 4000000
theorem wfu32 {n : Int} (h : (Lit.int .u32 n).wf = true) : 0 ≤ n ∧ n < 4294967296 := by
  simp [Lit.wf, IntKind.min, IntKind.max, IntKind.bits, IntKind.signed] at h
  omega
theorem wfi64 {n : Int} (h : (Lit.int .i64 n).wf = true) : -9223372036854775808 ≤ n ∧ n ≤ 9223372036854775807 := by
  simp [Lit.wf, IntKind.min, IntKind.max, IntKind.bits, IntKind.signed] at h
  omega
/-- Any code that a law may be handed. -/
structure Cd.any (c : Cd) : Prop where
  w : Wd c.W
  n : c.W.length ≤ 140737488351232
  m : c.R.length ≤ 140737488351232
  r : ∀ x ∈ c.R, -9223372036854775808 ≤ x.1 ∧ x.1 ≤ 9223372036854775807
theorem rels_of : ∀ {rows : List (List PV)}, (∀ row ∈ rows, SFs [SInt .i64, SBool] row) → ∃ R : List (Int × Bool), rows = relRows R ∧ ∀ x ∈ R, -9223372036854775808 ≤ x.1 ∧ x.1 ≤ 9223372036854775807
  | [], _ => ⟨[], rfl, by simp⟩
  | row :: rows, h => by
    obtain ⟨R, rfl, hR⟩ := rels_of (rows := rows) fun r hr => h r (by simp [hr])
    obtain ⟨p1, q1, e1, ⟨a, rfl, h1⟩, p2, q2, rfl, ⟨b, rfl⟩, rfl⟩ := h row (by simp)
    refine ⟨(a, b) :: R, ?_, ?_⟩
    · rw [e1]; rfl
    · intro x hx
      rcases List.mem_cons.1 hx with rfl | hx
      · exact wfi64 h1
      · exact hR x hx
theorem code_of {row : List PV} (h : SFs [SSl 1 4 (SInt .u32), SSl 2 16 (SFs [SInt .i64, SBool])] row) : ∃ c : Cd, row = c.row ∧ c.any := by
  obtain ⟨p1, q1, e1, ⟨r1, rfl, h1, h2, h3⟩, p2, q2, rfl, ⟨r2, rfl, h4, h5, h6⟩, rfl⟩ := h
  obtain ⟨W, rfl, hW⟩ := rows_ints h3
  obtain ⟨R, rfl, hR⟩ := rels_of h6
  rw [ints_length] at h1
  rw [relRows_length] at h4
  exact ⟨⟨W, R⟩, by rw [e1]; rfl, fun n hn => wfu32 (hW n hn), by simp only; omega, by simp only; omega, hR⟩
theorem same12law {x0 x1 : PV} (h0 : ∃ xs, x0 = .agg xs ∧ SFs [SSl 1 4 (SInt .u32), SSl 2 16 (SFs [SInt .i64, SBool])] xs) (h1 : ∃ xs, x1 = .agg xs ∧ SFs [SSl 1 4 (SInt .u32), SSl 2 16 (SFs [SInt .i64, SBool])] xs) : PCall Try.prog 10 [x0, x1] (.v (.bool true)) := by
  obtain ⟨_, rfl, h0⟩ := h0
  obtain ⟨_, rfl, h1⟩ := h1
  obtain ⟨a, rfl, ha⟩ := code_of h0
  obtain ⟨b, rfl, hb⟩ := code_of h1
  have la := ha.n
  have ma := ha.m
  have lb := hb.n
  have mb := hb.m
  have hra := relRows_length a.R
  have hrb := relRows_length b.R
  clear h0 h1 ha hb
  by_cases hs : (a.W.length : Int) + b.W.length + a.R.length + b.R.length ≤ 20000
  · have c0 := asm_same_d a b ⟨by omega, by omega⟩ ⟨by omega, by omega⟩
    have c1 := asm_same_d b a ⟨by omega, by omega⟩ ⟨by omega, by omega⟩
    have c2 := asm_same_d a a ⟨by omega, by omega⟩ ⟨by omega, by omega⟩
    have c3 := asm_same_d b b ⟨by omega, by omega⟩ ⟨by omega, by omega⟩
    have c4 := same12_d a b ⟨by omega, by omega⟩ ⟨by omega, by omega⟩
    have c5 := code12 a (by omega)
    have c6 := code12 b (by omega)
    rw [show decide (b.W = a.W ∧ b.R = a.R) = decide (a.W = b.W ∧ a.R = b.R) from decide_eq_decide.2 ⟨fun h => ⟨h.1.symm, h.2.symm⟩, fun h => ⟨h.1.symm, h.2.symm⟩⟩] at c1
    rw [decide_eq_true (show a.W = a.W ∧ a.R = a.R from ⟨rfl, rfl⟩)] at c2
    rw [decide_eq_true (show b.W = b.W ∧ b.R = b.R from ⟨rfl, rfl⟩)] at c3
    generalize decide (a.W = b.W ∧ a.R = b.R) = d at *
    obtain ⟨AW, AR⟩ := a
    obtain ⟨BW, BR⟩ := b
    unfold Cd.pv Cd.row at *
    dsimp only at *
    refine pcall_mk Try.func10 rfl [.tmp 4] Try.results10 55 rfl (tk_start ?_)
    (repeat refine ka ?_); refine kr ?_ ?_ ?_
    refine ps_box fun g0 => ?_
    refine ps_box fun g1 => ?_
    refine pops_go ?_ ?_ (pops_end ?_)
    (repeat refine ka ?_); refine kr ?_ ?_ ?_
    refine ps_pcall awake12 ?_
    refine pops_go ?_ ?_ (pops_end ?_)
    (repeat refine ka ?_); refine kr ?_ ?_ (pops_end ?_)
    (repeat refine ka ?_); refine kcf ?_
    (repeat refine ka ?_); refine ksk ?_
    (repeat refine ka ?_); refine kd ?_ ?_ ?_
    refine pd_pcall c5 ?_
    refine pstl_go ?_ ?_ ?_
    refine pd_pcall c6 ?_
    refine pd_pcall c4 ?_
    refine pstl_go ?_ ?_ (pstl_end ?_)
    cases d
    · (repeat refine ka ?_); refine kr ?_ ?_ ?_
      refine ps_pcall_g c0 ?_
      refine pops_go ?_ ?_ ?_
      refine ps_pcall_g c1 ?_
      refine pops_go ?_ ?_ ?_
      refine ps_pcall_g c2 ?_
      refine pops_go ?_ ?_ ?_
      refine ps_pcall_g c3 ?_
      refine pops_go ?_ ?_ (pops_end ?_)
      (repeat refine ka ?_); refine kret ?_; repeat (first | with_reducible refine beh_r ?_ | with_reducible refine blk_r ?_)
      refine ends_ret ?_ retPV_one
      rfl
    · (repeat refine ka ?_); refine kr ?_ ?_ ?_
      refine ps_pcall_g c0 ?_
      refine pops_go ?_ ?_ ?_
      refine ps_pcall_g c1 ?_
      refine pops_go ?_ ?_ ?_
      refine ps_pcall_g c2 ?_
      refine pops_go ?_ ?_ ?_
      refine ps_pcall_g c3 ?_
      refine pops_go ?_ ?_ (pops_end ?_)
      (repeat refine ka ?_); refine kret ?_; repeat (first | with_reducible refine beh_r ?_ | with_reducible refine blk_r ?_)
      refine ends_ret ?_ retPV_one
      rfl
  · obtain ⟨AW, AR⟩ := a
    obtain ⟨BW, BR⟩ := b
    unfold Cd.row at *
    dsimp only at *
    refine pcall_mk Try.func10 rfl [.tmp 4] Try.results10 55 rfl (tk_start ?_)
    (repeat refine ka ?_); refine kr ?_ ?_ ?_
    refine ps_box fun g0 => ?_
    refine ps_box fun g1 => ?_
    refine pops_go ?_ ?_ (pops_end ?_)
    (repeat refine ka ?_); refine kr ?_ ?_ ?_
    refine ps_pcall awake12 ?_
    refine pops_go ?_ ?_ (pops_end ?_)
    (repeat refine ka ?_); refine kr ?_ ?_ (pops_end ?_)
    (repeat refine ka ?_); refine kct ?_
    (repeat refine ka ?_); refine kr ?_ ?_ (pops_end ?_)
    (repeat refine ka ?_); refine kret ?_; repeat (first | with_reducible refine beh_r ?_ | with_reducible refine blk_r ?_)
    refine ends_ret ?_ retPV_one
    rfl
end Go.Proofs.Ytjbbomchmacdjaa.Pv
