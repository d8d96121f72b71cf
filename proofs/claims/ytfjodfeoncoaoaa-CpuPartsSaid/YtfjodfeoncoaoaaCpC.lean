-- cpu: instructions on memory; what is read.
import Derived.Test.YtfjodfeoncoaoaaCpB
namespace Go.Proofs.Ytfjodfeoncoaoaa.Pv
set_option linter.all false
open Go.RowKit Go.Proofs
set_option maxRecDepth 100000
set_option maxHeartbeats 4000000
def accAt (s : CS) (b imm : Int) : Int := IntKind.u32.wrap (s.regs.getD b.toNat 0 + IntKind.u32.wrap imm)
def CS.setMem (s : CS) (l : List Int) : CS := { s with mem := l }
def CS.acc (s : CS) (op a b imm : Int) : CS × Int :=
  if op = 12 then (if accAt s b imm + 1 ≤ s.mem.length then (s.put a (s.mem.getD (accAt s b imm).toNat 0), 0) else (s, 3))
  else if op = 14 then (if (accAt s b imm % 4 = 0 ∧ accAt s b imm + 4 ≤ s.mem.length) then (s.put a (word4 s.mem (accAt s b imm).toNat), 0) else (s, 3))
  else if op = 13 then (if accAt s b imm + 1 ≤ s.mem.length then ((s.setMem (putIf s.mem (accAt s b imm) [s.regs.getD a.toNat 0 % 256])).put a (s.regs.getD a.toNat 0), 0) else (s, 3))
  else (if (accAt s b imm % 4 = 0 ∧ accAt s b imm + 4 ≤ s.mem.length) then ((s.setMem (putW s.mem (accAt s b imm) (s.regs.getD a.toNat 0))).put a (s.regs.getD a.toNat 0), 0) else (s, 3))
theorem word4_rng {l : List Int} (hl : Oct l) (a : Nat) : 0 ≤ word4 l a ∧ word4 l a < 4294967296 := by
  have h0 := hl.getD a
  have h1 := hl.getD (a + 1)
  have h2 := hl.getD (a + 2)
  have h3 := hl.getD (a + 3)
  unfold word4
  omega
theorem oct_app {a b : List Int} (ha : Oct a) (hb : Oct b) : Oct (a ++ b) := fun x hx => (List.mem_append.1 hx).elim (ha x) (hb x)
theorem oct_putAt {l b : List Int} (hl : Oct l) (hb : Oct b) (a : Nat) : Oct (putAt l a b) := by
  unfold putAt
  exact oct_app (oct_app (fun x hx => hl x (List.mem_of_mem_take hx)) hb) (fun x hx => hl x (List.mem_of_mem_drop hx))
theorem oct_putIf {l b : List Int} (hl : Oct l) (hb : Oct b) (a : Int) : Oct (putIf l a b) := by
  unfold putIf
  split
  · exact oct_putAt hl hb _
  · exact hl
theorem oct_wb (w : Int) : Oct (wb w) := by
  intro x hx
  simp only [wb, List.mem_cons, List.not_mem_nil, or_false] at hx
  rcases hx with rfl | rfl | rfl | rfl <;> omega
theorem oct_putW {l : List Int} (hl : Oct l) (a w : Int) : Oct (putW l a w) := by
  unfold putW
  split
  · exact oct_putAt hl (oct_wb w) _
  · exact hl
theorem CsOk.setMem {s : CS} (h : CsOk s) {l : List Int} (hl : l.length = s.mem.length) (ho : Oct l) : CsOk (s.setMem l) :=
  ⟨h.rl, h.rr, h.pc, h.st, by show l.length ≤ _; rw [hl]; exact h.ml, ho, h.il, h.io, h.kl, h.ko, h.tl, h.te, h.mn⟩
theorem access_ok (s : CS) (hs : CsOk s) (op a b c imm : Int) (ho : op = 12 ∨ op = 13 ∨ op = 14 ∨ op = 15) (ha : 0 ≤ a ∧ a < 16) (hb : 0 ≤ b ∧ b < 16) (hc : 0 ≤ c ∧ c < 16) : CCall 68 [.agg [.v (.int .i64 op), .v (.int .i64 a), .v (.int .i64 b), .v (.int .i64 c), .v (.int .i64 imm)]] s (s.acc op a b imm).1 (.tup [.v (.int .u32 s.nx), .v (.int .i64 (s.acc op a b imm).2)]) := by
  intro gc gm gb gt
  have hl := hs.rl
  have hml := hs.ml
  have hat : 0 ≤ accAt s b imm ∧ accAt s b imm < 4294967296 := u32_rng _
  have hav := hs.reg a.toNat
  have eat : IntKind.u32.wrap (s.regs.getD b.toNat 0 + IntKind.u32.wrap imm) = accAt s b imm := rfl
  have ew : IntKind.u8.wrap (s.regs.getD a.toNat 0) = s.regs.getD a.toNat 0 % 256 := by rw [IntKind.wrap_u8]
  have hb0 := mem_byte s.mem gm gb (accAt s b imm) hat hml
  have hw0 := mem_word s.mem hs.mo gm gb (accAt s b imm) hat hml
  have hpb := mem_putbyte s.mem gm gb (accAt s b imm) (s.regs.getD a.toNat 0 % 256) hat hml
  have hpw := mem_putword s.mem gm gb (accAt s b imm) (s.regs.getD a.toNat 0) hat hav hml
  have hm0 := hs.mo.getD (accAt s b imm).toNat
  have hwr := word4_rng hs.mo (accAt s b imm).toNat
  have hn3 := next_ok s hs 3
  refine gcall_drop ?_
  rw [cpuB]
  rcases ho with rfl | rfl | rfl | rfl
  · by_cases h : accAt s b imm + 1 ≤ s.mem.length
    · have e : s.acc 12 a b imm = (s.put a (s.mem.getD (accAt s b imm).toNat 0), 0) := by unfold CS.acc; rw [if_pos rfl, if_pos h]
      rw [e]
      clear e
      have hp := put_ok (s) hs a (s.mem.getD (accAt s b imm).toNat 0) ha
      have hn := next_ok ((s).put a (s.mem.getD (accAt s b imm).toNat 0)) (hs.put _ _ (by omega)) 0
      rw [nx_put] at hn
      rw [if_pos h, decide_eq_true h] at hb0
      have hb1 := hb0
      clear hb0 hw0 hpb hpw hn3
      refine gcall_of_tr Try.func68 rfl [.tmp 4, .tmp 5] Try.results68 88 rfl (tk_start ?_)
      (repeat refine ka ?_); refine kr ?_ ?_ ?_
      refine ps_box fun g => ?_
      refine pops_go ?_ ?_ (pops_end ?_)
      (repeat refine ka ?_); refine kd ?_ ?_ (pstl_end ?_)
      (repeat refine ka ?_); refine kr ?_ ?_ (pops_end ?_)
      (repeat refine ka ?_); refine kr ?_ ?_ (pops_end ?_)
      (repeat refine ka ?_); refine kb ?_
      (repeat refine ka ?_); refine kr ?_ ?_ (pops_end ?_)
      (repeat refine ka ?_); refine kct ?_
      (repeat refine ka ?_); refine kr ?_ ?_ (pops_end ?_)
      (repeat refine ka ?_); refine kr ?_ ?_ ?_
      refine ps_fcall [1, 2] hb1 ?_ (by rintro x S' ⟨rfl, _⟩; exact Nat.le_refl _)
      rintro x S' ⟨rfl, rfl⟩
      (intro x1 S1 hx1 hS1; simp only [List.map_cons, List.map_nil, renB, ren_ints, putB, List.set_cons_zero, List.set_cons_succ, List.cons_append, List.nil_append, List.append_nil, renL, ren, sg, List.length_cons, List.length_nil, Nat.reduceAdd, Nat.zero_add, Nat.add_zero] at hx1 hS1; subst hx1 hS1)
      refine pops_go ?_ ?_ (pops_end ?_)
      (repeat refine ka ?_); refine kr ?_ ?_ (pops_end ?_)
      refine kn ?_; repeat (first | with_reducible refine blk_n ?_ | with_reducible refine beh_n ?_)
      (repeat refine ka ?_); refine kr ?_ ?_ (pops_end ?_)
      (repeat refine ka ?_); refine kcf ?_
      (repeat refine ka ?_); refine ksk ?_
      (repeat refine ka ?_); refine kr ?_ ?_ ?_
      refine ps_ccall hp fun g1 => ?_
      refine pops_go ?_ ?_ (pops_end ?_)
      (repeat refine ka ?_); refine kr ?_ ?_ ?_
      refine ps_ccall hn fun g2 => ?_
      refine pops_go ?_ ?_ (pops_end ?_)
      (repeat refine ka ?_); refine kret ?_; repeat (first | with_reducible refine beh_r ?_ | with_reducible refine blk_r ?_)
      refine ends_ret ?_ retPV_two
      exact ⟨4, g2, rfl, rfl⟩
    · have e : s.acc 12 a b imm = (s, 3) := by unfold CS.acc; rw [if_pos rfl, if_neg h]
      rw [e]
      clear e
      rw [if_neg h, decide_eq_false h] at hb0
      have hb1 := hb0
      clear hb0 hw0 hpb hpw
      refine gcall_of_tr Try.func68 rfl [.tmp 4, .tmp 5] Try.results68 88 rfl (tk_start ?_)
      (repeat refine ka ?_); refine kr ?_ ?_ ?_
      refine ps_box fun g => ?_
      refine pops_go ?_ ?_ (pops_end ?_)
      (repeat refine ka ?_); refine kd ?_ ?_ (pstl_end ?_)
      (repeat refine ka ?_); refine kr ?_ ?_ (pops_end ?_)
      (repeat refine ka ?_); refine kr ?_ ?_ (pops_end ?_)
      (repeat refine ka ?_); refine kb ?_
      (repeat refine ka ?_); refine kr ?_ ?_ (pops_end ?_)
      (repeat refine ka ?_); refine kct ?_
      (repeat refine ka ?_); refine kr ?_ ?_ (pops_end ?_)
      (repeat refine ka ?_); refine kr ?_ ?_ ?_
      refine ps_fcall [1, 2] hb1 ?_ (by rintro x S' ⟨rfl, _⟩; exact Nat.le_refl _)
      rintro x S' ⟨rfl, rfl⟩
      (intro x1 S1 hx1 hS1; simp only [List.map_cons, List.map_nil, renB, ren_ints, putB, List.set_cons_zero, List.set_cons_succ, List.cons_append, List.nil_append, List.append_nil, renL, ren, sg, List.length_cons, List.length_nil, Nat.reduceAdd, Nat.zero_add, Nat.add_zero] at hx1 hS1; subst hx1 hS1)
      refine pops_go ?_ ?_ (pops_end ?_)
      (repeat refine ka ?_); refine kr ?_ ?_ (pops_end ?_)
      refine kn ?_; repeat (first | with_reducible refine blk_n ?_ | with_reducible refine beh_n ?_)
      (repeat refine ka ?_); refine kr ?_ ?_ (pops_end ?_)
      (repeat refine ka ?_); refine kct ?_
      (repeat refine ka ?_); refine kr ?_ ?_ ?_
      refine ps_ccall hn3 fun g2 => ?_
      refine pops_go ?_ ?_ (pops_end ?_)
      (repeat refine ka ?_); refine kret ?_; repeat (first | with_reducible refine beh_r ?_ | with_reducible refine blk_r ?_)
      refine ends_ret ?_ retPV_two
      exact ⟨4, g2, rfl, rfl⟩
  · by_cases h : accAt s b imm + 1 ≤ s.mem.length
    · have e : s.acc 13 a b imm = ((s.setMem (putIf s.mem (accAt s b imm) [s.regs.getD a.toNat 0 % 256])).put a (s.regs.getD a.toNat 0), 0) := by unfold CS.acc; rw [if_neg (by decide), if_neg (by decide), if_pos rfl, if_pos h]
      rw [e]
      clear e
      have hp := put_ok (s.setMem (putIf s.mem (accAt s b imm) [s.regs.getD a.toNat 0 % 256])) (hs.setMem (putIf_length _ _ _ hat.1) (oct_putIf hs.mo (by intro x hx; simp only [List.mem_singleton] at hx; subst hx; omega) _)) a (s.regs.getD a.toNat 0) ha
      have hn := next_ok ((s.setMem (putIf s.mem (accAt s b imm) [s.regs.getD a.toNat 0 % 256])).put a (s.regs.getD a.toNat 0)) ((hs.setMem (putIf_length _ _ _ hat.1) (oct_putIf hs.mo (by intro x hx; simp only [List.mem_singleton] at hx; subst hx; omega) _)).put _ _ hav) 0
      rw [nx_put] at hn
      rw [decide_eq_true h] at hpb
      have hb1 := hpb
      clear hb0 hw0 hpb hpw hn3
      refine gcall_of_tr Try.func68 rfl [.tmp 4, .tmp 5] Try.results68 88 rfl (tk_start ?_)
      (repeat refine ka ?_); refine kr ?_ ?_ ?_
      refine ps_box fun g => ?_
      refine pops_go ?_ ?_ (pops_end ?_)
      (repeat refine ka ?_); refine kd ?_ ?_ (pstl_end ?_)
      (repeat refine ka ?_); refine kr ?_ ?_ (pops_end ?_)
      (repeat refine ka ?_); refine kr ?_ ?_ (pops_end ?_)
      (repeat refine ka ?_); refine kb ?_
      (repeat refine ka ?_); refine kr ?_ ?_ (pops_end ?_)
      (repeat refine ka ?_); refine kcf ?_
      (repeat refine ka ?_); refine kr ?_ ?_ (pops_end ?_)
      (repeat refine ka ?_); refine kcf ?_
      (repeat refine ka ?_); refine kr ?_ ?_ (pops_end ?_)
      (repeat refine ka ?_); refine kct ?_
      (repeat refine ka ?_); refine kr ?_ ?_ ?_
      refine ps_fcall [1, 2] hb1 ?_ (by rintro x S' ⟨_, rfl⟩; exact Nat.le_refl _)
      rintro x S' ⟨rfl, rfl⟩
      (intro x1 S1 hx1 hS1; simp only [List.map_cons, List.map_nil, renB, ren_ints, putB, List.set_cons_zero, List.set_cons_succ, List.cons_append, List.nil_append, List.append_nil, renL, ren, sg, List.length_cons, List.length_nil, Nat.reduceAdd, Nat.zero_add, Nat.add_zero] at hx1 hS1; subst hx1 hS1)
      refine pops_go ?_ ?_ (pops_end ?_)
      refine kn ?_; repeat (first | with_reducible refine blk_n ?_ | with_reducible refine beh_n ?_)
      (repeat refine ka ?_); refine kr ?_ ?_ (pops_end ?_)
      (repeat refine ka ?_); refine kcf ?_
      (repeat refine ka ?_); refine ksk ?_
      (repeat refine ka ?_); refine kr ?_ ?_ ?_
      refine ps_ccall hp fun g1 => ?_
      refine pops_go ?_ ?_ (pops_end ?_)
      (repeat refine ka ?_); refine kr ?_ ?_ ?_
      refine ps_ccall hn fun g2 => ?_
      refine pops_go ?_ ?_ (pops_end ?_)
      (repeat refine ka ?_); refine kret ?_; repeat (first | with_reducible refine beh_r ?_ | with_reducible refine blk_r ?_)
      refine ends_ret ?_ retPV_two
      exact ⟨4, g2, rfl, rfl⟩
    · have e : s.acc 13 a b imm = (s, 3) := by unfold CS.acc; rw [if_neg (by decide), if_neg (by decide), if_pos rfl, if_neg h]
      rw [e]
      clear e
      rw [decide_eq_false h, show putIf s.mem (accAt s b imm) [s.regs.getD a.toNat 0 % 256] = s.mem from if_neg h] at hpb
      have hb1 := hpb
      clear hb0 hw0 hpb hpw
      refine gcall_of_tr Try.func68 rfl [.tmp 4, .tmp 5] Try.results68 88 rfl (tk_start ?_)
      (repeat refine ka ?_); refine kr ?_ ?_ ?_
      refine ps_box fun g => ?_
      refine pops_go ?_ ?_ (pops_end ?_)
      (repeat refine ka ?_); refine kd ?_ ?_ (pstl_end ?_)
      (repeat refine ka ?_); refine kr ?_ ?_ (pops_end ?_)
      (repeat refine ka ?_); refine kr ?_ ?_ (pops_end ?_)
      (repeat refine ka ?_); refine kb ?_
      (repeat refine ka ?_); refine kr ?_ ?_ (pops_end ?_)
      (repeat refine ka ?_); refine kcf ?_
      (repeat refine ka ?_); refine kr ?_ ?_ (pops_end ?_)
      (repeat refine ka ?_); refine kcf ?_
      (repeat refine ka ?_); refine kr ?_ ?_ (pops_end ?_)
      (repeat refine ka ?_); refine kct ?_
      (repeat refine ka ?_); refine kr ?_ ?_ ?_
      refine ps_fcall [1, 2] hb1 ?_ (by rintro x S' ⟨_, rfl⟩; exact Nat.le_refl _)
      rintro x S' ⟨rfl, rfl⟩
      (intro x1 S1 hx1 hS1; simp only [List.map_cons, List.map_nil, renB, ren_ints, putB, List.set_cons_zero, List.set_cons_succ, List.cons_append, List.nil_append, List.append_nil, renL, ren, sg, List.length_cons, List.length_nil, Nat.reduceAdd, Nat.zero_add, Nat.add_zero] at hx1 hS1; subst hx1 hS1)
      refine pops_go ?_ ?_ (pops_end ?_)
      refine kn ?_; repeat (first | with_reducible refine blk_n ?_ | with_reducible refine beh_n ?_)
      (repeat refine ka ?_); refine kr ?_ ?_ (pops_end ?_)
      (repeat refine ka ?_); refine kct ?_
      (repeat refine ka ?_); refine kr ?_ ?_ ?_
      refine ps_ccall hn3 fun g2 => ?_
      refine pops_go ?_ ?_ (pops_end ?_)
      (repeat refine ka ?_); refine kret ?_; repeat (first | with_reducible refine beh_r ?_ | with_reducible refine blk_r ?_)
      refine ends_ret ?_ retPV_two
      exact ⟨4, g2, rfl, rfl⟩
  · by_cases h : accAt s b imm % 4 = 0 ∧ accAt s b imm + 4 ≤ s.mem.length
    · have e : s.acc 14 a b imm = (s.put a (word4 s.mem (accAt s b imm).toNat), 0) := by unfold CS.acc; rw [if_neg (by decide), if_pos rfl, if_pos h]
      rw [e]
      clear e
      have hp := put_ok (s) hs a (word4 s.mem (accAt s b imm).toNat) ha
      have hn := next_ok ((s).put a (word4 s.mem (accAt s b imm).toNat)) (hs.put _ _ hwr) 0
      rw [nx_put] at hn
      rw [if_pos h, decide_eq_true h] at hw0
      have hb1 := hw0
      clear hb0 hw0 hpb hpw hn3
      refine gcall_of_tr Try.func68 rfl [.tmp 4, .tmp 5] Try.results68 88 rfl (tk_start ?_)
      (repeat refine ka ?_); refine kr ?_ ?_ ?_
      refine ps_box fun g => ?_
      refine pops_go ?_ ?_ (pops_end ?_)
      (repeat refine ka ?_); refine kd ?_ ?_ (pstl_end ?_)
      (repeat refine ka ?_); refine kr ?_ ?_ (pops_end ?_)
      (repeat refine ka ?_); refine kr ?_ ?_ (pops_end ?_)
      (repeat refine ka ?_); refine kb ?_
      (repeat refine ka ?_); refine kr ?_ ?_ (pops_end ?_)
      (repeat refine ka ?_); refine kcf ?_
      (repeat refine ka ?_); refine kr ?_ ?_ (pops_end ?_)
      (repeat refine ka ?_); refine kct ?_
      (repeat refine ka ?_); refine kr ?_ ?_ ?_
      refine ps_fcall [1, 2] hb1 ?_ (by rintro x S' ⟨_, rfl⟩; exact Nat.le_refl _)
      rintro x S' ⟨rfl, rfl⟩
      (intro x1 S1 hx1 hS1; simp only [List.map_cons, List.map_nil, renB, ren_ints, putB, List.set_cons_zero, List.set_cons_succ, List.cons_append, List.nil_append, List.append_nil, renL, ren, sg, List.length_cons, List.length_nil, Nat.reduceAdd, Nat.zero_add, Nat.add_zero] at hx1 hS1; subst hx1 hS1)
      refine pops_go ?_ ?_ (pops_end ?_)
      refine kn ?_; repeat (first | with_reducible refine blk_n ?_ | with_reducible refine beh_n ?_)
      (repeat refine ka ?_); refine kr ?_ ?_ (pops_end ?_)
      (repeat refine ka ?_); refine kcf ?_
      (repeat refine ka ?_); refine ksk ?_
      (repeat refine ka ?_); refine kr ?_ ?_ ?_
      refine ps_ccall hp fun g1 => ?_
      refine pops_go ?_ ?_ (pops_end ?_)
      (repeat refine ka ?_); refine kr ?_ ?_ ?_
      refine ps_ccall hn fun g2 => ?_
      refine pops_go ?_ ?_ (pops_end ?_)
      (repeat refine ka ?_); refine kret ?_; repeat (first | with_reducible refine beh_r ?_ | with_reducible refine blk_r ?_)
      refine ends_ret ?_ retPV_two
      exact ⟨4, g2, rfl, rfl⟩
    · have e : s.acc 14 a b imm = (s, 3) := by unfold CS.acc; rw [if_neg (by decide), if_pos rfl, if_neg h]
      rw [e]
      clear e
      rw [if_neg h, decide_eq_false h] at hw0
      have hb1 := hw0
      clear hb0 hw0 hpb hpw
      refine gcall_of_tr Try.func68 rfl [.tmp 4, .tmp 5] Try.results68 88 rfl (tk_start ?_)
      (repeat refine ka ?_); refine kr ?_ ?_ ?_
      refine ps_box fun g => ?_
      refine pops_go ?_ ?_ (pops_end ?_)
      (repeat refine ka ?_); refine kd ?_ ?_ (pstl_end ?_)
      (repeat refine ka ?_); refine kr ?_ ?_ (pops_end ?_)
      (repeat refine ka ?_); refine kr ?_ ?_ (pops_end ?_)
      (repeat refine ka ?_); refine kb ?_
      (repeat refine ka ?_); refine kr ?_ ?_ (pops_end ?_)
      (repeat refine ka ?_); refine kcf ?_
      (repeat refine ka ?_); refine kr ?_ ?_ (pops_end ?_)
      (repeat refine ka ?_); refine kct ?_
      (repeat refine ka ?_); refine kr ?_ ?_ ?_
      refine ps_fcall [1, 2] hb1 ?_ (by rintro x S' ⟨_, rfl⟩; exact Nat.le_refl _)
      rintro x S' ⟨rfl, rfl⟩
      (intro x1 S1 hx1 hS1; simp only [List.map_cons, List.map_nil, renB, ren_ints, putB, List.set_cons_zero, List.set_cons_succ, List.cons_append, List.nil_append, List.append_nil, renL, ren, sg, List.length_cons, List.length_nil, Nat.reduceAdd, Nat.zero_add, Nat.add_zero] at hx1 hS1; subst hx1 hS1)
      refine pops_go ?_ ?_ (pops_end ?_)
      refine kn ?_; repeat (first | with_reducible refine blk_n ?_ | with_reducible refine beh_n ?_)
      (repeat refine ka ?_); refine kr ?_ ?_ (pops_end ?_)
      (repeat refine ka ?_); refine kct ?_
      (repeat refine ka ?_); refine kr ?_ ?_ ?_
      refine ps_ccall hn3 fun g2 => ?_
      refine pops_go ?_ ?_ (pops_end ?_)
      (repeat refine ka ?_); refine kret ?_; repeat (first | with_reducible refine beh_r ?_ | with_reducible refine blk_r ?_)
      refine ends_ret ?_ retPV_two
      exact ⟨4, g2, rfl, rfl⟩
  · by_cases h : accAt s b imm % 4 = 0 ∧ accAt s b imm + 4 ≤ s.mem.length
    · have e : s.acc 15 a b imm = ((s.setMem (putW s.mem (accAt s b imm) (s.regs.getD a.toNat 0))).put a (s.regs.getD a.toNat 0), 0) := by unfold CS.acc; rw [if_neg (by decide), if_neg (by decide), if_neg (by decide), if_pos h]
      rw [e]
      clear e
      have hp := put_ok (s.setMem (putW s.mem (accAt s b imm) (s.regs.getD a.toNat 0))) (hs.setMem (putW_length _ _ _ hat.1) (oct_putW hs.mo _ _)) a (s.regs.getD a.toNat 0) ha
      have hn := next_ok ((s.setMem (putW s.mem (accAt s b imm) (s.regs.getD a.toNat 0))).put a (s.regs.getD a.toNat 0)) ((hs.setMem (putW_length _ _ _ hat.1) (oct_putW hs.mo _ _)).put _ _ hav) 0
      rw [nx_put] at hn
      rw [decide_eq_true h] at hpw
      have hb1 := hpw
      clear hb0 hw0 hpb hpw hn3
      refine gcall_of_tr Try.func68 rfl [.tmp 4, .tmp 5] Try.results68 88 rfl (tk_start ?_)
      (repeat refine ka ?_); refine kr ?_ ?_ ?_
      refine ps_box fun g => ?_
      refine pops_go ?_ ?_ (pops_end ?_)
      (repeat refine ka ?_); refine kd ?_ ?_ (pstl_end ?_)
      (repeat refine ka ?_); refine kr ?_ ?_ (pops_end ?_)
      (repeat refine ka ?_); refine kr ?_ ?_ (pops_end ?_)
      (repeat refine ka ?_); refine kb ?_
      (repeat refine ka ?_); refine kr ?_ ?_ (pops_end ?_)
      (repeat refine ka ?_); refine kcf ?_
      (repeat refine ka ?_); refine kr ?_ ?_ (pops_end ?_)
      (repeat refine ka ?_); refine kcf ?_
      (repeat refine ka ?_); refine kr ?_ ?_ (pops_end ?_)
      (repeat refine ka ?_); refine kcf ?_
      (repeat refine ka ?_); refine kr ?_ ?_ ?_
      refine ps_fcall [1, 2] hb1 ?_ (by rintro x S' ⟨_, rfl⟩; exact Nat.le_refl _)
      rintro x S' ⟨rfl, rfl⟩
      (intro x1 S1 hx1 hS1; simp only [List.map_cons, List.map_nil, renB, ren_ints, putB, List.set_cons_zero, List.set_cons_succ, List.cons_append, List.nil_append, List.append_nil, renL, ren, sg, List.length_cons, List.length_nil, Nat.reduceAdd, Nat.zero_add, Nat.add_zero] at hx1 hS1; subst hx1 hS1)
      refine pops_go ?_ ?_ (pops_end ?_)
      refine kn ?_; repeat (first | with_reducible refine blk_n ?_ | with_reducible refine beh_n ?_)
      (repeat refine ka ?_); refine kr ?_ ?_ (pops_end ?_)
      (repeat refine ka ?_); refine kcf ?_
      (repeat refine ka ?_); refine ksk ?_
      (repeat refine ka ?_); refine kr ?_ ?_ ?_
      refine ps_ccall hp fun g1 => ?_
      refine pops_go ?_ ?_ (pops_end ?_)
      (repeat refine ka ?_); refine kr ?_ ?_ ?_
      refine ps_ccall hn fun g2 => ?_
      refine pops_go ?_ ?_ (pops_end ?_)
      (repeat refine ka ?_); refine kret ?_; repeat (first | with_reducible refine beh_r ?_ | with_reducible refine blk_r ?_)
      refine ends_ret ?_ retPV_two
      exact ⟨4, g2, rfl, rfl⟩
    · have e : s.acc 15 a b imm = (s, 3) := by unfold CS.acc; rw [if_neg (by decide), if_neg (by decide), if_neg (by decide), if_neg h]
      rw [e]
      clear e
      rw [decide_eq_false h, show putW s.mem (accAt s b imm) (s.regs.getD a.toNat 0) = s.mem from if_neg h] at hpw
      have hb1 := hpw
      clear hb0 hw0 hpb hpw
      refine gcall_of_tr Try.func68 rfl [.tmp 4, .tmp 5] Try.results68 88 rfl (tk_start ?_)
      (repeat refine ka ?_); refine kr ?_ ?_ ?_
      refine ps_box fun g => ?_
      refine pops_go ?_ ?_ (pops_end ?_)
      (repeat refine ka ?_); refine kd ?_ ?_ (pstl_end ?_)
      (repeat refine ka ?_); refine kr ?_ ?_ (pops_end ?_)
      (repeat refine ka ?_); refine kr ?_ ?_ (pops_end ?_)
      (repeat refine ka ?_); refine kb ?_
      (repeat refine ka ?_); refine kr ?_ ?_ (pops_end ?_)
      (repeat refine ka ?_); refine kcf ?_
      (repeat refine ka ?_); refine kr ?_ ?_ (pops_end ?_)
      (repeat refine ka ?_); refine kcf ?_
      (repeat refine ka ?_); refine kr ?_ ?_ (pops_end ?_)
      (repeat refine ka ?_); refine kcf ?_
      (repeat refine ka ?_); refine kr ?_ ?_ ?_
      refine ps_fcall [1, 2] hb1 ?_ (by rintro x S' ⟨_, rfl⟩; exact Nat.le_refl _)
      rintro x S' ⟨rfl, rfl⟩
      (intro x1 S1 hx1 hS1; simp only [List.map_cons, List.map_nil, renB, ren_ints, putB, List.set_cons_zero, List.set_cons_succ, List.cons_append, List.nil_append, List.append_nil, renL, ren, sg, List.length_cons, List.length_nil, Nat.reduceAdd, Nat.zero_add, Nat.add_zero] at hx1 hS1; subst hx1 hS1)
      refine pops_go ?_ ?_ (pops_end ?_)
      refine kn ?_; repeat (first | with_reducible refine blk_n ?_ | with_reducible refine beh_n ?_)
      (repeat refine ka ?_); refine kr ?_ ?_ (pops_end ?_)
      (repeat refine ka ?_); refine kct ?_
      (repeat refine ka ?_); refine kr ?_ ?_ ?_
      refine ps_ccall hn3 fun g2 => ?_
      refine pops_go ?_ ?_ (pops_end ?_)
      (repeat refine ka ?_); refine kret ?_; repeat (first | with_reducible refine beh_r ?_ | with_reducible refine blk_r ?_)
      refine ends_ret ?_ retPV_two
      exact ⟨4, g2, rfl, rfl⟩
def CS.tk (s : CS) (l : List Int) : CS × Int := if (l.length : Int) ≤ s.regs.getD 14 0 then (s, 5) else ({ s with regs := s.regs.set 15 (l.getD (s.regs.getD 14 0).toNat 0) }, 0)
theorem take_ok (s : CS) (hs : CsOk s) (l : List Int) (ho : Oct l) (hll : l.length ≤ 1000000000) : CCall 82 [.ro 1 false (ints .u8 l)] s (s.tk l).1 (.tup [.v (.int .u32 s.nx), .v (.int .i64 (s.tk l).2)]) := by
  intro gc gm gb gt
  have hl := hs.rl
  have hav := hs.reg 14
  have hn5 := next_ok s hs 5
  have hw : IntKind.i64.wrap (s.regs.getD (Int.toNat 14) 0) = s.regs.getD 14 0 := wrap_i64 (s.regs.getD 14 0) (by omega) (by omega)
  rw [cpuB]
  by_cases h : (l.length : Int) ≤ s.regs.getD 14 0
  · have e : s.tk l = (s, 5) := if_pos h
    rw [e]
    clear e
    refine gcall_of_tr Try.func82 rfl [.tmp 4, .tmp 5] Try.results82 36 rfl (tk_start ?_)
    (repeat refine ka ?_); refine kr ?_ ?_ (pops_end ?_)
    (repeat refine ka ?_); refine kr ?_ ?_ (pops_end ?_)
    (repeat refine ka ?_); refine kr ?_ ?_ (pops_end ?_)
    (repeat refine ka ?_); refine kct ?_
    (repeat refine ka ?_); refine kr ?_ ?_ ?_
    refine ps_ccall hn5 fun g2 => ?_
    refine pops_go ?_ ?_ (pops_end ?_)
    (repeat refine ka ?_); refine kret ?_; repeat (first | with_reducible refine beh_r ?_ | with_reducible refine blk_r ?_)
    refine ends_ret ?_ retPV_two
    exact ⟨g2, rfl, rfl⟩
  · have e : s.tk l = ({ s with regs := s.regs.set 15 (l.getD (s.regs.getD 14 0).toNat 0) }, 0) := if_neg h
    rw [e]
    clear e hn5
    have hbv := ho.getD (s.regs.getD 14 0).toNat
    have hs' : CsOk { s with regs := s.regs.set 15 (l.getD (s.regs.getD 14 0).toNat 0) } := by
      have := hs.put 15 (l.getD (s.regs.getD 14 0).toNat 0) (by omega)
      rwa [CS.put, if_neg (by decide)] at this
    have hn := next_ok _ hs' 0
    have en : CS.nx { s with regs := s.regs.set 15 (l.getD (s.regs.getD 14 0).toNat 0) } = s.nx := rfl
    rw [en] at hn
    refine gcall_of_tr Try.func82 rfl [.tmp 4, .tmp 5] Try.results82 36 rfl (tk_start ?_)
    (repeat refine ka ?_); refine kr ?_ ?_ (pops_end ?_)
    (repeat refine ka ?_); refine kr ?_ ?_ (pops_end ?_)
    (repeat refine ka ?_); refine kr ?_ ?_ (pops_end ?_)
    (repeat refine ka ?_); refine kcf ?_
    (repeat refine ka ?_); refine ksk ?_
    (repeat refine ka ?_); refine kdt 9 ?_
    refine pstl_go ?_ ?_ (pstl_end ?_)
    refine pops_go ?_ ?_ ?_
    refine ps_st_ca 15 ?_
    refine pops_nil ?_
    (repeat refine ka ?_); refine kr ?_ ?_ ?_
    refine ps_ccall hn fun g2 => ?_
    refine pops_go ?_ ?_ (pops_end ?_)
    (repeat refine ka ?_); refine kret ?_; repeat (first | with_reducible refine beh_r ?_ | with_reducible refine blk_r ?_)
    refine ends_ret ?_ retPV_two
    exact ⟨g2, rfl, rfl⟩
/-- The machine's key, as a slice. -/
theorem takeK_ok (s : CS) (hs : CsOk s) (gc gm gb gt : Nat) : GCall Try.prog 82 [.ptr 0 gc 0 0, .sub 0 gc 0 23 16] (cpuB s gc gm gb gt) (fun x S' => ∃ gt', S' = cpuB (s.tk s.key).1 gc gm gb gt' ∧ x = .tup [.v (.int .u32 s.nx), .v (.int .i64 (s.tk s.key).2)]) := by
  have hl := hs.rl
  have hkl := hs.kl
  have hav := hs.reg 14
  have hn5 := next_ok s hs 5
  have hw : IntKind.i64.wrap (s.regs.getD (Int.toNat 14) 0) = s.regs.getD 14 0 := wrap_i64 (s.regs.getD 14 0) (by omega) (by omega)
  rw [cpuB]
  by_cases h : 16 ≤ s.regs.getD 14 0
  · have e : s.tk s.key = (s, 5) := if_pos (by rw [hkl]; exact h)
    rw [e]
    clear e
    refine gcall_of_tr Try.func82 rfl [.tmp 4, .tmp 5] Try.results82 36 rfl (tk_start ?_)
    (repeat refine ka ?_); refine kr ?_ ?_ (pops_end ?_)
    (repeat refine ka ?_); refine kr ?_ ?_ (pops_end ?_)
    (repeat refine ka ?_); refine kr ?_ ?_ (pops_end ?_)
    (repeat refine ka ?_); refine kct ?_
    (repeat refine ka ?_); refine kr ?_ ?_ ?_
    refine ps_ccall hn5 fun g2 => ?_
    refine pops_go ?_ ?_ (pops_end ?_)
    (repeat refine ka ?_); refine kret ?_; repeat (first | with_reducible refine beh_r ?_ | with_reducible refine blk_r ?_)
    refine ends_ret ?_ retPV_two
    exact ⟨g2, rfl, rfl⟩
  · have e : s.tk s.key = ({ s with regs := s.regs.set 15 (s.key.getD (s.regs.getD 14 0).toNat 0) }, 0) := if_neg (by rw [hkl]; exact h)
    rw [e]
    clear e hn5
    have hbv := hs.ko.getD (s.regs.getD 14 0).toNat
    have hs' : CsOk { s with regs := s.regs.set 15 (s.key.getD (s.regs.getD 14 0).toNat 0) } := by
      have := hs.put 15 (s.key.getD (s.regs.getD 14 0).toNat 0) (by omega)
      rwa [CS.put, if_neg (by decide)] at this
    have hn := next_ok _ hs' 0
    have en : CS.nx { s with regs := s.regs.set 15 (s.key.getD (s.regs.getD 14 0).toNat 0) } = s.nx := rfl
    rw [en] at hn
    have hc : s.regs.getD 14 0 = 0 ∨ s.regs.getD 14 0 = 1 ∨ s.regs.getD 14 0 = 2 ∨ s.regs.getD 14 0 = 3 ∨ s.regs.getD 14 0 = 4 ∨ s.regs.getD 14 0 = 5 ∨ s.regs.getD 14 0 = 6 ∨ s.regs.getD 14 0 = 7 ∨ s.regs.getD 14 0 = 8 ∨ s.regs.getD 14 0 = 9 ∨ s.regs.getD 14 0 = 10 ∨ s.regs.getD 14 0 = 11 ∨ s.regs.getD 14 0 = 12 ∨ s.regs.getD 14 0 = 13 ∨ s.regs.getD 14 0 = 14 ∨ s.regs.getD 14 0 = 15 := by omega
    rcases hc with hk | hk | hk | hk | hk | hk | hk | hk | hk | hk | hk | hk | hk | hk | hk | hk
    all_goals
      rw [hk] at hw hbv hn ⊢
      simp only [Int.reduceToNat] at hbv hn ⊢
      clear hk hav h
      refine gcall_of_tr Try.func82 rfl [.tmp 4, .tmp 5] Try.results82 36 rfl (tk_start ?_)
      (repeat refine ka ?_); refine kr ?_ ?_ (pops_end ?_)
      (repeat refine ka ?_); refine kr ?_ ?_ (pops_end ?_)
      (repeat refine ka ?_); refine kr ?_ ?_ (pops_end ?_)
      (repeat refine ka ?_); refine kcf ?_
      (repeat refine ka ?_); refine ksk ?_
      (repeat refine ka ?_); refine kdt 9 ?_
      refine pstl_go ?_ ?_ (pstl_end ?_)
      refine pops_go ?_ ?_ ?_
      refine ps_st_ca 15 ?_
      refine pops_nil ?_
      (repeat refine ka ?_); refine kr ?_ ?_ ?_
      refine ps_ccall hn fun g2 => ?_
      refine pops_go ?_ ?_ (pops_end ?_)
      (repeat refine ka ?_); refine kret ?_; repeat (first | with_reducible refine beh_r ?_ | with_reducible refine blk_r ?_)
      refine ends_ret ?_ retPV_two
      exact ⟨g2, rfl, rfl⟩
end Go.Proofs.Ytfjodfeoncoaoaa.Pv
