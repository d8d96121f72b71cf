-- cpu: steps, plainly; Run.
import Derived.Test.YtfjodfeoncoaoaaCpG
namespace Go.Proofs.Ytfjodfeoncoaoaa.Pv
set_option linter.all false
open Go.RowKit Go.Proofs
set_option maxRecDepth 100000
set_option maxHeartbeats 4000000
/-- What stays through an instruction. -/
structure Kept (s t : CS) : Prop where
  st : t.steps = s.steps
  tr : t.trap = s.trap
  r0 : s.regs.getD 0 0 = 0 → t.regs.getD 0 0 = 0
theorem Kept.self (s : CS) : Kept s s := ⟨rfl, rfl, id⟩
theorem kept_mem (s : CS) (l : List Int) : Kept s (s.setMem l) := ⟨rfl, rfl, id⟩
theorem kept_put {s t : CS} (h : Kept s t) (a n : Int) (ha : 0 ≤ a) : Kept s (t.put a n) := by
  unfold CS.put
  split
  · exact h
  · refine ⟨h.st, h.tr, fun h0 => ?_⟩
    have := h.r0 h0
    show (t.regs.set a.toNat n).getD 0 0 = 0
    rw [List.getD_eq_getElem?_getD, List.getElem?_set_ne (by omega), ← List.getD_eq_getElem?_getD]
    exact this
theorem kept_tk (s : CS) (l : List Int) : Kept s (s.tk l).1 := by
  unfold CS.tk
  split
  · exact .self s
  · have := kept_put (.self s) 15 (l.getD (s.regs.getD 14 0).toNat 0) (by omega)
    rwa [CS.put, if_neg (by decide)] at this
theorem kept_ex (s : CS) (op a b c imm : Int) (ha : 0 ≤ a) : Kept s (s.ex op a b c imm).1 := by
  unfold CS.ex
  split
  · unfold CS.sys
    split
    · exact ⟨rfl, rfl, id⟩
    split
    · exact kept_tk s _
    split
    · exact kept_tk s _
    split
    · unfold CS.tl
      split
      · exact ⟨rfl, rfl, id⟩
      · exact .self s
    · exact .self s
  split
  · exact kept_put (.self s) _ _ ha
  split
  · exact kept_put (.self s) _ _ ha
  split
  · unfold CS.acc
    split
    · split
      · exact kept_put (.self s) _ _ ha
      · exact .self s
    split
    · split
      · exact kept_put (.self s) _ _ ha
      · exact .self s
    split
    · split
      · exact kept_put (kept_mem s _) _ _ ha
      · exact .self s
    · split
      · exact kept_put (kept_mem s _) _ _ ha
      · exact .self s
  split
  · exact .self s
  split
  · exact kept_put (.self s) _ _ ha
  · exact .self s
theorem ex_pc (s : CS) (hs : CsOk s) (op a b c imm : Int) : 0 ≤ (s.ex op a b c imm).2.1 ∧ (s.ex op a b c imm).2.1 < 4294967296 := by
  have h1 : 0 ≤ s.nx ∧ s.nx < 4294967296 := u32_rng _
  have h2 : 0 ≤ s.thr imm ∧ s.thr imm < 4294967296 := u32_rng _
  have h3 := hs.reg a.toNat
  unfold CS.ex
  split
  · exact h1
  split
  · exact h1
  split
  · exact h1
  split
  · exact h1
  split
  · show 0 ≤ s.branchPc op a b imm ∧ s.branchPc op a b imm < 4294967296
    unfold CS.branchPc
    split
    · exact h2
    · exact h1
  split
  · exact h2
  · exact h3
theorem cs_pc {s : CS} (h : CsOk s) (p : Int) (hp : 0 ≤ p ∧ p < 4294967296) : CsOk { s with pc := p } := ⟨h.rl, h.rr, hp, h.st, h.ml, h.mo, h.il, h.io, h.kl, h.ko, h.tl, h.te, h.mn⟩
theorem cs_trapd {s : CS} (h : CsOk s) (t : Int) : CsOk (s.trapd t) := ⟨h.rl, h.rr, h.pc, h.st, h.ml, h.mo, h.il, h.io, h.kl, h.ko, h.tl, h.te, h.mn⟩
/-- What holds of a machine that works. -/
structure CInv (s : CS) : Prop where
  ok : CsOk s
  r0 : s.regs.getD 0 0 = 0
  tr : s.ended = false → s.trap = 0
theorem step1_facts {s : CS} (h : CsOk s) (h0 : s.regs.getD 0 0 = 0) (ht : s.trap = 0) : CInv s.step1 ∧ s.step1.steps = s.steps := by
  have hwd : 0 ≤ s.wd ∧ s.wd < 4294967296 := word4_rng h.mo _
  unfold CS.step1
  split
  · split
    · have h1 := ex_cs s h (s.wd / 16777216) (s.wd / 1048576 % 16) (s.wd / 65536 % 16) (wC s.wd) (wI s.wd)
      have h2 := kept_ex s (s.wd / 16777216) (s.wd / 1048576 % 16) (s.wd / 65536 % 16) (wC s.wd) (wI s.wd) (by omega)
      have h3 := ex_pc s h (s.wd / 16777216) (s.wd / 1048576 % 16) (s.wd / 65536 % 16) (wC s.wd) (wI s.wd)
      generalize s.ex (s.wd / 16777216) (s.wd / 1048576 % 16) (s.wd / 65536 % 16) (wC s.wd) (wI s.wd) = r at *
      unfold CS.go
      split
      · exact ⟨⟨cs_pc h1 _ h3, h2.r0 h0, fun _ => h2.tr.trans ht⟩, h2.st⟩
      · exact ⟨⟨cs_trapd h1 _, h2.r0 h0, fun h => (by cases h)⟩, h2.st⟩
    · exact ⟨⟨cs_trapd h _, h0, fun h => (by cases h)⟩, rfl⟩
  · exact ⟨⟨cs_trapd h _, h0, fun h => (by cases h)⟩, rfl⟩
theorem CInv.step {s : CS} (h : CInv s) (hl : s.steps < 4611686018427387904) : CInv s.step ∧ s.step.steps = (if s.ended = true then s.steps else s.steps + 1) := by
  unfold CS.step
  split
  · exact ⟨h, rfl⟩
  · rename_i he
    have := step1_facts (st1_ok h.ok hl) (s := s.st1) h.r0 (h.tr (by simpa using he))
    exact ⟨this.1, this.2⟩
def CS.run (s : CS) : Nat → CS
  | 0 => s
  | k + 1 => (s.run k).step
theorem run_add (s : CS) (i : Nat) : ∀ j, s.run (i + j) = (s.run i).run j
  | 0 => rfl
  | j + 1 => by
    show (s.run (i + j)).step = ((s.run i).run j).step
    rw [run_add s i j]
theorem run_end {s : CS} (h : s.ended = true) : ∀ k, s.run k = s
  | 0 => rfl
  | k + 1 => by
    show (s.run k).step = s
    rw [run_end h k, CS.step, if_pos h]
theorem CInv.run {s : CS} (h : CInv s) : ∀ k : Nat, s.steps + k < 4611686018427387904 → CInv (s.run k) ∧ (s.run k).steps ≤ s.steps + k ∧ ((s.run k).ended = false → (s.run k).steps = s.steps + k)
  | 0, _ => ⟨h, by show s.steps ≤ _; omega, fun _ => by show s.steps = _; omega⟩
  | k + 1, hk => by
    obtain ⟨h1, h2, h3⟩ := CInv.run h k (by omega)
    obtain ⟨g1, g2⟩ := h1.step (by omega)
    refine ⟨g1, ?_, fun he => ?_⟩
    · show (s.run k).step.steps ≤ _
      rw [g2]
      split <;> omega
    · show (s.run k).step.steps = _
      rw [g2]
      by_cases hh : (s.run k).ended = true
      · exfalso
        have : (s.run k).step = s.run k := if_pos hh
        have he' : (s.run k).step.ended = false := he
        rw [this, hh] at he'
        cases he'
      · rw [if_neg hh, h3 (by simpa using hh)]
        omega
def CS.err (s : CS) : Int := if s.ended = true then (if s.trap = 0 then 0 else 8) else 9
section
variable {ops : List Oper} {Q : PS → Prop} {rest : List Oper} {n : Nat} {tm : List (Nat × PV)} {d : Tmp} {ty : TypeId} {pos : String} {af : Array Edge}
/-- A guarded call of a method of the machine. -/
theorem ps_ccall_g {f : FuncId} [hf : FnOk Try.prog f] {args : Array Operand} {ats : Array TypeId} {xs : List PV} {s s' : CS} {y : PV} {gc gm gb gt : Nat} {X : List Blk} {j : Nat} {w : Bool} (h : CCall f xs s s' y)
    (k : ∀ gt', Pops Try.prog ops Q rest ⟨n, (d, y) :: tm, ⟨gc, true, 41, [ci .u32 s'.regs ++ cpuTl s' 1 gm 3 gt']⟩ :: ⟨gm, true, 1, [[.vw 2 gb 0 s'.mem.length]]⟩ :: ⟨gb, true, 1, ints .u8 s'.mem⟩ :: ⟨gt', true, 2, recRows s'.told⟩ :: X⟩)
    (hgd : guardPV ops ⟨n, tm, ⟨gc, true, 41, [ci .u32 s.regs ++ cpuTl s 1 gm 3 gt]⟩ :: ⟨gm, true, 1, [[.vw 2 gb 0 s.mem.length]]⟩ :: ⟨gb, true, 1, ints .u8 s.mem⟩ :: ⟨gt, true, 2, recRows s.told⟩ :: X⟩ j w = some w := by ((conv => lhs; whnf) <;> fail "no"))
    (ha : args.toList.map (PS.get ⟨n, tm, ⟨gc, true, 41, [ci .u32 s.regs ++ cpuTl s 1 gm 3 gt]⟩ :: ⟨gm, true, 1, [[.vw 2 gb 0 s.mem.length]]⟩ :: ⟨gb, true, 1, ints .u8 s.mem⟩ :: ⟨gt, true, 2, recRows s.told⟩ :: X⟩) = .ptr 0 gc 0 0 :: xs := by first | rfl | (simp only [List.map_cons, List.map_nil, PS.get, look, ↓reduceIte, Nat.reduceEqDiff, reduceCtorEq]; exact rfl))
    (hx : ∀ f, renL f xs = xs := by intro _; rfl) (hy : ∀ f, ren f y = y := by intro _; rfl) :
    Pops Try.prog ops Q (⟨some d, .call ⟨.value (.func f), args, ats⟩, ty, pos, af, some (j, w)⟩ :: rest) ⟨n, tm, ⟨gc, true, 41, [ci .u32 s.regs ++ cpuTl s 1 gm 3 gt]⟩ :: ⟨gm, true, 1, [[.vw 2 gb 0 s.mem.length]]⟩ :: ⟨gb, true, 1, ints .u8 s.mem⟩ :: ⟨gt, true, 2, recRows s.told⟩ :: X⟩ := by
  refine ps_fcall_g [0, 1, 2, 3] (h gc gm gb gt) ?_ ?_ hgd ?_ ?_ (by decide) ?_
  · rintro x S' ⟨gt', rfl, rfl⟩ x1 S1 rfl rfl
    rw [ren_cpuB, hy]
    simp only [putB, cpuB, List.set_cons_zero, List.set_cons_succ, List.append_nil]
    exact k gt'
  · rintro x S' ⟨gt', rfl, rfl⟩
    exact Nat.le_refl _
  · rw [ha]
    show _ = .ptr 0 gc 0 0 :: renL _ xs
    rw [hx]
  · have e := congrArg (List.map some) (ren_cpuB (⟨gc, true, 41, [ci .u32 s.regs ++ cpuTl s 1 gm 3 gt]⟩ :: ⟨gm, true, 1, [[.vw 2 gb 0 s.mem.length]]⟩ :: ⟨gb, true, 1, ints .u8 s.mem⟩ :: ⟨gt, true, 2, recRows s.told⟩ :: X).length s gc gm gb gt)
    rw [List.map_map] at e
    exact e.symm
  · intro a ha
    simp only [List.mem_cons, List.not_mem_nil, or_false] at ha
    simp only [List.length_cons]
    omega
end
theorem run_ok (s : CS) (hs : CInv s) (k : Nat) (hk : s.steps + k < 4611686018427387904) : CCall 21 [.v (.int .i64 (k : Int))] s (s.run k) (.v (.int .i64 (s.run k).err)) := by
  intro gc gm gb gt
  have hst := hs.ok.st
  rw [cpuB]
  refine gcall_of_tr Try.func21 rfl [.tmp 4] Try.results21 27 rfl (tk_start ?_)
  (repeat refine ka ?_); refine kr ?_ ?_ (pops_end ?_)
  (repeat refine ka ?_); refine kb ?_
  refine kw (fun x : Nat × Nat => [(0, PV.ptr 0 gc 0 0), (1, .v (.int .i64 ((k : Int) - x.1)))]) (fun x => [⟨gc, true, 41, [ci .u32 (s.run x.1).regs ++ cpuTl (s.run x.1) 1 gm 3 x.2]⟩, ⟨gm, true, 1, [[.vw 2 gb 0 (s.run x.1).mem.length]]⟩, ⟨gb, true, 1, ints .u8 (s.run x.1).mem⟩, ⟨x.2, true, 2, recRows (s.run x.1).told⟩]) (fun x => x.1 ≤ k) (fun x => k - x.1) (0, gt) (Nat.zero_le _) (holds 4 (by repeat (first | exact .nil | refine has1 ?_))) ?_
  rintro ⟨j, g⟩ (hj : j ≤ k)
  dsimp only
  obtain ⟨i1, i2, i3⟩ := hs.run j (by omega)
  have hl := i1.ok.rl
  by_cases hjk : j = k
  · subst hjk
    have hz : ¬ (0 : Int) < (j : Int) - j := by omega
    (repeat refine ka ?_); refine kr ?_ ?_ (pops_end ?_)
    (repeat refine ka ?_); refine kcf ?_
    (repeat refine ka ?_); refine kx ?_; (repeat (first | with_reducible refine beh_x ?_ | with_reducible refine blk_up rfl ?_)); refine blk_here ?_; refine beh_n ?_
    by_cases he : (s.run j).ended = true
    · skip
      (repeat refine ka ?_); refine kb ?_
      (repeat refine ka ?_); refine kr ?_ ?_ (pops_end ?_)
      (repeat refine ka ?_); refine kcf ?_ (hb := congrArg (fun b => PV.v (.bool (!b))) he)
      by_cases ht : (s.run j).trap = 0
      · (repeat refine ka ?_); refine kr ?_ ?_ (pops_end ?_)
        (repeat refine ka ?_); refine kcf ?_
        (repeat refine ka ?_); refine ksk ?_
        refine kn ?_; repeat (first | with_reducible refine blk_n ?_ | with_reducible refine beh_n ?_)
        (repeat refine ka ?_); refine kr ?_ ?_ (pops_end ?_)
        (repeat refine ka ?_); refine kret ?_; repeat (first | with_reducible refine beh_r ?_ | with_reducible refine blk_r ?_)
        refine ends_ret ?_ retPV_one
        exact ⟨g, rfl, by rw [CS.err, if_pos he, if_pos ht]⟩
      · (repeat refine ka ?_); refine kr ?_ ?_ (pops_end ?_)
        (repeat refine ka ?_); refine kct ?_
        (repeat refine ka ?_); refine kr ?_ ?_ (pops_end ?_)
        (repeat refine ka ?_); refine kret ?_; repeat (first | with_reducible refine beh_r ?_ | with_reducible refine blk_r ?_)
        refine ends_ret ?_ retPV_one
        exact ⟨g, rfl, by rw [CS.err, if_pos he, if_neg ht]⟩
    · have he' : (s.run j).ended = false := by simpa using he
      (repeat refine ka ?_); refine kb ?_
      (repeat refine ka ?_); refine kr ?_ ?_ (pops_end ?_)
      (repeat refine ka ?_); refine kct ?_ (hb := congrArg (fun b => PV.v (.bool (!b))) he')
      (repeat refine ka ?_); refine kr ?_ ?_ (pops_end ?_)
      (repeat refine ka ?_); refine kret ?_; repeat (first | with_reducible refine beh_r ?_ | with_reducible refine blk_r ?_)
      refine ends_ret ?_ retPV_one
      exact ⟨g, rfl, by rw [CS.err, if_neg he]⟩
  · have hp : (0 : Int) < (k : Int) - j := by omega
    have hstep := step_ok (s.run j) i1.ok (by omega)
    by_cases he : (s.run j).ended = true
    · rw [he, Bool.not_true, show (s.run j).step = s.run j from if_pos he] at hstep
      have ek : s.run k = s.run j := by
        rw [show k = j + (k - j) by omega, run_add, run_end he]
      rw [ek]
      (repeat refine ka ?_); refine kr ?_ ?_ ?_
      refine ps_ccall_g hstep fun g2 => ?_
      refine pops_go ?_ ?_ (pops_end ?_)
      (repeat refine ka ?_); refine kcf ?_
      (repeat refine ka ?_); refine kx ?_; (repeat (first | with_reducible refine beh_x ?_ | with_reducible refine blk_up rfl ?_)); refine blk_here ?_; refine beh_n ?_
      (repeat refine ka ?_); refine kb ?_
      (repeat refine ka ?_); refine kr ?_ ?_ (pops_end ?_)
      (repeat refine ka ?_); refine kcf ?_ (hb := congrArg (fun b => PV.v (.bool (!b))) he)
      by_cases ht : (s.run j).trap = 0
      · (repeat refine ka ?_); refine kr ?_ ?_ (pops_end ?_)
        (repeat refine ka ?_); refine kcf ?_
        (repeat refine ka ?_); refine ksk ?_
        refine kn ?_; repeat (first | with_reducible refine blk_n ?_ | with_reducible refine beh_n ?_)
        (repeat refine ka ?_); refine kr ?_ ?_ (pops_end ?_)
        (repeat refine ka ?_); refine kret ?_; repeat (first | with_reducible refine beh_r ?_ | with_reducible refine blk_r ?_)
        refine ends_ret ?_ retPV_one
        exact ⟨g2, rfl, by rw [CS.err, if_pos he, if_pos ht]⟩
      · (repeat refine ka ?_); refine kr ?_ ?_ (pops_end ?_)
        (repeat refine ka ?_); refine kct ?_
        (repeat refine ka ?_); refine kr ?_ ?_ (pops_end ?_)
        (repeat refine ka ?_); refine kret ?_; repeat (first | with_reducible refine beh_r ?_ | with_reducible refine blk_r ?_)
        refine ends_ret ?_ retPV_one
        exact ⟨g2, rfl, by rw [CS.err, if_pos he, if_neg ht]⟩
    · have he' : (s.run j).ended = false := by simpa using he
      rw [he', Bool.not_false] at hstep
      have hw : IntKind.i64.wrap ((k : Int) - j - 1) = (k : Int) - (j + 1 : Nat) := by rw [wrap_i64 _ (by omega) (by omega)]; omega
      (repeat refine ka ?_); refine kr ?_ ?_ ?_
      refine ps_ccall_g hstep fun g2 => ?_
      refine pops_go ?_ ?_ (pops_end ?_)
      (repeat refine ka ?_); refine kct ?_
      (repeat refine ka ?_); refine ksk ?_
      (repeat refine ka ?_); refine kb ?_
      (repeat refine ka ?_); refine ksk ?_
      refine kn ?_; repeat (first | with_reducible refine blk_n ?_ | with_reducible refine beh_n ?_)
      (repeat refine ka ?_); refine kr ?_ ?_ (pops_end ?_)
      refine kn ?_; repeat (first | with_reducible refine blk_n ?_ | with_reducible refine beh_n ?_)
      refine ⟨(j + 1, g2), by show j + 1 ≤ k; omega, by show k - (j + 1) < k - j; omega, ?_⟩
      exact (holds 4 (by repeat (first | exact .nil | refine has1 ?_)))
end Go.Proofs.Ytfjodfeoncoaoaa.Pv
