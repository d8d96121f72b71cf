-- cpu: a step.
import Derived.Test.YtfjodfeoncoaoaaCpF
import Derived.Test.YtfjodfeoncoaoaaKm
namespace Go.Proofs.Ytfjodfeoncoaoaa.Pv
set_option linter.all false
open Go.RowKit Go.Proofs
set_option maxRecDepth 100000
set_option maxHeartbeats 4000000
section
variable {ops : List Oper} {Q : PS → Prop} {rest : List Oper} {n : Nat} {tm : List (Nat × PV)} {d : Tmp} {ty : TypeId} {pos : String} {af : Array Edge}
/-- A call of a method of the machine, by its function value. -/
theorem ps_cvcall {f : FuncId} [hf : FnOk Try.prog f] {fo : Operand} {args : Array Operand} {ats : Array TypeId} {xs : List PV} {s s' : CS} {y : PV} {gc gm gb gt : Nat} {X : List Blk} (h : CCall f xs s s' y)
    (k : ∀ gt', Pops Try.prog ops Q rest ⟨n, (d, y) :: tm, ⟨gc, true, 41, [ci .u32 s'.regs ++ cpuTl s' 1 gm 3 gt']⟩ :: ⟨gm, true, 1, [[.vw 2 gb 0 s'.mem.length]]⟩ :: ⟨gb, true, 1, ints .u8 s'.mem⟩ :: ⟨gt', true, 2, recRows s'.told⟩ :: X⟩)
    (hv : PS.get ⟨n, tm, ⟨gc, true, 41, [ci .u32 s.regs ++ cpuTl s 1 gm 3 gt]⟩ :: ⟨gm, true, 1, [[.vw 2 gb 0 s.mem.length]]⟩ :: ⟨gb, true, 1, ints .u8 s.mem⟩ :: ⟨gt, true, 2, recRows s.told⟩ :: X⟩ fo = .fn (.func f) [] [] := by rfl)
    (ha : args.toList.map (PS.get ⟨n, tm, ⟨gc, true, 41, [ci .u32 s.regs ++ cpuTl s 1 gm 3 gt]⟩ :: ⟨gm, true, 1, [[.vw 2 gb 0 s.mem.length]]⟩ :: ⟨gb, true, 1, ints .u8 s.mem⟩ :: ⟨gt, true, 2, recRows s.told⟩ :: X⟩) = .ptr 0 gc 0 0 :: xs := by first | rfl | (simp only [List.map_cons, List.map_nil, PS.get, look, ↓reduceIte, Nat.reduceEqDiff, reduceCtorEq]; exact rfl))
    (hx : ∀ f, renL f xs = xs := by intro _; rfl) (hy : ∀ f, ren f y = y := by intro _; rfl) :
    Pops Try.prog ops Q (⟨some d, .call ⟨.value fo, args, ats⟩, ty, pos, af, none⟩ :: rest) ⟨n, tm, ⟨gc, true, 41, [ci .u32 s.regs ++ cpuTl s 1 gm 3 gt]⟩ :: ⟨gm, true, 1, [[.vw 2 gb 0 s.mem.length]]⟩ :: ⟨gb, true, 1, ints .u8 s.mem⟩ :: ⟨gt, true, 2, recRows s.told⟩ :: X⟩ := by
  generalize hS : (⟨gc, true, 41, [ci .u32 s.regs ++ cpuTl s 1 gm 3 gt]⟩ :: ⟨gm, true, 1, [[.vw 2 gb 0 s.mem.length]]⟩ :: ⟨gb, true, 1, ints .u8 s.mem⟩ :: ⟨gt, true, 2, recRows s.told⟩ :: X : List Blk) = S at *
  have hfr := gcall_frame (Sb := S) (h gc gm gb gt) [0, 1, 2, 3] (by decide) rfl (by
    intro a ha
    simp only [List.mem_cons, List.not_mem_nil, or_false] at ha
    rw [← hS]
    simp only [List.length_cons]
    omega) (by
    intro i a hi
    have e := ren_cpuB S.length s gc gm gb gt
    have e2 := congrArg (fun l : List Blk => l[i]?) e
    simp only [List.getElem?_map] at e2
    rw [e2, ← hS]
    have : i = 0 ∨ i = 1 ∨ i = 2 ∨ i = 3 := by
      have := (List.getElem?_eq_some_iff.1 hi).1
      simp only [List.length_cons, List.length_nil] at this
      omega
    rcases this with rfl | rfl | rfl | rfl <;> (cases hi; rfl)) (by
    rintro x S' ⟨gt', rfl, rfl⟩
    exact Nat.le_refl _)
  refine ps_vcall (first := []) (captured := []) (R := fun x' Sb' => ∃ gt', x' = y ∧ Sb' = putB [0, 1, 2, 3] ((cpuB s' gc gm gb gt').map (renB (sg [0, 1, 2, 3] S.length))) S) ?_ ?_ hv ha
  · rw [List.nil_append, List.append_nil]
    have e : renL (sg [0, 1, 2, 3] S.length) (.ptr 0 gc 0 0 :: xs) = .ptr 0 gc 0 0 :: xs := by
      show .ptr _ gc 0 0 :: renL _ xs = _
      rw [hx]
      rfl
    rw [← e]
    refine hfr.mono ?_
    rintro x S' ⟨x0, S0', ⟨gt', rfl, rfl⟩, rfl, rfl⟩
    exact ⟨gt', hy _, rfl⟩
  · rintro x S' ⟨gt', rfl, rfl⟩
    rw [ren_cpuB, ← hS]
    simp only [putB, cpuB, List.set_cons_zero, List.set_cons_succ, List.append_nil]
    exact k gt'
end
/-- What an instruction does: the state, where it goes on, and a trap. -/
def CS.ex (s : CS) (op a b c imm : Int) : CS × Int × Int :=
  if op = 0 then ((s.sys imm).1, s.nx, (s.sys imm).2)
  else if op ≤ 2 then (s.moved op a imm, s.nx, 0)
  else if op ≤ 11 then (s.summed op a b c imm, s.nx, 0)
  else if op ≤ 15 then ((s.acc op a b imm).1, s.nx, (s.acc op a b imm).2)
  else if op ≤ 19 then (s, s.branchPc op a b imm, 0)
  else if op = 20 then (s.put a s.nx, s.thr imm, 0)
  else (s, s.regs.getD a.toNat 0, 0)
theorem ex_ok (s : CS) (hs : CsOk s) (op a b c imm : Int) (ho : 0 ≤ op) (ha : 0 ≤ a ∧ a < 16) (hb : 0 ≤ b ∧ b < 16) (hc : 0 ≤ c ∧ c < 16) :
    CCall (wayF op) [insV op a b c imm] s (s.ex op a b c imm).1 (.tup [.v (.int .u32 (s.ex op a b c imm).2.1), .v (.int .i64 (s.ex op a b c imm).2.2)]) := by
  unfold CS.ex wayF
  by_cases h0 : op = 0
  · simp only [if_pos h0]
    exact call_ok s hs op a b c imm
  by_cases h1 : op ≤ 2
  · simp only [if_neg h0, if_pos h1]
    exact move_ok s hs op a b c imm ha hb hc
  by_cases h2 : op ≤ 11
  · simp only [if_neg h0, if_neg h1, if_pos h2]
    exact sum_ok s hs op a b c imm ha hb hc
  by_cases h3 : op ≤ 15
  · simp only [if_neg h0, if_neg h1, if_neg h2, if_pos h3]
    exact access_ok s hs op a b c imm (by omega) ha hb hc
  by_cases h4 : op ≤ 19
  · simp only [if_neg h0, if_neg h1, if_neg h2, if_neg h3, if_pos h4]
    exact branch_ok s hs op a b c imm ha hb hc
  by_cases h5 : op = 20
  · simp only [if_neg h0, if_neg h1, if_neg h2, if_neg h3, if_neg h4, if_pos h5]
    exact jump_ok s hs op a b c imm ha hb hc
  · simp only [if_neg h0, if_neg h1, if_neg h2, if_neg h3, if_neg h4, if_neg h5]
    exact back_ok s hs op a b c imm ha hb hc
theorem tk_cs (s : CS) (hs : CsOk s) (l : List Int) (ho : Oct l) : CsOk (s.tk l).1 := by
  unfold CS.tk
  split
  · exact hs
  · have := hs.put 15 (l.getD (s.regs.getD 14 0).toNat 0) (by have := ho.getD (s.regs.getD 14 0).toNat; omega)
    rwa [CS.put, if_neg (by decide)] at this
theorem sys_cs (s : CS) (hs : CsOk s) (imm : Int) : CsOk (s.sys imm).1 := by
  unfold CS.sys
  split
  · exact ⟨hs.rl, hs.rr, hs.pc, hs.st, hs.ml, hs.mo, hs.il, hs.io, hs.kl, hs.ko, hs.tl, hs.te, hs.mn⟩
  split
  · exact tk_cs s hs _ hs.io
  split
  · exact tk_cs s hs _ hs.ko
  split
  · unfold CS.tl
    split
    · rename_i h
      exact telled_ok hs h
    · exact hs
  · exact hs
theorem acc_cs (s : CS) (hs : CsOk s) (op a b imm : Int) : CsOk (s.acc op a b imm).1 := by
  have hr := hs.reg a.toNat
  have hm := hs.mo.getD (accAt s b imm).toNat
  have hw := word4_rng hs.mo (accAt s b imm).toNat
  unfold CS.acc
  split
  · split
    · exact hs.put _ _ (by omega)
    · exact hs
  split
  · split
    · exact hs.put _ _ hw
    · exact hs
  split
  · split
    · exact CsOk.put (hs.setMem (putIf_length _ _ _ (u32_rng _).1) (oct_putIf hs.mo (by intro x hx; simp only [List.mem_singleton] at hx; omega) _)) _ _ hr
    · exact hs
  · split
    · exact CsOk.put (hs.setMem (putW_length _ _ _ (u32_rng _).1) (oct_putW hs.mo _ _)) _ _ hr
    · exact hs
theorem ex_cs (s : CS) (hs : CsOk s) (op a b c imm : Int) : CsOk (s.ex op a b c imm).1 := by
  unfold CS.ex
  split
  · exact sys_cs s hs imm
  split
  · exact hs.put _ _ (movV_rng _ _ _)
  split
  · exact hs.put _ _ (aluV_rng _ _ _ (hs.reg _))
  split
  · exact acc_cs s hs op a b imm
  split
  · exact hs
  split
  · exact hs.put _ _ (u32_rng _)
  · exact hs
theorem wayFn (op : Int) : FnOk Try.prog (wayF op) := by
  unfold wayF
  split
  · infer_instance
  split
  · infer_instance
  split
  · infer_instance
  split
  · infer_instance
  split
  · infer_instance
  split
  · infer_instance
  · infer_instance
def CS.st1 (s : CS) : CS := { s with steps := s.steps + 1 }
def CS.trapd (s : CS) (t : Int) : CS := { s with trap := t, ended := true }
def CS.go (s : CS) (r : CS × Int × Int) : CS := if r.2.2 = 0 then { r.1 with pc := r.2.1 } else r.1.trapd r.2.2
/-- A step of a machine that has not ended. -/
def CS.step1 (s : CS) : CS :=
  if s.wok then (if wR s.wd then s.go (s.ex (s.wd / 16777216) (s.wd / 1048576 % 16) (s.wd / 65536 % 16) (wC s.wd) (wI s.wd)) else s.trapd 2) else s.trapd 1
def CS.step (s : CS) : CS := if s.ended = true then s else s.st1.step1
theorem st1_ok {s : CS} (h : CsOk s) (hl : s.steps < 4611686018427387904) : CsOk s.st1 :=
  ⟨h.rl, h.rr, h.pc, by show 0 ≤ s.steps + 1 ∧ s.steps + 1 ≤ _; have := h.st; omega, h.ml, h.mo, h.il, h.io, h.kl, h.ko, h.tl, h.te, h.mn⟩
theorem wC_rng (w : Int) (h1 : wR w) : 0 ≤ wC w ∧ wC w < 16 := by
  have := (right_facts h1).2.2.2.1
  omega
def CS.up (s : CS) : CS := { s with ended := false }
theorem up_of {s : CS} (h : s.ended = false) : s = s.up := by
  cases s
  cases h
  rfl
theorem step_okE (s : CS) (hs : CsOk s) : CCall 26 [] { s with ended := true } { s with ended := true } (.v (.bool false)) := by
  intro gc gm gb gt
  have hl := hs.rl
  refine gcall_drop ?_
  rw [cpuB]
  refine gcall_of_tr Try.func26 rfl [.tmp 2] Try.results26 54 rfl (tk_start ?_)
  (repeat refine ka ?_); refine kr ?_ ?_ (pops_end ?_)
  (repeat refine ka ?_); refine kr ?_ ?_ (pops_end ?_)
  (repeat refine ka ?_); refine kct ?_
  (repeat refine ka ?_); refine kr ?_ ?_ (pops_end ?_)
  (repeat refine ka ?_); refine kret ?_; repeat (first | with_reducible refine beh_r ?_ | with_reducible refine blk_r ?_)
  refine ends_ret ?_ retPV_one
  exact ⟨4, gt, rfl, rfl⟩
theorem step_okU (s : CS) (hs : CsOk s.up) (hlt : s.up.steps < 4611686018427387904) : CCall 26 [] s.up s.up.st1.step1 (.v (.bool true)) := by
  intro gc gm gb gt
  have hl := hs.rl
  refine gcall_drop ?_
  have hs1 := st1_ok hs hlt
  have hF := fetch_ok s.up.st1 hs1
  have hst := hs.st
  have hw : IntKind.i64.wrap (s.up.steps + 1) = s.up.steps + 1 := wrap_i64 _ (by omega) (by omega)
  have hwd : 0 ≤ s.up.st1.wd ∧ s.up.st1.wd < 4294967296 := word4_rng hs.mo _
  rw [cpuB]
  unfold CS.step1
  by_cases h1 : s.up.st1.wok
  · simp only [if_pos h1] at hF ⊢
    by_cases h2 : wR s.up.st1.wd
    · simp only [if_pos h2] at hF ⊢
      have hc3 := wC_rng s.up.st1.wd h2
      have hX := ex_ok s.up.st1 hs1 (s.up.st1.wd / 16777216) (s.up.st1.wd / 1048576 % 16) (s.up.st1.wd / 65536 % 16) (wC s.up.st1.wd) (wI s.up.st1.wd) (by omega) (by omega) (by omega) hc3
      have hrO := ex_cs s.up.st1 hs1 (s.up.st1.wd / 16777216) (s.up.st1.wd / 1048576 % 16) (s.up.st1.wd / 65536 % 16) (wC s.up.st1.wd) (wI s.up.st1.wd)
      have hY := way_ok (s.up.st1.wd / 16777216)
      haveI := wayFn (s.up.st1.wd / 16777216)
      unfold CS.ft at hF
      generalize s.up.st1.wd / 16777216 = o at hF hX hY hrO this ⊢
      generalize s.up.st1.ex o (s.up.st1.wd / 1048576 % 16) (s.up.st1.wd / 65536 % 16) (wC s.up.st1.wd) (wI s.up.st1.wd) = r at hX hrO ⊢
      unfold insV at hF hX
      generalize s.up.st1.wd / 1048576 % 16 = o1 at hF hX
      generalize s.up.st1.wd / 65536 % 16 = o2 at hF hX
      generalize wC s.up.st1.wd = o3 at hF hX
      generalize wI s.up.st1.wd = o4 at hF hX
      clear hc3 h1 h2 hwd
      unfold CS.go
      have hrl := hrO.rl
      by_cases ht : r.2.2 = 0
      · rw [if_pos ht]
        refine gcall_of_tr Try.func26 rfl [.tmp 2] Try.results26 54 rfl (tk_start ?_)
        (repeat refine ka ?_); refine kr ?_ ?_ (pops_end ?_)
        (repeat refine ka ?_); refine kr ?_ ?_ (pops_end ?_)
        (repeat refine ka ?_); refine kcf ?_ (hb := rfl)
        (repeat refine ka ?_); refine ksk ?_
        (repeat refine ka ?_); refine kr ?_ ?_ ?_
        refine ps_st_ct (tl' := cpuTl s.up.st1 1 gm 3 gt) (hle := Nat.le_of_ble_eq_true rfl) ?_
        refine pops_go ?_ ?_ (pops_end ?_)
        (repeat refine ka ?_); refine kr ?_ ?_ ?_
        refine ps_ccall hF fun g1 => ?_
        refine pops_go ?_ ?_ ?_
        refine ps_alloc fun g => ?_
        refine pops_go ?_ ?_ ?_
        refine ps_store ?_
        refine pops_go ?_ ?_ (pops_end ?_)
        (repeat refine ka ?_); refine kr ?_ ?_ (pops_end ?_)
        (repeat refine ka ?_); refine kct ?_
        (repeat refine ka ?_); refine kr ?_ ?_ (pops_end ?_)
        (repeat refine ka ?_); refine kdm 5 ?_
        refine pstl_go ?_ ?_ ?_
        refine pd_pcall hY ?_
        refine pstl_go ?_ ?_ (pstl_end ?_)
        refine ps_cvcall hX fun g2 => ?_
        refine pops_nil ?_
        refine pstl_go ?_ ?_ (pstl_end ?_)
        (repeat refine ka ?_); refine kr ?_ ?_ (pops_end ?_)
        (repeat refine ka ?_); refine kct ?_
        (repeat refine ka ?_); refine kr ?_ ?_ ?_
        refine ps_st_ct (tl' := cpuTl { r.1 with pc := r.2.1 } 1 gm 3 g2) (hle := Nat.le_of_ble_eq_true rfl) ?_
        refine pops_go ?_ ?_ (pops_end ?_)
        (repeat refine ka ?_); refine kr ?_ ?_ (pops_end ?_)
        (repeat refine ka ?_); refine kcf ?_
        (repeat refine ka ?_); refine ksk ?_
        (repeat refine ka ?_); refine kr ?_ ?_ (pops_end ?_)
        (repeat refine ka ?_); refine kret ?_; repeat (first | with_reducible refine beh_r ?_ | with_reducible refine blk_r ?_)
        refine ends_ret ?_ retPV_one
        exact ⟨4, g2, rfl, rfl⟩
      · rw [if_neg ht]
        refine gcall_of_tr Try.func26 rfl [.tmp 2] Try.results26 54 rfl (tk_start ?_)
        (repeat refine ka ?_); refine kr ?_ ?_ (pops_end ?_)
        (repeat refine ka ?_); refine kr ?_ ?_ (pops_end ?_)
        (repeat refine ka ?_); refine kcf ?_ (hb := rfl)
        (repeat refine ka ?_); refine ksk ?_
        (repeat refine ka ?_); refine kr ?_ ?_ ?_
        refine ps_st_ct (tl' := cpuTl s.up.st1 1 gm 3 gt) (hle := Nat.le_of_ble_eq_true rfl) ?_
        refine pops_go ?_ ?_ (pops_end ?_)
        (repeat refine ka ?_); refine kr ?_ ?_ ?_
        refine ps_ccall hF fun g1 => ?_
        refine pops_go ?_ ?_ ?_
        refine ps_alloc fun g => ?_
        refine pops_go ?_ ?_ ?_
        refine ps_store ?_
        refine pops_go ?_ ?_ (pops_end ?_)
        (repeat refine ka ?_); refine kr ?_ ?_ (pops_end ?_)
        (repeat refine ka ?_); refine kct ?_
        (repeat refine ka ?_); refine kr ?_ ?_ (pops_end ?_)
        (repeat refine ka ?_); refine kdm 5 ?_
        refine pstl_go ?_ ?_ ?_
        refine pd_pcall hY ?_
        refine pstl_go ?_ ?_ (pstl_end ?_)
        refine ps_cvcall hX fun g2 => ?_
        refine pops_nil ?_
        refine pstl_go ?_ ?_ (pstl_end ?_)
        (repeat refine ka ?_); refine kr ?_ ?_ (pops_end ?_)
        (repeat refine ka ?_); refine kcf ?_
        (repeat refine ka ?_); refine ksk ?_
        (repeat refine ka ?_); refine kr ?_ ?_ (pops_end ?_)
        (repeat refine ka ?_); refine kct ?_
        (repeat refine ka ?_); refine kr ?_ ?_ ?_
        refine ps_st_ct (tl' := cpuTl { r.1 with trap := r.2.2 } 1 gm 3 g2) (hle := Nat.le_of_ble_eq_true rfl) ?_
        refine pops_go ?_ ?_ ?_
        refine ps_st_ct (tl' := cpuTl (CS.trapd r.1 r.2.2) 1 gm 3 g2) (hle := Nat.le_of_ble_eq_true rfl) ?_
        refine pops_go ?_ ?_ (pops_end ?_)
        (repeat refine ka ?_); refine kr ?_ ?_ (pops_end ?_)
        (repeat refine ka ?_); refine kret ?_; repeat (first | with_reducible refine beh_r ?_ | with_reducible refine blk_r ?_)
        refine ends_ret ?_ retPV_one
        exact ⟨4, g2, rfl, rfl⟩
    · simp only [if_neg h2] at hF ⊢
      unfold insV at hF
      clear h1 h2 hwd
      refine gcall_of_tr Try.func26 rfl [.tmp 2] Try.results26 54 rfl (tk_start ?_)
      (repeat refine ka ?_); refine kr ?_ ?_ (pops_end ?_)
      (repeat refine ka ?_); refine kr ?_ ?_ (pops_end ?_)
      (repeat refine ka ?_); refine kcf ?_ (hb := rfl)
      (repeat refine ka ?_); refine ksk ?_
      (repeat refine ka ?_); refine kr ?_ ?_ ?_
      refine ps_st_ct (tl' := cpuTl s.up.st1 1 gm 3 gt) (hle := Nat.le_of_ble_eq_true rfl) ?_
      refine pops_go ?_ ?_ (pops_end ?_)
      (repeat refine ka ?_); refine kr ?_ ?_ ?_
      refine ps_ccall hF fun g1 => ?_
      refine pops_go ?_ ?_ ?_
      refine ps_alloc fun g => ?_
      refine pops_go ?_ ?_ ?_
      refine ps_store ?_
      refine pops_go ?_ ?_ (pops_end ?_)
      (repeat refine ka ?_); refine kr ?_ ?_ (pops_end ?_)
      (repeat refine ka ?_); refine kcf ?_
      (repeat refine ka ?_); refine ksk ?_
      (repeat refine ka ?_); refine kr ?_ ?_ (pops_end ?_)
      (repeat refine ka ?_); refine kct ?_
      (repeat refine ka ?_); refine kr ?_ ?_ ?_
      refine ps_st_ct (tl' := cpuTl { s.up.st1 with trap := 2 } 1 gm 3 g1) (hle := Nat.le_of_ble_eq_true rfl) ?_
      refine pops_go ?_ ?_ ?_
      refine ps_st_ct (tl' := cpuTl (CS.trapd s.up.st1 2) 1 gm 3 g1) (hle := Nat.le_of_ble_eq_true rfl) ?_
      refine pops_go ?_ ?_ (pops_end ?_)
      (repeat refine ka ?_); refine kr ?_ ?_ (pops_end ?_)
      (repeat refine ka ?_); refine kret ?_; repeat (first | with_reducible refine beh_r ?_ | with_reducible refine blk_r ?_)
      refine ends_ret ?_ retPV_one
      exact ⟨4, g1, rfl, rfl⟩
  · simp only [if_neg h1] at hF ⊢
    unfold insV at hF
    clear h1 hwd
    refine gcall_of_tr Try.func26 rfl [.tmp 2] Try.results26 54 rfl (tk_start ?_)
    (repeat refine ka ?_); refine kr ?_ ?_ (pops_end ?_)
    (repeat refine ka ?_); refine kr ?_ ?_ (pops_end ?_)
    (repeat refine ka ?_); refine kcf ?_ (hb := rfl)
    (repeat refine ka ?_); refine ksk ?_
    (repeat refine ka ?_); refine kr ?_ ?_ ?_
    refine ps_st_ct (tl' := cpuTl s.up.st1 1 gm 3 gt) (hle := Nat.le_of_ble_eq_true rfl) ?_
    refine pops_go ?_ ?_ (pops_end ?_)
    (repeat refine ka ?_); refine kr ?_ ?_ ?_
    refine ps_ccall hF fun g1 => ?_
    refine pops_go ?_ ?_ ?_
    refine ps_alloc fun g => ?_
    refine pops_go ?_ ?_ ?_
    refine ps_store ?_
    refine pops_go ?_ ?_ (pops_end ?_)
    (repeat refine ka ?_); refine kr ?_ ?_ (pops_end ?_)
    (repeat refine ka ?_); refine kcf ?_
    (repeat refine ka ?_); refine ksk ?_
    (repeat refine ka ?_); refine kr ?_ ?_ (pops_end ?_)
    (repeat refine ka ?_); refine kct ?_
    (repeat refine ka ?_); refine kr ?_ ?_ ?_
    refine ps_st_ct (tl' := cpuTl { s.up.st1 with trap := 1 } 1 gm 3 g1) (hle := Nat.le_of_ble_eq_true rfl) ?_
    refine pops_go ?_ ?_ ?_
    refine ps_st_ct (tl' := cpuTl (CS.trapd s.up.st1 1) 1 gm 3 g1) (hle := Nat.le_of_ble_eq_true rfl) ?_
    refine pops_go ?_ ?_ (pops_end ?_)
    (repeat refine ka ?_); refine kr ?_ ?_ (pops_end ?_)
    (repeat refine ka ?_); refine kret ?_; repeat (first | with_reducible refine beh_r ?_ | with_reducible refine blk_r ?_)
    refine ends_ret ?_ retPV_one
    exact ⟨4, g1, rfl, rfl⟩
theorem step_ok (s : CS) (hs : CsOk s) (hlt : s.steps < 4611686018427387904) : CCall 26 [] s s.step (.v (.bool (!s.ended))) := by
  by_cases he : s.ended = true
  · have e : s.step = s := if_pos he
    have e2 : s = { s with ended := true } := by
      cases s
      cases he
      rfl
    rw [e, he, e2]
    exact step_okE s hs
  · have he' : s.ended = false := by simpa using he
    have e : s.step = s.st1.step1 := if_neg he
    rw [e, he', up_of he']
    rw [up_of he'] at hs hlt
    exact step_okU s hs hlt
end Go.Proofs.Ytfjodfeoncoaoaa.Pv
