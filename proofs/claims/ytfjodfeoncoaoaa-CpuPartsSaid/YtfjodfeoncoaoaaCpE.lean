-- cpu: calls of the machine, fetch, way.
import Derived.Test.YtfjodfeoncoaoaaCpD
import Derived.Test.YtfjodfeoncoaoaaBt
namespace Go.Proofs.Ytfjodfeoncoaoaa.Pv
set_option linter.all false
open Go.RowKit Go.Proofs
set_option maxRecDepth 100000
set_option maxHeartbeats 4000000
section
variable {ops : List Oper} {Q : PS → Prop} {rest : List Oper} {n : Nat} {tm : List (Nat × PV)} {d : Tmp} {ty : TypeId} {pos : String} {af : Array Edge}
/-- A call whose arguments lie in the machine. -/
theorem ps_ccallk {f : FuncId} [hf : FnOk Try.prog f] {args : Array Operand} {ats : Array TypeId} {xs : List PV} {s s' : CS} {y : PV} {gc gm gb gt : Nat} {X : List Blk} (h : GCall Try.prog f xs (cpuB s gc gm gb gt) (fun x S' => ∃ gt', S' = cpuB s' gc gm gb gt' ∧ x = y))
    (k : ∀ gt', Pops Try.prog ops Q rest ⟨n, (d, y) :: tm, ⟨gc, true, 41, [ci .u32 s'.regs ++ cpuTl s' 1 gm 3 gt']⟩ :: ⟨gm, true, 1, [[.vw 2 gb 0 s'.mem.length]]⟩ :: ⟨gb, true, 1, ints .u8 s'.mem⟩ :: ⟨gt', true, 2, recRows s'.told⟩ :: X⟩)
    (ha : args.toList.map (PS.get ⟨n, tm, ⟨gc, true, 41, [ci .u32 s.regs ++ cpuTl s 1 gm 3 gt]⟩ :: ⟨gm, true, 1, [[.vw 2 gb 0 s.mem.length]]⟩ :: ⟨gb, true, 1, ints .u8 s.mem⟩ :: ⟨gt, true, 2, recRows s.told⟩ :: X⟩) = xs := by first | rfl | (simp only [List.map_cons, List.map_nil, PS.get, look, ↓reduceIte, Nat.reduceEqDiff, reduceCtorEq]; exact rfl))
    (hx : ∀ m, renL (sg [0, 1, 2, 3] m) xs = xs := by intro _; rfl) (hy : ∀ f, ren f y = y := by intro _; rfl) :
    Pops Try.prog ops Q (⟨some d, .call ⟨.value (.func f), args, ats⟩, ty, pos, af, none⟩ :: rest) ⟨n, tm, ⟨gc, true, 41, [ci .u32 s.regs ++ cpuTl s 1 gm 3 gt]⟩ :: ⟨gm, true, 1, [[.vw 2 gb 0 s.mem.length]]⟩ :: ⟨gb, true, 1, ints .u8 s.mem⟩ :: ⟨gt, true, 2, recRows s.told⟩ :: X⟩ := by
  refine ps_fcall [0, 1, 2, 3] h ?_ ?_ ?_ ?_ (by decide) ?_
  · rintro x S' ⟨gt', rfl, rfl⟩ x1 S1 rfl rfl
    rw [ren_cpuB, hy]
    simp only [putB, cpuB, List.set_cons_zero, List.set_cons_succ, List.append_nil]
    exact k gt'
  · rintro x S' ⟨gt', rfl, rfl⟩
    exact Nat.le_refl _
  · rw [ha, hx]
  · have e := congrArg (List.map some) (ren_cpuB (⟨gc, true, 41, [ci .u32 s.regs ++ cpuTl s 1 gm 3 gt]⟩ :: ⟨gm, true, 1, [[.vw 2 gb 0 s.mem.length]]⟩ :: ⟨gb, true, 1, ints .u8 s.mem⟩ :: ⟨gt, true, 2, recRows s.told⟩ :: X).length s gc gm gb gt)
    rw [List.map_map] at e
    exact e.symm
  · intro a ha
    simp only [List.mem_cons, List.not_mem_nil, or_false] at ha
    simp only [List.length_cons]
    omega
end
def CS.halt (s : CS) : CS := { s with code := s.regs.getD 1 0 % 256, ended := true }
def CS.sys (s : CS) (imm : Int) : CS × Int := if imm = 0 then (s.halt, 0) else if imm = 1 then s.tk s.img else if imm = 2 then s.tk s.key else if imm = 3 then s.tl else (s, 4)
theorem call_ok (s : CS) (hs : CsOk s) (op a b c imm : Int) : CCall 65 [.agg [.v (.int .i64 op), .v (.int .i64 a), .v (.int .i64 b), .v (.int .i64 c), .v (.int .i64 imm)]] s (s.sys imm).1 (.tup [.v (.int .u32 s.nx), .v (.int .i64 (s.sys imm).2)]) := by
  intro gc gm gb gt
  have hl := hs.rl
  refine gcall_drop ?_
  by_cases h0 : imm = 0
  · subst h0
    have e : s.sys 0 = (s.halt, 0) := rfl
    rw [e]
    clear e
    rw [cpuB]
    have hn : CCall 84 [.v (.int .i64 0)] s.halt s.halt (.tup [.v (.int .u32 s.nx), .v (.int .i64 0)]) := next_ok s.halt ⟨hs.rl, hs.rr, hs.pc, hs.st, hs.ml, hs.mo, hs.il, hs.io, hs.kl, hs.ko, hs.tl, hs.te, hs.mn⟩ 0
    have hw1 : Go.bits .and .u32 (s.regs.getD (Int.toNat 1) 0) 255 = s.regs.getD 1 0 % 256 := and8_u32 _
    have hw2 : IntKind.i64.wrap (s.regs.getD 1 0 % 256) = s.regs.getD 1 0 % 256 := wrap_i64 _ (by omega) (by omega)
    refine gcall_of_tr Try.func65 rfl [.tmp 4, .tmp 5] Try.results65 60 rfl (tk_start ?_)
    (repeat refine ka ?_); refine kr ?_ ?_ ?_
    refine ps_box fun g => ?_
    refine pops_go ?_ ?_ (pops_end ?_)
    (repeat refine ka ?_); refine kr ?_ ?_ (pops_end ?_)
    (repeat refine ka ?_); refine kb ?_
    (repeat refine ka ?_); refine kr ?_ ?_ (pops_end ?_)
    (repeat refine ka ?_); refine kct ?_
    (repeat refine ka ?_); refine kr ?_ ?_ ?_
    refine ps_st_ct (tl' := cpuTl { s with code := s.regs.getD 1 0 % 256 } 1 gm 3 gt) (hle := Nat.le_of_ble_eq_true rfl) ?_
    refine pops_go ?_ ?_ ?_
    refine ps_st_ct (tl' := cpuTl s.halt 1 gm 3 gt) (hle := Nat.le_of_ble_eq_true rfl) ?_
    refine pops_go ?_ ?_ (pops_end ?_)
    (repeat refine ka ?_); refine kr ?_ ?_ ?_
    refine ps_ccall hn fun g2 => ?_
    refine pops_go ?_ ?_ (pops_end ?_)
    (repeat refine ka ?_); refine kret ?_; repeat (first | with_reducible refine beh_r ?_ | with_reducible refine blk_r ?_)
    refine ends_ret ?_ retPV_two
    exact ⟨4, g2, rfl, rfl⟩
  by_cases h1 : imm = 1
  · subst h1
    have e : s.sys 1 = s.tk s.img := rfl
    rw [e]
    clear e
    rw [cpuB]
    have hn := take_ok s hs s.img hs.io hs.il
    refine gcall_of_tr Try.func65 rfl [.tmp 4, .tmp 5] Try.results65 60 rfl (tk_start ?_)
    (repeat refine ka ?_); refine kr ?_ ?_ ?_
    refine ps_box fun g => ?_
    refine pops_go ?_ ?_ (pops_end ?_)
    (repeat refine ka ?_); refine kr ?_ ?_ (pops_end ?_)
    (repeat refine ka ?_); refine kb ?_
    (repeat refine ka ?_); refine kr ?_ ?_ (pops_end ?_)
    (repeat refine ka ?_); refine kcf ?_
    (repeat refine ka ?_); refine kr ?_ ?_ (pops_end ?_)
    (repeat refine ka ?_); refine kct ?_
    (repeat refine ka ?_); refine kr ?_ ?_ ?_
    refine ps_ccall hn (fun g2 => ?_) (hx := fun f => by simp only [renL, ren, ren_ints])
    refine pops_go ?_ ?_ (pops_end ?_)
    (repeat refine ka ?_); refine kret ?_; repeat (first | with_reducible refine beh_r ?_ | with_reducible refine blk_r ?_)
    refine ends_ret ?_ retPV_two
    exact ⟨4, g2, rfl, rfl⟩
  by_cases h2 : imm = 2
  · subst h2
    have e : s.sys 2 = s.tk s.key := rfl
    rw [e]
    clear e
    have hn := takeK_ok s hs gc gm gb gt
    rw [cpuB]
    refine gcall_of_tr Try.func65 rfl [.tmp 4, .tmp 5] Try.results65 60 rfl (tk_start ?_)
    (repeat refine ka ?_); refine kr ?_ ?_ ?_
    refine ps_box fun g => ?_
    refine pops_go ?_ ?_ (pops_end ?_)
    (repeat refine ka ?_); refine kr ?_ ?_ (pops_end ?_)
    (repeat refine ka ?_); refine kb ?_
    (repeat refine ka ?_); refine kr ?_ ?_ (pops_end ?_)
    (repeat refine ka ?_); refine kcf ?_
    (repeat refine ka ?_); refine kr ?_ ?_ (pops_end ?_)
    (repeat refine ka ?_); refine kcf ?_
    (repeat refine ka ?_); refine kr ?_ ?_ (pops_end ?_)
    (repeat refine ka ?_); refine kct ?_
    (repeat refine ka ?_); refine kr ?_ ?_ ?_
    refine ps_ccallk hn (fun g2 => ?_)
    refine pops_go ?_ ?_ (pops_end ?_)
    (repeat refine ka ?_); refine kret ?_; repeat (first | with_reducible refine beh_r ?_ | with_reducible refine blk_r ?_)
    refine ends_ret ?_ retPV_two
    exact ⟨4, g2, rfl, rfl⟩
  by_cases h3 : imm = 3
  · subst h3
    have e : s.sys 3 = s.tl := rfl
    rw [e]
    clear e
    rw [cpuB]
    have hn := tell_ok s hs
    refine gcall_of_tr Try.func65 rfl [.tmp 4, .tmp 5] Try.results65 60 rfl (tk_start ?_)
    (repeat refine ka ?_); refine kr ?_ ?_ ?_
    refine ps_box fun g => ?_
    refine pops_go ?_ ?_ (pops_end ?_)
    (repeat refine ka ?_); refine kr ?_ ?_ (pops_end ?_)
    (repeat refine ka ?_); refine kb ?_
    (repeat refine ka ?_); refine kr ?_ ?_ (pops_end ?_)
    (repeat refine ka ?_); refine kcf ?_
    (repeat refine ka ?_); refine kr ?_ ?_ (pops_end ?_)
    (repeat refine ka ?_); refine kcf ?_
    (repeat refine ka ?_); refine kr ?_ ?_ (pops_end ?_)
    (repeat refine ka ?_); refine kcf ?_
    (repeat refine ka ?_); refine kr ?_ ?_ (pops_end ?_)
    (repeat refine ka ?_); refine kct ?_
    (repeat refine ka ?_); refine kr ?_ ?_ ?_
    refine ps_ccall hn fun g2 => ?_
    refine pops_go ?_ ?_ (pops_end ?_)
    (repeat refine ka ?_); refine kret ?_; repeat (first | with_reducible refine beh_r ?_ | with_reducible refine blk_r ?_)
    refine ends_ret ?_ retPV_two
    exact ⟨4, g2, rfl, rfl⟩
  · have e : s.sys imm = (s, 4) := by rw [CS.sys, if_neg h0, if_neg h1, if_neg h2, if_neg h3]
    rw [e]
    clear e
    rw [cpuB]
    have hn := next_ok s hs 4
    refine gcall_of_tr Try.func65 rfl [.tmp 4, .tmp 5] Try.results65 60 rfl (tk_start ?_)
    (repeat refine ka ?_); refine kr ?_ ?_ ?_
    refine ps_box fun g => ?_
    refine pops_go ?_ ?_ (pops_end ?_)
    (repeat refine ka ?_); refine kr ?_ ?_ (pops_end ?_)
    (repeat refine ka ?_); refine kb ?_
    (repeat refine ka ?_); refine kr ?_ ?_ (pops_end ?_)
    (repeat refine ka ?_); refine kcf ?_
    (repeat refine ka ?_); refine kr ?_ ?_ (pops_end ?_)
    (repeat refine ka ?_); refine kcf ?_
    (repeat refine ka ?_); refine kr ?_ ?_ (pops_end ?_)
    (repeat refine ka ?_); refine kcf ?_
    (repeat refine ka ?_); refine kr ?_ ?_ (pops_end ?_)
    (repeat refine ka ?_); refine kcf ?_
    (repeat refine ka ?_); refine kr ?_ ?_ ?_
    refine ps_ccall hn fun g2 => ?_
    refine pops_go ?_ ?_ (pops_end ?_)
    (repeat refine ka ?_); refine kret ?_; repeat (first | with_reducible refine beh_r ?_ | with_reducible refine blk_r ?_)
    refine ends_ret ?_ retPV_two
    exact ⟨4, g2, rfl, rfl⟩
end Go.Proofs.Ytfjodfeoncoaoaa.Pv
