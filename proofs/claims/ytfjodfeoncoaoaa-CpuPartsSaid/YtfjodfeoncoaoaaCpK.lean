-- cpu: calls of a machine that lies anywhere; carapacelaw11: may, made.
import Derived.Test.YtfjodfeoncoaoaaCpJ
namespace Go.Proofs.Ytfjodfeoncoaoaa.Pv
set_option linter.all false
open Go.RowKit Go.Proofs
set_option maxRecDepth 100000
set_option maxHeartbeats 4000000
def cpuAt (p1 p2 p3 : Nat) (s : CS) (gc gm gb gt : Nat) : List Blk := [⟨gc, true, 41, [ci .u32 s.regs ++ cpuTl s p1 gm p3 gt]⟩, ⟨gm, true, 1, [[.vw p2 gb 0 s.mem.length]]⟩, ⟨gb, true, 1, ints .u8 s.mem⟩, ⟨gt, true, 2, recRows s.told⟩]
theorem ren_cpuAt (p0 p1 p2 p3 m : Nat) (s : CS) (gc gm gb gt : Nat) : (cpuB s gc gm gb gt).map (renB (sg [p0, p1, p2, p3] m)) = cpuAt p1 p2 p3 s gc gm gb gt := by
  simp only [cpuB, List.map_cons, List.map_nil, renB, ren_ci, ren_cpuTl, ren_ints, ren_recRows]
  rfl
section
variable {ops : List Oper} {Q : PS → Prop} {rest : List Oper} {n : Nat} {tm : List (Nat × PV)} {d : Tmp} {ty : TypeId} {pos : String} {af : Array Edge}
/-- A call of a method of a machine, wherever its blocks lie. -/
theorem ps_mcall {f : FuncId} [hf : FnOk Try.prog f] {args : Array Operand} {ats : Array TypeId} {xs : List PV} {s s' : CS} {y : PV} {gc gm gb gt : Nat} {S : List Blk} {S' : Nat → List Blk} (p0 p1 p2 p3 : Nat) (h : CCall f xs s s' y)
    (k : ∀ gt', Pops Try.prog ops Q rest ⟨n, (d, y) :: tm, S' gt'⟩)
    (hS' : ∀ gt', (((S.set p0 ⟨gc, true, 41, [ci .u32 s'.regs ++ cpuTl s' p1 gm p3 gt']⟩).set p1 ⟨gm, true, 1, [[.vw p2 gb 0 s'.mem.length]]⟩).set p2 ⟨gb, true, 1, ints .u8 s'.mem⟩).set p3 ⟨gt', true, 2, recRows s'.told⟩ = S' gt' := by intro _; first | (simp only [List.set_cons_zero, List.set_cons_succ]; exact rfl) | exact rfl)
    (h0 : S[p0]? = some ⟨gc, true, 41, [ci .u32 s.regs ++ cpuTl s p1 gm p3 gt]⟩ := by rfl) (h1 : S[p1]? = some ⟨gm, true, 1, [[.vw p2 gb 0 s.mem.length]]⟩ := by rfl) (h2 : S[p2]? = some ⟨gb, true, 1, ints .u8 s.mem⟩ := by rfl) (h3 : S[p3]? = some ⟨gt, true, 2, recRows s.told⟩ := by rfl)
    (ha : args.toList.map (PS.get ⟨n, tm, S⟩) = .ptr p0 gc 0 0 :: xs := by first | rfl | (simp only [List.map_cons, List.map_nil, PS.get, look, ↓reduceIte, Nat.reduceEqDiff, reduceCtorEq]; exact rfl))
    (hx : ∀ f, renL f xs = xs := by intro _; rfl) (hy : ∀ f, ren f y = y := by intro _; rfl) (hn : [p0, p1, p2, p3].Nodup := by decide) :
    Pops Try.prog ops Q (⟨some d, .call ⟨.value (.func f), args, ats⟩, ty, pos, af, none⟩ :: rest) ⟨n, tm, S⟩ := by
  refine ps_fcall [p0, p1, p2, p3] (h gc gm gb gt) ?_ ?_ ?_ ?_ hn ?_
  · rintro x S1 ⟨gt', rfl, rfl⟩ x1 S2 rfl rfl
    rw [ren_cpuAt, hy]
    simp only [putB, cpuAt, List.append_nil]
    rw [hS']
    exact k gt'
  · rintro x S' ⟨gt', rfl, rfl⟩
    exact Nat.le_refl _
  · rw [ha]
    show _ = .ptr p0 gc 0 0 :: renL _ xs
    rw [hx]
  · have e := congrArg (List.map some) (ren_cpuAt p0 p1 p2 p3 S.length s gc gm gb gt)
    rw [List.map_map] at e
    refine Eq.trans ?_ e.symm
    simp only [List.map_cons, List.map_nil, cpuAt, h0, h1, h2, h3]
  · intro a ha
    simp only [List.mem_cons, List.not_mem_nil, or_false] at ha
    rcases ha with rfl | rfl | rfl | rfl
    · exact (List.getElem?_eq_some_iff.1 h0).1
    · exact (List.getElem?_eq_some_iff.1 h1).1
    · exact (List.getElem?_eq_some_iff.1 h2).1
    · exact (List.getElem?_eq_some_iff.1 h3).1
theorem ps_mcall_g {f : FuncId} [hf : FnOk Try.prog f] {args : Array Operand} {ats : Array TypeId} {xs : List PV} {s s' : CS} {y : PV} {gc gm gb gt : Nat} {S : List Blk} {S' : Nat → List Blk} {j : Nat} {w : Bool} (p0 p1 p2 p3 : Nat) (h : CCall f xs s s' y)
    (k : ∀ gt', Pops Try.prog ops Q rest ⟨n, (d, y) :: tm, S' gt'⟩)
    (hS' : ∀ gt', (((S.set p0 ⟨gc, true, 41, [ci .u32 s'.regs ++ cpuTl s' p1 gm p3 gt']⟩).set p1 ⟨gm, true, 1, [[.vw p2 gb 0 s'.mem.length]]⟩).set p2 ⟨gb, true, 1, ints .u8 s'.mem⟩).set p3 ⟨gt', true, 2, recRows s'.told⟩ = S' gt' := by intro _; first | (simp only [List.set_cons_zero, List.set_cons_succ]; exact rfl) | exact rfl)
    (h0 : S[p0]? = some ⟨gc, true, 41, [ci .u32 s.regs ++ cpuTl s p1 gm p3 gt]⟩ := by rfl) (h1 : S[p1]? = some ⟨gm, true, 1, [[.vw p2 gb 0 s.mem.length]]⟩ := by rfl) (h2 : S[p2]? = some ⟨gb, true, 1, ints .u8 s.mem⟩ := by rfl) (h3 : S[p3]? = some ⟨gt, true, 2, recRows s.told⟩ := by rfl) (hgd : guardPV ops ⟨n, tm, S⟩ j w = some w := by ((conv => lhs; whnf) <;> fail "no"))
    (ha : args.toList.map (PS.get ⟨n, tm, S⟩) = .ptr p0 gc 0 0 :: xs := by first | rfl | (simp only [List.map_cons, List.map_nil, PS.get, look, ↓reduceIte, Nat.reduceEqDiff, reduceCtorEq]; exact rfl))
    (hx : ∀ f, renL f xs = xs := by intro _; rfl) (hy : ∀ f, ren f y = y := by intro _; rfl) (hn : [p0, p1, p2, p3].Nodup := by decide) :
    Pops Try.prog ops Q (⟨some d, .call ⟨.value (.func f), args, ats⟩, ty, pos, af, some (j, w)⟩ :: rest) ⟨n, tm, S⟩ := by
  refine ps_fcall_g [p0, p1, p2, p3] (h gc gm gb gt) ?_ ?_ hgd ?_ ?_ hn ?_
  · rintro x S1 ⟨gt', rfl, rfl⟩ x1 S2 rfl rfl
    rw [ren_cpuAt, hy]
    simp only [putB, cpuAt, List.append_nil]
    rw [hS']
    exact k gt'
  · rintro x S' ⟨gt', rfl, rfl⟩
    exact Nat.le_refl _
  · rw [ha]
    show _ = .ptr p0 gc 0 0 :: renL _ xs
    rw [hx]
  · have e := congrArg (List.map some) (ren_cpuAt p0 p1 p2 p3 S.length s gc gm gb gt)
    rw [List.map_map] at e
    refine Eq.trans ?_ e.symm
    simp only [List.map_cons, List.map_nil, cpuAt, h0, h1, h2, h3]
  · intro a ha
    simp only [List.mem_cons, List.not_mem_nil, or_false] at ha
    rcases ha with rfl | rfl | rfl | rfl
    · exact (List.getElem?_eq_some_iff.1 h0).1
    · exact (List.getElem?_eq_some_iff.1 h1).1
    · exact (List.getElem?_eq_some_iff.1 h2).1
    · exact (List.getElem?_eq_some_iff.1 h3).1
/-- The same where the order is drawn and nothing is written. -/
theorem pd_mcall_g {f : FuncId} [hf : FnOk Try.prog f] {args : Array Operand} {ats : Array TypeId} {xs : List PV} {s : CS} {y : PV} {gc gm gb gt : Nat} {S : List Blk} {j : Nat} {w : Bool} (p0 p1 p2 p3 : Nat) (h : GCall Try.prog f (.ptr 0 gc 0 0 :: xs) (cpuB s gc gm gb gt) fun x S' => x = y ∧ S' = cpuB s gc gm gb gt)
    (k : PStL Try.prog ops Q rest ⟨n, (d, y) :: tm, S⟩)
    (h0 : S[p0]? = some ⟨gc, true, 41, [ci .u32 s.regs ++ cpuTl s p1 gm p3 gt]⟩ := by rfl) (h1 : S[p1]? = some ⟨gm, true, 1, [[.vw p2 gb 0 s.mem.length]]⟩ := by rfl) (h2 : S[p2]? = some ⟨gb, true, 1, ints .u8 s.mem⟩ := by rfl) (h3 : S[p3]? = some ⟨gt, true, 2, recRows s.told⟩ := by rfl) (hgd : guardPV ops ⟨n, tm, S⟩ j w = some w := by ((conv => lhs; whnf) <;> fail "no"))
    (ha : args.toList.map (PS.get ⟨n, tm, S⟩) = .ptr p0 gc 0 0 :: xs := by first | rfl | (simp only [List.map_cons, List.map_nil, PS.get, look, ↓reduceIte, Nat.reduceEqDiff, reduceCtorEq]; exact rfl))
    (hx : ∀ f, renL f xs = xs := by intro _; rfl) (hy : ∀ f, ren f y = y := by intro _; rfl) (hn : [p0, p1, p2, p3].Nodup := by decide) :
    PStL Try.prog ops Q (⟨some d, .call ⟨.value (.func f), args, ats⟩, ty, pos, af, some (j, w)⟩ :: rest) ⟨n, tm, S⟩ := by
  have e : [p0, p1, p2, p3].length = (cpuB s gc gm gb gt).length := rfl
  have hmap := ren_cpuAt p0 p1 p2 p3 S.length s gc gm gb gt
  have hb : ∀ a ∈ [p0, p1, p2, p3], a < S.length := by
    intro a ha
    simp only [List.mem_cons, List.not_mem_nil, or_false] at ha
    rcases ha with rfl | rfl | rfl | rfl
    · exact (List.getElem?_eq_some_iff.1 h0).1
    · exact (List.getElem?_eq_some_iff.1 h1).1
    · exact (List.getElem?_eq_some_iff.1 h2).1
    · exact (List.getElem?_eq_some_iff.1 h3).1
  have hfr := gcall_frame (Sb := S) h [p0, p1, p2, p3] hn e hb (by
    intro i a hi
    have e2 := congrArg (fun l : List Blk => l[i]?) hmap
    simp only [List.getElem?_map] at e2
    rw [e2]
    have : i = 0 ∨ i = 1 ∨ i = 2 ∨ i = 3 := by
      have := (List.getElem?_eq_some_iff.1 hi).1
      simp only [List.length_cons, List.length_nil] at this
      omega
    rcases this with rfl | rfl | rfl | rfl <;> (cases hi; first | exact h0 | exact h1 | exact h2 | exact h3)) (by
    rintro x S' ⟨rfl, rfl⟩
    exact Nat.le_refl _)
  have hsame : putB [p0, p1, p2, p3] ((cpuB s gc gm gb gt).map (renB (sg [p0, p1, p2, p3] S.length))) S = S := by
    rw [hmap]
    simp only [putB, cpuAt, List.append_nil]
    have st : ∀ {i : Nat} {b : Blk}, S[i]? = some b → S.set i b = S := fun {i b} hb => by
      obtain ⟨h1, rfl⟩ := List.getElem?_eq_some_iff.1 hb
      exact List.set_getElem_self h1
    rw [st h0, st h1, st h2, st h3]
  have hcall : GCall Try.prog f (.ptr p0 gc 0 0 :: xs) S fun x S' => x = y ∧ S' = S := by
    have e3 : renL (sg [p0, p1, p2, p3] S.length) (.ptr 0 gc 0 0 :: xs) = .ptr p0 gc 0 0 :: xs := by
      show .ptr p0 gc 0 0 :: renL _ xs = _
      rw [hx]
    rw [← e3]
    refine hfr.mono ?_
    rintro x S' ⟨x0, S0', ⟨rfl, rfl⟩, rfl, rfl⟩
    exact ⟨hy _, hsame⟩
  obtain ⟨fn, g1, g2, g3⟩ := hf.h
  refine ⟨y, ?_, k⟩
  refine (show GSt Try.prog ops _ _ _ from .inl ⟨hgd, ?_⟩)
  refine .sem fun σ' hg hS => pop_call (first := []) (captured := []) rfl rfl rfl g1 g2 g3 (R := fun x S' => x = y ∧ S' = S) ?_ fun x S' hx => ⟨hx.1, hx.2.trans hS⟩
  have e : args.toList.map σ'.get = .ptr p0 gc 0 0 :: xs := by
    rw [← ha]
    exact (map_get_congr (xs := args.toList) (fun y hy => hg y (by simp only [Op.operands, Call.operands, Array.mem_append]; exact .inr (by simpa using hy)))).symm
  simp only [List.nil_append, List.append_nil, e]
  rw [← hS]
  exact hcall
end
def startV (size : Int) (code img : List Int) (k0 k1 k2 k3 k4 k5 k6 k7 k8 k9 k10 k11 k12 k13 k14 k15 r0 r1 r2 r3 r4 r5 r6 r7 r8 r9 r10 r11 r12 r13 r14 r15 pc : Int) : List PV := [.v (.int .i64 size), .ro 1 false (ints .u8 code), .ro 1 false (ints .u8 img), .v (.int .u8 k0), .v (.int .u8 k1), .v (.int .u8 k2), .v (.int .u8 k3), .v (.int .u8 k4), .v (.int .u8 k5), .v (.int .u8 k6), .v (.int .u8 k7), .v (.int .u8 k8), .v (.int .u8 k9), .v (.int .u8 k10), .v (.int .u8 k11), .v (.int .u8 k12), .v (.int .u8 k13), .v (.int .u8 k14), .v (.int .u8 k15), .v (.int .u32 r0), .v (.int .u32 r1), .v (.int .u32 r2), .v (.int .u32 r3), .v (.int .u32 r4), .v (.int .u32 r5), .v (.int .u32 r6), .v (.int .u32 r7), .v (.int .u32 r8), .v (.int .u32 r9), .v (.int .u32 r10), .v (.int .u32 r11), .v (.int .u32 r12), .v (.int .u32 r13), .v (.int .u32 r14), .v (.int .u32 r15), .v (.int .u32 pc)]
theorem may11_ok (size : Int) (code img : List Int) (k0 k1 k2 k3 k4 k5 k6 k7 k8 k9 k10 k11 k12 k13 k14 k15 r0 r1 r2 r3 r4 r5 r6 r7 r8 r9 r10 r11 r12 r13 r14 r15 pc : Int) : PCall Try.prog 19 [.agg (startV size code img k0 k1 k2 k3 k4 k5 k6 k7 k8 k9 k10 k11 k12 k13 k14 k15 r0 r1 r2 r3 r4 r5 r6 r7 r8 r9 r10 r11 r12 r13 r14 r15 pc)] (.v (.bool (decide (0 ≤ size ∧ size ≤ 4096 ∧ code.length ≤ size ∧ img.length ≤ 1000)))) := by
  by_cases h1 : 0 ≤ size
  case neg =>
    rw [decide_eq_false (by omega)]
    unfold startV
    refine pcall_mk Try.func19 rfl [.tmp 2] Try.results19 25 rfl (tk_start ?_)
    (repeat' (first | refine ka ?_ | refine ksk ?_ | (refine kr ?_ ?_ ?_; first | refine pops_end ?_ | (refine ps_split (fun hb => ?_) (fun hb => ?_); (fail_if_success (guard_hyp hb : true = true)); (fail_if_success (guard_hyp hb : false = true)); all_goals (have hp := hb; (try simp only [decide_eq_true_eq, Bool.eq_false_iff, ne_eq, Bool.not_eq_true', Bool.not_eq_false', Bool.and_eq_true, Bool.or_eq_true, decide_true, decide_false, Bool.and_true, Bool.true_and, Bool.false_eq_true, not_false_eq_true, true_and, and_true] at hp); (try rw [hb]); (try clear hb))) | refine ps_alloc fun g => ?_ | refine ps_box fun g => ?_ | refine ps_store ?_ | refine ps_lit fun g => ?_ | refine pops_nil ?_ | skip) | (refine kd ?_ ?_ ?_; first | refine pstl_end ?_ | (refine pd_split (fun hb => ?_) (fun hb => ?_); (fail_if_success (guard_hyp hb : true = true)); (fail_if_success (guard_hyp hb : false = true)); all_goals (have hp := hb; (try simp only [decide_eq_true_eq, Bool.eq_false_iff, ne_eq, Bool.not_eq_true', Bool.not_eq_false', Bool.and_eq_true, Bool.or_eq_true, decide_true, decide_false, Bool.and_true, Bool.true_and, Bool.false_eq_true, not_false_eq_true, true_and, and_true] at hp); (try rw [hb]); (try clear hb))) | skip) | refine kct ?_ | refine kcf ?_ | (refine kcs (fun hb => ?_) (fun hb => ?_) <;> (have hp := hb; (try simp only [decide_eq_true_eq, Bool.eq_false_iff, ne_eq, Bool.not_eq_true', Bool.not_eq_false', Bool.and_eq_true, Bool.or_eq_true, decide_true, decide_false, Bool.and_true, Bool.true_and, Bool.false_eq_true, not_false_eq_true, true_and, and_true] at hp); (try rw [hb]); (try clear hb))) | (refine kret ?_; repeat (first | with_reducible refine beh_r ?_ | with_reducible refine blk_r ?_)) | refine kb ?_ | (refine ps_split (fun hb => ?_) (fun hb => ?_); (fail_if_success (guard_hyp hb : true = true)); (fail_if_success (guard_hyp hb : false = true)); all_goals (have hp := hb; (try simp only [decide_eq_true_eq, Bool.eq_false_iff, ne_eq, Bool.not_eq_true', Bool.not_eq_false', Bool.and_eq_true, Bool.or_eq_true, decide_true, decide_false, Bool.and_true, Bool.true_and, Bool.false_eq_true, not_false_eq_true, true_and, and_true] at hp); (try rw [hb]); (try clear hb))) | refine ps_alloc fun g => ?_ | refine ps_box fun g => ?_ | refine ps_store ?_ | refine ps_lit fun g => ?_ | refine pops_nil ?_ | (refine pd_split (fun hb => ?_) (fun hb => ?_); (fail_if_success (guard_hyp hb : true = true)); (fail_if_success (guard_hyp hb : false = true)); all_goals (have hp := hb; (try simp only [decide_eq_true_eq, Bool.eq_false_iff, ne_eq, Bool.not_eq_true', Bool.not_eq_false', Bool.and_eq_true, Bool.or_eq_true, decide_true, decide_false, Bool.and_true, Bool.true_and, Bool.false_eq_true, not_false_eq_true, true_and, and_true] at hp); (try rw [hb]); (try clear hb))) | (refine pops_go ?_ ?_ ?_; first | refine pops_end ?_ | (refine ps_split (fun hb => ?_) (fun hb => ?_); (fail_if_success (guard_hyp hb : true = true)); (fail_if_success (guard_hyp hb : false = true)); all_goals (have hp := hb; (try simp only [decide_eq_true_eq, Bool.eq_false_iff, ne_eq, Bool.not_eq_true', Bool.not_eq_false', Bool.and_eq_true, Bool.or_eq_true, decide_true, decide_false, Bool.and_true, Bool.true_and, Bool.false_eq_true, not_false_eq_true, true_and, and_true] at hp); (try rw [hb]); (try clear hb))) | refine ps_alloc fun g => ?_ | refine ps_box fun g => ?_ | refine ps_store ?_ | refine ps_lit fun g => ?_ | refine pops_nil ?_) | (refine pstl_go ?_ ?_ ?_; first | refine pstl_end ?_ | (refine pd_split (fun hb => ?_) (fun hb => ?_); (fail_if_success (guard_hyp hb : true = true)); (fail_if_success (guard_hyp hb : false = true)); all_goals (have hp := hb; (try simp only [decide_eq_true_eq, Bool.eq_false_iff, ne_eq, Bool.not_eq_true', Bool.not_eq_false', Bool.and_eq_true, Bool.or_eq_true, decide_true, decide_false, Bool.and_true, Bool.true_and, Bool.false_eq_true, not_false_eq_true, true_and, and_true] at hp); (try rw [hb]); (try clear hb)))) | (refine kn ?_; repeat (first | with_reducible refine blk_n ?_ | with_reducible refine beh_n ?_)) | (refine kx ?_; (repeat (first | with_reducible refine beh_x ?_ | with_reducible refine blk_up rfl ?_)); refine blk_here ?_; refine beh_n ?_)))
    all_goals (refine ends_ret ?_ retPV_one; rfl)
  by_cases h2 : size ≤ 4096
  case neg =>
    rw [decide_eq_false (by omega)]
    unfold startV
    refine pcall_mk Try.func19 rfl [.tmp 2] Try.results19 25 rfl (tk_start ?_)
    (repeat' (first | refine ka ?_ | refine ksk ?_ | (refine kr ?_ ?_ ?_; first | refine pops_end ?_ | (refine ps_split (fun hb => ?_) (fun hb => ?_); (fail_if_success (guard_hyp hb : true = true)); (fail_if_success (guard_hyp hb : false = true)); all_goals (have hp := hb; (try simp only [decide_eq_true_eq, Bool.eq_false_iff, ne_eq, Bool.not_eq_true', Bool.not_eq_false', Bool.and_eq_true, Bool.or_eq_true, decide_true, decide_false, Bool.and_true, Bool.true_and, Bool.false_eq_true, not_false_eq_true, true_and, and_true] at hp); (try rw [hb]); (try clear hb))) | refine ps_alloc fun g => ?_ | refine ps_box fun g => ?_ | refine ps_store ?_ | refine ps_lit fun g => ?_ | refine pops_nil ?_ | skip) | (refine kd ?_ ?_ ?_; first | refine pstl_end ?_ | (refine pd_split (fun hb => ?_) (fun hb => ?_); (fail_if_success (guard_hyp hb : true = true)); (fail_if_success (guard_hyp hb : false = true)); all_goals (have hp := hb; (try simp only [decide_eq_true_eq, Bool.eq_false_iff, ne_eq, Bool.not_eq_true', Bool.not_eq_false', Bool.and_eq_true, Bool.or_eq_true, decide_true, decide_false, Bool.and_true, Bool.true_and, Bool.false_eq_true, not_false_eq_true, true_and, and_true] at hp); (try rw [hb]); (try clear hb))) | skip) | refine kct ?_ | refine kcf ?_ | (refine kcs (fun hb => ?_) (fun hb => ?_) <;> (have hp := hb; (try simp only [decide_eq_true_eq, Bool.eq_false_iff, ne_eq, Bool.not_eq_true', Bool.not_eq_false', Bool.and_eq_true, Bool.or_eq_true, decide_true, decide_false, Bool.and_true, Bool.true_and, Bool.false_eq_true, not_false_eq_true, true_and, and_true] at hp); (try rw [hb]); (try clear hb))) | (refine kret ?_; repeat (first | with_reducible refine beh_r ?_ | with_reducible refine blk_r ?_)) | refine kb ?_ | (refine ps_split (fun hb => ?_) (fun hb => ?_); (fail_if_success (guard_hyp hb : true = true)); (fail_if_success (guard_hyp hb : false = true)); all_goals (have hp := hb; (try simp only [decide_eq_true_eq, Bool.eq_false_iff, ne_eq, Bool.not_eq_true', Bool.not_eq_false', Bool.and_eq_true, Bool.or_eq_true, decide_true, decide_false, Bool.and_true, Bool.true_and, Bool.false_eq_true, not_false_eq_true, true_and, and_true] at hp); (try rw [hb]); (try clear hb))) | refine ps_alloc fun g => ?_ | refine ps_box fun g => ?_ | refine ps_store ?_ | refine ps_lit fun g => ?_ | refine pops_nil ?_ | (refine pd_split (fun hb => ?_) (fun hb => ?_); (fail_if_success (guard_hyp hb : true = true)); (fail_if_success (guard_hyp hb : false = true)); all_goals (have hp := hb; (try simp only [decide_eq_true_eq, Bool.eq_false_iff, ne_eq, Bool.not_eq_true', Bool.not_eq_false', Bool.and_eq_true, Bool.or_eq_true, decide_true, decide_false, Bool.and_true, Bool.true_and, Bool.false_eq_true, not_false_eq_true, true_and, and_true] at hp); (try rw [hb]); (try clear hb))) | (refine pops_go ?_ ?_ ?_; first | refine pops_end ?_ | (refine ps_split (fun hb => ?_) (fun hb => ?_); (fail_if_success (guard_hyp hb : true = true)); (fail_if_success (guard_hyp hb : false = true)); all_goals (have hp := hb; (try simp only [decide_eq_true_eq, Bool.eq_false_iff, ne_eq, Bool.not_eq_true', Bool.not_eq_false', Bool.and_eq_true, Bool.or_eq_true, decide_true, decide_false, Bool.and_true, Bool.true_and, Bool.false_eq_true, not_false_eq_true, true_and, and_true] at hp); (try rw [hb]); (try clear hb))) | refine ps_alloc fun g => ?_ | refine ps_box fun g => ?_ | refine ps_store ?_ | refine ps_lit fun g => ?_ | refine pops_nil ?_) | (refine pstl_go ?_ ?_ ?_; first | refine pstl_end ?_ | (refine pd_split (fun hb => ?_) (fun hb => ?_); (fail_if_success (guard_hyp hb : true = true)); (fail_if_success (guard_hyp hb : false = true)); all_goals (have hp := hb; (try simp only [decide_eq_true_eq, Bool.eq_false_iff, ne_eq, Bool.not_eq_true', Bool.not_eq_false', Bool.and_eq_true, Bool.or_eq_true, decide_true, decide_false, Bool.and_true, Bool.true_and, Bool.false_eq_true, not_false_eq_true, true_and, and_true] at hp); (try rw [hb]); (try clear hb)))) | (refine kn ?_; repeat (first | with_reducible refine blk_n ?_ | with_reducible refine beh_n ?_)) | (refine kx ?_; (repeat (first | with_reducible refine beh_x ?_ | with_reducible refine blk_up rfl ?_)); refine blk_here ?_; refine beh_n ?_)))
    all_goals (refine ends_ret ?_ retPV_one; rfl)
  by_cases h3 : code.length ≤ size
  case neg =>
    rw [decide_eq_false (by omega)]
    unfold startV
    refine pcall_mk Try.func19 rfl [.tmp 2] Try.results19 25 rfl (tk_start ?_)
    (repeat' (first | refine ka ?_ | refine ksk ?_ | (refine kr ?_ ?_ ?_; first | refine pops_end ?_ | (refine ps_split (fun hb => ?_) (fun hb => ?_); (fail_if_success (guard_hyp hb : true = true)); (fail_if_success (guard_hyp hb : false = true)); all_goals (have hp := hb; (try simp only [decide_eq_true_eq, Bool.eq_false_iff, ne_eq, Bool.not_eq_true', Bool.not_eq_false', Bool.and_eq_true, Bool.or_eq_true, decide_true, decide_false, Bool.and_true, Bool.true_and, Bool.false_eq_true, not_false_eq_true, true_and, and_true] at hp); (try rw [hb]); (try clear hb))) | refine ps_alloc fun g => ?_ | refine ps_box fun g => ?_ | refine ps_store ?_ | refine ps_lit fun g => ?_ | refine pops_nil ?_ | skip) | (refine kd ?_ ?_ ?_; first | refine pstl_end ?_ | (refine pd_split (fun hb => ?_) (fun hb => ?_); (fail_if_success (guard_hyp hb : true = true)); (fail_if_success (guard_hyp hb : false = true)); all_goals (have hp := hb; (try simp only [decide_eq_true_eq, Bool.eq_false_iff, ne_eq, Bool.not_eq_true', Bool.not_eq_false', Bool.and_eq_true, Bool.or_eq_true, decide_true, decide_false, Bool.and_true, Bool.true_and, Bool.false_eq_true, not_false_eq_true, true_and, and_true] at hp); (try rw [hb]); (try clear hb))) | skip) | refine kct ?_ | refine kcf ?_ | (refine kcs (fun hb => ?_) (fun hb => ?_) <;> (have hp := hb; (try simp only [decide_eq_true_eq, Bool.eq_false_iff, ne_eq, Bool.not_eq_true', Bool.not_eq_false', Bool.and_eq_true, Bool.or_eq_true, decide_true, decide_false, Bool.and_true, Bool.true_and, Bool.false_eq_true, not_false_eq_true, true_and, and_true] at hp); (try rw [hb]); (try clear hb))) | (refine kret ?_; repeat (first | with_reducible refine beh_r ?_ | with_reducible refine blk_r ?_)) | refine kb ?_ | (refine ps_split (fun hb => ?_) (fun hb => ?_); (fail_if_success (guard_hyp hb : true = true)); (fail_if_success (guard_hyp hb : false = true)); all_goals (have hp := hb; (try simp only [decide_eq_true_eq, Bool.eq_false_iff, ne_eq, Bool.not_eq_true', Bool.not_eq_false', Bool.and_eq_true, Bool.or_eq_true, decide_true, decide_false, Bool.and_true, Bool.true_and, Bool.false_eq_true, not_false_eq_true, true_and, and_true] at hp); (try rw [hb]); (try clear hb))) | refine ps_alloc fun g => ?_ | refine ps_box fun g => ?_ | refine ps_store ?_ | refine ps_lit fun g => ?_ | refine pops_nil ?_ | (refine pd_split (fun hb => ?_) (fun hb => ?_); (fail_if_success (guard_hyp hb : true = true)); (fail_if_success (guard_hyp hb : false = true)); all_goals (have hp := hb; (try simp only [decide_eq_true_eq, Bool.eq_false_iff, ne_eq, Bool.not_eq_true', Bool.not_eq_false', Bool.and_eq_true, Bool.or_eq_true, decide_true, decide_false, Bool.and_true, Bool.true_and, Bool.false_eq_true, not_false_eq_true, true_and, and_true] at hp); (try rw [hb]); (try clear hb))) | (refine pops_go ?_ ?_ ?_; first | refine pops_end ?_ | (refine ps_split (fun hb => ?_) (fun hb => ?_); (fail_if_success (guard_hyp hb : true = true)); (fail_if_success (guard_hyp hb : false = true)); all_goals (have hp := hb; (try simp only [decide_eq_true_eq, Bool.eq_false_iff, ne_eq, Bool.not_eq_true', Bool.not_eq_false', Bool.and_eq_true, Bool.or_eq_true, decide_true, decide_false, Bool.and_true, Bool.true_and, Bool.false_eq_true, not_false_eq_true, true_and, and_true] at hp); (try rw [hb]); (try clear hb))) | refine ps_alloc fun g => ?_ | refine ps_box fun g => ?_ | refine ps_store ?_ | refine ps_lit fun g => ?_ | refine pops_nil ?_) | (refine pstl_go ?_ ?_ ?_; first | refine pstl_end ?_ | (refine pd_split (fun hb => ?_) (fun hb => ?_); (fail_if_success (guard_hyp hb : true = true)); (fail_if_success (guard_hyp hb : false = true)); all_goals (have hp := hb; (try simp only [decide_eq_true_eq, Bool.eq_false_iff, ne_eq, Bool.not_eq_true', Bool.not_eq_false', Bool.and_eq_true, Bool.or_eq_true, decide_true, decide_false, Bool.and_true, Bool.true_and, Bool.false_eq_true, not_false_eq_true, true_and, and_true] at hp); (try rw [hb]); (try clear hb)))) | (refine kn ?_; repeat (first | with_reducible refine blk_n ?_ | with_reducible refine beh_n ?_)) | (refine kx ?_; (repeat (first | with_reducible refine beh_x ?_ | with_reducible refine blk_up rfl ?_)); refine blk_here ?_; refine beh_n ?_)))
    all_goals (refine ends_ret ?_ retPV_one; rfl)
  by_cases h4 : (img.length : Int) ≤ 1000
  case neg =>
    rw [decide_eq_false (by omega)]
    unfold startV
    refine pcall_mk Try.func19 rfl [.tmp 2] Try.results19 25 rfl (tk_start ?_)
    (repeat' (first | refine ka ?_ | refine ksk ?_ | (refine kr ?_ ?_ ?_; first | refine pops_end ?_ | (refine ps_split (fun hb => ?_) (fun hb => ?_); (fail_if_success (guard_hyp hb : true = true)); (fail_if_success (guard_hyp hb : false = true)); all_goals (have hp := hb; (try simp only [decide_eq_true_eq, Bool.eq_false_iff, ne_eq, Bool.not_eq_true', Bool.not_eq_false', Bool.and_eq_true, Bool.or_eq_true, decide_true, decide_false, Bool.and_true, Bool.true_and, Bool.false_eq_true, not_false_eq_true, true_and, and_true] at hp); (try rw [hb]); (try clear hb))) | refine ps_alloc fun g => ?_ | refine ps_box fun g => ?_ | refine ps_store ?_ | refine ps_lit fun g => ?_ | refine pops_nil ?_ | skip) | (refine kd ?_ ?_ ?_; first | refine pstl_end ?_ | (refine pd_split (fun hb => ?_) (fun hb => ?_); (fail_if_success (guard_hyp hb : true = true)); (fail_if_success (guard_hyp hb : false = true)); all_goals (have hp := hb; (try simp only [decide_eq_true_eq, Bool.eq_false_iff, ne_eq, Bool.not_eq_true', Bool.not_eq_false', Bool.and_eq_true, Bool.or_eq_true, decide_true, decide_false, Bool.and_true, Bool.true_and, Bool.false_eq_true, not_false_eq_true, true_and, and_true] at hp); (try rw [hb]); (try clear hb))) | skip) | refine kct ?_ | refine kcf ?_ | (refine kcs (fun hb => ?_) (fun hb => ?_) <;> (have hp := hb; (try simp only [decide_eq_true_eq, Bool.eq_false_iff, ne_eq, Bool.not_eq_true', Bool.not_eq_false', Bool.and_eq_true, Bool.or_eq_true, decide_true, decide_false, Bool.and_true, Bool.true_and, Bool.false_eq_true, not_false_eq_true, true_and, and_true] at hp); (try rw [hb]); (try clear hb))) | (refine kret ?_; repeat (first | with_reducible refine beh_r ?_ | with_reducible refine blk_r ?_)) | refine kb ?_ | (refine ps_split (fun hb => ?_) (fun hb => ?_); (fail_if_success (guard_hyp hb : true = true)); (fail_if_success (guard_hyp hb : false = true)); all_goals (have hp := hb; (try simp only [decide_eq_true_eq, Bool.eq_false_iff, ne_eq, Bool.not_eq_true', Bool.not_eq_false', Bool.and_eq_true, Bool.or_eq_true, decide_true, decide_false, Bool.and_true, Bool.true_and, Bool.false_eq_true, not_false_eq_true, true_and, and_true] at hp); (try rw [hb]); (try clear hb))) | refine ps_alloc fun g => ?_ | refine ps_box fun g => ?_ | refine ps_store ?_ | refine ps_lit fun g => ?_ | refine pops_nil ?_ | (refine pd_split (fun hb => ?_) (fun hb => ?_); (fail_if_success (guard_hyp hb : true = true)); (fail_if_success (guard_hyp hb : false = true)); all_goals (have hp := hb; (try simp only [decide_eq_true_eq, Bool.eq_false_iff, ne_eq, Bool.not_eq_true', Bool.not_eq_false', Bool.and_eq_true, Bool.or_eq_true, decide_true, decide_false, Bool.and_true, Bool.true_and, Bool.false_eq_true, not_false_eq_true, true_and, and_true] at hp); (try rw [hb]); (try clear hb))) | (refine pops_go ?_ ?_ ?_; first | refine pops_end ?_ | (refine ps_split (fun hb => ?_) (fun hb => ?_); (fail_if_success (guard_hyp hb : true = true)); (fail_if_success (guard_hyp hb : false = true)); all_goals (have hp := hb; (try simp only [decide_eq_true_eq, Bool.eq_false_iff, ne_eq, Bool.not_eq_true', Bool.not_eq_false', Bool.and_eq_true, Bool.or_eq_true, decide_true, decide_false, Bool.and_true, Bool.true_and, Bool.false_eq_true, not_false_eq_true, true_and, and_true] at hp); (try rw [hb]); (try clear hb))) | refine ps_alloc fun g => ?_ | refine ps_box fun g => ?_ | refine ps_store ?_ | refine ps_lit fun g => ?_ | refine pops_nil ?_) | (refine pstl_go ?_ ?_ ?_; first | refine pstl_end ?_ | (refine pd_split (fun hb => ?_) (fun hb => ?_); (fail_if_success (guard_hyp hb : true = true)); (fail_if_success (guard_hyp hb : false = true)); all_goals (have hp := hb; (try simp only [decide_eq_true_eq, Bool.eq_false_iff, ne_eq, Bool.not_eq_true', Bool.not_eq_false', Bool.and_eq_true, Bool.or_eq_true, decide_true, decide_false, Bool.and_true, Bool.true_and, Bool.false_eq_true, not_false_eq_true, true_and, and_true] at hp); (try rw [hb]); (try clear hb)))) | (refine kn ?_; repeat (first | with_reducible refine blk_n ?_ | with_reducible refine beh_n ?_)) | (refine kx ?_; (repeat (first | with_reducible refine beh_x ?_ | with_reducible refine blk_up rfl ?_)); refine blk_here ?_; refine beh_n ?_)))
    all_goals (refine ends_ret ?_ retPV_one; rfl)
  rw [decide_eq_true (by omega)]
  unfold startV
  refine pcall_mk Try.func19 rfl [.tmp 2] Try.results19 25 rfl (tk_start ?_)
  (repeat' (first | refine ka ?_ | refine ksk ?_ | (refine kr ?_ ?_ ?_; first | refine pops_end ?_ | (refine ps_split (fun hb => ?_) (fun hb => ?_); (fail_if_success (guard_hyp hb : true = true)); (fail_if_success (guard_hyp hb : false = true)); all_goals (have hp := hb; (try simp only [decide_eq_true_eq, Bool.eq_false_iff, ne_eq, Bool.not_eq_true', Bool.not_eq_false', Bool.and_eq_true, Bool.or_eq_true, decide_true, decide_false, Bool.and_true, Bool.true_and, Bool.false_eq_true, not_false_eq_true, true_and, and_true] at hp); (try rw [hb]); (try clear hb))) | refine ps_alloc fun g => ?_ | refine ps_box fun g => ?_ | refine ps_store ?_ | refine ps_lit fun g => ?_ | refine pops_nil ?_ | skip) | (refine kd ?_ ?_ ?_; first | refine pstl_end ?_ | (refine pd_split (fun hb => ?_) (fun hb => ?_); (fail_if_success (guard_hyp hb : true = true)); (fail_if_success (guard_hyp hb : false = true)); all_goals (have hp := hb; (try simp only [decide_eq_true_eq, Bool.eq_false_iff, ne_eq, Bool.not_eq_true', Bool.not_eq_false', Bool.and_eq_true, Bool.or_eq_true, decide_true, decide_false, Bool.and_true, Bool.true_and, Bool.false_eq_true, not_false_eq_true, true_and, and_true] at hp); (try rw [hb]); (try clear hb))) | skip) | refine kct ?_ | refine kcf ?_ | (refine kcs (fun hb => ?_) (fun hb => ?_) <;> (have hp := hb; (try simp only [decide_eq_true_eq, Bool.eq_false_iff, ne_eq, Bool.not_eq_true', Bool.not_eq_false', Bool.and_eq_true, Bool.or_eq_true, decide_true, decide_false, Bool.and_true, Bool.true_and, Bool.false_eq_true, not_false_eq_true, true_and, and_true] at hp); (try rw [hb]); (try clear hb))) | (refine kret ?_; repeat (first | with_reducible refine beh_r ?_ | with_reducible refine blk_r ?_)) | refine kb ?_ | (refine ps_split (fun hb => ?_) (fun hb => ?_); (fail_if_success (guard_hyp hb : true = true)); (fail_if_success (guard_hyp hb : false = true)); all_goals (have hp := hb; (try simp only [decide_eq_true_eq, Bool.eq_false_iff, ne_eq, Bool.not_eq_true', Bool.not_eq_false', Bool.and_eq_true, Bool.or_eq_true, decide_true, decide_false, Bool.and_true, Bool.true_and, Bool.false_eq_true, not_false_eq_true, true_and, and_true] at hp); (try rw [hb]); (try clear hb))) | refine ps_alloc fun g => ?_ | refine ps_box fun g => ?_ | refine ps_store ?_ | refine ps_lit fun g => ?_ | refine pops_nil ?_ | (refine pd_split (fun hb => ?_) (fun hb => ?_); (fail_if_success (guard_hyp hb : true = true)); (fail_if_success (guard_hyp hb : false = true)); all_goals (have hp := hb; (try simp only [decide_eq_true_eq, Bool.eq_false_iff, ne_eq, Bool.not_eq_true', Bool.not_eq_false', Bool.and_eq_true, Bool.or_eq_true, decide_true, decide_false, Bool.and_true, Bool.true_and, Bool.false_eq_true, not_false_eq_true, true_and, and_true] at hp); (try rw [hb]); (try clear hb))) | (refine pops_go ?_ ?_ ?_; first | refine pops_end ?_ | (refine ps_split (fun hb => ?_) (fun hb => ?_); (fail_if_success (guard_hyp hb : true = true)); (fail_if_success (guard_hyp hb : false = true)); all_goals (have hp := hb; (try simp only [decide_eq_true_eq, Bool.eq_false_iff, ne_eq, Bool.not_eq_true', Bool.not_eq_false', Bool.and_eq_true, Bool.or_eq_true, decide_true, decide_false, Bool.and_true, Bool.true_and, Bool.false_eq_true, not_false_eq_true, true_and, and_true] at hp); (try rw [hb]); (try clear hb))) | refine ps_alloc fun g => ?_ | refine ps_box fun g => ?_ | refine ps_store ?_ | refine ps_lit fun g => ?_ | refine pops_nil ?_) | (refine pstl_go ?_ ?_ ?_; first | refine pstl_end ?_ | (refine pd_split (fun hb => ?_) (fun hb => ?_); (fail_if_success (guard_hyp hb : true = true)); (fail_if_success (guard_hyp hb : false = true)); all_goals (have hp := hb; (try simp only [decide_eq_true_eq, Bool.eq_false_iff, ne_eq, Bool.not_eq_true', Bool.not_eq_false', Bool.and_eq_true, Bool.or_eq_true, decide_true, decide_false, Bool.and_true, Bool.true_and, Bool.false_eq_true, not_false_eq_true, true_and, and_true] at hp); (try rw [hb]); (try clear hb)))) | (refine kn ?_; repeat (first | with_reducible refine blk_n ?_ | with_reducible refine beh_n ?_)) | (refine kx ?_; (repeat (first | with_reducible refine beh_x ?_ | with_reducible refine blk_up rfl ?_)); refine blk_here ?_; refine beh_n ?_)))
  all_goals (refine ends_ret ?_ retPV_one; rfl)
def mk (size : Int) (code img : List Int) (k0 k1 k2 k3 k4 k5 k6 k7 k8 k9 k10 k11 k12 k13 k14 k15 r0 r1 r2 r3 r4 r5 r6 r7 r8 r9 r10 r11 r12 r13 r14 r15 pc : Int) : CS := (CS.made [0, r1, r2, r3, r4, r5, r6, r7, r8, r9, r10, r11, r12, r13, r14, r15] pc (putIf (List.replicate size.toNat 0) 0 code) img [k0, k1, k2, k3, k4, k5, k6, k7, k8, k9, k10, k11, k12, k13, k14, k15])
theorem made11_ok (size : Int) (code img : List Int) (k0 k1 k2 k3 k4 k5 k6 k7 k8 k9 k10 k11 k12 k13 k14 k15 r0 r1 r2 r3 r4 r5 r6 r7 r8 r9 r10 r11 r12 r13 r14 r15 pc : Int) (h0 : 0 ≤ size) (h1 : size ≤ 4096) (h2 : code.length ≤ size) (h3 : img.length ≤ 1000) : GCall Try.prog 20 [.agg (startV size code img k0 k1 k2 k3 k4 k5 k6 k7 k8 k9 k10 k11 k12 k13 k14 k15 r0 r1 r2 r3 r4 r5 r6 r7 r8 r9 r10 r11 r12 r13 r14 r15 pc)] []
    (fun x S' => ∃ J0 J1 J2 gb gm gc gt, x = .tup [.ptr 5 gc 0 0, .ptr 2 gm 0 0] ∧ S' = [J0, ⟨gb, true, 1, ints .u8 (mk size code img k0 k1 k2 k3 k4 k5 k6 k7 k8 k9 k10 k11 k12 k13 k14 k15 r0 r1 r2 r3 r4 r5 r6 r7 r8 r9 r10 r11 r12 r13 r14 r15 pc).mem⟩, ⟨gm, true, 1, [[.vw 1 gb 0 (mk size code img k0 k1 k2 k3 k4 k5 k6 k7 k8 k9 k10 k11 k12 k13 k14 k15 r0 r1 r2 r3 r4 r5 r6 r7 r8 r9 r10 r11 r12 r13 r14 r15 pc).mem.length]]⟩, J1, J2, ⟨gc, true, 41, [ci .u32 (mk size code img k0 k1 k2 k3 k4 k5 k6 k7 k8 k9 k10 k11 k12 k13 k14 k15 r0 r1 r2 r3 r4 r5 r6 r7 r8 r9 r10 r11 r12 r13 r14 r15 pc).regs ++ cpuTl (mk size code img k0 k1 k2 k3 k4 k5 k6 k7 k8 k9 k10 k11 k12 k13 k14 k15 r0 r1 r2 r3 r4 r5 r6 r7 r8 r9 r10 r11 r12 r13 r14 r15 pc) 2 gm 6 gt]⟩, ⟨gt, true, 2, recRows (mk size code img k0 k1 k2 k3 k4 k5 k6 k7 k8 k9 k10 k11 k12 k13 k14 k15 r0 r1 r2 r3 r4 r5 r6 r7 r8 r9 r10 r11 r12 r13 r14 r15 pc).told⟩]) := by
  have p0 := mem_new size
  unfold startV mk
  obtain ⟨L0, hL0⟩ : ∃ L, L = List.replicate size.toNat (0 : Int) := ⟨_, rfl⟩
  have hl0 : L0.length = size.toNat := by rw [hL0, List.length_replicate]
  have hrl : L0.length ≤ 1048576 := by omega
  rw [← hL0, ← hl0] at p0
  rw [← hL0]
  clear hL0
  refine gcall_of_tr Try.func20 rfl [.tmp 2, .tmp 3] Try.results20 29 rfl (tk_start ?_)
  (repeat refine ka ?_); refine kr ?_ ?_ ?_
  refine ps_box fun gx => ?_
  refine pops_go ?_ ?_ (pops_end ?_)
  (repeat refine ka ?_); refine kr ?_ ?_ ?_
  refine ps_fcall [] p0 ?_ (by rintro x S' _; exact Nat.zero_le _)
  rintro x S' (⟨hh, _, _⟩ | ⟨_, gm, gb, rfl, rfl⟩)
  · exfalso; omega
  (intro x1 S1 hx1 hS1; simp only [List.map_cons, List.map_nil, renB, ren_ints, putB, List.set_cons_zero, List.set_cons_succ, List.cons_append, List.nil_append, List.append_nil, renL, ren, sg, List.length_cons, List.length_nil, Nat.reduceAdd, Nat.zero_add, Nat.add_zero] at hx1 hS1; subst hx1 hS1)
  refine pops_go ?_ ?_ (pops_end ?_)
  (repeat refine ka ?_); refine kr ?_ ?_ (pops_end ?_)
  (repeat refine ka ?_); refine kcf ?_
  (repeat refine ka ?_); refine ksk ?_
  (repeat refine ka ?_); refine kr ?_ ?_ ?_
  refine ps_fcall [2, 1] (mem_put L0 code gm gb 0 (by omega) (by omega) hrl) ?_ (by rintro x S' ⟨rfl, rfl⟩; exact Nat.le_refl _)
  rintro x S' ⟨rfl, rfl⟩
  (intro x1 S1 hx1 hS1; simp only [List.map_cons, List.map_nil, renB, ren_ints, putB, List.set_cons_zero, List.set_cons_succ, List.cons_append, List.nil_append, List.append_nil, renL, ren, sg, List.length_cons, List.length_nil, Nat.reduceAdd, Nat.zero_add, Nat.add_zero] at hx1 hS1; subst hx1 hS1)
  refine pops_go ?_ ?_ (pops_end ?_)
  (repeat refine ka ?_); refine kr ?_ ?_ ?_
  refine ps_fcall [1, 2] (new_ok gb gm (putIf L0 0 code) img _ (by omega) k0 k1 k2 k3 k4 k5 k6 k7 k8 k9 k10 k11 k12 k13 k14 k15 r0 r1 r2 r3 r4 r5 r6 r7 r8 r9 r10 r11 r12 r13 r14 r15 pc) ?_ (by rintro x S' ⟨_, _, _, _, rfl, rfl⟩; exact Nat.le_add_right _ 4)
  rintro x S' ⟨J1, J2, gc, gt, rfl, rfl⟩
  (intro x1 S1 hx1 hS1; simp only [List.map_cons, List.map_nil, renB, ren_ints, ren_ci,ren_cpuTl, putB, List.set_cons_zero, List.set_cons_succ, List.cons_append, List.nil_append, List.append_nil, renL, ren, sg, List.length_cons, List.length_nil, Nat.reduceAdd, Nat.zero_add, Nat.add_zero] at hx1 hS1; subst hx1 hS1)
  refine pops_go ?_ ?_ (pops_end ?_)
  (repeat refine ka ?_); refine kret ?_; repeat (first | with_reducible refine beh_r ?_ | with_reducible refine blk_r ?_)
  refine ends_ret ?_ retPV_two
  exact ⟨_, _, _, gb, gm, gc, gt, rfl, rfl⟩
end Go.Proofs.Ytfjodfeoncoaoaa.Pv
