-- cpu: a machine's state; calls that leave the blocks alone, where the order is drawn; bytes of memory, frozen at once.
import Derived.Test.YtfjodfeoncoaoaaMcB
import Derived.Test.YtfjodfeoncoaoaaIfc
namespace Go.Proofs.Ytfjodfeoncoaoaa.Pv
set_option linter.all false
open Go.RowKit Go.Proofs
set_option maxRecDepth 100000
set_option maxHeartbeats 4000000
section
variable {P : Program} {ops : List Oper} {Q : PS → Prop} {rest : List Oper} {n : Nat} {tm : List (Nat × PV)} {S : List Blk} {d : Tmp} {ty : TypeId} {pos : String} {af : Array Edge}
/-- Where the order is drawn: a call that leaves the blocks alone. -/
theorem pd_gcall {f : FuncId} [hf : FnOk P f] {args : Array Operand} {ats : Array TypeId} {as_ : List PV} {r : PV} (h : GCall P f as_ S fun x S' => x = r ∧ S' = S) (k : PStL P ops Q rest ⟨n, (d, r) :: tm, S⟩) (ha : args.toList.map (PS.get ⟨n, tm, S⟩) = as_ := by first | rfl | (simp only [List.map_cons, List.map_nil, PS.get, look, ↓reduceIte, Nat.reduceEqDiff, reduceCtorEq]; exact rfl)) :
    PStL P ops Q (⟨some d, .call ⟨.value (.func f), args, ats⟩, ty, pos, af, none⟩ :: rest) ⟨n, tm, S⟩ := by
  obtain ⟨fn, h1, h2, h3⟩ := hf.h
  refine ⟨r, ?_, k⟩
  unfold GSt
  refine .sem fun σ' hg hS => pop_call (first := []) (captured := []) rfl rfl rfl h1 h2 h3 (R := fun x S' => x = r ∧ S' = S) ?_ fun x S' hx => ⟨hx.1, hx.2.trans hS⟩
  have e : args.toList.map σ'.get = as_ := by
    rw [← ha]
    exact (map_get_congr (xs := args.toList) (fun y hy => hg y (by simp only [Op.operands, Call.operands, Array.mem_append]; exact .inr (by simpa using hy)))).symm
  simp only [List.nil_append, List.append_nil, e]
  rw [← hS]
  exact h
/-- The same, of a contract that knows of some blocks alone. -/
theorem pd_fcall {f : FuncId} [hf : FnOk P f] {args : Array Operand} {ats : Array TypeId} {as0 : List PV} {S0 : List Blk} {R : PV → List Blk → Prop} {r : PV} (e : List Nat) (h : GCall P f as0 S0 R)
    (hR : ∀ x S', R x S' → ren (sg e S.length) x = r ∧ S' = S0)
    (k : PStL P ops Q rest ⟨n, (d, r) :: tm, S⟩)
    (ha : args.toList.map (PS.get ⟨n, tm, S⟩) = renL (sg e S.length) as0 := by rfl)
    (hS : (e.map fun a => S[a]?) = S0.map fun b => some (renB (sg e S.length) b) := by first | rfl | (simp only [List.map_cons, List.map_nil, renB, ren_ints]; rfl))
    (hp : putB e (S0.map (renB (sg e S.length))) S = S := by first | rfl | (simp only [List.map_cons, List.map_nil, renB, ren_ints]; rfl))
    (hn : e.Nodup := by decide) (hb : ∀ a ∈ e, a < S.length := by first | decide | (simp only [List.length_cons, List.length_nil]; decide)) :
    PStL P ops Q (⟨some d, .call ⟨.value (.func f), args, ats⟩, ty, pos, af, none⟩ :: rest) ⟨n, tm, S⟩ := by
  have hl : e.length = S0.length := by simpa using congrArg List.length hS
  have hS' : ∀ (i a : Nat), e[i]? = some a → S[a]? = (S0[i]?).map (renB (sg e S.length)) := by
    intro i a hi
    have := congrArg (fun l => l[i]?) hS
    simp only [List.getElem?_map, hi, Option.map_some] at this
    cases h0 : S0[i]? with
    | none => rw [h0] at this; cases this
    | some b => rw [h0] at this; simpa using this
  have hfr := gcall_frame h e hn hl hb hS' (fun x S' hx => by rw [(hR x S' hx).2]; exact Nat.le_refl _)
  refine pd_gcall (hfr.mono ?_) k ha
  rintro x S' ⟨x0, S0', h1, rfl, rfl⟩
  obtain ⟨h2, rfl⟩ := hR x0 S0' h1
  exact ⟨h2, hp⟩
end
/-- A pair's slice is frozen, and its block dropped. -/
theorem gcall_frz {P : Program} {f : FuncId} {as_ : List PV} {S : List Blk} {R : PV → List Blk → Prop} (h : GCall P f as_ S fun x T => R x T ∨ ∃ g sz len rows y, x = .tup [.vw S.length g 0 len, .v y] ∧ T = S ++ [⟨g, true, sz, rows⟩] ∧ rows.length = len ∧ (∀ row ∈ rows, ∀ x ∈ row, PV.Pure x) ∧ R (.tup [.ro sz false rows, .v y]) S) : GCall P f as_ S R := by
  intro c vals hi hs hl hv
  refine (h c vals hi hs hl hv).mono ?_
  rintro e w' ⟨v, x, c', rfl, rfl, hR | ⟨g, sz, len, rows, y, rfl, hT, hlen, hpure, hR⟩, hi', hst, hr⟩
  · exact ⟨v, x, c', rfl, rfl, hR, hi', hst, hr⟩
  have hb : c'.S[S.length]? = some ⟨g, true, sz, rows⟩ := by rw [hT, List.getElem?_append_right (Nat.le_refl _), Nat.sub_self]; rfl
  obtain ⟨h1, h2⟩ := freezeBlk hi' hb
  have e : c'.S.set S.length ⟨g, false, sz, rows⟩ = S ++ [⟨g, false, sz, rows⟩] := by
    rw [hT, List.set_append_right _ _ (Nat.le_refl _), Nat.sub_self]; rfl
  have hb2 : (c'.S.set S.length ⟨g, false, sz, rows⟩)[S.length]? = some ⟨g, false, sz, rows⟩ := by
    rw [e, List.getElem?_append_right (Nat.le_refl _), Nat.sub_self]; rfl
  obtain ⟨h3, h4⟩ := dropBlk h1 S.length
  cases hr with
  | tup _ vs hsz hrel =>
    refine ⟨.tuple vs, .tup [.ro sz false rows, .v y], { c' with S := (c'.S.set S.length ⟨g, false, sz, rows⟩).take S.length }, rfl, rfl, ?_, h3, hst.trans (h2.trans h4), .tup _ vs hsz fun i x v hx hv => ?_⟩
    · show R _ ((c'.S.set S.length ⟨g, false, sz, rows⟩).take S.length)
      rw [e, List.take_append_of_le_length (Nat.le_refl _), List.take_length]
      exact hR
    · match i with
      | 0 =>
        simp only [List.getElem?_cons_zero, Option.some.injEq] at hx
        subst hx
        have k := (hrel 0 _ v rfl hv).step h2
        refine (Lend.frel h1 (T := [S.length]) (.vw (by simp) hb2 rfl (by rw [List.drop_zero, ← hlen, List.take_length]) hpure) ?_ k).step h4
        intro t ht b hb'
        simp only [List.mem_singleton] at ht
        subst ht
        have := hb2.symm.trans hb'
        cases this
        rfl
      | 1 =>
        simp only [List.getElem?_cons_succ, List.getElem?_cons_zero, Option.some.injEq] at hx
        subst hx
        exact ((hrel 1 _ v rfl hv).step h2).step h4
      | i + 2 => simp at hx
theorem intsPu {k : IntKind} (l : List Int) : ∀ row ∈ ints k l, ∀ x ∈ row, PV.Pure x := by
  intro row hr x hx
  obtain ⟨b, _, rfl⟩ := List.mem_map.1 hr
  rw [List.mem_singleton] at hx
  subst hx
  exact .v _
def bytesV (l : List Int) (a n : Int) : PV := if a + n ≤ l.length then .tup [.ro 1 false (ints .u8 ((l.drop a.toNat).take n.toNat)), .v (.bool true)] else .tup [.v (.slice none 0 0), .v (.bool false)]
theorem mem_bytesF (l : List Int) (g0 g1 : Nat) (a n : Int) (ha : 0 ≤ a ∧ a < 4294967296) (hn : 0 ≤ n ∧ n < 4294967296) (hl : l.length ≤ 1048576) : GCall Try.prog 96 [.ptr 0 g0 0 0, .v (.int .u32 a), .v (.int .u32 n)]
    [⟨g0, true, 1, [[.vw 1 g1 0 l.length]]⟩, ⟨g1, true, 1, ints .u8 l⟩] (fun x S' => x = bytesV l a n ∧ S' = [⟨g0, true, 1, [[.vw 1 g1 0 l.length]]⟩, ⟨g1, true, 1, ints .u8 l⟩]) := by
  refine gcall_frz ((mem_bytes l g0 g1 a n ha hn hl).mono ?_)
  rintro x S' (⟨h, rfl, rfl⟩ | ⟨h, g2, rfl, rfl⟩)
  · refine .inl ⟨?_, rfl⟩
    rw [bytesV, if_neg h]
  · refine .inr ⟨g2, 1, n.toNat, _, _, rfl, rfl, ?_, intsPu _, ?_, rfl⟩
    · rw [ints_length, List.length_take, List.length_drop]; omega
    · rw [bytesV, if_pos h]
structure CS where
  regs : List Int
  pc : Int
  steps : Int
  code : Int
  trap : Int
  ended : Bool
  mem : List Int
  img : List Int
  key : List Int
  told : List (List Int × List Int)
  many : Int
structure CsOk (s : CS) : Prop where
  rl : s.regs.length = 16
  rr : ∀ x ∈ s.regs, 0 ≤ x ∧ x < 4294967296
  pc : 0 ≤ s.pc ∧ s.pc < 4294967296
  st : 0 ≤ s.steps ∧ s.steps ≤ 4611686018427387904
  ml : s.mem.length ≤ 1048576
  mo : Oct s.mem
  il : s.img.length ≤ 1000000000
  io : Oct s.img
  kl : s.key.length = 16
  ko : Oct s.key
  tl : s.told.length ≤ 200
  te : ∀ r ∈ s.told, (Oct r.1 ∧ r.1.length ≤ 200) ∧ Oct r.2 ∧ r.2.length ≤ 65536
  mn : 0 ≤ s.many ∧ s.many ≤ 65536
theorem CsOk.reg {s : CS} (h : CsOk s) (i : Nat) : 0 ≤ s.regs.getD i 0 ∧ s.regs.getD i 0 < 4294967296 := by
  rw [List.getD_eq_getElem?_getD]
  cases e : s.regs[i]? with
  | none => simp
  | some x => exact h.rr x (List.mem_of_getElem? e)
def recRows (l : List (List Int × List Int)) : List (List PV) := l.map fun r => [.ro 1 false (ints .u8 r.1), .ro 1 false (ints .u8 r.2)]
theorem recRows_length (l) : (recRows l).length = l.length := by simp [recRows]
theorem recRows_app (l : List (List Int × List Int)) (p d : List Int) : recRows l ++ [[.ro 1 false (ints .u8 p), .ro 1 false (ints .u8 d)]] = recRows (l ++ [(p, d)]) := by simp [recRows]
def cpuTl (s : CS) (i1 gm i3 gt : Nat) : List PV := [.v (.int .u32 s.pc), .v (.int .i64 s.steps), .v (.int .i64 s.code), .v (.int .i64 s.trap), .v (.bool s.ended), .ptr i1 gm 0 0, .ro 1 false (ints .u8 s.img),
  .v (.int .u8 (s.key.getD 0 0)), .v (.int .u8 (s.key.getD 1 0)), .v (.int .u8 (s.key.getD 2 0)), .v (.int .u8 (s.key.getD 3 0)), .v (.int .u8 (s.key.getD 4 0)), .v (.int .u8 (s.key.getD 5 0)), .v (.int .u8 (s.key.getD 6 0)), .v (.int .u8 (s.key.getD 7 0)),
  .v (.int .u8 (s.key.getD 8 0)), .v (.int .u8 (s.key.getD 9 0)), .v (.int .u8 (s.key.getD 10 0)), .v (.int .u8 (s.key.getD 11 0)), .v (.int .u8 (s.key.getD 12 0)), .v (.int .u8 (s.key.getD 13 0)), .v (.int .u8 (s.key.getD 14 0)), .v (.int .u8 (s.key.getD 15 0)),
  .vw i3 gt 0 s.told.length, .v (.int .i64 s.many)]
def cpuB (s : CS) (gc gm gb gt : Nat) : List Blk := [⟨gc, true, 41, [ci .u32 s.regs ++ cpuTl s 1 gm 3 gt]⟩, ⟨gm, true, 1, [[.vw 2 gb 0 s.mem.length]]⟩, ⟨gb, true, 1, ints .u8 s.mem⟩, ⟨gt, true, 2, recRows s.told⟩]
theorem ren_ci (f : Nat → Nat) (k : IntKind) (l : List Int) (tl : List PV) : renL f (ci k l ++ tl) = ci k l ++ renL f tl := by
  rw [renL_map, List.map_append, renL_map, ci, List.map_map]
  congr 1
theorem ren_cpuTl (f : Nat → Nat) (s : CS) (i1 gm i3 gt : Nat) : renL f (cpuTl s i1 gm i3 gt) = cpuTl s (f i1) gm (f i3) gt := rfl
theorem ren_recRows (f : Nat → Nat) (l : List (List Int × List Int)) : (recRows l).map (renL f) = recRows l := by
  unfold recRows
  rw [List.map_map]
  rfl
def CS.nx (s : CS) : Int := IntKind.u32.wrap (s.pc + 4)
def CS.thr (s : CS) (imm : Int) : Int := IntKind.u32.wrap (IntKind.u32.wrap (s.pc + 4) + IntKind.u32.wrap (4 * IntKind.u32.wrap imm))
def CS.put (s : CS) (at_ n : Int) : CS := if at_ = 0 then s else { s with regs := s.regs.set at_.toNat n }
/-- What a method of the machine does: from one state to another, and what it answers. -/
def CCall (f : FuncId) (xs : List PV) (s s' : CS) (y : PV) : Prop := ∀ gc gm gb gt, GCall Try.prog f (.ptr 0 gc 0 0 :: xs) (cpuB s gc gm gb gt) (fun x S' => ∃ gt', S' = cpuB s' gc gm gb gt' ∧ x = y)
theorem ren_cpuB (m : Nat) (s : CS) (gc gm gb gt : Nat) : (cpuB s gc gm gb gt).map (renB (sg [0, 1, 2, 3] m)) = cpuB s gc gm gb gt := by
  simp only [cpuB, List.map_cons, List.map_nil, renB, ren_ci, ren_cpuTl, ren_ints, ren_recRows]
  rfl
section
variable {ops : List Oper} {Q : PS → Prop} {rest : List Oper} {n : Nat} {tm : List (Nat × PV)} {d : Tmp} {ty : TypeId} {pos : String} {af : Array Edge}
/-- A call of a method of the machine. -/
theorem ps_ccall {f : FuncId} [hf : FnOk Try.prog f] {args : Array Operand} {ats : Array TypeId} {xs : List PV} {s s' : CS} {y : PV} {gc gm gb gt : Nat} {X : List Blk} (h : CCall f xs s s' y)
    (k : ∀ gt', Pops Try.prog ops Q rest ⟨n, (d, y) :: tm, ⟨gc, true, 41, [ci .u32 s'.regs ++ cpuTl s' 1 gm 3 gt']⟩ :: ⟨gm, true, 1, [[.vw 2 gb 0 s'.mem.length]]⟩ :: ⟨gb, true, 1, ints .u8 s'.mem⟩ :: ⟨gt', true, 2, recRows s'.told⟩ :: X⟩)
    (ha : args.toList.map (PS.get ⟨n, tm, ⟨gc, true, 41, [ci .u32 s.regs ++ cpuTl s 1 gm 3 gt]⟩ :: ⟨gm, true, 1, [[.vw 2 gb 0 s.mem.length]]⟩ :: ⟨gb, true, 1, ints .u8 s.mem⟩ :: ⟨gt, true, 2, recRows s.told⟩ :: X⟩) = .ptr 0 gc 0 0 :: xs := by first | rfl | (simp only [List.map_cons, List.map_nil, PS.get, look, ↓reduceIte, Nat.reduceEqDiff, reduceCtorEq]; exact rfl))
    (hx : ∀ f, renL f xs = xs := by intro _; rfl) (hy : ∀ f, ren f y = y := by intro _; rfl) :
    Pops Try.prog ops Q (⟨some d, .call ⟨.value (.func f), args, ats⟩, ty, pos, af, none⟩ :: rest) ⟨n, tm, ⟨gc, true, 41, [ci .u32 s.regs ++ cpuTl s 1 gm 3 gt]⟩ :: ⟨gm, true, 1, [[.vw 2 gb 0 s.mem.length]]⟩ :: ⟨gb, true, 1, ints .u8 s.mem⟩ :: ⟨gt, true, 2, recRows s.told⟩ :: X⟩ := by
  refine ps_fcall [0, 1, 2, 3] (h gc gm gb gt) ?_ ?_ ?_ ?_ (by decide) ?_
  · rintro x S' ⟨gt', rfl, rfl⟩ x1 S1 rfl rfl
    rw [ren_cpuB, hy]
    simp only [putB, cpuB, List.set_cons_zero, List.set_cons_succ, List.append_nil]
    exact k gt'
  · rintro x S' ⟨gt', rfl, rfl⟩
    exact Nat.le_refl _
  · rw [ha]
    show _ = .ptr 0 gc 0 0 :: renL _ xs
    rw [hx]
  · have e := congrArg (List.map some) (ren_cpuB (⟨gc, true, 41, [ci .u32 s.regs ++ cpuTl s 1 gm 3 gt]⟩ :: ⟨gm, true, 1, [[.vw 2 gb 0 s.mem.length]]⟩ :: ⟨gb, true, 1, ints .u8 s.mem⟩ :: ⟨gt, true, 2, recRows s.told⟩ :: X).length s gc gm gb gt)
    rw [List.map_map] at e
    exact e.symm
  · intro a ha
    simp only [List.mem_cons, List.not_mem_nil, or_false] at ha
    simp only [List.length_cons]
    omega
end
theorem CsOk.put {s : CS} (h : CsOk s) (a n : Int) (hn : 0 ≤ n ∧ n < 4294967296) : CsOk (s.put a n) := by
  unfold CS.put
  split
  · exact h
  · refine ⟨by simpa using h.rl, fun x hx => ?_, h.pc, h.st, h.ml, h.mo, h.il, h.io, h.kl, h.ko, h.tl, h.te, h.mn⟩
    rcases List.mem_or_eq_of_mem_set hx with k | rfl
    · exact h.rr x k
    · exact hn
theorem next_ok (s : CS) (hs : CsOk s) (t : Int) : CCall 84 [.v (.int .i64 t)] s s (.tup [.v (.int .u32 s.nx), .v (.int .i64 t)]) := by
  intro gc gm gb gt
  have hl := hs.rl
  have e : IntKind.u32.wrap (s.pc + 4) = s.nx := rfl
  rw [cpuB]
  refine gcall_of_tr Try.func84 rfl [.tmp 4, .tmp 5] Try.results84 13 rfl (tk_start ?_)
  (repeat' (first | refine ka ?_ | refine ksk ?_ | (refine kr ?_ ?_ ?_; first | refine pops_end ?_ | (refine ps_split (fun hb => ?_) (fun hb => ?_); (fail_if_success (guard_hyp hb : true = true)); (fail_if_success (guard_hyp hb : false = true)); all_goals (have hp := hb; (try simp only [decide_eq_true_eq, Bool.eq_false_iff, ne_eq, Bool.not_eq_true', Bool.not_eq_false', Bool.and_eq_true, Bool.or_eq_true, decide_true, decide_false, Bool.and_true, Bool.true_and, Bool.false_eq_true, not_false_eq_true, true_and, and_true] at hp); (try rw [hb]); (try clear hb))) | refine ps_alloc fun g => ?_ | refine ps_box fun g => ?_ | refine ps_store ?_ | refine ps_lit fun g => ?_ | refine pops_nil ?_ | skip) | (refine kd ?_ ?_ ?_; first | refine pstl_end ?_ | (refine pd_split (fun hb => ?_) (fun hb => ?_); (fail_if_success (guard_hyp hb : true = true)); (fail_if_success (guard_hyp hb : false = true)); all_goals (have hp := hb; (try simp only [decide_eq_true_eq, Bool.eq_false_iff, ne_eq, Bool.not_eq_true', Bool.not_eq_false', Bool.and_eq_true, Bool.or_eq_true, decide_true, decide_false, Bool.and_true, Bool.true_and, Bool.false_eq_true, not_false_eq_true, true_and, and_true] at hp); (try rw [hb]); (try clear hb))) | skip) | refine kct ?_ | refine kcf ?_ | (refine kcs (fun hb => ?_) (fun hb => ?_) <;> (have hp := hb; (try simp only [decide_eq_true_eq, Bool.eq_false_iff, ne_eq, Bool.not_eq_true', Bool.not_eq_false', Bool.and_eq_true, Bool.or_eq_true, decide_true, decide_false, Bool.and_true, Bool.true_and, Bool.false_eq_true, not_false_eq_true, true_and, and_true] at hp); (try rw [hb]); (try clear hb))) | (refine kret ?_; repeat (first | with_reducible refine beh_r ?_ | with_reducible refine blk_r ?_)) | refine kb ?_ | (refine ps_split (fun hb => ?_) (fun hb => ?_); (fail_if_success (guard_hyp hb : true = true)); (fail_if_success (guard_hyp hb : false = true)); all_goals (have hp := hb; (try simp only [decide_eq_true_eq, Bool.eq_false_iff, ne_eq, Bool.not_eq_true', Bool.not_eq_false', Bool.and_eq_true, Bool.or_eq_true, decide_true, decide_false, Bool.and_true, Bool.true_and, Bool.false_eq_true, not_false_eq_true, true_and, and_true] at hp); (try rw [hb]); (try clear hb))) | refine ps_alloc fun g => ?_ | refine ps_box fun g => ?_ | refine ps_store ?_ | refine ps_lit fun g => ?_ | refine pops_nil ?_ | (refine pd_split (fun hb => ?_) (fun hb => ?_); (fail_if_success (guard_hyp hb : true = true)); (fail_if_success (guard_hyp hb : false = true)); all_goals (have hp := hb; (try simp only [decide_eq_true_eq, Bool.eq_false_iff, ne_eq, Bool.not_eq_true', Bool.not_eq_false', Bool.and_eq_true, Bool.or_eq_true, decide_true, decide_false, Bool.and_true, Bool.true_and, Bool.false_eq_true, not_false_eq_true, true_and, and_true] at hp); (try rw [hb]); (try clear hb))) | (refine pops_go ?_ ?_ ?_; first | refine pops_end ?_ | (refine ps_split (fun hb => ?_) (fun hb => ?_); (fail_if_success (guard_hyp hb : true = true)); (fail_if_success (guard_hyp hb : false = true)); all_goals (have hp := hb; (try simp only [decide_eq_true_eq, Bool.eq_false_iff, ne_eq, Bool.not_eq_true', Bool.not_eq_false', Bool.and_eq_true, Bool.or_eq_true, decide_true, decide_false, Bool.and_true, Bool.true_and, Bool.false_eq_true, not_false_eq_true, true_and, and_true] at hp); (try rw [hb]); (try clear hb))) | refine ps_alloc fun g => ?_ | refine ps_box fun g => ?_ | refine ps_store ?_ | refine ps_lit fun g => ?_ | refine pops_nil ?_) | (refine pstl_go ?_ ?_ ?_; first | refine pstl_end ?_ | (refine pd_split (fun hb => ?_) (fun hb => ?_); (fail_if_success (guard_hyp hb : true = true)); (fail_if_success (guard_hyp hb : false = true)); all_goals (have hp := hb; (try simp only [decide_eq_true_eq, Bool.eq_false_iff, ne_eq, Bool.not_eq_true', Bool.not_eq_false', Bool.and_eq_true, Bool.or_eq_true, decide_true, decide_false, Bool.and_true, Bool.true_and, Bool.false_eq_true, not_false_eq_true, true_and, and_true] at hp); (try rw [hb]); (try clear hb)))) | (refine kn ?_; repeat (first | with_reducible refine blk_n ?_ | with_reducible refine beh_n ?_)) | (refine kx ?_; (repeat (first | with_reducible refine beh_x ?_ | with_reducible refine blk_up rfl ?_)); refine blk_here ?_; refine beh_n ?_)))
  all_goals (refine ends_ret ?_ retPV_two; refine ⟨gt, rfl, ?_⟩; first | rfl | (rw [← e]; rfl))
theorem put_ok (s : CS) (hs : CsOk s) (a n : Int) (ha : 0 ≤ a ∧ a < 16) : CCall 86 [.v (.int .i64 a), .v (.int .u32 n)] s (s.put a n) (.tup []) := by
  intro gc gm gb gt
  have hl := hs.rl
  rw [cpuB]
  by_cases h : a = 0
  · rw [CS.put, if_pos h]
    refine gcall_of_tr Try.func86 rfl [] Try.results86 15 rfl (tk_start ?_)
    (repeat' (first | refine ka ?_ | refine ksk ?_ | (refine kr ?_ ?_ ?_; first | refine pops_end ?_ | (refine ps_split (fun hb => ?_) (fun hb => ?_); (fail_if_success (guard_hyp hb : true = true)); (fail_if_success (guard_hyp hb : false = true)); all_goals (have hp := hb; (try simp only [decide_eq_true_eq, Bool.eq_false_iff, ne_eq, Bool.not_eq_true', Bool.not_eq_false', Bool.and_eq_true, Bool.or_eq_true, decide_true, decide_false, Bool.and_true, Bool.true_and, Bool.false_eq_true, not_false_eq_true, true_and, and_true] at hp); (try rw [hb]); (try clear hb))) | refine ps_alloc fun g => ?_ | refine ps_box fun g => ?_ | refine ps_store ?_ | refine ps_lit fun g => ?_ | refine pops_nil ?_ | skip) | (refine kd ?_ ?_ ?_; first | refine pstl_end ?_ | (refine pd_split (fun hb => ?_) (fun hb => ?_); (fail_if_success (guard_hyp hb : true = true)); (fail_if_success (guard_hyp hb : false = true)); all_goals (have hp := hb; (try simp only [decide_eq_true_eq, Bool.eq_false_iff, ne_eq, Bool.not_eq_true', Bool.not_eq_false', Bool.and_eq_true, Bool.or_eq_true, decide_true, decide_false, Bool.and_true, Bool.true_and, Bool.false_eq_true, not_false_eq_true, true_and, and_true] at hp); (try rw [hb]); (try clear hb))) | skip) | refine kct ?_ | refine kcf ?_ | (refine kcs (fun hb => ?_) (fun hb => ?_) <;> (have hp := hb; (try simp only [decide_eq_true_eq, Bool.eq_false_iff, ne_eq, Bool.not_eq_true', Bool.not_eq_false', Bool.and_eq_true, Bool.or_eq_true, decide_true, decide_false, Bool.and_true, Bool.true_and, Bool.false_eq_true, not_false_eq_true, true_and, and_true] at hp); (try rw [hb]); (try clear hb))) | (refine kret ?_; repeat (first | with_reducible refine beh_r ?_ | with_reducible refine blk_r ?_)) | refine kb ?_ | (refine ps_split (fun hb => ?_) (fun hb => ?_); (fail_if_success (guard_hyp hb : true = true)); (fail_if_success (guard_hyp hb : false = true)); all_goals (have hp := hb; (try simp only [decide_eq_true_eq, Bool.eq_false_iff, ne_eq, Bool.not_eq_true', Bool.not_eq_false', Bool.and_eq_true, Bool.or_eq_true, decide_true, decide_false, Bool.and_true, Bool.true_and, Bool.false_eq_true, not_false_eq_true, true_and, and_true] at hp); (try rw [hb]); (try clear hb))) | refine ps_alloc fun g => ?_ | refine ps_box fun g => ?_ | refine ps_store ?_ | refine ps_lit fun g => ?_ | refine pops_nil ?_ | (refine pd_split (fun hb => ?_) (fun hb => ?_); (fail_if_success (guard_hyp hb : true = true)); (fail_if_success (guard_hyp hb : false = true)); all_goals (have hp := hb; (try simp only [decide_eq_true_eq, Bool.eq_false_iff, ne_eq, Bool.not_eq_true', Bool.not_eq_false', Bool.and_eq_true, Bool.or_eq_true, decide_true, decide_false, Bool.and_true, Bool.true_and, Bool.false_eq_true, not_false_eq_true, true_and, and_true] at hp); (try rw [hb]); (try clear hb))) | (refine pops_go ?_ ?_ ?_; first | refine pops_end ?_ | (refine ps_split (fun hb => ?_) (fun hb => ?_); (fail_if_success (guard_hyp hb : true = true)); (fail_if_success (guard_hyp hb : false = true)); all_goals (have hp := hb; (try simp only [decide_eq_true_eq, Bool.eq_false_iff, ne_eq, Bool.not_eq_true', Bool.not_eq_false', Bool.and_eq_true, Bool.or_eq_true, decide_true, decide_false, Bool.and_true, Bool.true_and, Bool.false_eq_true, not_false_eq_true, true_and, and_true] at hp); (try rw [hb]); (try clear hb))) | refine ps_alloc fun g => ?_ | refine ps_box fun g => ?_ | refine ps_store ?_ | refine ps_lit fun g => ?_ | refine pops_nil ?_) | (refine pstl_go ?_ ?_ ?_; first | refine pstl_end ?_ | (refine pd_split (fun hb => ?_) (fun hb => ?_); (fail_if_success (guard_hyp hb : true = true)); (fail_if_success (guard_hyp hb : false = true)); all_goals (have hp := hb; (try simp only [decide_eq_true_eq, Bool.eq_false_iff, ne_eq, Bool.not_eq_true', Bool.not_eq_false', Bool.and_eq_true, Bool.or_eq_true, decide_true, decide_false, Bool.and_true, Bool.true_and, Bool.false_eq_true, not_false_eq_true, true_and, and_true] at hp); (try rw [hb]); (try clear hb)))) | (refine kn ?_; repeat (first | with_reducible refine blk_n ?_ | with_reducible refine beh_n ?_)) | (refine kx ?_; (repeat (first | with_reducible refine beh_x ?_ | with_reducible refine blk_up rfl ?_)); refine blk_here ?_; refine beh_n ?_)))
    all_goals (refine ends_normal ?_; exact ⟨gt, rfl, rfl⟩)
  · rw [CS.put, if_neg h]
    refine gcall_of_tr Try.func86 rfl [] Try.results86 15 rfl (tk_start ?_)
    (repeat refine ka ?_); refine kr ?_ ?_ (pops_end ?_)
    (repeat refine ka ?_); refine kct ?_
    (repeat refine ka ?_); refine kr ?_ ?_ ?_
    refine ps_st_ca a.toNat ?_
    refine pops_go ?_ ?_ (pops_end ?_)
    refine kn ?_; repeat (first | with_reducible refine blk_n ?_ | with_reducible refine beh_n ?_)
    refine ends_normal ?_
    exact ⟨gt, rfl, rfl⟩
theorem there_ok (s : CS) (hs : CsOk s) (op a b c imm : Int) : CCall 92 [.agg [.v (.int .i64 op), .v (.int .i64 a), .v (.int .i64 b), .v (.int .i64 c), .v (.int .i64 imm)]] s s (.v (.int .u32 (s.thr imm))) := by
  intro gc gm gb gt
  have hl := hs.rl
  have e : IntKind.u32.wrap (IntKind.u32.wrap (s.pc + 4) + IntKind.u32.wrap (4 * IntKind.u32.wrap imm)) = s.thr imm := rfl
  refine gcall_drop ?_
  rw [cpuB]
  refine gcall_of_tr Try.func92 rfl [.tmp 4] Try.results92 16 rfl (tk_start ?_)
  (repeat' (first | refine ka ?_ | refine ksk ?_ | (refine kr ?_ ?_ ?_; first | refine pops_end ?_ | (refine ps_split (fun hb => ?_) (fun hb => ?_); (fail_if_success (guard_hyp hb : true = true)); (fail_if_success (guard_hyp hb : false = true)); all_goals (have hp := hb; (try simp only [decide_eq_true_eq, Bool.eq_false_iff, ne_eq, Bool.not_eq_true', Bool.not_eq_false', Bool.and_eq_true, Bool.or_eq_true, decide_true, decide_false, Bool.and_true, Bool.true_and, Bool.false_eq_true, not_false_eq_true, true_and, and_true] at hp); (try rw [hb]); (try clear hb))) | refine ps_alloc fun g => ?_ | refine ps_box fun g => ?_ | refine ps_store ?_ | refine ps_lit fun g => ?_ | refine pops_nil ?_ | skip) | (refine kd ?_ ?_ ?_; first | refine pstl_end ?_ | (refine pd_split (fun hb => ?_) (fun hb => ?_); (fail_if_success (guard_hyp hb : true = true)); (fail_if_success (guard_hyp hb : false = true)); all_goals (have hp := hb; (try simp only [decide_eq_true_eq, Bool.eq_false_iff, ne_eq, Bool.not_eq_true', Bool.not_eq_false', Bool.and_eq_true, Bool.or_eq_true, decide_true, decide_false, Bool.and_true, Bool.true_and, Bool.false_eq_true, not_false_eq_true, true_and, and_true] at hp); (try rw [hb]); (try clear hb))) | skip) | refine kct ?_ | refine kcf ?_ | (refine kcs (fun hb => ?_) (fun hb => ?_) <;> (have hp := hb; (try simp only [decide_eq_true_eq, Bool.eq_false_iff, ne_eq, Bool.not_eq_true', Bool.not_eq_false', Bool.and_eq_true, Bool.or_eq_true, decide_true, decide_false, Bool.and_true, Bool.true_and, Bool.false_eq_true, not_false_eq_true, true_and, and_true] at hp); (try rw [hb]); (try clear hb))) | (refine kret ?_; repeat (first | with_reducible refine beh_r ?_ | with_reducible refine blk_r ?_)) | refine kb ?_ | (refine ps_split (fun hb => ?_) (fun hb => ?_); (fail_if_success (guard_hyp hb : true = true)); (fail_if_success (guard_hyp hb : false = true)); all_goals (have hp := hb; (try simp only [decide_eq_true_eq, Bool.eq_false_iff, ne_eq, Bool.not_eq_true', Bool.not_eq_false', Bool.and_eq_true, Bool.or_eq_true, decide_true, decide_false, Bool.and_true, Bool.true_and, Bool.false_eq_true, not_false_eq_true, true_and, and_true] at hp); (try rw [hb]); (try clear hb))) | refine ps_alloc fun g => ?_ | refine ps_box fun g => ?_ | refine ps_store ?_ | refine ps_lit fun g => ?_ | refine pops_nil ?_ | (refine pd_split (fun hb => ?_) (fun hb => ?_); (fail_if_success (guard_hyp hb : true = true)); (fail_if_success (guard_hyp hb : false = true)); all_goals (have hp := hb; (try simp only [decide_eq_true_eq, Bool.eq_false_iff, ne_eq, Bool.not_eq_true', Bool.not_eq_false', Bool.and_eq_true, Bool.or_eq_true, decide_true, decide_false, Bool.and_true, Bool.true_and, Bool.false_eq_true, not_false_eq_true, true_and, and_true] at hp); (try rw [hb]); (try clear hb))) | (refine pops_go ?_ ?_ ?_; first | refine pops_end ?_ | (refine ps_split (fun hb => ?_) (fun hb => ?_); (fail_if_success (guard_hyp hb : true = true)); (fail_if_success (guard_hyp hb : false = true)); all_goals (have hp := hb; (try simp only [decide_eq_true_eq, Bool.eq_false_iff, ne_eq, Bool.not_eq_true', Bool.not_eq_false', Bool.and_eq_true, Bool.or_eq_true, decide_true, decide_false, Bool.and_true, Bool.true_and, Bool.false_eq_true, not_false_eq_true, true_and, and_true] at hp); (try rw [hb]); (try clear hb))) | refine ps_alloc fun g => ?_ | refine ps_box fun g => ?_ | refine ps_store ?_ | refine ps_lit fun g => ?_ | refine pops_nil ?_) | (refine pstl_go ?_ ?_ ?_; first | refine pstl_end ?_ | (refine pd_split (fun hb => ?_) (fun hb => ?_); (fail_if_success (guard_hyp hb : true = true)); (fail_if_success (guard_hyp hb : false = true)); all_goals (have hp := hb; (try simp only [decide_eq_true_eq, Bool.eq_false_iff, ne_eq, Bool.not_eq_true', Bool.not_eq_false', Bool.and_eq_true, Bool.or_eq_true, decide_true, decide_false, Bool.and_true, Bool.true_and, Bool.false_eq_true, not_false_eq_true, true_and, and_true] at hp); (try rw [hb]); (try clear hb)))) | (refine kn ?_; repeat (first | with_reducible refine blk_n ?_ | with_reducible refine beh_n ?_)) | (refine kx ?_; (repeat (first | with_reducible refine beh_x ?_ | with_reducible refine blk_up rfl ?_)); refine blk_here ?_; refine beh_n ?_)))
  all_goals (refine ends_ret ?_ retPV_one; refine ⟨4, gt, rfl, ?_⟩; first | rfl | (rw [← e]; rfl))
end Go.Proofs.Ytfjodfeoncoaoaa.Pv
