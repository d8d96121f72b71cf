-- link: words whose relocations tell more.
import Derived.Test.YtjbbomchmacdjaaLkC
namespace Go.Proofs.Ytjbbomchmacdjaa.Pv
set_option linter.all false
open Go.RowKit Go.Proofs
set_option maxRecDepth 100000
set_option maxHeartbeats 4000000
section
variable {P : Program} {ops : List Oper} {Q : PS → Prop} {rest : List Oper} {n : Nat} {tm : List (Nat × PV)} {S : List Blk} {d : Tmp} {ty : TypeId} {pos : String} {af : Array Edge} {U : (Nat → Bool) → List Blk} {i : Nat}
theorem pu_vcall {f : FuncId} [hf : FnOk P f] {fo : Operand} {first captured : List PV} {args : Array Operand} {ats : Array TypeId} {us : List PV} {x : PV} (h : ∀ D, D i = false → GCall P f (first ++ us ++ captured) (U D) fun y T => y = x ∧ T = U (upd D i)) (k : PSUL P ops U Q (i + 1) rest ⟨n, (d, x) :: tm, S⟩)
    (hv : PS.get ⟨n, tm, S⟩ fo = .fn (.func f) first captured := by ((conv => lhs; whnf) <;> fail "no")) (ha : args.toList.map (PS.get ⟨n, tm, S⟩) = us := by first | rfl | (simp only [List.map_cons, List.map_nil, PS.get, look, ↓reduceIte, Nat.reduceEqDiff, reduceCtorEq]; exact rfl)) :
    PSUL P ops U Q i (⟨some d, .call ⟨.value fo, args, ats⟩, ty, pos, af, none⟩ :: rest) ⟨n, tm, S⟩ := by
  obtain ⟨fn, h1, h2, h3⟩ := hf.h
  exact psul_mk ⟨x, fun D hD => .call _ fo f fn first captured rfl rfl hv h1 h2 h3 (by rw [ha]; exact h D hD), k⟩
end
/-- Words, of which a relocation tells n. -/
def setF (W : List Int) (r : Int × Bool) (n : Int) : List Int :=
  if r.2 then (W.set (r.1 / 4).toNat (W.getD (r.1 / 4).toNat 0 / 65536 * 65536 + n % 65536)).set (r.1 / 4 + 1).toNat (W.getD (r.1 / 4 + 1).toNat 0 / 65536 * 65536 + n / 65536) else W.set (r.1 / 4).toNat n
def turnGo (by_ : Int) : List Int → List (Int × Bool) → List Int
  | W, [] => W
  | W, r :: R => turnGo by_ (setF W r ((toldF W r + by_) % 4294967296)) R
theorem setF_length (W : List Int) (r : Int × Bool) (n : Int) : (setF W r n).length = W.length := by unfold setF; split <;> simp
theorem setF_wd {W : List Int} (hW : Wd W) (r : Int × Bool) {n : Int} (h0 : 0 ≤ n) (h1 : n < 4294967296) : Wd (setF W r n) := by
  have g0 := hW.getD (r.1 / 4).toNat
  have g1 := hW.getD (r.1 / 4 + 1).toNat
  unfold setF
  split
  · exact (hW.set _ (by omega) (by omega)).set _ (by omega) (by omega)
  · exact hW.set _ h0 h1
theorem turnGo_length (b : Int) : ∀ (R : List (Int × Bool)) (W : List Int), (turnGo b W R).length = W.length
  | [], _ => rfl
  | r :: R, W => by rw [turnGo, turnGo_length b R, setF_length]
theorem turnGo_wd (b : Int) : ∀ (R : List (Int × Bool)) (W : List Int), Wd W → Wd (turnGo b W R)
  | [], _, h => h
  | r :: R, W, h => turnGo_wd b R _ (setF_wd h r (by omega) (by omega))
theorem turnGo_take (b : Int) (W : List Int) (R : List (Int × Bool)) (i : Nat) (r : Int × Bool) (h : R[i]? = some r) : turnGo b W (R.take (i + 1)) = setF (turnGo b W (R.take i)) r ((toldF (turnGo b W (R.take i)) r + b) % 4294967296) := by
  have key : ∀ (l : List (Int × Bool)) (W : List Int), turnGo b W (l ++ [r]) = setF (turnGo b W l) r ((toldF (turnGo b W l) r + b) % 4294967296) := by
    intro l
    induction l with
    | nil => intro W; rfl
    | cons q l ih => intro W; exact ih _
  obtain ⟨h1, h2⟩ := List.getElem?_eq_some_iff.1 h
  rw [List.take_succ_eq_append_getElem h1, h2]
  exact key _ W
theorem add_u32 (a b : Int) : IntKind.u32.wrap (a + b) = (a + b) % 4294967296 := wrap_u32m _
/-- What turns a number: it reads one of its caller's. -/
def Turns (f : FuncId) (B0 : Blk) (gb : Nat) (b : Int) : Prop := ∀ n, 0 ≤ n → n < 4294967296 → GCall Try.prog f [.v (.int .u32 n), .ptr 0 gb 0 0] [B0] fun x S' => x = .v (.int .u32 ((n + b) % 4294967296)) ∧ S' = [B0]
theorem load1 (gb : Nat) (base : Int) : Turns 51 ⟨gb, true, 1, [[.v (.int .u32 base)]]⟩ gb base := by
  intro n h0 h1
  have hw := add_u32 n base
  refine gcall_of_tr Try.func51 rfl [.tmp 3] Try.results51 7 rfl (tk_start ?_)
  (repeat' (first | refine ka ?_ | refine ksk ?_ | (refine kr ?_ ?_ ?_; first | refine pops_end ?_ | (refine ps_split (fun hb => ?_) (fun hb => ?_); (fail_if_success (guard_hyp hb : true = true)); (fail_if_success (guard_hyp hb : false = true)); all_goals (have hp := hb; (try simp only [decide_eq_true_eq, Bool.eq_false_iff, ne_eq, Bool.not_eq_true', Bool.not_eq_false', Bool.and_eq_true, Bool.or_eq_true, decide_true, decide_false, Bool.and_true, Bool.true_and, Bool.false_eq_true, not_false_eq_true, true_and, and_true] at hp); (try rw [hb]); (try clear hb))) | refine ps_alloc fun g => ?_ | refine ps_box fun g => ?_ | refine ps_store ?_ | refine ps_lit fun g => ?_ | refine pops_nil ?_ | skip) | (refine kd ?_ ?_ ?_; first | refine pstl_end ?_ | (refine pd_split (fun hb => ?_) (fun hb => ?_); (fail_if_success (guard_hyp hb : true = true)); (fail_if_success (guard_hyp hb : false = true)); all_goals (have hp := hb; (try simp only [decide_eq_true_eq, Bool.eq_false_iff, ne_eq, Bool.not_eq_true', Bool.not_eq_false', Bool.and_eq_true, Bool.or_eq_true, decide_true, decide_false, Bool.and_true, Bool.true_and, Bool.false_eq_true, not_false_eq_true, true_and, and_true] at hp); (try rw [hb]); (try clear hb))) | skip) | refine kct ?_ | refine kcf ?_ | (refine kcs (fun hb => ?_) (fun hb => ?_) <;> (have hp := hb; (try simp only [decide_eq_true_eq, Bool.eq_false_iff, ne_eq, Bool.not_eq_true', Bool.not_eq_false', Bool.and_eq_true, Bool.or_eq_true, decide_true, decide_false, Bool.and_true, Bool.true_and, Bool.false_eq_true, not_false_eq_true, true_and, and_true] at hp); (try rw [hb]); (try clear hb))) | (refine kret ?_; repeat (first | with_reducible refine beh_r ?_ | with_reducible refine blk_r ?_)) | refine kb ?_ | (refine ps_split (fun hb => ?_) (fun hb => ?_); (fail_if_success (guard_hyp hb : true = true)); (fail_if_success (guard_hyp hb : false = true)); all_goals (have hp := hb; (try simp only [decide_eq_true_eq, Bool.eq_false_iff, ne_eq, Bool.not_eq_true', Bool.not_eq_false', Bool.and_eq_true, Bool.or_eq_true, decide_true, decide_false, Bool.and_true, Bool.true_and, Bool.false_eq_true, not_false_eq_true, true_and, and_true] at hp); (try rw [hb]); (try clear hb))) | refine ps_alloc fun g => ?_ | refine ps_box fun g => ?_ | refine ps_store ?_ | refine ps_lit fun g => ?_ | refine pops_nil ?_ | (refine pd_split (fun hb => ?_) (fun hb => ?_); (fail_if_success (guard_hyp hb : true = true)); (fail_if_success (guard_hyp hb : false = true)); all_goals (have hp := hb; (try simp only [decide_eq_true_eq, Bool.eq_false_iff, ne_eq, Bool.not_eq_true', Bool.not_eq_false', Bool.and_eq_true, Bool.or_eq_true, decide_true, decide_false, Bool.and_true, Bool.true_and, Bool.false_eq_true, not_false_eq_true, true_and, and_true] at hp); (try rw [hb]); (try clear hb))) | (refine pops_go ?_ ?_ ?_; first | refine pops_end ?_ | (refine ps_split (fun hb => ?_) (fun hb => ?_); (fail_if_success (guard_hyp hb : true = true)); (fail_if_success (guard_hyp hb : false = true)); all_goals (have hp := hb; (try simp only [decide_eq_true_eq, Bool.eq_false_iff, ne_eq, Bool.not_eq_true', Bool.not_eq_false', Bool.and_eq_true, Bool.or_eq_true, decide_true, decide_false, Bool.and_true, Bool.true_and, Bool.false_eq_true, not_false_eq_true, true_and, and_true] at hp); (try rw [hb]); (try clear hb))) | refine ps_alloc fun g => ?_ | refine ps_box fun g => ?_ | refine ps_store ?_ | refine ps_lit fun g => ?_ | refine pops_nil ?_) | (refine pstl_go ?_ ?_ ?_; first | refine pstl_end ?_ | (refine pd_split (fun hb => ?_) (fun hb => ?_); (fail_if_success (guard_hyp hb : true = true)); (fail_if_success (guard_hyp hb : false = true)); all_goals (have hp := hb; (try simp only [decide_eq_true_eq, Bool.eq_false_iff, ne_eq, Bool.not_eq_true', Bool.not_eq_false', Bool.and_eq_true, Bool.or_eq_true, decide_true, decide_false, Bool.and_true, Bool.true_and, Bool.false_eq_true, not_false_eq_true, true_and, and_true] at hp); (try rw [hb]); (try clear hb)))) | (refine kn ?_; repeat (first | with_reducible refine blk_n ?_ | with_reducible refine beh_n ?_)) | (refine kx ?_; (repeat (first | with_reducible refine beh_x ?_ | with_reducible refine blk_up rfl ?_)); refine blk_here ?_; refine beh_n ?_)))
  refine ends_ret ?_ retPV_one
  exact ⟨rfl, rfl⟩
theorem link2 (gb : Nat) (at_ : Int) : Turns 60 ⟨gb, true, 1, [[.v (.int .i64 at_)]]⟩ gb at_ := by
  intro n h0 h1
  have hw1 : IntKind.u32.wrap at_ = at_ % 4294967296 := wrap_u32m _
  have hw : IntKind.u32.wrap (n + at_ % 4294967296) = (n + at_) % 4294967296 := by rw [wrap_u32m]; omega
  refine gcall_of_tr Try.func60 rfl [.tmp 3] Try.results60 8 rfl (tk_start ?_)
  (repeat' (first | refine ka ?_ | refine ksk ?_ | (refine kr ?_ ?_ ?_; first | refine pops_end ?_ | (refine ps_split (fun hb => ?_) (fun hb => ?_); (fail_if_success (guard_hyp hb : true = true)); (fail_if_success (guard_hyp hb : false = true)); all_goals (have hp := hb; (try simp only [decide_eq_true_eq, Bool.eq_false_iff, ne_eq, Bool.not_eq_true', Bool.not_eq_false', Bool.and_eq_true, Bool.or_eq_true, decide_true, decide_false, Bool.and_true, Bool.true_and, Bool.false_eq_true, not_false_eq_true, true_and, and_true] at hp); (try rw [hb]); (try clear hb))) | refine ps_alloc fun g => ?_ | refine ps_box fun g => ?_ | refine ps_store ?_ | refine ps_lit fun g => ?_ | refine pops_nil ?_ | skip) | (refine kd ?_ ?_ ?_; first | refine pstl_end ?_ | (refine pd_split (fun hb => ?_) (fun hb => ?_); (fail_if_success (guard_hyp hb : true = true)); (fail_if_success (guard_hyp hb : false = true)); all_goals (have hp := hb; (try simp only [decide_eq_true_eq, Bool.eq_false_iff, ne_eq, Bool.not_eq_true', Bool.not_eq_false', Bool.and_eq_true, Bool.or_eq_true, decide_true, decide_false, Bool.and_true, Bool.true_and, Bool.false_eq_true, not_false_eq_true, true_and, and_true] at hp); (try rw [hb]); (try clear hb))) | skip) | refine kct ?_ | refine kcf ?_ | (refine kcs (fun hb => ?_) (fun hb => ?_) <;> (have hp := hb; (try simp only [decide_eq_true_eq, Bool.eq_false_iff, ne_eq, Bool.not_eq_true', Bool.not_eq_false', Bool.and_eq_true, Bool.or_eq_true, decide_true, decide_false, Bool.and_true, Bool.true_and, Bool.false_eq_true, not_false_eq_true, true_and, and_true] at hp); (try rw [hb]); (try clear hb))) | (refine kret ?_; repeat (first | with_reducible refine beh_r ?_ | with_reducible refine blk_r ?_)) | refine kb ?_ | (refine ps_split (fun hb => ?_) (fun hb => ?_); (fail_if_success (guard_hyp hb : true = true)); (fail_if_success (guard_hyp hb : false = true)); all_goals (have hp := hb; (try simp only [decide_eq_true_eq, Bool.eq_false_iff, ne_eq, Bool.not_eq_true', Bool.not_eq_false', Bool.and_eq_true, Bool.or_eq_true, decide_true, decide_false, Bool.and_true, Bool.true_and, Bool.false_eq_true, not_false_eq_true, true_and, and_true] at hp); (try rw [hb]); (try clear hb))) | refine ps_alloc fun g => ?_ | refine ps_box fun g => ?_ | refine ps_store ?_ | refine ps_lit fun g => ?_ | refine pops_nil ?_ | (refine pd_split (fun hb => ?_) (fun hb => ?_); (fail_if_success (guard_hyp hb : true = true)); (fail_if_success (guard_hyp hb : false = true)); all_goals (have hp := hb; (try simp only [decide_eq_true_eq, Bool.eq_false_iff, ne_eq, Bool.not_eq_true', Bool.not_eq_false', Bool.and_eq_true, Bool.or_eq_true, decide_true, decide_false, Bool.and_true, Bool.true_and, Bool.false_eq_true, not_false_eq_true, true_and, and_true] at hp); (try rw [hb]); (try clear hb))) | (refine pops_go ?_ ?_ ?_; first | refine pops_end ?_ | (refine ps_split (fun hb => ?_) (fun hb => ?_); (fail_if_success (guard_hyp hb : true = true)); (fail_if_success (guard_hyp hb : false = true)); all_goals (have hp := hb; (try simp only [decide_eq_true_eq, Bool.eq_false_iff, ne_eq, Bool.not_eq_true', Bool.not_eq_false', Bool.and_eq_true, Bool.or_eq_true, decide_true, decide_false, Bool.and_true, Bool.true_and, Bool.false_eq_true, not_false_eq_true, true_and, and_true] at hp); (try rw [hb]); (try clear hb))) | refine ps_alloc fun g => ?_ | refine ps_box fun g => ?_ | refine ps_store ?_ | refine ps_lit fun g => ?_ | refine pops_nil ?_) | (refine pstl_go ?_ ?_ ?_; first | refine pstl_end ?_ | (refine pd_split (fun hb => ?_) (fun hb => ?_); (fail_if_success (guard_hyp hb : true = true)); (fail_if_success (guard_hyp hb : false = true)); all_goals (have hp := hb; (try simp only [decide_eq_true_eq, Bool.eq_false_iff, ne_eq, Bool.not_eq_true', Bool.not_eq_false', Bool.and_eq_true, Bool.or_eq_true, decide_true, decide_false, Bool.and_true, Bool.true_and, Bool.false_eq_true, not_false_eq_true, true_and, and_true] at hp); (try rw [hb]); (try clear hb)))) | (refine kn ?_; repeat (first | with_reducible refine blk_n ?_ | with_reducible refine beh_n ?_)) | (refine kx ?_; (repeat (first | with_reducible refine beh_x ?_ | with_reducible refine blk_up rfl ?_)); refine blk_here ?_; refine beh_n ?_)))
  refine ends_ret ?_ retPV_one
  exact ⟨rfl, rfl⟩
theorem lk_turned (c : Cd) (hc : c.ok) (hin : ∀ r ∈ c.R, RelIn c.W r) (f : FuncId) [hf : FnOk Try.prog f] (B0 : Blk) (gb : Nat) (hg : B0.gen = gb) (b : Int) (hren : ∀ e, renB e B0 = B0) (ht : Turns f B0 gb b) :
    GCall Try.prog 50 [c.pv, .fn (.func f) [] [.ptr 0 gb 0 0]] [B0] fun x S' => ∃ B1 g, x = .vw 2 g 0 c.W.length ∧ S' = [B0, B1, ⟨g, true, 1, ints .u32 (turnGo b c.W c.R)⟩] := by
  obtain ⟨W, R⟩ := c
  obtain ⟨hW, hn, hm, hRR⟩ := hc
  have hrl := relRows_length R
  dsimp only at *
  refine gcall_drop ?_
  refine gcall_of_tr Try.func50 rfl [.tmp 4] Try.results50 66 rfl (tk_start ?_)
  unfold Cd.pv Cd.row
  dsimp only
  (repeat refine ka ?_); refine kr ?_ ?_ ?_
  refine ps_box fun g0 => ?_
  refine pops_go ?_ ?_ (pops_end ?_)
  (repeat refine ka ?_); refine kr ?_ ?_ ?_
  refine ps_make W.length (hl := rfl) fun g1 => ?_
  refine pops_go ?_ ?_ (pops_end ?_)
  (repeat refine ka ?_); refine kr ?_ ?_ ?_
  have hcp : (List.replicate W.length [PV.v (.int .u32 0)]).take 0 ++ (ints .u32 W).take W.length ++ (List.replicate W.length [PV.v (.int .u32 0)]).drop (0 + W.length) = ints .u32 W := by
    have h1 : (ints .u32 W).take W.length = ints .u32 W := by rw [← ints_length .u32 W, List.take_length]
    rw [List.take_zero, List.nil_append, h1, Nat.zero_add, List.drop_eq_nil_of_le (by simp), List.append_nil]
  refine ps_copy (m := W.length) (rows := ints .u32 W) (S' := [B0, ⟨g0, true, 2, [[.ro 1 false (ints .u32 W), .ro 2 false (relRows R)]]⟩, ⟨g1, true, 1, ints .u32 W⟩]) (k := ?_) (hsrc := rfl) (hm := by rw [ints_length]; omega) (hS := by simp only [List.set_cons_zero, List.set_cons_succ, hcp])
  refine pops_nil ?_
  (repeat refine ka ?_); refine kr ?_ ?_ (pops_end ?_)
  (repeat refine ka ?_); refine kb ?_
  refine kw (fun i : Nat => [(1, .fn (.func f) [] [.ptr 0 gb 0 0]), (2, .ptr 1 g0 0 0), (5, .vw 2 g1 0 W.length), (19, .ro 2 false (relRows R)), (20, .v (.int .i64 R.length)), (21, .v (.int .i64 i))]) (fun i => [B0, ⟨g0, true, 2, [[.ro 1 false (ints .u32 W), .ro 2 false (relRows R)]]⟩, ⟨g1, true, 1, ints .u32 (turnGo b W (R.take i))⟩])
    (fun i => i ≤ R.length) (fun i => R.length - i) 0 (by omega) (holds 3 (by repeat (first | exact .nil | refine has1 ?_))) ?_
  intro i hi
  have htl := turnGo_length b (R.take i) W
  have htw := turnGo_wd b (R.take i) W hW
  by_cases h : i < R.length
  · obtain ⟨r, hr⟩ : ∃ r, R[i]? = some r := ⟨R[i], by simp [h]⟩
    have hrow := relRows_get hr
    have hts := turnGo_take b W R i r hr
    generalize turnGo b W (R.take i) = V at *
    have hri : RelIn V r := by
      have := hin r (List.mem_of_getElem? hr)
      unfold RelIn at *
      rw [htl]; exact this
    have c1 := lk_told V htw (by omega) r hri false
    have hto := told_in htw r
    have c2 := ht (toldF V r) hto.1 hto.2
    have hr0 : 0 ≤ r.1 ∧ r.1 / 4 < V.length := ⟨hri.1, by have := hri.2; split at this <;> omega⟩
    (repeat refine ka ?_); refine kr ?_ ?_ (pops_end ?_)
    (repeat refine ka ?_); refine kct ?_
    (repeat refine ka ?_); refine ksk ?_
    (repeat refine ka ?_); refine kb ?_
    (repeat refine ka ?_); refine kr ?_ ?_ ?_
    refine ps_alloc fun g2 => ?_
    refine ps_store ?_
    refine pops_nil ?_
    (repeat refine ka ?_)
    refine kdu (fun _ => [B0, ⟨g0, true, 2, [[.ro 1 false (ints .u32 W), .ro 2 false (relRows R)]]⟩, ⟨g1, true, 1, ints .u32 V⟩, ⟨g2, true, 2, [[.v (.int .i64 r.1), .v (.bool r.2)]]⟩]) ?_
    (repeat (first | refine pu_ev _ ?_ | refine pu_ev_g _ ?_))
    have hl1 := lend_ints (S := [B0, ⟨g0, true, 2, [[.ro 1 false (ints .u32 W), .ro 2 false (relRows R)]]⟩, ⟨g1, true, 1, ints .u32 V⟩, ⟨g2, true, 2, [[.v (.int .i64 r.1), .v (.bool r.2)]]⟩]) (T := [2]) (τ := 2) (.head _) rfl rfl htl
    have hl2 := Lends.cons hl1 (Lends.cons (.same (by exact PureC.h (x := .agg [.v (.int .i64 r.1), .v (.bool r.2)]))) Lends.nil)
    refine pu_gcall (fun D hD => c1.lent [2] hl2.get.1 hl2.get.2 (.inl (.v _))) ?_
    (repeat (first | refine pu_ev _ ?_ | refine pu_ev_g _ ?_))
    refine pu_vcall (first := []) (captured := [.ptr 0 gb 0 0]) (us := [.v (.int .u32 (toldF V r))]) (fun D hD => gcall_at [0] c2 (by rintro x S' ⟨rfl, rfl⟩; simp only [List.map_cons, List.map_nil, hren, putB, List.set_cons_zero, ren, List.append_nil]; (repeat' constructor)) (by rintro x S' ⟨rfl, rfl⟩; exact Nat.le_refl _) (hS := by simp only [List.map_cons, List.map_nil, hren]; rfl)) ?_
    (repeat (first | refine pu_ev _ ?_ | refine pu_ev_g _ ?_))
    refine pu_end ?_
    generalize hn2 : (toldF V r + b) % 4294967296 = m at *
    have hm0 : 0 ≤ m ∧ m < 4294967296 := by omega
    obtain ⟨a, p⟩ := r
    obtain ⟨r0, r1⟩ := hri
    have g0' := htw.getD (0 + (a / 4).toNat)
    have g1' := htw.getD (0 + (a / 4 + 1).toNat)
    dsimp only at *
    clear hr0
    unfold setF at hts
    dsimp only at hts
    cases p with
    | false =>
      simp only [Bool.false_eq_true, if_false] at hts r1
      (repeat refine ka ?_); refine kr ?_ ?_ (pops_end ?_)
      (repeat refine ka ?_); refine kct ?_
      (repeat refine ka ?_); refine kr ?_ ?_ ?_
      refine ps_seti ?_
      refine pops_nil ?_
      rw [Nat.zero_add, ← hts]
      (repeat refine ka ?_); refine kx ?_; (repeat (first | with_reducible refine beh_x ?_ | with_reducible refine blk_up rfl ?_)); refine blk_here ?_; refine beh_n ?_
      (repeat refine ka ?_); refine kr ?_ ?_ (pops_end ?_)
      refine kn ?_; repeat (first | with_reducible refine blk_n ?_ | with_reducible refine beh_n ?_)
      exact ⟨i + 1, by omega, by omega, (holds 3 (by repeat (first | exact .nil | refine has1 ?_)))⟩
    | true =>
      simp only [if_true] at hts r1
      have hb1 := and16_u32 m
      have hb2 := andn16_u32 (V.getD (0 + (a / 4).toNat) 0) g0'.1 g0'.2
      have hb3 : Go.bits .or .u32 (V.getD (0 + (a / 4).toNat) 0 / 65536 * 65536) (m % 65536) = V.getD (0 + (a / 4).toNat) 0 / 65536 * 65536 + m % 65536 :=
        or_add_u32 16 (V.getD (0 + (a / 4).toNat) 0 / 65536) (m % 65536) (by omega) (by rw [show ((2 : Int) ^ 16) = 65536 from rfl]; omega) (by omega) (by rw [show ((2 : Int) ^ 16) = 65536 from rfl]; omega)
      obtain ⟨V1, hV1⟩ : ∃ V1, V1 = V.set (0 + (a / 4).toNat) (V.getD (0 + (a / 4).toNat) 0 / 65536 * 65536 + m % 65536) := ⟨_, rfl⟩
      have hV1l : V1.length = V.length := by rw [hV1, List.length_set]
      have hge : V1.getD (0 + (a / 4 + 1).toNat) 0 = V.getD (0 + (a / 4 + 1).toNat) 0 := by
        rw [hV1, List.getD_eq_getElem?_getD, List.getElem?_set_ne (by omega), ← List.getD_eq_getElem?_getD]
      rw [← hge] at g1'
      have hb4 := andn16_u32 (V1.getD (0 + (a / 4 + 1).toNat) 0) g1'.1 g1'.2
      have hb5 : Go.bits .or .u32 (V1.getD (0 + (a / 4 + 1).toNat) 0 / 65536 * 65536) (m / 65536) = V1.getD (0 + (a / 4 + 1).toNat) 0 / 65536 * 65536 + m / 65536 :=
        or_add_u32 16 (V1.getD (0 + (a / 4 + 1).toNat) 0 / 65536) (m / 65536) (by omega) (by rw [show ((2 : Int) ^ 16) = 65536 from rfl]; omega) (by omega) (by rw [show ((2 : Int) ^ 16) = 65536 from rfl]; omega)
      (repeat refine ka ?_); refine kr ?_ ?_ (pops_end ?_)
      (repeat refine ka ?_); refine kcf ?_
      (repeat refine ka ?_); refine ksk ?_
      (repeat refine ka ?_); refine kr ?_ ?_ ?_
      refine ps_seti ?_
      refine pops_nil ?_
      rw [← hV1]
      (repeat refine ka ?_); refine kr ?_ ?_ ?_
      refine ps_seti ?_
      refine pops_nil ?_
      have hfin : V1.set (0 + (a / 4 + 1).toNat) (V1.getD (0 + (a / 4 + 1).toNat) 0 / 65536 * 65536 + m / 65536) = turnGo b W (R.take (i + 1)) := by
        rw [hge, hV1, hts, Nat.zero_add, Nat.zero_add]
      rw [hfin]
      refine kn ?_; repeat (first | with_reducible refine blk_n ?_ | with_reducible refine beh_n ?_)
      (repeat refine ka ?_); refine kr ?_ ?_ (pops_end ?_)
      refine kn ?_; repeat (first | with_reducible refine blk_n ?_ | with_reducible refine beh_n ?_)
      exact ⟨i + 1, by omega, by omega, (holds 3 (by repeat (first | exact .nil | refine has1 ?_)))⟩
  · obtain rfl : i = R.length := by omega
    rw [List.take_length]
    (repeat refine ka ?_); refine kr ?_ ?_ (pops_end ?_)
    (repeat refine ka ?_); refine kcf ?_
    (repeat refine ka ?_); refine kx ?_; (repeat (first | with_reducible refine beh_x ?_ | with_reducible refine blk_up rfl ?_)); refine blk_here ?_; refine beh_n ?_
    (repeat refine ka ?_); refine kr ?_ ?_ (pops_end ?_)
    (repeat refine ka ?_); refine kret ?_; repeat (first | with_reducible refine beh_r ?_ | with_reducible refine blk_r ?_)
    refine ends_ret ?_ retPV_one
    exact ⟨3, _, g1, rfl, rfl⟩
end Go.Proofs.Ytjbbomchmacdjaa.Pv
