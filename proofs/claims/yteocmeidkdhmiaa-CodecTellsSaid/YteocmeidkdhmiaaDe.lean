-- delta: through, Put, Back; carapaceref03: Put, Back.
import Derived.Test.YteocmeidkdhmiaaCl
namespace Go.Proofs.Yteocmeidkdhmiaa.Pv
set_option linter.all false
open Go.RowKit Go.Proofs
set_option maxRecDepth 100000
set_option maxHeartbeats 4000000
section
variable {P : Program} {ops : List Oper} {Q : PS → Prop} {rest : List Oper} {n : Nat} {tm : List (Nat × PV)} {S : List Blk} {d : Tmp} {ty : TypeId} {pos : String} {af : Array Edge}
/-- In a region that draws its order: a call of a function value. -/
theorem pd_vcall {f : FuncId} [hf : FnOk P f] {fo : Operand} {first captured : List PV} {args : Array Operand} {ats : Array TypeId} {us : List PV} {r : PV} (h : PCall P f (first ++ us ++ captured) r) (k : PStL P ops Q rest ⟨n, (d, r) :: tm, S⟩) (hv : PS.get ⟨n, tm, S⟩ fo = .fn (.func f) first captured := by ((conv => lhs; whnf) <;> fail "no")) (ha : args.toList.map (PS.get ⟨n, tm, S⟩) = us := by first | rfl | (simp only [List.map_cons, List.map_nil, PS.get, look, ↓reduceIte, Nat.reduceEqDiff, reduceCtorEq]; exact rfl)) :
    PStL P ops Q (⟨some d, .call ⟨.value fo, args, ats⟩, ty, pos, af, none⟩ :: rest) ⟨n, tm, S⟩ := by
  obtain ⟨fn, h1, h2, h3⟩ := hf.h
  refine ⟨r, ?_, k⟩
  unfold GSt
  exact .call _ _ f fn first captured rfl rfl hv h1 h2 h3 (by rw [ha]; exact h)
end
instance fnPureG (f : Fn) (a b : List PV) [ha : PureL a] [hb : PureL b] : PureC (.fn f a b) := ⟨.fn ha.h hb.h⟩
/-- Values made one by one, the rest as it was. -/
def mix (b : List Int) (G : List Int) : List Int := G ++ b.drop G.length
theorem mix_length {b G : List Int} (h : G.length ≤ b.length) : (mix b G).length = b.length := by simp [mix]; omega
theorem mix_nil (b : List Int) : mix b [] = b := by simp [mix]
theorem mix_all {b G : List Int} (h : G.length = b.length) : mix b G = G := by simp [mix, h]
theorem mix_set {b G : List Int} {v : Int} (h : G.length < b.length) : (mix b G).set G.length v = mix b (G ++ [v]) := by
  obtain ⟨x, hx⟩ : ∃ x, b[G.length]? = some x := ⟨b[G.length], by simp [h]⟩
  have hd : b.drop G.length = x :: b.drop (G.length + 1) := by
    obtain ⟨h1, h2⟩ := List.getElem?_eq_some_iff.1 hx
    rw [List.drop_eq_getElem_cons h1, h2]
  simp only [mix, hd, List.length_append, List.length_cons, List.length_nil]
  rw [List.set_append_right _ _ (Nat.le_refl _), Nat.sub_self]
  simp
theorem mix_same {b G : List Int} (h : G.length < b.length) : mix b G = mix b (G ++ [b.getD G.length 0]) := by
  obtain ⟨x, hx⟩ : ∃ x, b[G.length]? = some x := ⟨b[G.length], by simp [h]⟩
  have hd : b.drop G.length = x :: b.drop (G.length + 1) := by
    obtain ⟨h1, h2⟩ := List.getElem?_eq_some_iff.1 hx
    rw [List.drop_eq_getElem_cons h1, h2]
  simp only [mix, hd, List.length_append, List.length_cons, List.length_nil, List.getD_eq_getElem?_getD, hx]
  simp
theorem mix_get {b G : List Int} {i : Nat} (h : i < G.length) : (mix b G).getD i 0 = G.getD i 0 := by
  simp [mix, List.getD_eq_getElem?_getD, List.getElem?_append_left h]
theorem mix_take {b : List Int} {k : Nat} (h : k ≤ b.length) : mix b (b.take k) = b := by
  simp [mix, Nat.min_eq_left h]
def dPut (b : List Int) (k : Nat) : Nat → List Int
  | 0 => []
  | i + 1 => dPut b k i ++ [if i < k then b.getD i 0 else (b.getD i 0 - b.getD (i - k) 0) % 256]
def dBack (b : List Int) (k : Nat) : Nat → List Int
  | 0 => []
  | i + 1 => dBack b k i ++ [if i < k then b.getD i 0 else (b.getD i 0 + (dBack b k i).getD (i - k) 0) % 256]
theorem dPut_length (b : List Int) (k : Nat) : ∀ i, (dPut b k i).length = i
  | 0 => rfl
  | i + 1 => by simp [dPut, dPut_length b k i]
theorem dBack_length (b : List Int) (k : Nat) : ∀ i, (dBack b k i).length = i
  | 0 => rfl
  | i + 1 => by simp [dBack, dBack_length b k i]
theorem take_getD (b : List Int) {i : Nat} (h : i < b.length) : b.take (i + 1) = b.take i ++ [b.getD i 0] := by
  rw [List.take_succ_eq_append_getElem h, List.getD_eq_getElem?_getD, List.getElem?_eq_getElem h]
  rfl
theorem dPut_low (b : List Int) (k : Nat) : ∀ i, i ≤ k → i ≤ b.length → dPut b k i = b.take i
  | 0, _, _ => by simp [dPut]
  | i + 1, h, hl => by
    rw [dPut, dPut_low b k i (by omega) (by omega), if_pos (by omega), take_getD b (by omega)]
theorem dBack_low (b : List Int) (k : Nat) : ∀ i, i ≤ k → i ≤ b.length → dBack b k i = b.take i
  | 0, _, _ => by simp [dBack]
  | i + 1, h, hl => by
    rw [dBack, dBack_low b k i (by omega) (by omega), if_pos (by omega), take_getD b (by omega)]
def deltaP (b : List Int) (n : Int) : List Int := if 1 ≤ n ∧ n ≤ 255 then dPut b n.toNat b.length else b
def deltaB (b : List Int) (n : Int) : List Int := if 1 ≤ n ∧ n ≤ 255 then dBack b n.toNat b.length else b
theorem deltaP_length (b : List Int) (n : Int) : (deltaP b n).length = b.length := by
  unfold deltaP
  split
  · exact dPut_length _ _ _
  · rfl
theorem deltaB_length (b : List Int) (n : Int) : (deltaB b n).length = b.length := by
  unfold deltaB
  split
  · exact dBack_length _ _ _
  · rfl
theorem oct_getD {l : List Int} (h : Oct l) (i : Nat) : 0 ≤ l.getD i 0 ∧ l.getD i 0 < 256 := by
  rw [List.getD_eq_getElem?_getD]
  cases hx : l[i]? with
  | none => simp
  | some x => exact h x (List.mem_of_getElem? hx)
theorem dPut_oct {b : List Int} (h : Oct b) (k : Nat) : ∀ i, Oct (dPut b k i)
  | 0 => by intro x hx; cases hx
  | i + 1 => by
    intro x hx
    rcases List.mem_append.1 hx with hx | hx
    · exact dPut_oct h k i x hx
    · simp only [List.mem_singleton] at hx
      subst hx
      split
      · exact oct_getD h i
      · omega
theorem dBack_oct {b : List Int} (h : Oct b) (k : Nat) : ∀ i, Oct (dBack b k i)
  | 0 => by intro x hx; cases hx
  | i + 1 => by
    intro x hx
    rcases List.mem_append.1 hx with hx | hx
    · exact dBack_oct h k i x hx
    · simp only [List.mem_singleton] at hx
      subst hx
      split
      · exact oct_getD h i
      · omega
theorem deltaP_oct {b : List Int} (h : Oct b) (n : Int) : Oct (deltaP b n) := by
  unfold deltaP
  split
  · exact dPut_oct h _ _
  · exact h
theorem deltaB_oct {b : List Int} (h : Oct b) (n : Int) : Oct (deltaB b n) := by
  unfold deltaB
  split
  · exact dBack_oct h _ _
  · exact h
theorem dPut_get (b : List Int) (k : Nat) : ∀ (m i : Nat), i < m → (dPut b k m).getD i 0 = if i < k then b.getD i 0 else (b.getD i 0 - b.getD (i - k) 0) % 256
  | 0, i, h => by omega
  | m + 1, i, h => by
    rcases Nat.lt_or_ge i m with hi | hi
    · rw [dPut, List.getD_eq_getElem?_getD, List.getElem?_append_left (by rw [dPut_length]; exact hi), ← List.getD_eq_getElem?_getD, dPut_get b k m i hi]
    · obtain rfl : i = m := by omega
      rw [dPut, List.getD_eq_getElem?_getD, List.getElem?_append_right (by rw [dPut_length]; exact Nat.le_refl _), dPut_length, Nat.sub_self]
      rfl
theorem delta_back {b : List Int} (h : Oct b) (n : Int) : deltaB (deltaP b n) n = b := by
  unfold deltaB deltaP
  split
  · rename_i hn
    rw [dPut_length]
    have key : ∀ i, i ≤ b.length → dBack (dPut b n.toNat b.length) n.toNat i = b.take i := by
      intro i
      induction i with
      | zero => intro _; simp [dBack]
      | succ i ih =>
        intro hi
        rw [dBack, ih (by omega), take_getD b (by omega), dPut_get b n.toNat b.length i (by omega)]
        congr 2
        by_cases hk : i < n.toNat
        · rw [if_pos hk, if_pos hk]
        · rw [if_neg hk, if_neg hk]
          have e : (b.take i).getD (i - n.toNat) 0 = b.getD (i - n.toNat) 0 := by
            rw [List.getD_eq_getElem?_getD, List.getElem?_take, if_pos (by omega), ← List.getD_eq_getElem?_getD]
          rw [e]
          have h1 := oct_getD h i
          have h2 := oct_getD h (i - n.toNat)
          omega
    rw [key b.length (Nat.le_refl _), List.take_length]
  · rfl
theorem put1_ok (x y : Int) : PCall Try.prog 53 [.v (.int .u8 x), .v (.int .u8 y)] (.v (.int .u8 ((x - y) % 256))) := by
  have hw : IntKind.u8.wrap (x - y) = (x - y) % 256 := wrap_u8m _
  refine pcall_mk Try.func53 rfl [.tmp 4] Try.results53 8 rfl (tk_start ?_)
  (repeat' (first | refine ka ?_ | refine ksk ?_ | (refine kr ?_ ?_ ?_; first | refine pops_end ?_ | (refine ps_split (fun hb => ?_) (fun hb => ?_); (fail_if_success (guard_hyp hb : true = true)); (fail_if_success (guard_hyp hb : false = true)); all_goals (have hp := hb; (try simp only [decide_eq_true_eq, Bool.eq_false_iff, ne_eq, Bool.not_eq_true', Bool.not_eq_false', Bool.and_eq_true, Bool.or_eq_true, decide_true, decide_false, Bool.and_true, Bool.true_and, Bool.false_eq_true, not_false_eq_true, true_and, and_true] at hp); (try rw [hb]); (try clear hb))) | refine ps_alloc fun g => ?_ | refine ps_box fun g => ?_ | refine ps_store ?_ | refine ps_lit fun g => ?_ | refine pops_nil ?_ | skip) | (refine kd ?_ ?_ ?_; first | refine pstl_end ?_ | (refine pd_split (fun hb => ?_) (fun hb => ?_); (fail_if_success (guard_hyp hb : true = true)); (fail_if_success (guard_hyp hb : false = true)); all_goals (have hp := hb; (try simp only [decide_eq_true_eq, Bool.eq_false_iff, ne_eq, Bool.not_eq_true', Bool.not_eq_false', Bool.and_eq_true, Bool.or_eq_true, decide_true, decide_false, Bool.and_true, Bool.true_and, Bool.false_eq_true, not_false_eq_true, true_and, and_true] at hp); (try rw [hb]); (try clear hb))) | skip) | refine kct ?_ | refine kcf ?_ | (refine kcs (fun hb => ?_) (fun hb => ?_) <;> (have hp := hb; (try simp only [decide_eq_true_eq, Bool.eq_false_iff, ne_eq, Bool.not_eq_true', Bool.not_eq_false', Bool.and_eq_true, Bool.or_eq_true, decide_true, decide_false, Bool.and_true, Bool.true_and, Bool.false_eq_true, not_false_eq_true, true_and, and_true] at hp); (try rw [hb]); (try clear hb))) | (refine kret ?_; repeat (first | with_reducible refine beh_r ?_ | with_reducible refine blk_r ?_)) | refine kb ?_ | (refine ps_split (fun hb => ?_) (fun hb => ?_); (fail_if_success (guard_hyp hb : true = true)); (fail_if_success (guard_hyp hb : false = true)); all_goals (have hp := hb; (try simp only [decide_eq_true_eq, Bool.eq_false_iff, ne_eq, Bool.not_eq_true', Bool.not_eq_false', Bool.and_eq_true, Bool.or_eq_true, decide_true, decide_false, Bool.and_true, Bool.true_and, Bool.false_eq_true, not_false_eq_true, true_and, and_true] at hp); (try rw [hb]); (try clear hb))) | refine ps_alloc fun g => ?_ | refine ps_box fun g => ?_ | refine ps_store ?_ | refine ps_lit fun g => ?_ | refine pops_nil ?_ | (refine pd_split (fun hb => ?_) (fun hb => ?_); (fail_if_success (guard_hyp hb : true = true)); (fail_if_success (guard_hyp hb : false = true)); all_goals (have hp := hb; (try simp only [decide_eq_true_eq, Bool.eq_false_iff, ne_eq, Bool.not_eq_true', Bool.not_eq_false', Bool.and_eq_true, Bool.or_eq_true, decide_true, decide_false, Bool.and_true, Bool.true_and, Bool.false_eq_true, not_false_eq_true, true_and, and_true] at hp); (try rw [hb]); (try clear hb))) | (refine pops_go ?_ ?_ ?_; first | refine pops_end ?_ | (refine ps_split (fun hb => ?_) (fun hb => ?_); (fail_if_success (guard_hyp hb : true = true)); (fail_if_success (guard_hyp hb : false = true)); all_goals (have hp := hb; (try simp only [decide_eq_true_eq, Bool.eq_false_iff, ne_eq, Bool.not_eq_true', Bool.not_eq_false', Bool.and_eq_true, Bool.or_eq_true, decide_true, decide_false, Bool.and_true, Bool.true_and, Bool.false_eq_true, not_false_eq_true, true_and, and_true] at hp); (try rw [hb]); (try clear hb))) | refine ps_alloc fun g => ?_ | refine ps_box fun g => ?_ | refine ps_store ?_ | refine ps_lit fun g => ?_ | refine pops_nil ?_) | (refine pstl_go ?_ ?_ ?_; first | refine pstl_end ?_ | (refine pd_split (fun hb => ?_) (fun hb => ?_); (fail_if_success (guard_hyp hb : true = true)); (fail_if_success (guard_hyp hb : false = true)); all_goals (have hp := hb; (try simp only [decide_eq_true_eq, Bool.eq_false_iff, ne_eq, Bool.not_eq_true', Bool.not_eq_false', Bool.and_eq_true, Bool.or_eq_true, decide_true, decide_false, Bool.and_true, Bool.true_and, Bool.false_eq_true, not_false_eq_true, true_and, and_true] at hp); (try rw [hb]); (try clear hb)))) | (refine kn ?_; repeat (first | with_reducible refine blk_n ?_ | with_reducible refine beh_n ?_)) | (refine kx ?_; (repeat (first | with_reducible refine beh_x ?_ | with_reducible refine blk_up rfl ?_)); refine blk_here ?_; refine beh_n ?_)))
  refine ends_ret ?_ retPV_one
  rfl
theorem back1_ok (x y : Int) : PCall Try.prog 54 [.v (.int .u8 x), .v (.int .u8 y)] (.v (.int .u8 ((x + y) % 256))) := by
  have hw : IntKind.u8.wrap (x + y) = (x + y) % 256 := wrap_u8m _
  refine pcall_mk Try.func54 rfl [.tmp 4] Try.results54 8 rfl (tk_start ?_)
  (repeat' (first | refine ka ?_ | refine ksk ?_ | (refine kr ?_ ?_ ?_; first | refine pops_end ?_ | (refine ps_split (fun hb => ?_) (fun hb => ?_); (fail_if_success (guard_hyp hb : true = true)); (fail_if_success (guard_hyp hb : false = true)); all_goals (have hp := hb; (try simp only [decide_eq_true_eq, Bool.eq_false_iff, ne_eq, Bool.not_eq_true', Bool.not_eq_false', Bool.and_eq_true, Bool.or_eq_true, decide_true, decide_false, Bool.and_true, Bool.true_and, Bool.false_eq_true, not_false_eq_true, true_and, and_true] at hp); (try rw [hb]); (try clear hb))) | refine ps_alloc fun g => ?_ | refine ps_box fun g => ?_ | refine ps_store ?_ | refine ps_lit fun g => ?_ | refine pops_nil ?_ | skip) | (refine kd ?_ ?_ ?_; first | refine pstl_end ?_ | (refine pd_split (fun hb => ?_) (fun hb => ?_); (fail_if_success (guard_hyp hb : true = true)); (fail_if_success (guard_hyp hb : false = true)); all_goals (have hp := hb; (try simp only [decide_eq_true_eq, Bool.eq_false_iff, ne_eq, Bool.not_eq_true', Bool.not_eq_false', Bool.and_eq_true, Bool.or_eq_true, decide_true, decide_false, Bool.and_true, Bool.true_and, Bool.false_eq_true, not_false_eq_true, true_and, and_true] at hp); (try rw [hb]); (try clear hb))) | skip) | refine kct ?_ | refine kcf ?_ | (refine kcs (fun hb => ?_) (fun hb => ?_) <;> (have hp := hb; (try simp only [decide_eq_true_eq, Bool.eq_false_iff, ne_eq, Bool.not_eq_true', Bool.not_eq_false', Bool.and_eq_true, Bool.or_eq_true, decide_true, decide_false, Bool.and_true, Bool.true_and, Bool.false_eq_true, not_false_eq_true, true_and, and_true] at hp); (try rw [hb]); (try clear hb))) | (refine kret ?_; repeat (first | with_reducible refine beh_r ?_ | with_reducible refine blk_r ?_)) | refine kb ?_ | (refine ps_split (fun hb => ?_) (fun hb => ?_); (fail_if_success (guard_hyp hb : true = true)); (fail_if_success (guard_hyp hb : false = true)); all_goals (have hp := hb; (try simp only [decide_eq_true_eq, Bool.eq_false_iff, ne_eq, Bool.not_eq_true', Bool.not_eq_false', Bool.and_eq_true, Bool.or_eq_true, decide_true, decide_false, Bool.and_true, Bool.true_and, Bool.false_eq_true, not_false_eq_true, true_and, and_true] at hp); (try rw [hb]); (try clear hb))) | refine ps_alloc fun g => ?_ | refine ps_box fun g => ?_ | refine ps_store ?_ | refine ps_lit fun g => ?_ | refine pops_nil ?_ | (refine pd_split (fun hb => ?_) (fun hb => ?_); (fail_if_success (guard_hyp hb : true = true)); (fail_if_success (guard_hyp hb : false = true)); all_goals (have hp := hb; (try simp only [decide_eq_true_eq, Bool.eq_false_iff, ne_eq, Bool.not_eq_true', Bool.not_eq_false', Bool.and_eq_true, Bool.or_eq_true, decide_true, decide_false, Bool.and_true, Bool.true_and, Bool.false_eq_true, not_false_eq_true, true_and, and_true] at hp); (try rw [hb]); (try clear hb))) | (refine pops_go ?_ ?_ ?_; first | refine pops_end ?_ | (refine ps_split (fun hb => ?_) (fun hb => ?_); (fail_if_success (guard_hyp hb : true = true)); (fail_if_success (guard_hyp hb : false = true)); all_goals (have hp := hb; (try simp only [decide_eq_true_eq, Bool.eq_false_iff, ne_eq, Bool.not_eq_true', Bool.not_eq_false', Bool.and_eq_true, Bool.or_eq_true, decide_true, decide_false, Bool.and_true, Bool.true_and, Bool.false_eq_true, not_false_eq_true, true_and, and_true] at hp); (try rw [hb]); (try clear hb))) | refine ps_alloc fun g => ?_ | refine ps_box fun g => ?_ | refine ps_store ?_ | refine ps_lit fun g => ?_ | refine pops_nil ?_) | (refine pstl_go ?_ ?_ ?_; first | refine pstl_end ?_ | (refine pd_split (fun hb => ?_) (fun hb => ?_); (fail_if_success (guard_hyp hb : true = true)); (fail_if_success (guard_hyp hb : false = true)); all_goals (have hp := hb; (try simp only [decide_eq_true_eq, Bool.eq_false_iff, ne_eq, Bool.not_eq_true', Bool.not_eq_false', Bool.and_eq_true, Bool.or_eq_true, decide_true, decide_false, Bool.and_true, Bool.true_and, Bool.false_eq_true, not_false_eq_true, true_and, and_true] at hp); (try rw [hb]); (try clear hb)))) | (refine kn ?_; repeat (first | with_reducible refine blk_n ?_ | with_reducible refine beh_n ?_)) | (refine kx ?_; (repeat (first | with_reducible refine beh_x ?_ | with_reducible refine blk_up rfl ?_)); refine blk_here ?_; refine beh_n ?_)))
  refine ends_ret ?_ retPV_one
  rfl
theorem through_put (b : List Int) (n : Int) (hl : b.length ≤ 1000000) : PCall Try.prog 52 [.ro 1 false (ints .u8 b), .v (.int .i64 n), .agg [.fn (.func 53) [] [], .v (.bool true)]] (.ro 1 false (ints .u8 (deltaP b n))) := by
  refine pcall_mkg Try.func52 rfl [.tmp 6] Try.results52 47 rfl (tk_start ?_)
  (repeat refine ka ?_); refine kr ?_ ?_ ?_
  refine ps_box fun g0 => ?_
  refine pops_go ?_ ?_ (pops_end ?_)
  (repeat refine ka ?_); refine kr ?_ ?_ ?_
  refine ps_fcall [] (clone_own b (by omega)) ?_ (by rintro x S' (⟨rfl, _, rfl⟩ | ⟨g, rfl, rfl⟩) <;> exact Nat.zero_le _)
  rintro x S' (⟨rfl, rfl, rfl⟩ | ⟨g, rfl, rfl⟩)
  · (intro x1 S1 hx1 hS1; simp only [List.map_cons, List.map_nil, renB, ren_ints, putB, List.set_cons_zero, List.set_cons_succ, List.cons_append, List.nil_append, List.append_nil, renL, ren, sg, List.length_cons, List.length_nil, Nat.reduceAdd, Nat.zero_add, Nat.add_zero] at hx1 hS1; subst hx1 hS1)
    refine pops_go ?_ ?_ (pops_end ?_)
    have hz : deltaP [] n = [] := by unfold deltaP; split <;> rfl
    rw [hz]
    by_cases hn : n < 1
    · (repeat refine ka ?_); refine kr ?_ ?_ (pops_end ?_)
      (repeat refine ka ?_); refine kct ?_
      (repeat refine ka ?_); refine kr ?_ ?_ (pops_end ?_)
      (repeat refine ka ?_); refine kret ?_; repeat (first | with_reducible refine beh_r ?_ | with_reducible refine blk_r ?_)
      refine ends_ret ?_ retPV_one
      exact .nil
    by_cases hn2 : 255 < n
    · (repeat refine ka ?_); refine kr ?_ ?_ (pops_end ?_)
      (repeat refine ka ?_); refine kct ?_
      (repeat refine ka ?_); refine kr ?_ ?_ (pops_end ?_)
      (repeat refine ka ?_); refine kret ?_; repeat (first | with_reducible refine beh_r ?_ | with_reducible refine blk_r ?_)
      refine ends_ret ?_ retPV_one
      exact .nil
    · (repeat refine ka ?_); refine kr ?_ ?_ (pops_end ?_)
      (repeat refine ka ?_); refine kcf ?_
      (repeat refine ka ?_); refine ksk ?_
      (repeat refine ka ?_); refine kr ?_ ?_ (pops_end ?_)
      (repeat refine ka ?_); refine kr ?_ ?_ (pops_end ?_)
      (repeat refine ka ?_); refine kct ?_
      (repeat refine ka ?_); refine kr ?_ ?_ (pops_end ?_)
      (repeat refine ka ?_); refine kr ?_ ?_ (pops_end ?_)
      (repeat refine ka ?_); refine kb ?_
      refine kw (fun _ : Unit => [(7, PV.v (.slice none 0 0)), (9, .v (.int .i64 n))]) (fun _ => [⟨g0, true, 2, [[.fn (.func 53) [] [], .v (.bool true)]]⟩]) (fun _ => True) (fun _ => 0) () trivial (holds 1 (by repeat (first | exact .nil | refine has1 ?_))) ?_
      intro _ _
      (repeat refine ka ?_); refine kr ?_ ?_ (pops_end ?_)
      (repeat refine ka ?_); refine kcf ?_
      (repeat refine ka ?_); refine kx ?_; (repeat (first | with_reducible refine beh_x ?_ | with_reducible refine blk_up rfl ?_)); refine blk_here ?_; refine beh_n ?_
      (repeat refine ka ?_); refine kr ?_ ?_ (pops_end ?_)
      (repeat refine ka ?_); refine kret ?_; repeat (first | with_reducible refine beh_r ?_ | with_reducible refine blk_r ?_)
      refine ends_ret ?_ retPV_one
      exact .nil
  · (intro x1 S1 hx1 hS1; simp only [List.map_cons, List.map_nil, renB, ren_ints, putB, List.set_cons_zero, List.set_cons_succ, List.cons_append, List.nil_append, List.append_nil, renL, ren, sg, List.length_cons, List.length_nil, Nat.reduceAdd, Nat.zero_add, Nat.add_zero] at hx1 hS1; subst hx1 hS1)
    refine pops_go ?_ ?_ (pops_end ?_)
    by_cases hn : n < 1
    · have hz : deltaP b n = b := by unfold deltaP; rw [if_neg (by omega)]
      rw [hz]
      (repeat refine ka ?_); refine kr ?_ ?_ (pops_end ?_)
      (repeat refine ka ?_); refine kct ?_
      (repeat refine ka ?_); refine kr ?_ ?_ (pops_end ?_)
      (repeat refine ka ?_); refine kret ?_; repeat (first | with_reducible refine beh_r ?_ | with_reducible refine blk_r ?_)
      refine ends_ret ?_ retPV_one
      exact gives_ints rfl rfl rfl
    by_cases hn2 : 255 < n
    · have hz : deltaP b n = b := by unfold deltaP; rw [if_neg (by omega)]
      rw [hz]
      (repeat refine ka ?_); refine kr ?_ ?_ (pops_end ?_)
      (repeat refine ka ?_); refine kct ?_
      (repeat refine ka ?_); refine kr ?_ ?_ (pops_end ?_)
      (repeat refine ka ?_); refine kret ?_; repeat (first | with_reducible refine beh_r ?_ | with_reducible refine blk_r ?_)
      refine ends_ret ?_ retPV_one
      exact gives_ints rfl rfl rfl
    obtain ⟨k, hk⟩ : ∃ k : Nat, n = k := ⟨n.toNat, by omega⟩
    subst hk
    have hz : deltaP b k = dPut b k b.length := by unfold deltaP; rw [if_pos (by omega), Int.toNat_natCast]
    rw [hz]
    have c1 := fun x y => put1_ok x y
    (repeat refine ka ?_); refine kr ?_ ?_ (pops_end ?_)
    (repeat refine ka ?_); refine kcf ?_
    (repeat refine ka ?_); refine ksk ?_
    (repeat refine ka ?_); refine kr ?_ ?_ (pops_end ?_)
    (repeat refine ka ?_); refine kr ?_ ?_ (pops_end ?_)
    (repeat refine ka ?_); refine kct ?_
    (repeat refine ka ?_); refine kr ?_ ?_ (pops_end ?_)
    (repeat refine ka ?_); refine kr ?_ ?_ (pops_end ?_)
    (repeat refine ka ?_); refine kb ?_
    by_cases hkl : k ≤ b.length
    rotate_left
    · refine kw (fun _ : Unit => [(7, PV.vw 1 g 0 b.length), (9, .v (.int .i64 k))]) (fun _ => [⟨g0, true, 2, [[.fn (.func 53) [] [], .v (.bool true)]]⟩, ⟨g, true, 1, ints .u8 b⟩]) (fun _ => True) (fun _ => 0) () trivial (holds 2 (by repeat (first | exact .nil | refine has1 ?_))) ?_
      intro _ _
      (repeat refine ka ?_); refine kr ?_ ?_ (pops_end ?_)
      (repeat refine ka ?_); refine kcf ?_
      (repeat refine ka ?_); refine kx ?_; (repeat (first | with_reducible refine beh_x ?_ | with_reducible refine blk_up rfl ?_)); refine blk_here ?_; refine beh_n ?_
      (repeat refine ka ?_); refine kr ?_ ?_ (pops_end ?_)
      (repeat refine ka ?_); refine kret ?_; repeat (first | with_reducible refine beh_r ?_ | with_reducible refine blk_r ?_)
      rw [dPut_low b k b.length (by omega) (Nat.le_refl _), List.take_length]
      refine ends_ret ?_ retPV_one
      exact gives_ints rfl rfl rfl
    refine kw (fun i : Nat => [(0, PV.ro 1 false (ints .u8 b)), (1, .v (.int .i64 k)), (5, .ptr 0 g0 0 0), (7, .vw 1 g 0 b.length), (8, .ro 1 false (ints .u8 b)), (9, .v (.int .i64 i))]) (fun i => [⟨g0, true, 2, [[.fn (.func 53) [] [], .v (.bool true)]]⟩, ⟨g, true, 1, ints .u8 (mix b (dPut b k i))⟩]) (fun i => k ≤ i ∧ i ≤ b.length) (fun i => b.length - i) k ⟨Nat.le_refl _, hkl⟩ (by rw [dPut_low b k k (Nat.le_refl _) hkl, mix_take hkl]; exact (holds 2 (by repeat (first | exact .nil | refine has1 ?_)))) ?_
    rintro i ⟨hi1, hi2⟩
    have hGl := dPut_length b k i
    have hml : (mix b (dPut b k i)).length = b.length := mix_length (by omega)
    by_cases hg : (i : Int) < b.length
    · have hset : (mix b (dPut b k i)).set (0 + ((i : Nat) : Int).toNat) ((b.getD ((i : Nat) : Int).toNat 0 - b.getD (((i : Nat) : Int) - ((k : Nat) : Int)).toNat 0) % 256) = mix b (dPut b k (i + 1)) := by
        have h1 := mix_set (b := b) (G := dPut b k i) (v := (b.getD i 0 - b.getD (i - k) 0) % 256) (by omega)
        rw [hGl] at h1
        rw [dPut, if_neg (by omega), ← h1, Int.toNat_natCast, Nat.zero_add, show (((i : Nat) : Int) - ((k : Nat) : Int)).toNat = i - k by omega]
      (repeat refine ka ?_); refine kr ?_ ?_ (pops_end ?_)
      (repeat refine ka ?_); refine kct ?_
      (repeat refine ka ?_); refine ksk ?_
      (repeat refine ka ?_); refine kb ?_
      (repeat refine ka ?_); refine kdt 15 ?_
      refine pstl_go ?_ ?_ ?_
      refine pd_vcall (c1 _ _) ?_
      refine pstl_go ?_ ?_ (pstl_end ?_)
      refine pops_go ?_ ?_ ?_
      refine ps_seti (k0 := .u8) (l := mix b (dPut b k i)) ?_
      refine pops_nil ?_
      rw [hset]
      refine kn ?_; repeat (first | with_reducible refine blk_n ?_ | with_reducible refine beh_n ?_)
      (repeat refine ka ?_); refine kr ?_ ?_ (pops_end ?_)
      refine kn ?_; repeat (first | with_reducible refine blk_n ?_ | with_reducible refine beh_n ?_)
      exact ⟨i + 1, by omega, by omega, (holds 2 (by repeat (first | exact .nil | refine has1 ?_)))⟩
    · obtain rfl : i = b.length := by omega
      (repeat refine ka ?_); refine kr ?_ ?_ (pops_end ?_)
      (repeat refine ka ?_); refine kcf ?_
      (repeat refine ka ?_); refine kx ?_; (repeat (first | with_reducible refine beh_x ?_ | with_reducible refine blk_up rfl ?_)); refine blk_here ?_; refine beh_n ?_
      (repeat refine ka ?_); refine kr ?_ ?_ (pops_end ?_)
      (repeat refine ka ?_); refine kret ?_; repeat (first | with_reducible refine beh_r ?_ | with_reducible refine blk_r ?_)
      rw [mix_all (dPut_length _ _ _)]
      refine ends_ret ?_ retPV_one
      exact gives_ints rfl rfl (dPut_length _ _ _)
theorem through_back (b : List Int) (n : Int) (hl : b.length ≤ 1000000) : PCall Try.prog 52 [.ro 1 false (ints .u8 b), .v (.int .i64 n), .agg [.fn (.func 54) [] [], .v (.bool false)]] (.ro 1 false (ints .u8 (deltaB b n))) := by
  refine pcall_mkg Try.func52 rfl [.tmp 6] Try.results52 47 rfl (tk_start ?_)
  (repeat refine ka ?_); refine kr ?_ ?_ ?_
  refine ps_box fun g0 => ?_
  refine pops_go ?_ ?_ (pops_end ?_)
  (repeat refine ka ?_); refine kr ?_ ?_ ?_
  refine ps_fcall [] (clone_own b (by omega)) ?_ (by rintro x S' (⟨rfl, _, rfl⟩ | ⟨g, rfl, rfl⟩) <;> exact Nat.zero_le _)
  rintro x S' (⟨rfl, rfl, rfl⟩ | ⟨g, rfl, rfl⟩)
  · (intro x1 S1 hx1 hS1; simp only [List.map_cons, List.map_nil, renB, ren_ints, putB, List.set_cons_zero, List.set_cons_succ, List.cons_append, List.nil_append, List.append_nil, renL, ren, sg, List.length_cons, List.length_nil, Nat.reduceAdd, Nat.zero_add, Nat.add_zero] at hx1 hS1; subst hx1 hS1)
    refine pops_go ?_ ?_ (pops_end ?_)
    have hz : deltaB [] n = [] := by unfold deltaB; split <;> rfl
    rw [hz]
    by_cases hn : n < 1
    · (repeat refine ka ?_); refine kr ?_ ?_ (pops_end ?_)
      (repeat refine ka ?_); refine kct ?_
      (repeat refine ka ?_); refine kr ?_ ?_ (pops_end ?_)
      (repeat refine ka ?_); refine kret ?_; repeat (first | with_reducible refine beh_r ?_ | with_reducible refine blk_r ?_)
      refine ends_ret ?_ retPV_one
      exact .nil
    by_cases hn2 : 255 < n
    · (repeat refine ka ?_); refine kr ?_ ?_ (pops_end ?_)
      (repeat refine ka ?_); refine kct ?_
      (repeat refine ka ?_); refine kr ?_ ?_ (pops_end ?_)
      (repeat refine ka ?_); refine kret ?_; repeat (first | with_reducible refine beh_r ?_ | with_reducible refine blk_r ?_)
      refine ends_ret ?_ retPV_one
      exact .nil
    · (repeat refine ka ?_); refine kr ?_ ?_ (pops_end ?_)
      (repeat refine ka ?_); refine kcf ?_
      (repeat refine ka ?_); refine ksk ?_
      (repeat refine ka ?_); refine kr ?_ ?_ (pops_end ?_)
      (repeat refine ka ?_); refine kr ?_ ?_ (pops_end ?_)
      (repeat refine ka ?_); refine kcf ?_
      (repeat refine ka ?_); refine ksk ?_
      (repeat refine ka ?_); refine kr ?_ ?_ (pops_end ?_)
      (repeat refine ka ?_); refine kb ?_
      refine kw (fun _ : Unit => [(7, PV.v (.slice none 0 0)), (9, .v (.int .i64 n))]) (fun _ => [⟨g0, true, 2, [[.fn (.func 54) [] [], .v (.bool false)]]⟩]) (fun _ => True) (fun _ => 0) () trivial (holds 1 (by repeat (first | exact .nil | refine has1 ?_))) ?_
      intro _ _
      (repeat refine ka ?_); refine kr ?_ ?_ (pops_end ?_)
      (repeat refine ka ?_); refine kcf ?_
      (repeat refine ka ?_); refine kx ?_; (repeat (first | with_reducible refine beh_x ?_ | with_reducible refine blk_up rfl ?_)); refine blk_here ?_; refine beh_n ?_
      (repeat refine ka ?_); refine kr ?_ ?_ (pops_end ?_)
      (repeat refine ka ?_); refine kret ?_; repeat (first | with_reducible refine beh_r ?_ | with_reducible refine blk_r ?_)
      refine ends_ret ?_ retPV_one
      exact .nil
  · (intro x1 S1 hx1 hS1; simp only [List.map_cons, List.map_nil, renB, ren_ints, putB, List.set_cons_zero, List.set_cons_succ, List.cons_append, List.nil_append, List.append_nil, renL, ren, sg, List.length_cons, List.length_nil, Nat.reduceAdd, Nat.zero_add, Nat.add_zero] at hx1 hS1; subst hx1 hS1)
    refine pops_go ?_ ?_ (pops_end ?_)
    by_cases hn : n < 1
    · have hz : deltaB b n = b := by unfold deltaB; rw [if_neg (by omega)]
      rw [hz]
      (repeat refine ka ?_); refine kr ?_ ?_ (pops_end ?_)
      (repeat refine ka ?_); refine kct ?_
      (repeat refine ka ?_); refine kr ?_ ?_ (pops_end ?_)
      (repeat refine ka ?_); refine kret ?_; repeat (first | with_reducible refine beh_r ?_ | with_reducible refine blk_r ?_)
      refine ends_ret ?_ retPV_one
      exact gives_ints rfl rfl rfl
    by_cases hn2 : 255 < n
    · have hz : deltaB b n = b := by unfold deltaB; rw [if_neg (by omega)]
      rw [hz]
      (repeat refine ka ?_); refine kr ?_ ?_ (pops_end ?_)
      (repeat refine ka ?_); refine kct ?_
      (repeat refine ka ?_); refine kr ?_ ?_ (pops_end ?_)
      (repeat refine ka ?_); refine kret ?_; repeat (first | with_reducible refine beh_r ?_ | with_reducible refine blk_r ?_)
      refine ends_ret ?_ retPV_one
      exact gives_ints rfl rfl rfl
    obtain ⟨k, hk⟩ : ∃ k : Nat, n = k := ⟨n.toNat, by omega⟩
    subst hk
    have hz : deltaB b k = dBack b k b.length := by unfold deltaB; rw [if_pos (by omega), Int.toNat_natCast]
    rw [hz]
    have c1 := fun x y => back1_ok x y
    (repeat refine ka ?_); refine kr ?_ ?_ (pops_end ?_)
    (repeat refine ka ?_); refine kcf ?_
    (repeat refine ka ?_); refine ksk ?_
    (repeat refine ka ?_); refine kr ?_ ?_ (pops_end ?_)
    (repeat refine ka ?_); refine kr ?_ ?_ (pops_end ?_)
    (repeat refine ka ?_); refine kcf ?_
    (repeat refine ka ?_); refine ksk ?_
    (repeat refine ka ?_); refine kr ?_ ?_ (pops_end ?_)
    (repeat refine ka ?_); refine kb ?_
    by_cases hkl : k ≤ b.length
    rotate_left
    · refine kw (fun _ : Unit => [(7, PV.vw 1 g 0 b.length), (9, .v (.int .i64 k))]) (fun _ => [⟨g0, true, 2, [[.fn (.func 54) [] [], .v (.bool false)]]⟩, ⟨g, true, 1, ints .u8 b⟩]) (fun _ => True) (fun _ => 0) () trivial (holds 2 (by repeat (first | exact .nil | refine has1 ?_))) ?_
      intro _ _
      (repeat refine ka ?_); refine kr ?_ ?_ (pops_end ?_)
      (repeat refine ka ?_); refine kcf ?_
      (repeat refine ka ?_); refine kx ?_; (repeat (first | with_reducible refine beh_x ?_ | with_reducible refine blk_up rfl ?_)); refine blk_here ?_; refine beh_n ?_
      (repeat refine ka ?_); refine kr ?_ ?_ (pops_end ?_)
      (repeat refine ka ?_); refine kret ?_; repeat (first | with_reducible refine beh_r ?_ | with_reducible refine blk_r ?_)
      rw [dBack_low b k b.length (by omega) (Nat.le_refl _), List.take_length]
      refine ends_ret ?_ retPV_one
      exact gives_ints rfl rfl rfl
    refine kw (fun i : Nat => [(0, PV.ro 1 false (ints .u8 b)), (1, .v (.int .i64 k)), (5, .ptr 0 g0 0 0), (7, .vw 1 g 0 b.length), (8, .vw 1 g 0 b.length), (9, .v (.int .i64 i))]) (fun i => [⟨g0, true, 2, [[.fn (.func 54) [] [], .v (.bool false)]]⟩, ⟨g, true, 1, ints .u8 (mix b (dBack b k i))⟩]) (fun i => k ≤ i ∧ i ≤ b.length) (fun i => b.length - i) k ⟨Nat.le_refl _, hkl⟩ (by rw [dBack_low b k k (Nat.le_refl _) hkl, mix_take hkl]; exact (holds 2 (by repeat (first | exact .nil | refine has1 ?_)))) ?_
    rintro i ⟨hi1, hi2⟩
    have hGl := dBack_length b k i
    have hml : (mix b (dBack b k i)).length = b.length := mix_length (by omega)
    by_cases hg : (i : Int) < b.length
    · have hgx : (mix b (dBack b k i)).getD (0 + (((i : Nat) : Int) - ((k : Nat) : Int)).toNat) 0 = (dBack b k i).getD (i - k) 0 := by
        rw [Nat.zero_add, show (((i : Nat) : Int) - ((k : Nat) : Int)).toNat = i - k by omega, mix_get (by rw [hGl]; omega)]
      have hset : (mix b (dBack b k i)).set (0 + ((i : Nat) : Int).toNat) ((b.getD ((i : Nat) : Int).toNat 0 + (mix b (dBack b k i)).getD (0 + (((i : Nat) : Int) - ((k : Nat) : Int)).toNat) 0) % 256) = mix b (dBack b k (i + 1)) := by
        have h1 := mix_set (b := b) (G := dBack b k i) (v := (b.getD i 0 + (dBack b k i).getD (i - k) 0) % 256) (by omega)
        rw [hGl] at h1
        rw [hgx, dBack, if_neg (by omega), ← h1, Int.toNat_natCast, Nat.zero_add]
      (repeat refine ka ?_); refine kr ?_ ?_ (pops_end ?_)
      (repeat refine ka ?_); refine kct ?_
      (repeat refine ka ?_); refine ksk ?_
      (repeat refine ka ?_); refine kb ?_
      (repeat refine ka ?_); refine kdt 15 ?_
      refine pstl_go ?_ ?_ ?_
      refine pd_vcall (c1 _ _) ?_
      refine pstl_go ?_ ?_ (pstl_end ?_)
      refine pops_go ?_ ?_ ?_
      refine ps_seti (k0 := .u8) (l := mix b (dBack b k i)) ?_
      refine pops_nil ?_
      rw [hset]
      refine kn ?_; repeat (first | with_reducible refine blk_n ?_ | with_reducible refine beh_n ?_)
      (repeat refine ka ?_); refine kr ?_ ?_ (pops_end ?_)
      refine kn ?_; repeat (first | with_reducible refine blk_n ?_ | with_reducible refine beh_n ?_)
      exact ⟨i + 1, by omega, by omega, (holds 2 (by repeat (first | exact .nil | refine has1 ?_)))⟩
    · obtain rfl : i = b.length := by omega
      (repeat refine ka ?_); refine kr ?_ ?_ (pops_end ?_)
      (repeat refine ka ?_); refine kcf ?_
      (repeat refine ka ?_); refine kx ?_; (repeat (first | with_reducible refine beh_x ?_ | with_reducible refine blk_up rfl ?_)); refine blk_here ?_; refine beh_n ?_
      (repeat refine ka ?_); refine kr ?_ ?_ (pops_end ?_)
      (repeat refine ka ?_); refine kret ?_; repeat (first | with_reducible refine beh_r ?_ | with_reducible refine blk_r ?_)
      rw [mix_all (dBack_length _ _ _)]
      refine ends_ret ?_ retPV_one
      exact gives_ints rfl rfl (dBack_length _ _ _)
theorem ldelta_put (b : List Int) (n : Int) (hl : b.length ≤ 1000000) : PCall Try.prog 34 [.ro 1 false (ints .u8 b), .v (.int .i64 n)] (.ro 1 false (ints .u8 (deltaP b n))) := by
  have c1 := through_put b n hl
  refine pcall_mk Try.func34 rfl [.tmp 4] Try.results34 9 rfl (tk_start ?_)
  (repeat' (first | refine ka ?_ | refine ksk ?_ | (refine kr ?_ ?_ ?_; first | refine pops_end ?_ | (refine ps_split (fun hb => ?_) (fun hb => ?_); (fail_if_success (guard_hyp hb : true = true)); (fail_if_success (guard_hyp hb : false = true)); all_goals (have hp := hb; (try simp only [decide_eq_true_eq, Bool.eq_false_iff, ne_eq, Bool.not_eq_true', Bool.not_eq_false', Bool.and_eq_true, Bool.or_eq_true, decide_true, decide_false, Bool.and_true, Bool.true_and, Bool.false_eq_true, not_false_eq_true, true_and, and_true] at hp); (try rw [hb]); (try clear hb))) | refine ps_pcall (c1) ?_ | refine ps_pcall_g (c1) ?_ | refine ps_alloc fun g => ?_ | refine ps_box fun g => ?_ | refine ps_store ?_ | refine ps_lit fun g => ?_ | refine pops_nil ?_ | skip) | (refine kd ?_ ?_ ?_; first | refine pstl_end ?_ | (refine pd_split (fun hb => ?_) (fun hb => ?_); (fail_if_success (guard_hyp hb : true = true)); (fail_if_success (guard_hyp hb : false = true)); all_goals (have hp := hb; (try simp only [decide_eq_true_eq, Bool.eq_false_iff, ne_eq, Bool.not_eq_true', Bool.not_eq_false', Bool.and_eq_true, Bool.or_eq_true, decide_true, decide_false, Bool.and_true, Bool.true_and, Bool.false_eq_true, not_false_eq_true, true_and, and_true] at hp); (try rw [hb]); (try clear hb))) | refine pd_pcall (c1) ?_ | refine pd_pcall_g (c1) ?_ | skip) | refine kct ?_ | refine kcf ?_ | (refine kcs (fun hb => ?_) (fun hb => ?_) <;> (have hp := hb; (try simp only [decide_eq_true_eq, Bool.eq_false_iff, ne_eq, Bool.not_eq_true', Bool.not_eq_false', Bool.and_eq_true, Bool.or_eq_true, decide_true, decide_false, Bool.and_true, Bool.true_and, Bool.false_eq_true, not_false_eq_true, true_and, and_true] at hp); (try rw [hb]); (try clear hb))) | (refine kret ?_; repeat (first | with_reducible refine beh_r ?_ | with_reducible refine blk_r ?_)) | refine kb ?_ | (refine ps_split (fun hb => ?_) (fun hb => ?_); (fail_if_success (guard_hyp hb : true = true)); (fail_if_success (guard_hyp hb : false = true)); all_goals (have hp := hb; (try simp only [decide_eq_true_eq, Bool.eq_false_iff, ne_eq, Bool.not_eq_true', Bool.not_eq_false', Bool.and_eq_true, Bool.or_eq_true, decide_true, decide_false, Bool.and_true, Bool.true_and, Bool.false_eq_true, not_false_eq_true, true_and, and_true] at hp); (try rw [hb]); (try clear hb))) | refine ps_pcall (c1) ?_ | refine ps_pcall_g (c1) ?_ | refine ps_alloc fun g => ?_ | refine ps_box fun g => ?_ | refine ps_store ?_ | refine ps_lit fun g => ?_ | refine pops_nil ?_ | (refine pd_split (fun hb => ?_) (fun hb => ?_); (fail_if_success (guard_hyp hb : true = true)); (fail_if_success (guard_hyp hb : false = true)); all_goals (have hp := hb; (try simp only [decide_eq_true_eq, Bool.eq_false_iff, ne_eq, Bool.not_eq_true', Bool.not_eq_false', Bool.and_eq_true, Bool.or_eq_true, decide_true, decide_false, Bool.and_true, Bool.true_and, Bool.false_eq_true, not_false_eq_true, true_and, and_true] at hp); (try rw [hb]); (try clear hb))) | refine pd_pcall (c1) ?_ | refine pd_pcall_g (c1) ?_ | (refine pops_go ?_ ?_ ?_; first | refine pops_end ?_ | (refine ps_split (fun hb => ?_) (fun hb => ?_); (fail_if_success (guard_hyp hb : true = true)); (fail_if_success (guard_hyp hb : false = true)); all_goals (have hp := hb; (try simp only [decide_eq_true_eq, Bool.eq_false_iff, ne_eq, Bool.not_eq_true', Bool.not_eq_false', Bool.and_eq_true, Bool.or_eq_true, decide_true, decide_false, Bool.and_true, Bool.true_and, Bool.false_eq_true, not_false_eq_true, true_and, and_true] at hp); (try rw [hb]); (try clear hb))) | refine ps_pcall (c1) ?_ | refine ps_pcall_g (c1) ?_ | refine ps_alloc fun g => ?_ | refine ps_box fun g => ?_ | refine ps_store ?_ | refine ps_lit fun g => ?_ | refine pops_nil ?_) | (refine pstl_go ?_ ?_ ?_; first | refine pstl_end ?_ | (refine pd_split (fun hb => ?_) (fun hb => ?_); (fail_if_success (guard_hyp hb : true = true)); (fail_if_success (guard_hyp hb : false = true)); all_goals (have hp := hb; (try simp only [decide_eq_true_eq, Bool.eq_false_iff, ne_eq, Bool.not_eq_true', Bool.not_eq_false', Bool.and_eq_true, Bool.or_eq_true, decide_true, decide_false, Bool.and_true, Bool.true_and, Bool.false_eq_true, not_false_eq_true, true_and, and_true] at hp); (try rw [hb]); (try clear hb))) | refine pd_pcall (c1) ?_ | refine pd_pcall_g (c1) ?_) | (refine kn ?_; repeat (first | with_reducible refine blk_n ?_ | with_reducible refine beh_n ?_)) | (refine kx ?_; (repeat (first | with_reducible refine beh_x ?_ | with_reducible refine blk_up rfl ?_)); refine blk_here ?_; refine beh_n ?_)))
  refine ends_ret ?_ retPV_one
  rfl
theorem ldelta_back (b : List Int) (n : Int) (hl : b.length ≤ 1000000) : PCall Try.prog 36 [.ro 1 false (ints .u8 b), .v (.int .i64 n)] (.ro 1 false (ints .u8 (deltaB b n))) := by
  have c1 := through_back b n hl
  refine pcall_mk Try.func36 rfl [.tmp 4] Try.results36 9 rfl (tk_start ?_)
  (repeat' (first | refine ka ?_ | refine ksk ?_ | (refine kr ?_ ?_ ?_; first | refine pops_end ?_ | (refine ps_split (fun hb => ?_) (fun hb => ?_); (fail_if_success (guard_hyp hb : true = true)); (fail_if_success (guard_hyp hb : false = true)); all_goals (have hp := hb; (try simp only [decide_eq_true_eq, Bool.eq_false_iff, ne_eq, Bool.not_eq_true', Bool.not_eq_false', Bool.and_eq_true, Bool.or_eq_true, decide_true, decide_false, Bool.and_true, Bool.true_and, Bool.false_eq_true, not_false_eq_true, true_and, and_true] at hp); (try rw [hb]); (try clear hb))) | refine ps_pcall (c1) ?_ | refine ps_pcall_g (c1) ?_ | refine ps_alloc fun g => ?_ | refine ps_box fun g => ?_ | refine ps_store ?_ | refine ps_lit fun g => ?_ | refine pops_nil ?_ | skip) | (refine kd ?_ ?_ ?_; first | refine pstl_end ?_ | (refine pd_split (fun hb => ?_) (fun hb => ?_); (fail_if_success (guard_hyp hb : true = true)); (fail_if_success (guard_hyp hb : false = true)); all_goals (have hp := hb; (try simp only [decide_eq_true_eq, Bool.eq_false_iff, ne_eq, Bool.not_eq_true', Bool.not_eq_false', Bool.and_eq_true, Bool.or_eq_true, decide_true, decide_false, Bool.and_true, Bool.true_and, Bool.false_eq_true, not_false_eq_true, true_and, and_true] at hp); (try rw [hb]); (try clear hb))) | refine pd_pcall (c1) ?_ | refine pd_pcall_g (c1) ?_ | skip) | refine kct ?_ | refine kcf ?_ | (refine kcs (fun hb => ?_) (fun hb => ?_) <;> (have hp := hb; (try simp only [decide_eq_true_eq, Bool.eq_false_iff, ne_eq, Bool.not_eq_true', Bool.not_eq_false', Bool.and_eq_true, Bool.or_eq_true, decide_true, decide_false, Bool.and_true, Bool.true_and, Bool.false_eq_true, not_false_eq_true, true_and, and_true] at hp); (try rw [hb]); (try clear hb))) | (refine kret ?_; repeat (first | with_reducible refine beh_r ?_ | with_reducible refine blk_r ?_)) | refine kb ?_ | (refine ps_split (fun hb => ?_) (fun hb => ?_); (fail_if_success (guard_hyp hb : true = true)); (fail_if_success (guard_hyp hb : false = true)); all_goals (have hp := hb; (try simp only [decide_eq_true_eq, Bool.eq_false_iff, ne_eq, Bool.not_eq_true', Bool.not_eq_false', Bool.and_eq_true, Bool.or_eq_true, decide_true, decide_false, Bool.and_true, Bool.true_and, Bool.false_eq_true, not_false_eq_true, true_and, and_true] at hp); (try rw [hb]); (try clear hb))) | refine ps_pcall (c1) ?_ | refine ps_pcall_g (c1) ?_ | refine ps_alloc fun g => ?_ | refine ps_box fun g => ?_ | refine ps_store ?_ | refine ps_lit fun g => ?_ | refine pops_nil ?_ | (refine pd_split (fun hb => ?_) (fun hb => ?_); (fail_if_success (guard_hyp hb : true = true)); (fail_if_success (guard_hyp hb : false = true)); all_goals (have hp := hb; (try simp only [decide_eq_true_eq, Bool.eq_false_iff, ne_eq, Bool.not_eq_true', Bool.not_eq_false', Bool.and_eq_true, Bool.or_eq_true, decide_true, decide_false, Bool.and_true, Bool.true_and, Bool.false_eq_true, not_false_eq_true, true_and, and_true] at hp); (try rw [hb]); (try clear hb))) | refine pd_pcall (c1) ?_ | refine pd_pcall_g (c1) ?_ | (refine pops_go ?_ ?_ ?_; first | refine pops_end ?_ | (refine ps_split (fun hb => ?_) (fun hb => ?_); (fail_if_success (guard_hyp hb : true = true)); (fail_if_success (guard_hyp hb : false = true)); all_goals (have hp := hb; (try simp only [decide_eq_true_eq, Bool.eq_false_iff, ne_eq, Bool.not_eq_true', Bool.not_eq_false', Bool.and_eq_true, Bool.or_eq_true, decide_true, decide_false, Bool.and_true, Bool.true_and, Bool.false_eq_true, not_false_eq_true, true_and, and_true] at hp); (try rw [hb]); (try clear hb))) | refine ps_pcall (c1) ?_ | refine ps_pcall_g (c1) ?_ | refine ps_alloc fun g => ?_ | refine ps_box fun g => ?_ | refine ps_store ?_ | refine ps_lit fun g => ?_ | refine pops_nil ?_) | (refine pstl_go ?_ ?_ ?_; first | refine pstl_end ?_ | (refine pd_split (fun hb => ?_) (fun hb => ?_); (fail_if_success (guard_hyp hb : true = true)); (fail_if_success (guard_hyp hb : false = true)); all_goals (have hp := hb; (try simp only [decide_eq_true_eq, Bool.eq_false_iff, ne_eq, Bool.not_eq_true', Bool.not_eq_false', Bool.and_eq_true, Bool.or_eq_true, decide_true, decide_false, Bool.and_true, Bool.true_and, Bool.false_eq_true, not_false_eq_true, true_and, and_true] at hp); (try rw [hb]); (try clear hb))) | refine pd_pcall (c1) ?_ | refine pd_pcall_g (c1) ?_) | (refine kn ?_; repeat (first | with_reducible refine blk_n ?_ | with_reducible refine beh_n ?_)) | (refine kx ?_; (repeat (first | with_reducible refine beh_x ?_ | with_reducible refine blk_up rfl ?_)); refine blk_here ?_; refine beh_n ?_)))
  refine ends_ret ?_ retPV_one
  rfl
theorem rdelta_put (b : List Int) (n : Int) (hl : b.length ≤ 1000000) : PCall Try.prog 19 [.ro 1 false (ints .u8 b), .v (.int .i64 n)] (.ro 1 false (ints .u8 (deltaP b n))) := by
  refine pcall_mkg Try.func19 rfl [.tmp 4] Try.results19 42 rfl (tk_start ?_)
  (repeat refine ka ?_); refine kr ?_ ?_ (pops_end ?_)
  (repeat refine ka ?_); refine kr ?_ ?_ ?_
  refine ps_lit fun g0 => ?_
  refine pops_go ?_ ?_ ?_
  refine ps_app_vw (rows' := ints .u8 b) (m := b.length) (fun g => ?_) (hsrc := rfl) (hrows := List.nil_append _)
  refine pops_go ?_ ?_ (pops_end ?_)
  (repeat refine ka ?_); refine kr ?_ ?_ (pops_end ?_)
  (repeat refine ka ?_); refine kb ?_
  by_cases hn : 1 ≤ n ∧ n ≤ 255
  rotate_left
  · have hz : deltaP b n = b := by unfold deltaP; rw [if_neg hn]
    rw [hz]
    refine kw (fun _ : Unit => [(0, PV.ro 1 false (ints .u8 b)), (1, .v (.int .i64 n)), (5, PV.vw 0 g 0 b.length), (6, .v (.int .i64 0))]) (fun _ => [⟨g, true, 1, ints .u8 b⟩]) (fun _ => True) (fun _ => 0) () trivial (holds 1 (by repeat (first | exact .nil | refine has1 ?_))) ?_
    intro _ _
    by_cases h0 : b.length = 0
    · (repeat refine ka ?_); refine kr ?_ ?_ (pops_end ?_)
      (repeat refine ka ?_); refine kcf ?_
      (repeat refine ka ?_); refine kx ?_; (repeat (first | with_reducible refine beh_x ?_ | with_reducible refine blk_up rfl ?_)); refine blk_here ?_; refine beh_n ?_
      (repeat refine ka ?_); refine kr ?_ ?_ (pops_end ?_)
      (repeat refine ka ?_); refine kret ?_; repeat (first | with_reducible refine beh_r ?_ | with_reducible refine blk_r ?_)
      refine ends_ret ?_ retPV_one
      exact gives_ints rfl rfl rfl
    by_cases h1 : n < 1
    · (repeat refine ka ?_); refine kr ?_ ?_ (pops_end ?_)
      (repeat refine ka ?_); refine kcf ?_
      (repeat refine ka ?_); refine kx ?_; (repeat (first | with_reducible refine beh_x ?_ | with_reducible refine blk_up rfl ?_)); refine blk_here ?_; refine beh_n ?_
      (repeat refine ka ?_); refine kr ?_ ?_ (pops_end ?_)
      (repeat refine ka ?_); refine kret ?_; repeat (first | with_reducible refine beh_r ?_ | with_reducible refine blk_r ?_)
      refine ends_ret ?_ retPV_one
      exact gives_ints rfl rfl rfl
    · (repeat refine ka ?_); refine kr ?_ ?_ (pops_end ?_)
      (repeat refine ka ?_); refine kcf ?_
      (repeat refine ka ?_); refine kx ?_; (repeat (first | with_reducible refine beh_x ?_ | with_reducible refine blk_up rfl ?_)); refine blk_here ?_; refine beh_n ?_
      (repeat refine ka ?_); refine kr ?_ ?_ (pops_end ?_)
      (repeat refine ka ?_); refine kret ?_; repeat (first | with_reducible refine beh_r ?_ | with_reducible refine blk_r ?_)
      refine ends_ret ?_ retPV_one
      exact gives_ints rfl rfl rfl
  obtain ⟨k, hk⟩ : ∃ k : Nat, n = k := ⟨n.toNat, by omega⟩
  subst hk
  have hz : deltaP b k = dPut b k b.length := by unfold deltaP; rw [if_pos (by omega), Int.toNat_natCast]
  rw [hz]
  refine kw (fun i : Nat => [(0, PV.ro 1 false (ints .u8 b)), (1, .v (.int .i64 k)), (5, .vw 0 g 0 b.length), (6, .v (.int .i64 i))]) (fun i => [⟨g, true, 1, ints .u8 (mix b (dPut b k i))⟩]) (fun i => i ≤ b.length) (fun i => b.length - i) 0 (Nat.zero_le _) (by rw [show dPut b k 0 = [] from rfl, mix_nil]; exact (holds 1 (by repeat (first | exact .nil | refine has1 ?_)))) ?_
  intro i hi2
  have hGl := dPut_length b k i
  have hml : (mix b (dPut b k i)).length = b.length := mix_length (by omega)
  by_cases hg : (i : Int) < b.length
  · by_cases hik : (k : Int) ≤ i
    · have hw : IntKind.u8.wrap (b.getD ((i : Nat) : Int).toNat 0 - b.getD (((i : Nat) : Int) - ((k : Nat) : Int)).toNat 0) = (b.getD ((i : Nat) : Int).toNat 0 - b.getD (((i : Nat) : Int) - ((k : Nat) : Int)).toNat 0) % 256 := wrap_u8m _
      have hset : (mix b (dPut b k i)).set (0 + ((i : Nat) : Int).toNat) ((b.getD ((i : Nat) : Int).toNat 0 - b.getD (((i : Nat) : Int) - ((k : Nat) : Int)).toNat 0) % 256) = mix b (dPut b k (i + 1)) := by
        have h1 := mix_set (b := b) (G := dPut b k i) (v := (b.getD i 0 - b.getD (i - k) 0) % 256) (by omega)
        rw [hGl] at h1
        rw [dPut, if_neg (by omega), ← h1, Int.toNat_natCast, Nat.zero_add, show (((i : Nat) : Int) - ((k : Nat) : Int)).toNat = i - k by omega]
      (repeat refine ka ?_); refine kr ?_ ?_ (pops_end ?_)
      (repeat refine ka ?_); refine kct ?_
      (repeat refine ka ?_); refine ksk ?_
      (repeat refine ka ?_); refine kb ?_
      (repeat refine ka ?_); refine kr ?_ ?_ (pops_end ?_)
      (repeat refine ka ?_); refine kct ?_
      (repeat refine ka ?_); refine kdw ?_ ?_
      refine ps_seti (k0 := .u8) (l := mix b (dPut b k i)) ?_
      refine pops_nil ?_
      rw [hset]
      refine kn ?_; repeat (first | with_reducible refine blk_n ?_ | with_reducible refine beh_n ?_)
      (repeat refine ka ?_); refine kr ?_ ?_ (pops_end ?_)
      refine kn ?_; repeat (first | with_reducible refine blk_n ?_ | with_reducible refine beh_n ?_)
      exact ⟨i + 1, by omega, by omega, (holds 1 (by repeat (first | exact .nil | refine has1 ?_)))⟩
    · have hsm : mix b (dPut b k i) = mix b (dPut b k (i + 1)) := by
        have h1 := mix_same (b := b) (G := dPut b k i) (by omega)
        rw [hGl] at h1
        rw [h1, dPut, if_pos (by omega)]
      rw [hsm]
      (repeat refine ka ?_); refine kr ?_ ?_ (pops_end ?_)
      (repeat refine ka ?_); refine kct ?_
      (repeat refine ka ?_); refine ksk ?_
      (repeat refine ka ?_); refine kb ?_
      (repeat refine ka ?_); refine kr ?_ ?_ (pops_end ?_)
      (repeat refine ka ?_); refine kcf ?_
      (repeat refine ka ?_); refine ksk ?_
      refine kn ?_; repeat (first | with_reducible refine blk_n ?_ | with_reducible refine beh_n ?_)
      (repeat refine ka ?_); refine kr ?_ ?_ (pops_end ?_)
      refine kn ?_; repeat (first | with_reducible refine blk_n ?_ | with_reducible refine beh_n ?_)
      exact ⟨i + 1, by omega, by omega, (holds 1 (by repeat (first | exact .nil | refine has1 ?_)))⟩
  · obtain rfl : i = b.length := by omega
    (repeat refine ka ?_); refine kr ?_ ?_ (pops_end ?_)
    (repeat refine ka ?_); refine kcf ?_
    (repeat refine ka ?_); refine kx ?_; (repeat (first | with_reducible refine beh_x ?_ | with_reducible refine blk_up rfl ?_)); refine blk_here ?_; refine beh_n ?_
    (repeat refine ka ?_); refine kr ?_ ?_ (pops_end ?_)
    (repeat refine ka ?_); refine kret ?_; repeat (first | with_reducible refine beh_r ?_ | with_reducible refine blk_r ?_)
    rw [mix_all (dPut_length _ _ _)]
    refine ends_ret ?_ retPV_one
    exact gives_ints rfl rfl (dPut_length _ _ _)
theorem rdelta_back (b : List Int) (n : Int) (hl : b.length ≤ 1000000) : PCall Try.prog 26 [.ro 1 false (ints .u8 b), .v (.int .i64 n)] (.ro 1 false (ints .u8 (deltaB b n))) := by
  refine pcall_mkg Try.func26 rfl [.tmp 4] Try.results26 42 rfl (tk_start ?_)
  (repeat refine ka ?_); refine kr ?_ ?_ (pops_end ?_)
  (repeat refine ka ?_); refine kr ?_ ?_ ?_
  refine ps_lit fun g0 => ?_
  refine pops_go ?_ ?_ ?_
  refine ps_app_vw (rows' := ints .u8 b) (m := b.length) (fun g => ?_) (hsrc := rfl) (hrows := List.nil_append _)
  refine pops_go ?_ ?_ (pops_end ?_)
  (repeat refine ka ?_); refine kr ?_ ?_ (pops_end ?_)
  (repeat refine ka ?_); refine kb ?_
  by_cases hn : 1 ≤ n ∧ n ≤ 255
  rotate_left
  · have hz : deltaB b n = b := by unfold deltaB; rw [if_neg hn]
    rw [hz]
    refine kw (fun _ : Unit => [(0, PV.ro 1 false (ints .u8 b)), (1, .v (.int .i64 n)), (5, PV.vw 0 g 0 b.length), (6, .v (.int .i64 0))]) (fun _ => [⟨g, true, 1, ints .u8 b⟩]) (fun _ => True) (fun _ => 0) () trivial (holds 1 (by repeat (first | exact .nil | refine has1 ?_))) ?_
    intro _ _
    by_cases h0 : b.length = 0
    · (repeat refine ka ?_); refine kr ?_ ?_ (pops_end ?_)
      (repeat refine ka ?_); refine kcf ?_
      (repeat refine ka ?_); refine kx ?_; (repeat (first | with_reducible refine beh_x ?_ | with_reducible refine blk_up rfl ?_)); refine blk_here ?_; refine beh_n ?_
      (repeat refine ka ?_); refine kr ?_ ?_ (pops_end ?_)
      (repeat refine ka ?_); refine kret ?_; repeat (first | with_reducible refine beh_r ?_ | with_reducible refine blk_r ?_)
      refine ends_ret ?_ retPV_one
      exact gives_ints rfl rfl rfl
    by_cases h1 : n < 1
    · (repeat refine ka ?_); refine kr ?_ ?_ (pops_end ?_)
      (repeat refine ka ?_); refine kcf ?_
      (repeat refine ka ?_); refine kx ?_; (repeat (first | with_reducible refine beh_x ?_ | with_reducible refine blk_up rfl ?_)); refine blk_here ?_; refine beh_n ?_
      (repeat refine ka ?_); refine kr ?_ ?_ (pops_end ?_)
      (repeat refine ka ?_); refine kret ?_; repeat (first | with_reducible refine beh_r ?_ | with_reducible refine blk_r ?_)
      refine ends_ret ?_ retPV_one
      exact gives_ints rfl rfl rfl
    · (repeat refine ka ?_); refine kr ?_ ?_ (pops_end ?_)
      (repeat refine ka ?_); refine kcf ?_
      (repeat refine ka ?_); refine kx ?_; (repeat (first | with_reducible refine beh_x ?_ | with_reducible refine blk_up rfl ?_)); refine blk_here ?_; refine beh_n ?_
      (repeat refine ka ?_); refine kr ?_ ?_ (pops_end ?_)
      (repeat refine ka ?_); refine kret ?_; repeat (first | with_reducible refine beh_r ?_ | with_reducible refine blk_r ?_)
      refine ends_ret ?_ retPV_one
      exact gives_ints rfl rfl rfl
  obtain ⟨k, hk⟩ : ∃ k : Nat, n = k := ⟨n.toNat, by omega⟩
  subst hk
  have hz : deltaB b k = dBack b k b.length := by unfold deltaB; rw [if_pos (by omega), Int.toNat_natCast]
  rw [hz]
  refine kw (fun i : Nat => [(0, PV.ro 1 false (ints .u8 b)), (1, .v (.int .i64 k)), (5, .vw 0 g 0 b.length), (6, .v (.int .i64 i))]) (fun i => [⟨g, true, 1, ints .u8 (mix b (dBack b k i))⟩]) (fun i => i ≤ b.length) (fun i => b.length - i) 0 (Nat.zero_le _) (by rw [show dBack b k 0 = [] from rfl, mix_nil]; exact (holds 1 (by repeat (first | exact .nil | refine has1 ?_)))) ?_
  intro i hi2
  have hGl := dBack_length b k i
  have hml : (mix b (dBack b k i)).length = b.length := mix_length (by omega)
  by_cases hg : (i : Int) < b.length
  · by_cases hik : (k : Int) ≤ i
    · have hw : IntKind.u8.wrap (b.getD ((i : Nat) : Int).toNat 0 + (mix b (dBack b k i)).getD (0 + (((i : Nat) : Int) - ((k : Nat) : Int)).toNat) 0) = (b.getD ((i : Nat) : Int).toNat 0 + (mix b (dBack b k i)).getD (0 + (((i : Nat) : Int) - ((k : Nat) : Int)).toNat) 0) % 256 := wrap_u8m _
      have hgx : (mix b (dBack b k i)).getD (0 + (((i : Nat) : Int) - ((k : Nat) : Int)).toNat) 0 = (dBack b k i).getD (i - k) 0 := by
        rw [Nat.zero_add, show (((i : Nat) : Int) - ((k : Nat) : Int)).toNat = i - k by omega, mix_get (by rw [hGl]; omega)]
      have hset : (mix b (dBack b k i)).set (0 + ((i : Nat) : Int).toNat) ((b.getD ((i : Nat) : Int).toNat 0 + (mix b (dBack b k i)).getD (0 + (((i : Nat) : Int) - ((k : Nat) : Int)).toNat) 0) % 256) = mix b (dBack b k (i + 1)) := by
        have h1 := mix_set (b := b) (G := dBack b k i) (v := (b.getD i 0 + (dBack b k i).getD (i - k) 0) % 256) (by omega)
        rw [hGl] at h1
        rw [hgx, dBack, if_neg (by omega), ← h1, Int.toNat_natCast, Nat.zero_add]
      (repeat refine ka ?_); refine kr ?_ ?_ (pops_end ?_)
      (repeat refine ka ?_); refine kct ?_
      (repeat refine ka ?_); refine ksk ?_
      (repeat refine ka ?_); refine kb ?_
      (repeat refine ka ?_); refine kr ?_ ?_ (pops_end ?_)
      (repeat refine ka ?_); refine kct ?_
      (repeat refine ka ?_); refine kdw ?_ ?_
      refine ps_seti (k0 := .u8) (l := mix b (dBack b k i)) ?_
      refine pops_nil ?_
      rw [hset]
      refine kn ?_; repeat (first | with_reducible refine blk_n ?_ | with_reducible refine beh_n ?_)
      (repeat refine ka ?_); refine kr ?_ ?_ (pops_end ?_)
      refine kn ?_; repeat (first | with_reducible refine blk_n ?_ | with_reducible refine beh_n ?_)
      exact ⟨i + 1, by omega, by omega, (holds 1 (by repeat (first | exact .nil | refine has1 ?_)))⟩
    · have hsm : mix b (dBack b k i) = mix b (dBack b k (i + 1)) := by
        have h1 := mix_same (b := b) (G := dBack b k i) (by omega)
        rw [hGl] at h1
        rw [h1, dBack, if_pos (by omega)]
      rw [hsm]
      (repeat refine ka ?_); refine kr ?_ ?_ (pops_end ?_)
      (repeat refine ka ?_); refine kct ?_
      (repeat refine ka ?_); refine ksk ?_
      (repeat refine ka ?_); refine kb ?_
      (repeat refine ka ?_); refine kr ?_ ?_ (pops_end ?_)
      (repeat refine ka ?_); refine kcf ?_
      (repeat refine ka ?_); refine ksk ?_
      refine kn ?_; repeat (first | with_reducible refine blk_n ?_ | with_reducible refine beh_n ?_)
      (repeat refine ka ?_); refine kr ?_ ?_ (pops_end ?_)
      refine kn ?_; repeat (first | with_reducible refine blk_n ?_ | with_reducible refine beh_n ?_)
      exact ⟨i + 1, by omega, by omega, (holds 1 (by repeat (first | exact .nil | refine has1 ?_)))⟩
  · obtain rfl : i = b.length := by omega
    (repeat refine ka ?_); refine kr ?_ ?_ (pops_end ?_)
    (repeat refine ka ?_); refine kcf ?_
    (repeat refine ka ?_); refine kx ?_; (repeat (first | with_reducible refine beh_x ?_ | with_reducible refine blk_up rfl ?_)); refine blk_here ?_; refine beh_n ?_
    (repeat refine ka ?_); refine kr ?_ ?_ (pops_end ?_)
    (repeat refine ka ?_); refine kret ?_; repeat (first | with_reducible refine beh_r ?_ | with_reducible refine blk_r ?_)
    rw [mix_all (dBack_length _ _ _)]
    refine ends_ret ?_ retPV_one
    exact gives_ints rfl rfl (dBack_length _ _ _)
end Go.Proofs.Yteocmeidkdhmiaa.Pv
