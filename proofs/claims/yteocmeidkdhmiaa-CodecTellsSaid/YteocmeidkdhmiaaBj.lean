-- bcj: through, Put, Back; carapaceref08: through, Put, Back.
import Derived.Test.YteocmeidkdhmiaaDe
import Derived.Test.YteocmeidkdhmiaaBt
namespace Go.Proofs.Yteocmeidkdhmiaa.Pv
set_option linter.all false
open Go.RowKit Go.Proofs
set_option maxRecDepth 100000
set_option maxHeartbeats 4000000
def bF (s : Int) (l : List Int) (i : Nat) : Int := l.getD (4 * i) 0 + 256 * l.getD (4 * i + 1) 0 + s * i
def bStep (s : Int) (l : List Int) (i : Nat) : List Int := if l.getD (4 * i + 3) 0 = 20 then (l.set (4 * i) (bF s l i % 256)).set (4 * i + 1) (bF s l i / 256 % 256) else l
def bGoW (s : Int) (l : List Int) : Nat → List Int
  | 0 => l
  | i + 1 => bStep s (bGoW s l i) i
def bcjF (s : Int) (l : List Int) : List Int := bGoW s l (l.length / 4)
theorem bStep_length (s : Int) (l : List Int) (i : Nat) : (bStep s l i).length = l.length := by
  unfold bStep
  split <;> simp
theorem bGoW_length (s : Int) (l : List Int) : ∀ i, (bGoW s l i).length = l.length
  | 0 => rfl
  | i + 1 => by rw [bGoW, bStep_length, bGoW_length s l i]
theorem bcjF_length (s : Int) (l : List Int) : (bcjF s l).length = l.length := bGoW_length s l _
theorem getD_set (l : List Int) (i j : Nat) (v : Int) : (l.set i v).getD j 0 = if i = j ∧ j < l.length then v else l.getD j 0 := by
  rw [List.getD_eq_getElem?_getD, List.getD_eq_getElem?_getD, List.getElem?_set]
  by_cases h : i = j
  · subst h
    by_cases h2 : i < l.length
    · simp [h2]
    · simp [h2]
  · simp [h]
/-- What stands at a place. -/
def bVal (s : Int) (l : List Int) (j : Nat) : Int := if l.getD (4 * (j / 4) + 3) 0 = 20 then (if j % 4 = 0 then bF s l (j / 4) % 256 else if j % 4 = 1 then bF s l (j / 4) / 256 % 256 else l.getD j 0) else l.getD j 0
theorem bGoW_get (s : Int) (l : List Int) : ∀ (i j : Nat), 4 * i ≤ l.length → (bGoW s l i).getD j 0 = if j / 4 < i then bVal s l j else l.getD j 0
  | 0, j, _ => by simp [bGoW]
  | i + 1, j, h => by
    have ih := fun j => bGoW_get s l i j (by omega)
    have hl := bGoW_length s l i
    have e0 := ih (4 * i)
    have e1 := ih (4 * i + 1)
    have e3 := ih (4 * i + 3)
    rw [if_neg (by omega)] at e0 e1 e3
    have ef : bF s (bGoW s l i) i = bF s l i := by unfold bF; rw [e0, e1]
    rw [bGoW]
    unfold bStep
    rw [e3, ef]
    by_cases h20 : l.getD (4 * i + 3) 0 = 20
    · rw [if_pos h20, getD_set, List.length_set, hl, getD_set, hl]
      by_cases j1 : 4 * i + 1 = j
      · subst j1
        rw [if_pos ⟨rfl, by omega⟩, if_pos (by omega)]
        unfold bVal
        rw [show (4 * i + 1) / 4 = i by omega, if_pos h20, if_neg (by omega), if_pos (by omega)]
      rw [if_neg (fun k => j1 k.1)]
      by_cases j0 : 4 * i = j
      · subst j0
        rw [if_pos ⟨rfl, by omega⟩, if_pos (by omega)]
        unfold bVal
        rw [show (4 * i) / 4 = i by omega, if_pos h20, if_pos (by omega)]
      rw [if_neg (fun k => j0 k.1), ih j]
      by_cases j2 : j / 4 < i
      · rw [if_pos j2, if_pos (by omega)]
      · rw [if_neg j2]
        by_cases j3 : j / 4 < i + 1
        · rw [if_pos j3]
          unfold bVal
          rw [show j / 4 = i by omega, if_pos h20, if_neg (by omega), if_neg (by omega)]
        · rw [if_neg j3]
    · rw [if_neg h20, ih j]
      by_cases j2 : j / 4 < i
      · rw [if_pos j2, if_pos (by omega)]
      · rw [if_neg j2]
        by_cases j3 : j / 4 < i + 1
        · rw [if_pos j3]
          unfold bVal
          rw [show j / 4 = i by omega, if_neg h20]
        · rw [if_neg j3]
theorem getD_ext {a b : List Int} (hl : a.length = b.length) (h : ∀ i, i < a.length → a.getD i 0 = b.getD i 0) : a = b := by
  apply List.ext_getElem hl
  intro i h1 h2
  have := h i h1
  rw [List.getD_eq_getElem?_getD, List.getD_eq_getElem?_getD, List.getElem?_eq_getElem h1, List.getElem?_eq_getElem h2] at this
  exact this
theorem bcjF_oct {l : List Int} (s : Int) (h : Oct l) : Oct (bcjF s l) := by
  intro x hx
  obtain ⟨j, hj⟩ := List.mem_iff_getElem?.1 hx
  have hlt := (List.getElem?_eq_some_iff.1 hj).1
  have e : (bcjF s l).getD j 0 = x := by rw [List.getD_eq_getElem?_getD, hj]; rfl
  rw [← e, bcjF, bGoW_get s l _ j (by omega)]
  have hg := oct_getD h j
  split
  · unfold bVal
    split
    · split
      · omega
      · split
        · omega
        · exact hg
    · exact hg
  · exact hg
theorem bcj_back {l : List Int} (h : Oct l) : bcjF (-1) (bcjF 1 l) = l := by
  have hl := bcjF_length 1 l
  refine getD_ext (by rw [bcjF_length, hl]) (fun j hj => ?_)
  rw [bcjF_length, hl] at hj
  have e1 : ∀ k, (bcjF 1 l).getD k 0 = if k / 4 < l.length / 4 then bVal 1 l k else l.getD k 0 := fun k => bGoW_get 1 l _ k (by omega)
  have e2 : (bcjF (-1) (bcjF 1 l)).getD j 0 = if j / 4 < l.length / 4 then bVal (-1) (bcjF 1 l) j else (bcjF 1 l).getD j 0 := by
    have := bGoW_get (-1) (bcjF 1 l) ((bcjF 1 l).length / 4) j (by omega)
    rw [hl] at this
    unfold bcjF at this ⊢
    rw [bGoW_length]
    exact this
  rw [e2]
  by_cases hw : j / 4 < l.length / 4
  · rw [if_pos hw]
    have a3 := e1 (4 * (j / 4) + 3)
    have a0 := e1 (4 * (j / 4))
    have a1 := e1 (4 * (j / 4) + 1)
    have aj := e1 j
    rw [if_pos (by omega)] at a3 a0 a1
    rw [if_pos hw] at aj
    unfold bVal at a3 a0 a1 aj
    rw [show (4 * (j / 4) + 3) / 4 = j / 4 by omega] at a3
    rw [show (4 * (j / 4)) / 4 = j / 4 by omega] at a0
    rw [show (4 * (j / 4) + 1) / 4 = j / 4 by omega] at a1
    by_cases h20 : l.getD (4 * (j / 4) + 3) 0 = 20
    · rw [if_pos h20, if_neg (by omega), if_neg (by omega), h20] at a3
      rw [if_pos h20, if_pos (by omega)] at a0
      rw [if_pos h20, if_neg (by omega), if_pos (by omega)] at a1
      rw [if_pos h20] at aj
      unfold bVal
      rw [if_pos a3]
      have x0 := oct_getD h (4 * (j / 4))
      have x1 := oct_getD h (4 * (j / 4) + 1)
      have hf : bF (-1) (bcjF 1 l) (j / 4) = bF 1 l (j / 4) % 256 + 256 * (bF 1 l (j / 4) / 256 % 256) + (-1) * ((j / 4 : Nat) : Int) := by
        conv => lhs; unfold bF
        rw [a0, a1]
      have hg : bF 1 l (j / 4) = l.getD (4 * (j / 4)) 0 + 256 * l.getD (4 * (j / 4) + 1) 0 + 1 * ((j / 4 : Nat) : Int) := rfl
      by_cases r0 : j % 4 = 0
      · rw [if_pos r0, hf, hg, show l.getD j 0 = l.getD (4 * (j / 4)) 0 by congr 1; omega]
        omega
      · rw [if_neg r0]
        by_cases r1 : j % 4 = 1
        · rw [if_pos r1, hf, hg, show l.getD j 0 = l.getD (4 * (j / 4) + 1) 0 by congr 1; omega]
          omega
        · rw [if_neg r1, aj, if_neg r0, if_neg r1]
    · rw [if_neg h20] at a3 aj
      unfold bVal
      rw [if_neg (by rw [a3]; exact h20), aj]
  · rw [if_neg hw, e1 j, if_neg hw]
theorem bput1_ok (x y : Int) : PCall Try.prog 49 [.v (.int .u32 x), .v (.int .u32 y)] (.v (.int .u32 ((x + y) % 4294967296))) := by
  have hw : IntKind.u32.wrap (x + y) = (x + y) % 4294967296 := wrap_u32m _
  refine pcall_mk Try.func49 rfl [.tmp 4] Try.results49 8 rfl (tk_start ?_)
  (repeat' (first | refine ka ?_ | refine ksk ?_ | (refine kr ?_ ?_ ?_; first | refine pops_end ?_ | (refine ps_split (fun hb => ?_) (fun hb => ?_); (fail_if_success (guard_hyp hb : true = true)); (fail_if_success (guard_hyp hb : false = true)); all_goals (have hp := hb; (try simp only [decide_eq_true_eq, Bool.eq_false_iff, ne_eq, Bool.not_eq_true', Bool.not_eq_false', Bool.and_eq_true, Bool.or_eq_true, decide_true, decide_false, Bool.and_true, Bool.true_and, Bool.false_eq_true, not_false_eq_true, true_and, and_true] at hp); (try rw [hb]); (try clear hb))) | refine ps_alloc fun g => ?_ | refine ps_box fun g => ?_ | refine ps_store ?_ | refine ps_lit fun g => ?_ | refine pops_nil ?_ | skip) | (refine kd ?_ ?_ ?_; first | refine pstl_end ?_ | (refine pd_split (fun hb => ?_) (fun hb => ?_); (fail_if_success (guard_hyp hb : true = true)); (fail_if_success (guard_hyp hb : false = true)); all_goals (have hp := hb; (try simp only [decide_eq_true_eq, Bool.eq_false_iff, ne_eq, Bool.not_eq_true', Bool.not_eq_false', Bool.and_eq_true, Bool.or_eq_true, decide_true, decide_false, Bool.and_true, Bool.true_and, Bool.false_eq_true, not_false_eq_true, true_and, and_true] at hp); (try rw [hb]); (try clear hb))) | skip) | refine kct ?_ | refine kcf ?_ | (refine kcs (fun hb => ?_) (fun hb => ?_) <;> (have hp := hb; (try simp only [decide_eq_true_eq, Bool.eq_false_iff, ne_eq, Bool.not_eq_true', Bool.not_eq_false', Bool.and_eq_true, Bool.or_eq_true, decide_true, decide_false, Bool.and_true, Bool.true_and, Bool.false_eq_true, not_false_eq_true, true_and, and_true] at hp); (try rw [hb]); (try clear hb))) | (refine kret ?_; repeat (first | with_reducible refine beh_r ?_ | with_reducible refine blk_r ?_)) | refine kb ?_ | (refine ps_split (fun hb => ?_) (fun hb => ?_); (fail_if_success (guard_hyp hb : true = true)); (fail_if_success (guard_hyp hb : false = true)); all_goals (have hp := hb; (try simp only [decide_eq_true_eq, Bool.eq_false_iff, ne_eq, Bool.not_eq_true', Bool.not_eq_false', Bool.and_eq_true, Bool.or_eq_true, decide_true, decide_false, Bool.and_true, Bool.true_and, Bool.false_eq_true, not_false_eq_true, true_and, and_true] at hp); (try rw [hb]); (try clear hb))) | refine ps_alloc fun g => ?_ | refine ps_box fun g => ?_ | refine ps_store ?_ | refine ps_lit fun g => ?_ | refine pops_nil ?_ | (refine pd_split (fun hb => ?_) (fun hb => ?_); (fail_if_success (guard_hyp hb : true = true)); (fail_if_success (guard_hyp hb : false = true)); all_goals (have hp := hb; (try simp only [decide_eq_true_eq, Bool.eq_false_iff, ne_eq, Bool.not_eq_true', Bool.not_eq_false', Bool.and_eq_true, Bool.or_eq_true, decide_true, decide_false, Bool.and_true, Bool.true_and, Bool.false_eq_true, not_false_eq_true, true_and, and_true] at hp); (try rw [hb]); (try clear hb))) | (refine pops_go ?_ ?_ ?_; first | refine pops_end ?_ | (refine ps_split (fun hb => ?_) (fun hb => ?_); (fail_if_success (guard_hyp hb : true = true)); (fail_if_success (guard_hyp hb : false = true)); all_goals (have hp := hb; (try simp only [decide_eq_true_eq, Bool.eq_false_iff, ne_eq, Bool.not_eq_true', Bool.not_eq_false', Bool.and_eq_true, Bool.or_eq_true, decide_true, decide_false, Bool.and_true, Bool.true_and, Bool.false_eq_true, not_false_eq_true, true_and, and_true] at hp); (try rw [hb]); (try clear hb))) | refine ps_alloc fun g => ?_ | refine ps_box fun g => ?_ | refine ps_store ?_ | refine ps_lit fun g => ?_ | refine pops_nil ?_) | (refine pstl_go ?_ ?_ ?_; first | refine pstl_end ?_ | (refine pd_split (fun hb => ?_) (fun hb => ?_); (fail_if_success (guard_hyp hb : true = true)); (fail_if_success (guard_hyp hb : false = true)); all_goals (have hp := hb; (try simp only [decide_eq_true_eq, Bool.eq_false_iff, ne_eq, Bool.not_eq_true', Bool.not_eq_false', Bool.and_eq_true, Bool.or_eq_true, decide_true, decide_false, Bool.and_true, Bool.true_and, Bool.false_eq_true, not_false_eq_true, true_and, and_true] at hp); (try rw [hb]); (try clear hb)))) | (refine kn ?_; repeat (first | with_reducible refine blk_n ?_ | with_reducible refine beh_n ?_)) | (refine kx ?_; (repeat (first | with_reducible refine beh_x ?_ | with_reducible refine blk_up rfl ?_)); refine blk_here ?_; refine beh_n ?_)))
  refine ends_ret ?_ retPV_one
  rfl
theorem bback1_ok (x y : Int) : PCall Try.prog 51 [.v (.int .u32 x), .v (.int .u32 y)] (.v (.int .u32 ((x - y) % 4294967296))) := by
  have hw : IntKind.u32.wrap (x - y) = (x - y) % 4294967296 := wrap_u32m _
  refine pcall_mk Try.func51 rfl [.tmp 4] Try.results51 8 rfl (tk_start ?_)
  (repeat' (first | refine ka ?_ | refine ksk ?_ | (refine kr ?_ ?_ ?_; first | refine pops_end ?_ | (refine ps_split (fun hb => ?_) (fun hb => ?_); (fail_if_success (guard_hyp hb : true = true)); (fail_if_success (guard_hyp hb : false = true)); all_goals (have hp := hb; (try simp only [decide_eq_true_eq, Bool.eq_false_iff, ne_eq, Bool.not_eq_true', Bool.not_eq_false', Bool.and_eq_true, Bool.or_eq_true, decide_true, decide_false, Bool.and_true, Bool.true_and, Bool.false_eq_true, not_false_eq_true, true_and, and_true] at hp); (try rw [hb]); (try clear hb))) | refine ps_alloc fun g => ?_ | refine ps_box fun g => ?_ | refine ps_store ?_ | refine ps_lit fun g => ?_ | refine pops_nil ?_ | skip) | (refine kd ?_ ?_ ?_; first | refine pstl_end ?_ | (refine pd_split (fun hb => ?_) (fun hb => ?_); (fail_if_success (guard_hyp hb : true = true)); (fail_if_success (guard_hyp hb : false = true)); all_goals (have hp := hb; (try simp only [decide_eq_true_eq, Bool.eq_false_iff, ne_eq, Bool.not_eq_true', Bool.not_eq_false', Bool.and_eq_true, Bool.or_eq_true, decide_true, decide_false, Bool.and_true, Bool.true_and, Bool.false_eq_true, not_false_eq_true, true_and, and_true] at hp); (try rw [hb]); (try clear hb))) | skip) | refine kct ?_ | refine kcf ?_ | (refine kcs (fun hb => ?_) (fun hb => ?_) <;> (have hp := hb; (try simp only [decide_eq_true_eq, Bool.eq_false_iff, ne_eq, Bool.not_eq_true', Bool.not_eq_false', Bool.and_eq_true, Bool.or_eq_true, decide_true, decide_false, Bool.and_true, Bool.true_and, Bool.false_eq_true, not_false_eq_true, true_and, and_true] at hp); (try rw [hb]); (try clear hb))) | (refine kret ?_; repeat (first | with_reducible refine beh_r ?_ | with_reducible refine blk_r ?_)) | refine kb ?_ | (refine ps_split (fun hb => ?_) (fun hb => ?_); (fail_if_success (guard_hyp hb : true = true)); (fail_if_success (guard_hyp hb : false = true)); all_goals (have hp := hb; (try simp only [decide_eq_true_eq, Bool.eq_false_iff, ne_eq, Bool.not_eq_true', Bool.not_eq_false', Bool.and_eq_true, Bool.or_eq_true, decide_true, decide_false, Bool.and_true, Bool.true_and, Bool.false_eq_true, not_false_eq_true, true_and, and_true] at hp); (try rw [hb]); (try clear hb))) | refine ps_alloc fun g => ?_ | refine ps_box fun g => ?_ | refine ps_store ?_ | refine ps_lit fun g => ?_ | refine pops_nil ?_ | (refine pd_split (fun hb => ?_) (fun hb => ?_); (fail_if_success (guard_hyp hb : true = true)); (fail_if_success (guard_hyp hb : false = true)); all_goals (have hp := hb; (try simp only [decide_eq_true_eq, Bool.eq_false_iff, ne_eq, Bool.not_eq_true', Bool.not_eq_false', Bool.and_eq_true, Bool.or_eq_true, decide_true, decide_false, Bool.and_true, Bool.true_and, Bool.false_eq_true, not_false_eq_true, true_and, and_true] at hp); (try rw [hb]); (try clear hb))) | (refine pops_go ?_ ?_ ?_; first | refine pops_end ?_ | (refine ps_split (fun hb => ?_) (fun hb => ?_); (fail_if_success (guard_hyp hb : true = true)); (fail_if_success (guard_hyp hb : false = true)); all_goals (have hp := hb; (try simp only [decide_eq_true_eq, Bool.eq_false_iff, ne_eq, Bool.not_eq_true', Bool.not_eq_false', Bool.and_eq_true, Bool.or_eq_true, decide_true, decide_false, Bool.and_true, Bool.true_and, Bool.false_eq_true, not_false_eq_true, true_and, and_true] at hp); (try rw [hb]); (try clear hb))) | refine ps_alloc fun g => ?_ | refine ps_box fun g => ?_ | refine ps_store ?_ | refine ps_lit fun g => ?_ | refine pops_nil ?_) | (refine pstl_go ?_ ?_ ?_; first | refine pstl_end ?_ | (refine pd_split (fun hb => ?_) (fun hb => ?_); (fail_if_success (guard_hyp hb : true = true)); (fail_if_success (guard_hyp hb : false = true)); all_goals (have hp := hb; (try simp only [decide_eq_true_eq, Bool.eq_false_iff, ne_eq, Bool.not_eq_true', Bool.not_eq_false', Bool.and_eq_true, Bool.or_eq_true, decide_true, decide_false, Bool.and_true, Bool.true_and, Bool.false_eq_true, not_false_eq_true, true_and, and_true] at hp); (try rw [hb]); (try clear hb)))) | (refine kn ?_; repeat (first | with_reducible refine blk_n ?_ | with_reducible refine beh_n ?_)) | (refine kx ?_; (repeat (first | with_reducible refine beh_x ?_ | with_reducible refine blk_up rfl ?_)); refine blk_here ?_; refine beh_n ?_)))
  refine ends_ret ?_ retPV_one
  rfl
theorem bthrough (f : FuncId) [hf : FnOk Try.prog f] (s : Int) (hs : s = 1 ∨ s = -1) (cf : ∀ x y : Int, PCall Try.prog f [.v (.int .u32 x), .v (.int .u32 y)] (.v (.int .u32 ((x + s * y) % 4294967296)))) (b : List Int) (ho : Oct b) (hl : b.length ≤ 1000000) : PCall Try.prog 48 [.ro 1 false (ints .u8 b), .fn (.func f) [] []] (.ro 1 false (ints .u8 (bcjF s b))) := by
  refine pcall_mkg Try.func48 rfl [.tmp 4] Try.results48 50 rfl (tk_start ?_)
  (repeat refine ka ?_); refine kr ?_ ?_ (pops_end ?_)
  (repeat refine ka ?_); refine kr ?_ ?_ ?_
  refine ps_fcall [] (clone_own b (by omega)) ?_ (by rintro x S' (⟨rfl, _, rfl⟩ | ⟨g, rfl, rfl⟩) <;> exact Nat.zero_le _)
  rintro x S' (⟨rfl, rfl, rfl⟩ | ⟨g, rfl, rfl⟩)
  · (intro x1 S1 hx1 hS1; simp only [List.map_cons, List.map_nil, renB, ren_ints, putB, List.set_cons_zero, List.set_cons_succ, List.cons_append, List.nil_append, List.append_nil, renL, ren, sg, List.length_cons, List.length_nil, Nat.reduceAdd, Nat.zero_add, Nat.add_zero] at hx1 hS1; subst hx1 hS1)
    refine pops_go ?_ ?_ (pops_end ?_)
    (repeat refine ka ?_); refine kr ?_ ?_ (pops_end ?_)
    (repeat refine ka ?_); refine kb ?_
    refine kw (fun _ : Unit => [(5, PV.v (.slice none 0 0)), (13, .v (.int .i64 0)), (14, .v (.int .i64 0))]) (fun _ => []) (fun _ => True) (fun _ => 0) () trivial (holds 0 (by repeat (first | exact .nil | refine has1 ?_))) ?_
    intro _ _
    (repeat refine ka ?_); refine kr ?_ ?_ (pops_end ?_)
    (repeat refine ka ?_); refine kcf ?_
    (repeat refine ka ?_); refine kx ?_; (repeat (first | with_reducible refine beh_x ?_ | with_reducible refine blk_up rfl ?_)); refine blk_here ?_; refine beh_n ?_
    (repeat refine ka ?_); refine kr ?_ ?_ (pops_end ?_)
    (repeat refine ka ?_); refine kret ?_; repeat (first | with_reducible refine beh_r ?_ | with_reducible refine blk_r ?_)
    refine ends_ret ?_ retPV_one
    exact .nil
  · (intro x1 S1 hx1 hS1; simp only [List.map_cons, List.map_nil, renB, ren_ints, putB, List.set_cons_zero, List.set_cons_succ, List.cons_append, List.nil_append, List.append_nil, renL, ren, sg, List.length_cons, List.length_nil, Nat.reduceAdd, Nat.zero_add, Nat.add_zero] at hx1 hS1; subst hx1 hS1)
    refine pops_go ?_ ?_ (pops_end ?_)
    (repeat refine ka ?_); refine kr ?_ ?_ (pops_end ?_)
    (repeat refine ka ?_); refine kb ?_
    refine kw (fun i : Nat => [(1, PV.fn (.func f) [] []), (5, .vw 0 g 0 b.length), (13, .v (.int .i64 ((b.length : Int) / 4))), (14, .v (.int .i64 i))]) (fun i => [⟨g, true, 1, ints .u8 (bGoW s b i)⟩]) (fun i => i ≤ b.length / 4) (fun i => b.length / 4 - i) 0 (Nat.zero_le _) (holds 1 (by repeat (first | exact .nil | refine has1 ?_))) ?_
    intro i hi
    have hXl := bGoW_length s b i
    by_cases hg : (i : Int) < (b.length : Int) / 4
    · have e0 := bGoW_get s b i (4 * i) (by omega)
      have e1 := bGoW_get s b i (4 * i + 1) (by omega)
      have e3 := bGoW_get s b i (4 * i + 3) (by omega)
      rw [if_neg (by omega)] at e0 e1 e3
      have hst : bGoW s b (i + 1) = bStep s (bGoW s b i) i := rfl
      have h0 := oct_getD ho (4 * i)
      have h1 := oct_getD ho (4 * i + 1)
      have hff : bF s (bGoW s b i) i = b.getD (4 * i) 0 + 256 * b.getD (4 * i + 1) 0 + s * i := by unfold bF; rw [e0, e1]
      unfold bStep at hst
      rw [hff, e3] at hst
      generalize bGoW s b i = X at *
      have i0 : (4 * ((i : Nat) : Int)).toNat + Int.toNat 0 = 4 * i := by omega
      have i1 : (4 * ((i : Nat) : Int)).toNat + Int.toNat 1 = 4 * i + 1 := by omega
      have i3 : (4 * ((i : Nat) : Int)).toNat + Int.toNat 3 = 4 * i + 3 := by omega
      rw [← i3] at e3
      rw [← i0] at e0
      rw [← i1] at e1
      by_cases h20 : b.getD (4 * i + 3) 0 = 20
      · rw [← i3] at h20
        have hc : X.getD ((4 * ((i : Nat) : Int)).toNat + Int.toNat 3) 0 = 20 := by rw [e3, h20]
        rw [← i0] at h0
        rw [← i1] at h1
        rw [← e0] at h0
        rw [← e1] at h1
        rw [← i3, if_pos h20, ← i1, ← i0, ← e0, ← e1] at hst
        generalize hA : X.getD ((4 * ((i : Nat) : Int)).toNat + Int.toNat 0) 0 = A at *
        generalize hB : X.getD ((4 * ((i : Nat) : Int)).toNat + Int.toNat 1) 0 = B at *
        have hO : Go.bits .or .u32 A (B * 256) = A + B * 256 := by
          have := or_add_u32 8 B A h1.1 (by simp; omega) h0.1 (by simp; omega)
          rw [show ((2 : Int) ^ 8) = 256 from rfl] at this
          rw [or_comm_u32, this, Int.add_comm]
        have hF : ∀ z : Int, ((A + B * 256 + s * i) % 4294967296) % 256 = (A + 256 * B + s * i) % 256 ∧ ((A + B * 256 + s * i) % 4294967296) / 256 % 256 = (A + 256 * B + s * i) / 256 % 256 := by
          intro z
          rcases hs with rfl | rfl <;> constructor <;> omega
        have hF0 := (hF 0).1
        have hF1 := (hF 0).2
        have hfr : 0 ≤ (A + B * 256 + s * i) % 4294967296 ∧ (A + B * 256 + s * i) % 4294967296 < 4294967296 := by omega
        (repeat refine ka ?_); refine kr ?_ ?_ (pops_end ?_)
        (repeat refine ka ?_); refine kct ?_
        (repeat refine ka ?_); refine ksk ?_
        (repeat refine ka ?_); refine kb ?_
        (repeat refine ka ?_); refine kr ?_ ?_ (pops_end ?_)
        (repeat refine ka ?_); refine kr ?_ ?_ (pops_end ?_)
        (repeat refine ka ?_); refine kr ?_ ?_ (pops_end ?_)
        (repeat refine ka ?_); refine kct ?_
        (repeat refine ka ?_); refine kd ?_ ?_ ?_
        simp only [hA, hB, hO]
        refine pd_vcall (us := [.v (.int .u32 (A + B * 256)), .v (.int .u32 i)]) (cf _ _) ?_
        refine pstl_go ?_ ?_ (pstl_end ?_)
        generalize (A + B * 256 + s * i) % 4294967296 = far at *
        have hwf : IntKind.u8.wrap far = far % 256 := wrap_u8m _
        have hwf2 : IntKind.u8.wrap (far / 256) = far / 256 % 256 := wrap_u8m _
        (repeat refine ka ?_); refine kr ?_ ?_ ?_
        refine ps_seti (k0 := .u8) (l := X) ?_
        refine pops_go ?_ ?_ ?_
        refine ps_seti (k0 := .u8) (l := X.set ((4 * ((i : Nat) : Int)).toNat + Int.toNat 0) (far % 256)) (hi := by rw [List.length_set]; omega) ?_
        refine pops_nil ?_
        rw [hF0, hF1, ← hst]
        refine kn ?_; repeat (first | with_reducible refine blk_n ?_ | with_reducible refine beh_n ?_)
        (repeat refine ka ?_); refine kr ?_ ?_ (pops_end ?_)
        refine kn ?_; repeat (first | with_reducible refine blk_n ?_ | with_reducible refine beh_n ?_)
        exact ⟨i + 1, by omega, by omega, (holds 1 (by repeat (first | exact .nil | refine has1 ?_)))⟩
      · rw [← i3] at h20
        have hc : ¬ X.getD ((4 * ((i : Nat) : Int)).toNat + Int.toNat 3) 0 = 20 := by rw [e3]; exact h20
        rw [← i3, if_neg h20] at hst
        subst hst
        (repeat refine ka ?_); refine kr ?_ ?_ (pops_end ?_)
        (repeat refine ka ?_); refine kct ?_
        (repeat refine ka ?_); refine ksk ?_
        (repeat refine ka ?_); refine kb ?_
        (repeat refine ka ?_); refine kr ?_ ?_ (pops_end ?_)
        (repeat refine ka ?_); refine kr ?_ ?_ (pops_end ?_)
        (repeat refine ka ?_); refine kr ?_ ?_ (pops_end ?_)
        (repeat refine ka ?_); refine kcf ?_
        (repeat refine ka ?_); refine ksk ?_
        refine kn ?_; repeat (first | with_reducible refine blk_n ?_ | with_reducible refine beh_n ?_)
        (repeat refine ka ?_); refine kr ?_ ?_ (pops_end ?_)
        refine kn ?_; repeat (first | with_reducible refine blk_n ?_ | with_reducible refine beh_n ?_)
        exact ⟨i + 1, by omega, by omega, (holds 1 (by repeat (first | exact .nil | refine has1 ?_)))⟩
    · obtain rfl : i = b.length / 4 := by omega
      (repeat refine ka ?_); refine kr ?_ ?_ (pops_end ?_)
      (repeat refine ka ?_); refine kcf ?_
      (repeat refine ka ?_); refine kx ?_; (repeat (first | with_reducible refine beh_x ?_ | with_reducible refine blk_up rfl ?_)); refine blk_here ?_; refine beh_n ?_
      (repeat refine ka ?_); refine kr ?_ ?_ (pops_end ?_)
      (repeat refine ka ?_); refine kret ?_; repeat (first | with_reducible refine beh_r ?_ | with_reducible refine blk_r ?_)
      refine ends_ret ?_ retPV_one
      exact gives_ints rfl rfl (bGoW_length s b _)
theorem lbcj_put (b : List Int) (ho : Oct b) (hl : b.length ≤ 1000000) : PCall Try.prog 30 [.ro 1 false (ints .u8 b)] (.ro 1 false (ints .u8 (bcjF 1 b))) := by
  have c1 := bthrough 49 1 (.inl rfl) (fun x y => by have := bput1_ok x y; rw [show x + y = x + 1 * y by omega] at this; exact this) b ho hl
  refine pcall_mk Try.func30 rfl [.tmp 2] Try.results30 5 rfl (tk_start ?_)
  (repeat' (first | refine ka ?_ | refine ksk ?_ | (refine kr ?_ ?_ ?_; first | refine pops_end ?_ | (refine ps_split (fun hb => ?_) (fun hb => ?_); (fail_if_success (guard_hyp hb : true = true)); (fail_if_success (guard_hyp hb : false = true)); all_goals (have hp := hb; (try simp only [decide_eq_true_eq, Bool.eq_false_iff, ne_eq, Bool.not_eq_true', Bool.not_eq_false', Bool.and_eq_true, Bool.or_eq_true, decide_true, decide_false, Bool.and_true, Bool.true_and, Bool.false_eq_true, not_false_eq_true, true_and, and_true] at hp); (try rw [hb]); (try clear hb))) | refine ps_pcall (c1) ?_ | refine ps_pcall_g (c1) ?_ | refine ps_alloc fun g => ?_ | refine ps_box fun g => ?_ | refine ps_store ?_ | refine ps_lit fun g => ?_ | refine pops_nil ?_ | skip) | (refine kd ?_ ?_ ?_; first | refine pstl_end ?_ | (refine pd_split (fun hb => ?_) (fun hb => ?_); (fail_if_success (guard_hyp hb : true = true)); (fail_if_success (guard_hyp hb : false = true)); all_goals (have hp := hb; (try simp only [decide_eq_true_eq, Bool.eq_false_iff, ne_eq, Bool.not_eq_true', Bool.not_eq_false', Bool.and_eq_true, Bool.or_eq_true, decide_true, decide_false, Bool.and_true, Bool.true_and, Bool.false_eq_true, not_false_eq_true, true_and, and_true] at hp); (try rw [hb]); (try clear hb))) | refine pd_pcall (c1) ?_ | refine pd_pcall_g (c1) ?_ | skip) | refine kct ?_ | refine kcf ?_ | (refine kcs (fun hb => ?_) (fun hb => ?_) <;> (have hp := hb; (try simp only [decide_eq_true_eq, Bool.eq_false_iff, ne_eq, Bool.not_eq_true', Bool.not_eq_false', Bool.and_eq_true, Bool.or_eq_true, decide_true, decide_false, Bool.and_true, Bool.true_and, Bool.false_eq_true, not_false_eq_true, true_and, and_true] at hp); (try rw [hb]); (try clear hb))) | (refine kret ?_; repeat (first | with_reducible refine beh_r ?_ | with_reducible refine blk_r ?_)) | refine kb ?_ | (refine ps_split (fun hb => ?_) (fun hb => ?_); (fail_if_success (guard_hyp hb : true = true)); (fail_if_success (guard_hyp hb : false = true)); all_goals (have hp := hb; (try simp only [decide_eq_true_eq, Bool.eq_false_iff, ne_eq, Bool.not_eq_true', Bool.not_eq_false', Bool.and_eq_true, Bool.or_eq_true, decide_true, decide_false, Bool.and_true, Bool.true_and, Bool.false_eq_true, not_false_eq_true, true_and, and_true] at hp); (try rw [hb]); (try clear hb))) | refine ps_pcall (c1) ?_ | refine ps_pcall_g (c1) ?_ | refine ps_alloc fun g => ?_ | refine ps_box fun g => ?_ | refine ps_store ?_ | refine ps_lit fun g => ?_ | refine pops_nil ?_ | (refine pd_split (fun hb => ?_) (fun hb => ?_); (fail_if_success (guard_hyp hb : true = true)); (fail_if_success (guard_hyp hb : false = true)); all_goals (have hp := hb; (try simp only [decide_eq_true_eq, Bool.eq_false_iff, ne_eq, Bool.not_eq_true', Bool.not_eq_false', Bool.and_eq_true, Bool.or_eq_true, decide_true, decide_false, Bool.and_true, Bool.true_and, Bool.false_eq_true, not_false_eq_true, true_and, and_true] at hp); (try rw [hb]); (try clear hb))) | refine pd_pcall (c1) ?_ | refine pd_pcall_g (c1) ?_ | (refine pops_go ?_ ?_ ?_; first | refine pops_end ?_ | (refine ps_split (fun hb => ?_) (fun hb => ?_); (fail_if_success (guard_hyp hb : true = true)); (fail_if_success (guard_hyp hb : false = true)); all_goals (have hp := hb; (try simp only [decide_eq_true_eq, Bool.eq_false_iff, ne_eq, Bool.not_eq_true', Bool.not_eq_false', Bool.and_eq_true, Bool.or_eq_true, decide_true, decide_false, Bool.and_true, Bool.true_and, Bool.false_eq_true, not_false_eq_true, true_and, and_true] at hp); (try rw [hb]); (try clear hb))) | refine ps_pcall (c1) ?_ | refine ps_pcall_g (c1) ?_ | refine ps_alloc fun g => ?_ | refine ps_box fun g => ?_ | refine ps_store ?_ | refine ps_lit fun g => ?_ | refine pops_nil ?_) | (refine pstl_go ?_ ?_ ?_; first | refine pstl_end ?_ | (refine pd_split (fun hb => ?_) (fun hb => ?_); (fail_if_success (guard_hyp hb : true = true)); (fail_if_success (guard_hyp hb : false = true)); all_goals (have hp := hb; (try simp only [decide_eq_true_eq, Bool.eq_false_iff, ne_eq, Bool.not_eq_true', Bool.not_eq_false', Bool.and_eq_true, Bool.or_eq_true, decide_true, decide_false, Bool.and_true, Bool.true_and, Bool.false_eq_true, not_false_eq_true, true_and, and_true] at hp); (try rw [hb]); (try clear hb))) | refine pd_pcall (c1) ?_ | refine pd_pcall_g (c1) ?_) | (refine kn ?_; repeat (first | with_reducible refine blk_n ?_ | with_reducible refine beh_n ?_)) | (refine kx ?_; (repeat (first | with_reducible refine beh_x ?_ | with_reducible refine blk_up rfl ?_)); refine blk_here ?_; refine beh_n ?_)))
  refine ends_ret ?_ retPV_one
  rfl
theorem lbcj_back (b : List Int) (ho : Oct b) (hl : b.length ≤ 1000000) : PCall Try.prog 32 [.ro 1 false (ints .u8 b)] (.ro 1 false (ints .u8 (bcjF (-1) b))) := by
  have c1 := bthrough 51 (-1) (.inr rfl) (fun x y => by have := bback1_ok x y; rw [show x - y = x + -1 * y by omega] at this; exact this) b ho hl
  refine pcall_mk Try.func32 rfl [.tmp 2] Try.results32 5 rfl (tk_start ?_)
  (repeat' (first | refine ka ?_ | refine ksk ?_ | (refine kr ?_ ?_ ?_; first | refine pops_end ?_ | (refine ps_split (fun hb => ?_) (fun hb => ?_); (fail_if_success (guard_hyp hb : true = true)); (fail_if_success (guard_hyp hb : false = true)); all_goals (have hp := hb; (try simp only [decide_eq_true_eq, Bool.eq_false_iff, ne_eq, Bool.not_eq_true', Bool.not_eq_false', Bool.and_eq_true, Bool.or_eq_true, decide_true, decide_false, Bool.and_true, Bool.true_and, Bool.false_eq_true, not_false_eq_true, true_and, and_true] at hp); (try rw [hb]); (try clear hb))) | refine ps_pcall (c1) ?_ | refine ps_pcall_g (c1) ?_ | refine ps_alloc fun g => ?_ | refine ps_box fun g => ?_ | refine ps_store ?_ | refine ps_lit fun g => ?_ | refine pops_nil ?_ | skip) | (refine kd ?_ ?_ ?_; first | refine pstl_end ?_ | (refine pd_split (fun hb => ?_) (fun hb => ?_); (fail_if_success (guard_hyp hb : true = true)); (fail_if_success (guard_hyp hb : false = true)); all_goals (have hp := hb; (try simp only [decide_eq_true_eq, Bool.eq_false_iff, ne_eq, Bool.not_eq_true', Bool.not_eq_false', Bool.and_eq_true, Bool.or_eq_true, decide_true, decide_false, Bool.and_true, Bool.true_and, Bool.false_eq_true, not_false_eq_true, true_and, and_true] at hp); (try rw [hb]); (try clear hb))) | refine pd_pcall (c1) ?_ | refine pd_pcall_g (c1) ?_ | skip) | refine kct ?_ | refine kcf ?_ | (refine kcs (fun hb => ?_) (fun hb => ?_) <;> (have hp := hb; (try simp only [decide_eq_true_eq, Bool.eq_false_iff, ne_eq, Bool.not_eq_true', Bool.not_eq_false', Bool.and_eq_true, Bool.or_eq_true, decide_true, decide_false, Bool.and_true, Bool.true_and, Bool.false_eq_true, not_false_eq_true, true_and, and_true] at hp); (try rw [hb]); (try clear hb))) | (refine kret ?_; repeat (first | with_reducible refine beh_r ?_ | with_reducible refine blk_r ?_)) | refine kb ?_ | (refine ps_split (fun hb => ?_) (fun hb => ?_); (fail_if_success (guard_hyp hb : true = true)); (fail_if_success (guard_hyp hb : false = true)); all_goals (have hp := hb; (try simp only [decide_eq_true_eq, Bool.eq_false_iff, ne_eq, Bool.not_eq_true', Bool.not_eq_false', Bool.and_eq_true, Bool.or_eq_true, decide_true, decide_false, Bool.and_true, Bool.true_and, Bool.false_eq_true, not_false_eq_true, true_and, and_true] at hp); (try rw [hb]); (try clear hb))) | refine ps_pcall (c1) ?_ | refine ps_pcall_g (c1) ?_ | refine ps_alloc fun g => ?_ | refine ps_box fun g => ?_ | refine ps_store ?_ | refine ps_lit fun g => ?_ | refine pops_nil ?_ | (refine pd_split (fun hb => ?_) (fun hb => ?_); (fail_if_success (guard_hyp hb : true = true)); (fail_if_success (guard_hyp hb : false = true)); all_goals (have hp := hb; (try simp only [decide_eq_true_eq, Bool.eq_false_iff, ne_eq, Bool.not_eq_true', Bool.not_eq_false', Bool.and_eq_true, Bool.or_eq_true, decide_true, decide_false, Bool.and_true, Bool.true_and, Bool.false_eq_true, not_false_eq_true, true_and, and_true] at hp); (try rw [hb]); (try clear hb))) | refine pd_pcall (c1) ?_ | refine pd_pcall_g (c1) ?_ | (refine pops_go ?_ ?_ ?_; first | refine pops_end ?_ | (refine ps_split (fun hb => ?_) (fun hb => ?_); (fail_if_success (guard_hyp hb : true = true)); (fail_if_success (guard_hyp hb : false = true)); all_goals (have hp := hb; (try simp only [decide_eq_true_eq, Bool.eq_false_iff, ne_eq, Bool.not_eq_true', Bool.not_eq_false', Bool.and_eq_true, Bool.or_eq_true, decide_true, decide_false, Bool.and_true, Bool.true_and, Bool.false_eq_true, not_false_eq_true, true_and, and_true] at hp); (try rw [hb]); (try clear hb))) | refine ps_pcall (c1) ?_ | refine ps_pcall_g (c1) ?_ | refine ps_alloc fun g => ?_ | refine ps_box fun g => ?_ | refine ps_store ?_ | refine ps_lit fun g => ?_ | refine pops_nil ?_) | (refine pstl_go ?_ ?_ ?_; first | refine pstl_end ?_ | (refine pd_split (fun hb => ?_) (fun hb => ?_); (fail_if_success (guard_hyp hb : true = true)); (fail_if_success (guard_hyp hb : false = true)); all_goals (have hp := hb; (try simp only [decide_eq_true_eq, Bool.eq_false_iff, ne_eq, Bool.not_eq_true', Bool.not_eq_false', Bool.and_eq_true, Bool.or_eq_true, decide_true, decide_false, Bool.and_true, Bool.true_and, Bool.false_eq_true, not_false_eq_true, true_and, and_true] at hp); (try rw [hb]); (try clear hb))) | refine pd_pcall (c1) ?_ | refine pd_pcall_g (c1) ?_) | (refine kn ?_; repeat (first | with_reducible refine blk_n ?_ | with_reducible refine beh_n ?_)) | (refine kx ?_; (repeat (first | with_reducible refine beh_x ?_ | with_reducible refine blk_up rfl ?_)); refine blk_here ?_; refine beh_n ?_)))
  refine ends_ret ?_ retPV_one
  rfl
theorem rthrough_put (b : List Int) (ho : Oct b) (hl : b.length ≤ 1000000) : PCall Try.prog 41 [.ro 1 false (ints .u8 b), .v (.int .i64 (1))] (.ro 1 false (ints .u8 (bcjF (1) b))) := by
  refine pcall_mkg Try.func41 rfl [.tmp 4] Try.results41 59 rfl (tk_start ?_)
  (repeat refine ka ?_); refine kr ?_ ?_ (pops_end ?_)
  (repeat refine ka ?_); refine kr ?_ ?_ ?_
  refine ps_lit fun g0 => ?_
  refine pops_go ?_ ?_ ?_
  refine ps_app_vw (rows' := ints .u8 b) (m := b.length) (fun g => ?_) (hsrc := rfl) (hrows := List.nil_append _)
  refine pops_go ?_ ?_ (pops_end ?_)
  (repeat refine ka ?_); refine kr ?_ ?_ (pops_end ?_)
  (repeat refine ka ?_); refine kb ?_
  refine kw (fun i : Nat => [(0, PV.ro 1 false (ints .u8 b)), (1, .v (.int .i64 (1))), (5, .vw 0 g 0 b.length), (6, .v (.int .i64 (4 * (i : Int))))]) (fun i => [⟨g, true, 1, ints .u8 (bGoW (1) b i)⟩]) (fun i => i ≤ b.length / 4) (fun i => b.length / 4 - i) 0 (Nat.zero_le _) (holds 1 (by repeat (first | exact .nil | refine has1 ?_))) ?_
  intro i hi
  have hXl := bGoW_length (1) b i
  by_cases hg : (4 * (i : Int)) + 3 < b.length
  · have e0 := bGoW_get (1) b i (4 * i) (by omega)
    have e1 := bGoW_get (1) b i (4 * i + 1) (by omega)
    have e3 := bGoW_get (1) b i (4 * i + 3) (by omega)
    rw [if_neg (by omega)] at e0 e1 e3
    have hst : bGoW (1) b (i + 1) = bStep (1) (bGoW (1) b i) i := rfl
    have h0 := oct_getD ho (4 * i)
    have h1 := oct_getD ho (4 * i + 1)
    have hff : bF (1) (bGoW (1) b i) i = b.getD (4 * i) 0 + 256 * b.getD (4 * i + 1) 0 + (1) * i := by unfold bF; rw [e0, e1]
    unfold bStep at hst
    rw [hff, e3] at hst
    generalize bGoW (1) b i = X at *
    have i0 : (4 * ((i : Nat) : Int)).toNat = 4 * i := by omega
    have i1 : (4 * ((i : Nat) : Int) + 1).toNat = 4 * i + 1 := by omega
    have i3 : (4 * ((i : Nat) : Int) + 3).toNat = 4 * i + 3 := by omega
    by_cases h20 : b.getD (4 * i + 3) 0 = 20
    · have hc : b.getD (4 * ((i : Nat) : Int) + 3).toNat 0 = 20 := by rw [i3]; exact h20
      rw [if_pos h20] at hst
      have hA : b.getD (4 * ((i : Nat) : Int)).toNat 0 = b.getD (4 * i) 0 := by rw [i0]
      have hB : b.getD (4 * ((i : Nat) : Int) + 1).toNat 0 = b.getD (4 * i + 1) 0 := by rw [i1]
      generalize b.getD (4 * i) 0 = A at *
      generalize b.getD (4 * i + 1) 0 = B at *
      have hF0 : (A + 256 * B + (1) * ((i : Int) % 65536) + 65536) % 256 = (A + 256 * B + (1) * i) % 256 := by omega
      have hF1 : (A + 256 * B + (1) * ((i : Int) % 65536) + 65536) / 256 % 256 = (A + 256 * B + (1) * i) / 256 % 256 := by omega
      have hq : 4 * ((i : Nat) : Int) / 4 = i := by omega
      have hqw : IntKind.i64.wrap (4 * ((i : Nat) : Int) / 4) = i := by rw [hq]; exact wrap_i64 _ (by omega) (by omega)
      (repeat refine ka ?_); refine kr ?_ ?_ (pops_end ?_)
      (repeat refine ka ?_); refine kct ?_
      (repeat refine ka ?_); refine ksk ?_
      (repeat refine ka ?_); refine kb ?_
      (repeat refine ka ?_); refine kr ?_ ?_ (pops_end ?_)
      (repeat refine ka ?_); refine kct ?_
      (repeat refine ka ?_); refine kd ?_ ?_ (pstl_end ?_)
      simp only [hA, hB]
      (repeat refine ka ?_); refine kr ?_ ?_ ?_
      refine ps_seti (k0 := .u8) (l := X) ?_
      refine pops_nil ?_
      (repeat refine ka ?_); refine kr ?_ ?_ ?_
      refine ps_seti (k0 := .u8) (l := X.set (0 + (4 * ((i : Nat) : Int)).toNat) ((A + 256 * B + (1) * ((i : Int) % 65536) + 65536) % 256)) (hi := by rw [List.length_set]; omega) ?_
      refine pops_nil ?_
      rw [Nat.zero_add, Nat.zero_add, hF0, hF1, i0, i1, ← hst]
      refine kn ?_; repeat (first | with_reducible refine blk_n ?_ | with_reducible refine beh_n ?_)
      (repeat refine ka ?_); refine kr ?_ ?_ (pops_end ?_)
      refine kn ?_; repeat (first | with_reducible refine blk_n ?_ | with_reducible refine beh_n ?_)
      refine ⟨i + 1, by omega, by omega, ?_⟩
      rw [show 4 * (((i + 1 : Nat)) : Int) = 4 * (i : Int) + 4 by omega]
      exact (holds 1 (by repeat (first | exact .nil | refine has1 ?_)))
    · have hc : ¬ b.getD (4 * ((i : Nat) : Int) + 3).toNat 0 = 20 := by rw [i3]; exact h20
      rw [if_neg h20] at hst
      subst hst
      (repeat refine ka ?_); refine kr ?_ ?_ (pops_end ?_)
      (repeat refine ka ?_); refine kct ?_
      (repeat refine ka ?_); refine ksk ?_
      (repeat refine ka ?_); refine kb ?_
      (repeat refine ka ?_); refine kr ?_ ?_ (pops_end ?_)
      (repeat refine ka ?_); refine kcf ?_
      (repeat refine ka ?_); refine ksk ?_
      refine kn ?_; repeat (first | with_reducible refine blk_n ?_ | with_reducible refine beh_n ?_)
      (repeat refine ka ?_); refine kr ?_ ?_ (pops_end ?_)
      refine kn ?_; repeat (first | with_reducible refine blk_n ?_ | with_reducible refine beh_n ?_)
      refine ⟨i + 1, by omega, by omega, ?_⟩
      rw [show 4 * (((i + 1 : Nat)) : Int) = 4 * (i : Int) + 4 by omega]
      exact (holds 1 (by repeat (first | exact .nil | refine has1 ?_)))
  · obtain rfl : i = b.length / 4 := by omega
    (repeat refine ka ?_); refine kr ?_ ?_ (pops_end ?_)
    (repeat refine ka ?_); refine kcf ?_
    (repeat refine ka ?_); refine kx ?_; (repeat (first | with_reducible refine beh_x ?_ | with_reducible refine blk_up rfl ?_)); refine blk_here ?_; refine beh_n ?_
    (repeat refine ka ?_); refine kr ?_ ?_ (pops_end ?_)
    (repeat refine ka ?_); refine kret ?_; repeat (first | with_reducible refine beh_r ?_ | with_reducible refine blk_r ?_)
    refine ends_ret ?_ retPV_one
    exact gives_ints rfl rfl (bGoW_length _ b _)
theorem rthrough_back (b : List Int) (ho : Oct b) (hl : b.length ≤ 1000000) : PCall Try.prog 41 [.ro 1 false (ints .u8 b), .v (.int .i64 (-1))] (.ro 1 false (ints .u8 (bcjF (-1) b))) := by
  refine pcall_mkg Try.func41 rfl [.tmp 4] Try.results41 59 rfl (tk_start ?_)
  (repeat refine ka ?_); refine kr ?_ ?_ (pops_end ?_)
  (repeat refine ka ?_); refine kr ?_ ?_ ?_
  refine ps_lit fun g0 => ?_
  refine pops_go ?_ ?_ ?_
  refine ps_app_vw (rows' := ints .u8 b) (m := b.length) (fun g => ?_) (hsrc := rfl) (hrows := List.nil_append _)
  refine pops_go ?_ ?_ (pops_end ?_)
  (repeat refine ka ?_); refine kr ?_ ?_ (pops_end ?_)
  (repeat refine ka ?_); refine kb ?_
  refine kw (fun i : Nat => [(0, PV.ro 1 false (ints .u8 b)), (1, .v (.int .i64 (-1))), (5, .vw 0 g 0 b.length), (6, .v (.int .i64 (4 * (i : Int))))]) (fun i => [⟨g, true, 1, ints .u8 (bGoW (-1) b i)⟩]) (fun i => i ≤ b.length / 4) (fun i => b.length / 4 - i) 0 (Nat.zero_le _) (holds 1 (by repeat (first | exact .nil | refine has1 ?_))) ?_
  intro i hi
  have hXl := bGoW_length (-1) b i
  by_cases hg : (4 * (i : Int)) + 3 < b.length
  · have e0 := bGoW_get (-1) b i (4 * i) (by omega)
    have e1 := bGoW_get (-1) b i (4 * i + 1) (by omega)
    have e3 := bGoW_get (-1) b i (4 * i + 3) (by omega)
    rw [if_neg (by omega)] at e0 e1 e3
    have hst : bGoW (-1) b (i + 1) = bStep (-1) (bGoW (-1) b i) i := rfl
    have h0 := oct_getD ho (4 * i)
    have h1 := oct_getD ho (4 * i + 1)
    have hff : bF (-1) (bGoW (-1) b i) i = b.getD (4 * i) 0 + 256 * b.getD (4 * i + 1) 0 + (-1) * i := by unfold bF; rw [e0, e1]
    unfold bStep at hst
    rw [hff, e3] at hst
    generalize bGoW (-1) b i = X at *
    have i0 : (4 * ((i : Nat) : Int)).toNat = 4 * i := by omega
    have i1 : (4 * ((i : Nat) : Int) + 1).toNat = 4 * i + 1 := by omega
    have i3 : (4 * ((i : Nat) : Int) + 3).toNat = 4 * i + 3 := by omega
    by_cases h20 : b.getD (4 * i + 3) 0 = 20
    · have hc : b.getD (4 * ((i : Nat) : Int) + 3).toNat 0 = 20 := by rw [i3]; exact h20
      rw [if_pos h20] at hst
      have hA : b.getD (4 * ((i : Nat) : Int)).toNat 0 = b.getD (4 * i) 0 := by rw [i0]
      have hB : b.getD (4 * ((i : Nat) : Int) + 1).toNat 0 = b.getD (4 * i + 1) 0 := by rw [i1]
      generalize b.getD (4 * i) 0 = A at *
      generalize b.getD (4 * i + 1) 0 = B at *
      have hF0 : (A + 256 * B + (-1) * ((i : Int) % 65536) + 65536) % 256 = (A + 256 * B + (-1) * i) % 256 := by omega
      have hF1 : (A + 256 * B + (-1) * ((i : Int) % 65536) + 65536) / 256 % 256 = (A + 256 * B + (-1) * i) / 256 % 256 := by omega
      have hq : 4 * ((i : Nat) : Int) / 4 = i := by omega
      have hqw : IntKind.i64.wrap (4 * ((i : Nat) : Int) / 4) = i := by rw [hq]; exact wrap_i64 _ (by omega) (by omega)
      (repeat refine ka ?_); refine kr ?_ ?_ (pops_end ?_)
      (repeat refine ka ?_); refine kct ?_
      (repeat refine ka ?_); refine ksk ?_
      (repeat refine ka ?_); refine kb ?_
      (repeat refine ka ?_); refine kr ?_ ?_ (pops_end ?_)
      (repeat refine ka ?_); refine kct ?_
      (repeat refine ka ?_); refine kd ?_ ?_ (pstl_end ?_)
      simp only [hA, hB]
      (repeat refine ka ?_); refine kr ?_ ?_ ?_
      refine ps_seti (k0 := .u8) (l := X) ?_
      refine pops_nil ?_
      (repeat refine ka ?_); refine kr ?_ ?_ ?_
      refine ps_seti (k0 := .u8) (l := X.set (0 + (4 * ((i : Nat) : Int)).toNat) ((A + 256 * B + (-1) * ((i : Int) % 65536) + 65536) % 256)) (hi := by rw [List.length_set]; omega) ?_
      refine pops_nil ?_
      rw [Nat.zero_add, Nat.zero_add, hF0, hF1, i0, i1, ← hst]
      refine kn ?_; repeat (first | with_reducible refine blk_n ?_ | with_reducible refine beh_n ?_)
      (repeat refine ka ?_); refine kr ?_ ?_ (pops_end ?_)
      refine kn ?_; repeat (first | with_reducible refine blk_n ?_ | with_reducible refine beh_n ?_)
      refine ⟨i + 1, by omega, by omega, ?_⟩
      rw [show 4 * (((i + 1 : Nat)) : Int) = 4 * (i : Int) + 4 by omega]
      exact (holds 1 (by repeat (first | exact .nil | refine has1 ?_)))
    · have hc : ¬ b.getD (4 * ((i : Nat) : Int) + 3).toNat 0 = 20 := by rw [i3]; exact h20
      rw [if_neg h20] at hst
      subst hst
      (repeat refine ka ?_); refine kr ?_ ?_ (pops_end ?_)
      (repeat refine ka ?_); refine kct ?_
      (repeat refine ka ?_); refine ksk ?_
      (repeat refine ka ?_); refine kb ?_
      (repeat refine ka ?_); refine kr ?_ ?_ (pops_end ?_)
      (repeat refine ka ?_); refine kcf ?_
      (repeat refine ka ?_); refine ksk ?_
      refine kn ?_; repeat (first | with_reducible refine blk_n ?_ | with_reducible refine beh_n ?_)
      (repeat refine ka ?_); refine kr ?_ ?_ (pops_end ?_)
      refine kn ?_; repeat (first | with_reducible refine blk_n ?_ | with_reducible refine beh_n ?_)
      refine ⟨i + 1, by omega, by omega, ?_⟩
      rw [show 4 * (((i + 1 : Nat)) : Int) = 4 * (i : Int) + 4 by omega]
      exact (holds 1 (by repeat (first | exact .nil | refine has1 ?_)))
  · obtain rfl : i = b.length / 4 := by omega
    (repeat refine ka ?_); refine kr ?_ ?_ (pops_end ?_)
    (repeat refine ka ?_); refine kcf ?_
    (repeat refine ka ?_); refine kx ?_; (repeat (first | with_reducible refine beh_x ?_ | with_reducible refine blk_up rfl ?_)); refine blk_here ?_; refine beh_n ?_
    (repeat refine ka ?_); refine kr ?_ ?_ (pops_end ?_)
    (repeat refine ka ?_); refine kret ?_; repeat (first | with_reducible refine beh_r ?_ | with_reducible refine blk_r ?_)
    refine ends_ret ?_ retPV_one
    exact gives_ints rfl rfl (bGoW_length _ b _)
theorem rbcj_put (b : List Int) (ho : Oct b) (hl : b.length ≤ 1000000) : PCall Try.prog 18 [.ro 1 false (ints .u8 b)] (.ro 1 false (ints .u8 (bcjF 1 b))) := by
  have c1 := rthrough_put b ho hl
  refine pcall_mk Try.func18 rfl [.tmp 2] Try.results18 5 rfl (tk_start ?_)
  (repeat' (first | refine ka ?_ | refine ksk ?_ | (refine kr ?_ ?_ ?_; first | refine pops_end ?_ | (refine ps_split (fun hb => ?_) (fun hb => ?_); (fail_if_success (guard_hyp hb : true = true)); (fail_if_success (guard_hyp hb : false = true)); all_goals (have hp := hb; (try simp only [decide_eq_true_eq, Bool.eq_false_iff, ne_eq, Bool.not_eq_true', Bool.not_eq_false', Bool.and_eq_true, Bool.or_eq_true, decide_true, decide_false, Bool.and_true, Bool.true_and, Bool.false_eq_true, not_false_eq_true, true_and, and_true] at hp); (try rw [hb]); (try clear hb))) | refine ps_pcall (c1) ?_ | refine ps_pcall_g (c1) ?_ | refine ps_alloc fun g => ?_ | refine ps_box fun g => ?_ | refine ps_store ?_ | refine ps_lit fun g => ?_ | refine pops_nil ?_ | skip) | (refine kd ?_ ?_ ?_; first | refine pstl_end ?_ | (refine pd_split (fun hb => ?_) (fun hb => ?_); (fail_if_success (guard_hyp hb : true = true)); (fail_if_success (guard_hyp hb : false = true)); all_goals (have hp := hb; (try simp only [decide_eq_true_eq, Bool.eq_false_iff, ne_eq, Bool.not_eq_true', Bool.not_eq_false', Bool.and_eq_true, Bool.or_eq_true, decide_true, decide_false, Bool.and_true, Bool.true_and, Bool.false_eq_true, not_false_eq_true, true_and, and_true] at hp); (try rw [hb]); (try clear hb))) | refine pd_pcall (c1) ?_ | refine pd_pcall_g (c1) ?_ | skip) | refine kct ?_ | refine kcf ?_ | (refine kcs (fun hb => ?_) (fun hb => ?_) <;> (have hp := hb; (try simp only [decide_eq_true_eq, Bool.eq_false_iff, ne_eq, Bool.not_eq_true', Bool.not_eq_false', Bool.and_eq_true, Bool.or_eq_true, decide_true, decide_false, Bool.and_true, Bool.true_and, Bool.false_eq_true, not_false_eq_true, true_and, and_true] at hp); (try rw [hb]); (try clear hb))) | (refine kret ?_; repeat (first | with_reducible refine beh_r ?_ | with_reducible refine blk_r ?_)) | refine kb ?_ | (refine ps_split (fun hb => ?_) (fun hb => ?_); (fail_if_success (guard_hyp hb : true = true)); (fail_if_success (guard_hyp hb : false = true)); all_goals (have hp := hb; (try simp only [decide_eq_true_eq, Bool.eq_false_iff, ne_eq, Bool.not_eq_true', Bool.not_eq_false', Bool.and_eq_true, Bool.or_eq_true, decide_true, decide_false, Bool.and_true, Bool.true_and, Bool.false_eq_true, not_false_eq_true, true_and, and_true] at hp); (try rw [hb]); (try clear hb))) | refine ps_pcall (c1) ?_ | refine ps_pcall_g (c1) ?_ | refine ps_alloc fun g => ?_ | refine ps_box fun g => ?_ | refine ps_store ?_ | refine ps_lit fun g => ?_ | refine pops_nil ?_ | (refine pd_split (fun hb => ?_) (fun hb => ?_); (fail_if_success (guard_hyp hb : true = true)); (fail_if_success (guard_hyp hb : false = true)); all_goals (have hp := hb; (try simp only [decide_eq_true_eq, Bool.eq_false_iff, ne_eq, Bool.not_eq_true', Bool.not_eq_false', Bool.and_eq_true, Bool.or_eq_true, decide_true, decide_false, Bool.and_true, Bool.true_and, Bool.false_eq_true, not_false_eq_true, true_and, and_true] at hp); (try rw [hb]); (try clear hb))) | refine pd_pcall (c1) ?_ | refine pd_pcall_g (c1) ?_ | (refine pops_go ?_ ?_ ?_; first | refine pops_end ?_ | (refine ps_split (fun hb => ?_) (fun hb => ?_); (fail_if_success (guard_hyp hb : true = true)); (fail_if_success (guard_hyp hb : false = true)); all_goals (have hp := hb; (try simp only [decide_eq_true_eq, Bool.eq_false_iff, ne_eq, Bool.not_eq_true', Bool.not_eq_false', Bool.and_eq_true, Bool.or_eq_true, decide_true, decide_false, Bool.and_true, Bool.true_and, Bool.false_eq_true, not_false_eq_true, true_and, and_true] at hp); (try rw [hb]); (try clear hb))) | refine ps_pcall (c1) ?_ | refine ps_pcall_g (c1) ?_ | refine ps_alloc fun g => ?_ | refine ps_box fun g => ?_ | refine ps_store ?_ | refine ps_lit fun g => ?_ | refine pops_nil ?_) | (refine pstl_go ?_ ?_ ?_; first | refine pstl_end ?_ | (refine pd_split (fun hb => ?_) (fun hb => ?_); (fail_if_success (guard_hyp hb : true = true)); (fail_if_success (guard_hyp hb : false = true)); all_goals (have hp := hb; (try simp only [decide_eq_true_eq, Bool.eq_false_iff, ne_eq, Bool.not_eq_true', Bool.not_eq_false', Bool.and_eq_true, Bool.or_eq_true, decide_true, decide_false, Bool.and_true, Bool.true_and, Bool.false_eq_true, not_false_eq_true, true_and, and_true] at hp); (try rw [hb]); (try clear hb))) | refine pd_pcall (c1) ?_ | refine pd_pcall_g (c1) ?_) | (refine kn ?_; repeat (first | with_reducible refine blk_n ?_ | with_reducible refine beh_n ?_)) | (refine kx ?_; (repeat (first | with_reducible refine beh_x ?_ | with_reducible refine blk_up rfl ?_)); refine blk_here ?_; refine beh_n ?_)))
  refine ends_ret ?_ retPV_one
  rfl
theorem rbcj_back (b : List Int) (ho : Oct b) (hl : b.length ≤ 1000000) : PCall Try.prog 27 [.ro 1 false (ints .u8 b)] (.ro 1 false (ints .u8 (bcjF (-1) b))) := by
  have c1 := rthrough_back b ho hl
  refine pcall_mk Try.func27 rfl [.tmp 2] Try.results27 5 rfl (tk_start ?_)
  (repeat' (first | refine ka ?_ | refine ksk ?_ | (refine kr ?_ ?_ ?_; first | refine pops_end ?_ | (refine ps_split (fun hb => ?_) (fun hb => ?_); (fail_if_success (guard_hyp hb : true = true)); (fail_if_success (guard_hyp hb : false = true)); all_goals (have hp := hb; (try simp only [decide_eq_true_eq, Bool.eq_false_iff, ne_eq, Bool.not_eq_true', Bool.not_eq_false', Bool.and_eq_true, Bool.or_eq_true, decide_true, decide_false, Bool.and_true, Bool.true_and, Bool.false_eq_true, not_false_eq_true, true_and, and_true] at hp); (try rw [hb]); (try clear hb))) | refine ps_pcall (c1) ?_ | refine ps_pcall_g (c1) ?_ | refine ps_alloc fun g => ?_ | refine ps_box fun g => ?_ | refine ps_store ?_ | refine ps_lit fun g => ?_ | refine pops_nil ?_ | skip) | (refine kd ?_ ?_ ?_; first | refine pstl_end ?_ | (refine pd_split (fun hb => ?_) (fun hb => ?_); (fail_if_success (guard_hyp hb : true = true)); (fail_if_success (guard_hyp hb : false = true)); all_goals (have hp := hb; (try simp only [decide_eq_true_eq, Bool.eq_false_iff, ne_eq, Bool.not_eq_true', Bool.not_eq_false', Bool.and_eq_true, Bool.or_eq_true, decide_true, decide_false, Bool.and_true, Bool.true_and, Bool.false_eq_true, not_false_eq_true, true_and, and_true] at hp); (try rw [hb]); (try clear hb))) | refine pd_pcall (c1) ?_ | refine pd_pcall_g (c1) ?_ | skip) | refine kct ?_ | refine kcf ?_ | (refine kcs (fun hb => ?_) (fun hb => ?_) <;> (have hp := hb; (try simp only [decide_eq_true_eq, Bool.eq_false_iff, ne_eq, Bool.not_eq_true', Bool.not_eq_false', Bool.and_eq_true, Bool.or_eq_true, decide_true, decide_false, Bool.and_true, Bool.true_and, Bool.false_eq_true, not_false_eq_true, true_and, and_true] at hp); (try rw [hb]); (try clear hb))) | (refine kret ?_; repeat (first | with_reducible refine beh_r ?_ | with_reducible refine blk_r ?_)) | refine kb ?_ | (refine ps_split (fun hb => ?_) (fun hb => ?_); (fail_if_success (guard_hyp hb : true = true)); (fail_if_success (guard_hyp hb : false = true)); all_goals (have hp := hb; (try simp only [decide_eq_true_eq, Bool.eq_false_iff, ne_eq, Bool.not_eq_true', Bool.not_eq_false', Bool.and_eq_true, Bool.or_eq_true, decide_true, decide_false, Bool.and_true, Bool.true_and, Bool.false_eq_true, not_false_eq_true, true_and, and_true] at hp); (try rw [hb]); (try clear hb))) | refine ps_pcall (c1) ?_ | refine ps_pcall_g (c1) ?_ | refine ps_alloc fun g => ?_ | refine ps_box fun g => ?_ | refine ps_store ?_ | refine ps_lit fun g => ?_ | refine pops_nil ?_ | (refine pd_split (fun hb => ?_) (fun hb => ?_); (fail_if_success (guard_hyp hb : true = true)); (fail_if_success (guard_hyp hb : false = true)); all_goals (have hp := hb; (try simp only [decide_eq_true_eq, Bool.eq_false_iff, ne_eq, Bool.not_eq_true', Bool.not_eq_false', Bool.and_eq_true, Bool.or_eq_true, decide_true, decide_false, Bool.and_true, Bool.true_and, Bool.false_eq_true, not_false_eq_true, true_and, and_true] at hp); (try rw [hb]); (try clear hb))) | refine pd_pcall (c1) ?_ | refine pd_pcall_g (c1) ?_ | (refine pops_go ?_ ?_ ?_; first | refine pops_end ?_ | (refine ps_split (fun hb => ?_) (fun hb => ?_); (fail_if_success (guard_hyp hb : true = true)); (fail_if_success (guard_hyp hb : false = true)); all_goals (have hp := hb; (try simp only [decide_eq_true_eq, Bool.eq_false_iff, ne_eq, Bool.not_eq_true', Bool.not_eq_false', Bool.and_eq_true, Bool.or_eq_true, decide_true, decide_false, Bool.and_true, Bool.true_and, Bool.false_eq_true, not_false_eq_true, true_and, and_true] at hp); (try rw [hb]); (try clear hb))) | refine ps_pcall (c1) ?_ | refine ps_pcall_g (c1) ?_ | refine ps_alloc fun g => ?_ | refine ps_box fun g => ?_ | refine ps_store ?_ | refine ps_lit fun g => ?_ | refine pops_nil ?_) | (refine pstl_go ?_ ?_ ?_; first | refine pstl_end ?_ | (refine pd_split (fun hb => ?_) (fun hb => ?_); (fail_if_success (guard_hyp hb : true = true)); (fail_if_success (guard_hyp hb : false = true)); all_goals (have hp := hb; (try simp only [decide_eq_true_eq, Bool.eq_false_iff, ne_eq, Bool.not_eq_true', Bool.not_eq_false', Bool.and_eq_true, Bool.or_eq_true, decide_true, decide_false, Bool.and_true, Bool.true_and, Bool.false_eq_true, not_false_eq_true, true_and, and_true] at hp); (try rw [hb]); (try clear hb))) | refine pd_pcall (c1) ?_ | refine pd_pcall_g (c1) ?_) | (refine kn ?_; repeat (first | with_reducible refine blk_n ?_ | with_reducible refine beh_n ?_)) | (refine kx ?_; (repeat (first | with_reducible refine beh_x ?_ | with_reducible refine blk_up rfl ?_)); refine blk_here ?_; refine beh_n ?_)))
  refine ends_ret ?_ retPV_one
  rfl
end Go.Proofs.Yteocmeidkdhmiaa.Pv
