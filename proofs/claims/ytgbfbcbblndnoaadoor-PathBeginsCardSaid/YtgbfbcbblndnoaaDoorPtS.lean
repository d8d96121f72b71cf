-- PathBegins.
import Derived.Test.YtgbfbcbblndnoaaDoorPtR
namespace Go.Proofs.YtgbfbcbblndnoaaDoor.Pv
set_option linter.all false
set_option linter.unusedVariables false
open Go.RowKit Go.Proofs
set_option maxRecDepth 100000
set_option maxHeartbeats 4000000
theorem partsF_app : ∀ (a b : List Int), partsF (a ++ 47 :: b) = partsF a ++ partsF b
  | [], b => by
    show partsF (47 :: b) = [] :: partsF b
    rw [partsF, if_pos rfl]
  | c :: a, b => by
    rw [List.cons_append, partsF, partsF_app a b]
    by_cases e : c = 47
    · rw [if_pos e, partsF, if_pos e]; rfl
    · rw [if_neg e, partsF, if_neg e]
      cases h : partsF a with
      | nil => exact absurd h (parts_ne a)
      | cons p ps => rfl
theorem may_app {a b : List Int} : rmayP (a ++ 47 :: b) ↔ a.length + 1 + b.length ≤ 200 ∧ (∀ p ∈ partsF a, rpartP p) ∧ ∀ p ∈ partsF b, rpartP p := by
  unfold rmayP
  rw [partsF_app, List.length_append, List.length_cons]
  constructor
  · rintro ⟨h1, h2⟩
    exact ⟨by omega, fun p hp => h2 p (List.mem_append_left _ hp), fun p hp => h2 p (List.mem_append_right _ hp)⟩
  · rintro ⟨h1, h2, h3⟩
    refine ⟨by omega, fun p hp => ?_⟩
    rcases List.mem_append.1 hp with hp | hp
    · exact h2 p hp
    · exact h3 p hp
theorem split_at {s : List Int} {i : Nat} (hi : i < s.length) (hc : s.getD i 0 = 47) : s = s.take i ++ 47 :: s.drop (i + 1) := by
  have e := List.take_append_drop i s
  rw [List.drop_eq_getElem_cons hi] at e
  rw [List.getD_eq_getElem?_getD, List.getElem?_eq_getElem hi, Option.getD_some] at hc
  rw [hc] at e
  exact e.symm
theorem may_take {s : List Int} (h : rmayP s) {i : Nat} (hi : i < s.length) (hc : s.getD i 0 = 47) : rmayP (s.take i) ∧ inP s (s.take i) := by
  have e := split_at hi hc
  have hl : (s.take i).length = i := by rw [List.length_take]; omega
  rw [e] at h
  have := may_app.1 h
  refine ⟨⟨by omega, this.2.1⟩, by omega, by rw [hl], by rw [hl]; exact hc⟩
theorem in_app (s r : List Int) : inP (s ++ 47 :: r) s := by
  refine ⟨by rw [List.length_append, List.length_cons]; omega, by rw [List.take_left'  rfl], ?_⟩
  rw [List.getD_eq_getElem?_getD, List.getElem?_append_right (Nat.le_refl _), Nat.sub_self]
  rfl
theorem set_one {s : List Int} (h : rmayP s) : rsetF [s] = 0 := by
  have hn : ¬ clashes [s] := by
    rw [clashes_iff]
    rintro (h1 | ⟨y, hy, q, hb⟩)
    · exact h1 (by simp)
    · rw [List.mem_singleton] at hy
      subst hy
      have h3 := hb.2.2
      rw [List.mem_singleton] at h3
      have := congrArg List.length h3
      rw [List.length_take] at this
      have := hb.2.1
      omega
  rw [rsetF, if_neg (by simp), if_pos (by simpa using h), if_neg hn]
theorem set_two {s r : List Int} (h : rmayP s) (k : rmayP (s ++ 47 :: r)) : rsetF [s, s ++ 47 :: r] = 7 := by
  have hc : clashes [s, s ++ 47 :: r] := ⟨1, by simp, 0, by simp, .inr (in_app s r)⟩
  rw [rsetF, if_neg (by simp), if_pos (by intro x hx; simp at hx; rcases hx with rfl | rfl; exact h; exact k), if_pos hc]
theorem set_bad {s : List Int} (h : ¬ rmayP s) : rsetF [s] = 5 := by
  rw [rsetF, if_neg (by simp), if_neg (by simpa using h)]
theorem begins06 {x0 : PV} (h0 : SStr [x0]) : PCall Tryd.prog 5 [x0] (.v (.bool true)) := by
  obtain ⟨s, e0, os, ls⟩ := arg_str h0
  cases e0
  have up := path_awake
  by_cases gs : (300 : Int) < s.length
  · refine pcall_mk Tryd.func5 rfl [.tmp 2] Tryd.results5 99 rfl (tk_start ?_)
    (repeat' (first | refine ka ?_ | refine ksk ?_ | (refine kr ?_ ?_ ?_; first | refine pops_end ?_ | (refine ps_split (fun hb => ?_) (fun hb => ?_); (fail_if_success (guard_hyp hb : true = true)); (fail_if_success (guard_hyp hb : false = true)); all_goals (have hp := hb; (try simp only [decide_eq_true_eq, Bool.eq_false_iff, ne_eq, Bool.not_eq_true', Bool.not_eq_false', Bool.and_eq_true, Bool.or_eq_true, decide_true, decide_false, Bool.and_true, Bool.true_and, Bool.false_eq_true, not_false_eq_true, true_and, and_true] at hp); (try rw [hb]); (try clear hb))) | refine ps_pcall (up) ?_ | refine ps_pcall_g (up) ?_ | refine ps_alloc fun g => ?_ | refine ps_box fun g => ?_ | refine ps_store ?_ | refine ps_lit fun g => ?_ | refine pops_nil ?_ | skip) | (refine kd ?_ ?_ ?_; first | refine pstl_end ?_ | (refine pd_split (fun hb => ?_) (fun hb => ?_); (fail_if_success (guard_hyp hb : true = true)); (fail_if_success (guard_hyp hb : false = true)); all_goals (have hp := hb; (try simp only [decide_eq_true_eq, Bool.eq_false_iff, ne_eq, Bool.not_eq_true', Bool.not_eq_false', Bool.and_eq_true, Bool.or_eq_true, decide_true, decide_false, Bool.and_true, Bool.true_and, Bool.false_eq_true, not_false_eq_true, true_and, and_true] at hp); (try rw [hb]); (try clear hb))) | refine pd_pcall (up) ?_ | refine pd_pcall_g (up) ?_ | skip) | refine kct ?_ | refine kcf ?_ | (refine kcs (fun hb => ?_) (fun hb => ?_) <;> (have hp := hb; (try simp only [decide_eq_true_eq, Bool.eq_false_iff, ne_eq, Bool.not_eq_true', Bool.not_eq_false', Bool.and_eq_true, Bool.or_eq_true, decide_true, decide_false, Bool.and_true, Bool.true_and, Bool.false_eq_true, not_false_eq_true, true_and, and_true] at hp); (try rw [hb]); (try clear hb))) | (refine kret ?_; repeat (first | with_reducible refine beh_r ?_ | with_reducible refine blk_r ?_)) | refine kb ?_ | (refine ps_split (fun hb => ?_) (fun hb => ?_); (fail_if_success (guard_hyp hb : true = true)); (fail_if_success (guard_hyp hb : false = true)); all_goals (have hp := hb; (try simp only [decide_eq_true_eq, Bool.eq_false_iff, ne_eq, Bool.not_eq_true', Bool.not_eq_false', Bool.and_eq_true, Bool.or_eq_true, decide_true, decide_false, Bool.and_true, Bool.true_and, Bool.false_eq_true, not_false_eq_true, true_and, and_true] at hp); (try rw [hb]); (try clear hb))) | refine ps_pcall (up) ?_ | refine ps_pcall_g (up) ?_ | refine ps_alloc fun g => ?_ | refine ps_box fun g => ?_ | refine ps_store ?_ | refine ps_lit fun g => ?_ | refine pops_nil ?_ | (refine pd_split (fun hb => ?_) (fun hb => ?_); (fail_if_success (guard_hyp hb : true = true)); (fail_if_success (guard_hyp hb : false = true)); all_goals (have hp := hb; (try simp only [decide_eq_true_eq, Bool.eq_false_iff, ne_eq, Bool.not_eq_true', Bool.not_eq_false', Bool.and_eq_true, Bool.or_eq_true, decide_true, decide_false, Bool.and_true, Bool.true_and, Bool.false_eq_true, not_false_eq_true, true_and, and_true] at hp); (try rw [hb]); (try clear hb))) | refine pd_pcall (up) ?_ | refine pd_pcall_g (up) ?_ | (refine pops_go ?_ ?_ ?_; first | refine pops_end ?_ | (refine ps_split (fun hb => ?_) (fun hb => ?_); (fail_if_success (guard_hyp hb : true = true)); (fail_if_success (guard_hyp hb : false = true)); all_goals (have hp := hb; (try simp only [decide_eq_true_eq, Bool.eq_false_iff, ne_eq, Bool.not_eq_true', Bool.not_eq_false', Bool.and_eq_true, Bool.or_eq_true, decide_true, decide_false, Bool.and_true, Bool.true_and, Bool.false_eq_true, not_false_eq_true, true_and, and_true] at hp); (try rw [hb]); (try clear hb))) | refine ps_pcall (up) ?_ | refine ps_pcall_g (up) ?_ | refine ps_alloc fun g => ?_ | refine ps_box fun g => ?_ | refine ps_store ?_ | refine ps_lit fun g => ?_ | refine pops_nil ?_) | (refine pstl_go ?_ ?_ ?_; first | refine pstl_end ?_ | (refine pd_split (fun hb => ?_) (fun hb => ?_); (fail_if_success (guard_hyp hb : true = true)); (fail_if_success (guard_hyp hb : false = true)); all_goals (have hp := hb; (try simp only [decide_eq_true_eq, Bool.eq_false_iff, ne_eq, Bool.not_eq_true', Bool.not_eq_false', Bool.and_eq_true, Bool.or_eq_true, decide_true, decide_false, Bool.and_true, Bool.true_and, Bool.false_eq_true, not_false_eq_true, true_and, and_true] at hp); (try rw [hb]); (try clear hb))) | refine pd_pcall (up) ?_ | refine pd_pcall_g (up) ?_) | (refine kn ?_; repeat (first | with_reducible refine blk_n ?_ | with_reducible refine beh_n ?_)) | (refine kx ?_; (repeat (first | with_reducible refine beh_x ?_ | with_reducible refine blk_up rfl ?_)); refine blk_here ?_; refine beh_n ?_)))
    all_goals (refine ends_ret ?_ retPV_one; rfl)
  have m0 := pmay_ok s os (by omega)
  have t1 := pset_ok [s] (by simpa using os) (by simp) (by intro x hx; simp at hx; subst hx; omega)
  have p1 := strRows_pure [s]
  simp only [strRows, List.map_cons, List.map_nil] at t1 p1
  by_cases hm : rmayP s
  · rw [decide_eq_true hm] at m0
    rw [set_one hm] at t1
    have o1 : Oct [47] := by decide
    have o2 : Oct [47, 120] := by decide
    have o3 : Oct [47, 46, 46] := by decide
    have a1 := pmay_ok (s ++ [47]) (oct_append os o1) (by rw [List.length_append]; simp; omega)
    have a2 := pmay_ok ([47] ++ s) (oct_append o1 os) (by rw [List.length_append]; simp; omega)
    have a3 := pmay_ok (s ++ [47, 46, 46]) (oct_append os o3) (by rw [List.length_append]; simp; omega)
    rw [decide_eq_false (fun h => by have := (may_app.1 h).2.2 [] (by simp [partsF]); exact this.2.1 rfl)] at a1
    rw [decide_eq_false (fun h : rmayP ([47] ++ s) => by have := (may_app (a := []) (b := s)).1 h; have := this.2.1 [] (by simp [partsF]); exact this.2.1 rfl)] at a2
    rw [decide_eq_false (fun h => by have := (may_app.1 h).2.2 [46, 46] (by simp [partsF]); exact this.2.2.2 rfl)] at a3
    have hs200 := hm.1
    refine pcall_mk Tryd.func5 rfl [.tmp 2] Tryd.results5 99 rfl (tk_start ?_)
    (repeat refine ka ?_); refine kr ?_ ?_ (pops_end ?_)
    (repeat refine ka ?_); refine kr ?_ ?_ ?_
    refine ps_pcall up ?_
    refine pops_go ?_ ?_ (pops_end ?_)
    (repeat refine ka ?_); refine kr ?_ ?_ (pops_end ?_)
    (repeat refine ka ?_); refine kcf ?_
    (repeat refine ka ?_); refine ksk ?_
    (repeat refine ka ?_); refine kr ?_ ?_ ?_
    refine ps_pcall m0 ?_
    refine pops_go ?_ ?_ (pops_end ?_)
    (repeat refine ka ?_); refine kcf ?_
    (repeat refine ka ?_); refine ksk ?_
    (repeat refine ka ?_); refine kr ?_ ?_ (pops_end ?_)
    (repeat refine ka ?_); refine kb ?_
    refine kw (fun i : Nat => [(0, PV.v (.string (str s))), (3, .v (.bool true)), (4, .v (.int .i64 i))]) (fun _ => []) (fun i => i ≤ s.length) (fun i => s.length - i) 0 (Nat.zero_le _) (holds 0 (by repeat (first | exact .nil | refine has1 ?_))) ?_
    intro i hi
    by_cases h : i < s.length
    · have e : ((i : Nat) : Int).toNat = i := Int.toNat_natCast i
      by_cases k : s.getD i 0 = 47
      · obtain ⟨q1, q2⟩ := may_take hm h k
        have b1 := pmay_ok (s.take i) (oct_take os i) (by rw [List.length_take]; omega)
        have b2 := pin_ok s (s.take i) os (oct_take os i) (by omega) (by rw [List.length_take]; omega)
        rw [decide_eq_true q1] at b1
        rw [decide_eq_true q2] at b2
        rw [← e] at b1 b2 k
        (repeat refine ka ?_); refine kr ?_ ?_ (pops_end ?_)
        (repeat refine ka ?_); refine kct ?_
        (repeat refine ka ?_); refine ksk ?_
        (repeat refine ka ?_); refine kb ?_
        (repeat refine ka ?_); refine kr ?_ ?_ ?_
        refine ps_pcall_g b1 ?_
        refine pops_go ?_ ?_ ?_
        refine ps_pcall_g b2 ?_
        refine pops_go ?_ ?_ (pops_end ?_)
        (repeat refine ka ?_); refine kcf ?_
        (repeat refine ka ?_); refine ksk ?_
        refine kn ?_; repeat (first | with_reducible refine blk_n ?_ | with_reducible refine beh_n ?_)
        (repeat refine ka ?_); refine kr ?_ ?_ (pops_end ?_)
        refine kn ?_; repeat (first | with_reducible refine blk_n ?_ | with_reducible refine beh_n ?_)
        exact ⟨i + 1, by omega, by omega, (holds 0 (by repeat (first | exact .nil | refine has1 ?_)))⟩
      · rw [← e] at k
        (repeat refine ka ?_); refine kr ?_ ?_ (pops_end ?_)
        (repeat refine ka ?_); refine kct ?_
        (repeat refine ka ?_); refine ksk ?_
        (repeat refine ka ?_); refine kb ?_
        (repeat refine ka ?_); refine kr ?_ ?_ (pops_end ?_)
        (repeat refine ka ?_); refine kcf ?_
        (repeat refine ka ?_); refine ksk ?_
        refine kn ?_; repeat (first | with_reducible refine blk_n ?_ | with_reducible refine beh_n ?_)
        (repeat refine ka ?_); refine kr ?_ ?_ (pops_end ?_)
        refine kn ?_; repeat (first | with_reducible refine blk_n ?_ | with_reducible refine beh_n ?_)
        exact ⟨i + 1, by omega, by omega, (holds 0 (by repeat (first | exact .nil | refine has1 ?_)))⟩
    · (repeat refine ka ?_); refine kr ?_ ?_ (pops_end ?_)
      (repeat refine ka ?_); refine kcf ?_
      (repeat refine ka ?_); refine kx ?_; (repeat (first | with_reducible refine beh_x ?_ | with_reducible refine blk_up rfl ?_)); refine blk_here ?_; refine beh_n ?_
      by_cases g : (s.length : Int) ≤ 198
      · have hx : rmayP (s ++ 47 :: [120]) := may_app.2 ⟨by simp; omega, hm.2, by decide +kernel⟩
        have c1 := pmay_ok (s ++ [47, 120]) (oct_append os o2) (by rw [List.length_append]; simp; omega)
        have c2 := pin_ok (s ++ [47, 120]) s (oct_append os o2) os (by rw [List.length_append]; simp; omega) (by omega)
        have c3 := pset_ok [s, s ++ [47, 120]] (by intro x hx; simp at hx; rcases hx with rfl | rfl; exact os; exact oct_append os o2) (by simp) (by intro x hx; simp at hx; rcases hx with rfl | rfl; omega; rw [List.length_append]; simp; omega)
        have p2 := strRows_pure [s, s ++ [47, 120]]
        simp only [strRows, List.map_cons, List.map_nil] at c3 p2
        rw [decide_eq_true hx] at c1
        rw [decide_eq_true (in_app s [120])] at c2
        rw [set_two hm hx] at c3
        (repeat refine ka ?_); refine kr ?_ ?_ ?_
        refine ps_pcall_g c1 ?_
        refine pops_go ?_ ?_ ?_
        refine ps_pcall_g c2 ?_
        refine pops_go ?_ ?_ ?_
        refine ps_ug ?_
        refine ps_litf (fun g2 => ?_) p2
        refine pops_go ?_ ?_ ?_
        refine ps_pcall_g c3 ?_
        refine pops_go ?_ ?_ (pops_end ?_)
        (repeat refine ka ?_); refine kcf ?_
        (repeat refine ka ?_); refine ksk ?_
        (repeat refine ka ?_); refine kr ?_ ?_ ?_
        refine ps_pcall_g a1 ?_
        refine pops_go ?_ ?_ ?_
        refine ps_pcall_g a2 ?_
        refine pops_go ?_ ?_ ?_
        refine ps_pcall_g a3 ?_
        refine pops_go ?_ ?_ ?_
        refine ps_ug ?_
        refine ps_litf (fun g3 => ?_) p1
        refine pops_go ?_ ?_ ?_
        refine ps_pcall_g t1 ?_
        refine pops_go ?_ ?_ (pops_end ?_)
        (repeat refine ka ?_); refine kret ?_; repeat (first | with_reducible refine beh_r ?_ | with_reducible refine blk_r ?_)
        refine ends_ret ?_ retPV_one
        rfl
      · (repeat refine ka ?_); refine kr ?_ ?_ (pops_end ?_)
        (repeat refine ka ?_); refine kcf ?_
        (repeat refine ka ?_); refine ksk ?_
        (repeat refine ka ?_); refine kr ?_ ?_ ?_
        refine ps_pcall_g a1 ?_
        refine pops_go ?_ ?_ ?_
        refine ps_pcall_g a2 ?_
        refine pops_go ?_ ?_ ?_
        refine ps_pcall_g a3 ?_
        refine pops_go ?_ ?_ ?_
        refine ps_ug ?_
        refine ps_litf (fun g3 => ?_) p1
        refine pops_go ?_ ?_ ?_
        refine ps_pcall_g t1 ?_
        refine pops_go ?_ ?_ (pops_end ?_)
        (repeat refine ka ?_); refine kret ?_; repeat (first | with_reducible refine beh_r ?_ | with_reducible refine blk_r ?_)
        refine ends_ret ?_ retPV_one
        rfl
  · rw [decide_eq_false hm] at m0
    rw [set_bad hm] at t1
    refine pcall_mk Tryd.func5 rfl [.tmp 2] Tryd.results5 99 rfl (tk_start ?_)
    (repeat refine ka ?_); refine kr ?_ ?_ (pops_end ?_)
    (repeat refine ka ?_); refine kr ?_ ?_ ?_
    refine ps_pcall up ?_
    refine pops_go ?_ ?_ (pops_end ?_)
    (repeat refine ka ?_); refine kr ?_ ?_ (pops_end ?_)
    (repeat refine ka ?_); refine kcf ?_
    (repeat refine ka ?_); refine ksk ?_
    (repeat refine ka ?_); refine kr ?_ ?_ ?_
    refine ps_pcall m0 ?_
    refine pops_go ?_ ?_ (pops_end ?_)
    (repeat refine ka ?_); refine kct ?_
    (repeat refine ka ?_); refine kr ?_ ?_ ?_
    refine ps_ug ?_
    refine ps_litf (fun g3 => ?_) p1
    refine pops_go ?_ ?_ ?_
    refine ps_pcall_g t1 ?_
    refine pops_go ?_ ?_ (pops_end ?_)
    (repeat refine ka ?_); refine kret ?_; repeat (first | with_reducible refine beh_r ?_ | with_reducible refine blk_r ?_)
    refine ends_ret ?_ retPV_one
    rfl
end Go.Proofs.YtgbfbcbblndnoaaDoor.Pv
