-- slices.Sort of texts; path.Sorted.
import Derived.Test.YtgbfbcbblndnoaaDoorPtO
namespace Go.Proofs.YtgbfbcbblndnoaaDoor.Pv
set_option linter.all false
set_option linter.unusedVariables false
open Go.RowKit Go.Proofs
set_option maxRecDepth 100000
set_option maxHeartbeats 4000000
theorem ins0 : PCall Tryd.prog 28 [.ro 1 false [], .v (.int .i64 0), .v (.int .i64 0)] (.tup []) := by
  haveI : PureC (.ro 1 false []) := ⟨.ro (by simp)⟩
  refine pcall_mk Tryd.func28 rfl [] Tryd.results28 49 rfl (tk_start ?_)
  (repeat refine ka ?_); refine kr ?_ ?_ (pops_end ?_)
  (repeat refine ka ?_); refine kb ?_
  refine kw (fun _ : Unit => [(0, .ro 1 false []), (1, .v (.int .i64 0)), (2, .v (.int .i64 0)), (6, .v (.int .i64 (0 + 1)))]) (fun _ => []) (fun _ => True) (fun _ => 0) () trivial (holds 0 (by repeat (first | exact .nil | refine has1 ?_))) ?_
  intro _ _
  (repeat refine ka ?_); refine kr ?_ ?_ (pops_end ?_)
  (repeat refine ka ?_); refine kcf ?_
  (repeat refine ka ?_); refine kx ?_; (repeat (first | with_reducible refine beh_x ?_ | with_reducible refine blk_up rfl ?_)); refine blk_here ?_; refine beh_n ?_
  refine kn ?_; repeat (first | with_reducible refine blk_n ?_ | with_reducible refine beh_n ?_)
  exact ⟨_, rfl, rfl⟩
theorem pdq0 (z : Int) : PCall Tryd.prog 24 [.ro 1 false [], .v (.int .i64 0), .v (.int .i64 0), .v (.int .i64 z)] (.tup []) := by
  haveI : PureC (.ro 1 false []) := ⟨.ro (by simp)⟩
  refine pcall_mk Tryd.func24 rfl [] Tryd.results24 134 rfl (tk_start ?_)
  (repeat refine ka ?_); refine kr ?_ ?_ (pops_end ?_)
  (repeat refine ka ?_); refine kr ?_ ?_ (pops_end ?_)
  (repeat refine ka ?_); refine kb ?_
  refine kw (fun _ : Unit => [(0, .ro 1 false []), (1, .v (.int .i64 0)), (2, .v (.int .i64 0))]) (fun _ => []) (fun _ => True) (fun _ => 0) () trivial (holds 0 (by repeat (first | exact .nil | refine has1 ?_))) ?_
  intro _ _
  (repeat refine ka ?_); refine kb ?_
  (repeat refine ka ?_); refine kr ?_ ?_ (pops_end ?_)
  (repeat refine ka ?_); refine kr ?_ ?_ (pops_end ?_)
  (repeat refine ka ?_); refine kct ?_
  (repeat refine ka ?_); refine kr ?_ ?_ ?_
  refine ps_pcall ins0 ?_
  refine pops_nil ?_
  (repeat refine ka ?_); refine kret ?_; repeat (first | with_reducible refine beh_r ?_ | with_reducible refine blk_r ?_)
  exact ⟨_, rfl, rfl⟩
theorem len64_calls (w : World) : Calls Tryd.prog 38 #[.int .u64 0] w fun e w' => e = .returned (.int .i64 0) ∧ w' = w := by
  go_enter Tryd.func38, Tryd.ntmps38
  go_wp2
  go_ret
  have h8 : Lib.len8 0 = 0 := by decide
  refine ⟨?_, rfl⟩
  show Ending.returned (Value.int .i64 (wrap64 (wrap64 (Lib.len8 0)))) = _
  have h9 : wrap64 0 = 0 := by first | decide +kernel | kernel_rfl | simp [wrap64]
  rw [h8, h9, h9]
theorem len0 : PCall Tryd.prog 25 [.v (.int .u64 0)] (.v (.int .i64 0)) := by
  have c := pcall_of_calls (P := Tryd.prog) [.int .u64 0] len64_calls
  refine pcall_mk Tryd.func25 rfl [.tmp 2] Tryd.results25 8 rfl (tk_start ?_)
  (repeat' (first | refine ka ?_ | refine ksk ?_ | (refine kr ?_ ?_ ?_; first | refine pops_end ?_ | (refine ps_split (fun hb => ?_) (fun hb => ?_); (fail_if_success (guard_hyp hb : true = true)); (fail_if_success (guard_hyp hb : false = true)); all_goals (have hp := hb; (try simp only [decide_eq_true_eq, Bool.eq_false_iff, ne_eq, Bool.not_eq_true', Bool.not_eq_false', Bool.and_eq_true, Bool.or_eq_true, decide_true, decide_false, Bool.and_true, Bool.true_and, Bool.false_eq_true, not_false_eq_true, true_and, and_true] at hp); (try rw [hb]); (try clear hb))) | refine ps_pcall (c) ?_ | refine ps_pcall_g (c) ?_ | refine ps_alloc fun g => ?_ | refine ps_box fun g => ?_ | refine ps_store ?_ | refine ps_lit fun g => ?_ | refine pops_nil ?_ | skip) | (refine kd ?_ ?_ ?_; first | refine pstl_end ?_ | (refine pd_split (fun hb => ?_) (fun hb => ?_); (fail_if_success (guard_hyp hb : true = true)); (fail_if_success (guard_hyp hb : false = true)); all_goals (have hp := hb; (try simp only [decide_eq_true_eq, Bool.eq_false_iff, ne_eq, Bool.not_eq_true', Bool.not_eq_false', Bool.and_eq_true, Bool.or_eq_true, decide_true, decide_false, Bool.and_true, Bool.true_and, Bool.false_eq_true, not_false_eq_true, true_and, and_true] at hp); (try rw [hb]); (try clear hb))) | refine pd_pcall (c) ?_ | refine pd_pcall_g (c) ?_ | skip) | refine kct ?_ | refine kcf ?_ | (refine kcs (fun hb => ?_) (fun hb => ?_) <;> (have hp := hb; (try simp only [decide_eq_true_eq, Bool.eq_false_iff, ne_eq, Bool.not_eq_true', Bool.not_eq_false', Bool.and_eq_true, Bool.or_eq_true, decide_true, decide_false, Bool.and_true, Bool.true_and, Bool.false_eq_true, not_false_eq_true, true_and, and_true] at hp); (try rw [hb]); (try clear hb))) | (refine kret ?_; repeat (first | with_reducible refine beh_r ?_ | with_reducible refine blk_r ?_)) | refine kb ?_ | (refine ps_split (fun hb => ?_) (fun hb => ?_); (fail_if_success (guard_hyp hb : true = true)); (fail_if_success (guard_hyp hb : false = true)); all_goals (have hp := hb; (try simp only [decide_eq_true_eq, Bool.eq_false_iff, ne_eq, Bool.not_eq_true', Bool.not_eq_false', Bool.and_eq_true, Bool.or_eq_true, decide_true, decide_false, Bool.and_true, Bool.true_and, Bool.false_eq_true, not_false_eq_true, true_and, and_true] at hp); (try rw [hb]); (try clear hb))) | refine ps_pcall (c) ?_ | refine ps_pcall_g (c) ?_ | refine ps_alloc fun g => ?_ | refine ps_box fun g => ?_ | refine ps_store ?_ | refine ps_lit fun g => ?_ | refine pops_nil ?_ | (refine pd_split (fun hb => ?_) (fun hb => ?_); (fail_if_success (guard_hyp hb : true = true)); (fail_if_success (guard_hyp hb : false = true)); all_goals (have hp := hb; (try simp only [decide_eq_true_eq, Bool.eq_false_iff, ne_eq, Bool.not_eq_true', Bool.not_eq_false', Bool.and_eq_true, Bool.or_eq_true, decide_true, decide_false, Bool.and_true, Bool.true_and, Bool.false_eq_true, not_false_eq_true, true_and, and_true] at hp); (try rw [hb]); (try clear hb))) | refine pd_pcall (c) ?_ | refine pd_pcall_g (c) ?_ | (refine pops_go ?_ ?_ ?_; first | refine pops_end ?_ | (refine ps_split (fun hb => ?_) (fun hb => ?_); (fail_if_success (guard_hyp hb : true = true)); (fail_if_success (guard_hyp hb : false = true)); all_goals (have hp := hb; (try simp only [decide_eq_true_eq, Bool.eq_false_iff, ne_eq, Bool.not_eq_true', Bool.not_eq_false', Bool.and_eq_true, Bool.or_eq_true, decide_true, decide_false, Bool.and_true, Bool.true_and, Bool.false_eq_true, not_false_eq_true, true_and, and_true] at hp); (try rw [hb]); (try clear hb))) | refine ps_pcall (c) ?_ | refine ps_pcall_g (c) ?_ | refine ps_alloc fun g => ?_ | refine ps_box fun g => ?_ | refine ps_store ?_ | refine ps_lit fun g => ?_ | refine pops_nil ?_) | (refine pstl_go ?_ ?_ ?_; first | refine pstl_end ?_ | (refine pd_split (fun hb => ?_) (fun hb => ?_); (fail_if_success (guard_hyp hb : true = true)); (fail_if_success (guard_hyp hb : false = true)); all_goals (have hp := hb; (try simp only [decide_eq_true_eq, Bool.eq_false_iff, ne_eq, Bool.not_eq_true', Bool.not_eq_false', Bool.and_eq_true, Bool.or_eq_true, decide_true, decide_false, Bool.and_true, Bool.true_and, Bool.false_eq_true, not_false_eq_true, true_and, and_true] at hp); (try rw [hb]); (try clear hb))) | refine pd_pcall (c) ?_ | refine pd_pcall_g (c) ?_) | (refine kn ?_; repeat (first | with_reducible refine blk_n ?_ | with_reducible refine beh_n ?_)) | (refine kx ?_; (repeat (first | with_reducible refine beh_x ?_ | with_reducible refine blk_up rfl ?_)); refine blk_here ?_; refine beh_n ?_)))
  all_goals (refine ends_ret ?_ retPV_one; rfl)
theorem sort0 : PCall Tryd.prog 18 [.ro 1 false []] (.tup []) := by
  haveI : PureC (.ro 1 false []) := ⟨.ro (by simp)⟩
  refine pcall_mk Tryd.func18 rfl [] Tryd.results18 11 rfl (tk_start ?_)
  (repeat refine ka ?_); refine kr ?_ ?_ (pops_end ?_)
  (repeat refine ka ?_); refine kr ?_ ?_ ?_
  refine ps_pcall len0 ?_
  refine pops_go ?_ ?_ ?_
  refine ps_pcall (pdq0 0) ?_
  refine pops_nil ?_
  refine kn ?_; repeat (first | with_reducible refine blk_n ?_ | with_reducible refine beh_n ?_)
  exact ⟨_, rfl, rfl⟩
theorem strs_cell {c : Cx} {cs : Array Value} {L : List (List Int)} {k : Nat} (h : ∀ (i : Nat) (row : List PV) (j : Nat) (x : PV), (strRows L)[i]? = some row → row[j]? = some x → ∃ v, cs[k + (i * 1 + j)]? = some v ∧ v.oneCell' = true ∧ RelV c x v) : ∀ (i : Nat) (x : List Int), L[i]? = some x → cs[k + i]? = some (encStr (u8s x)) := by
  intro i x hx
  have hr : (strRows L)[i]? = some [.v (.string (str x))] := by
    have := strRows_get hx
    rwa [Int.toNat_natCast] at this
  obtain ⟨v, h1, h2, h3⟩ := h i _ 0 _ hr rfl
  cases h3
  rw [show k + (i * 1 + 0) = k + i by omega] at h1
  exact h1
theorem step_grow (c : Cx) (hi : Inv c) (os : Array Obj) : Step c { c with w := Go.Sort.grow c.w os } ∧ Inv { c with w := Go.Sort.grow c.w os } := by
  have hb : ∀ b, b < c.w.heap.size → (Go.Sort.grow c.w os).heap[b]? = c.w.heap[b]? := fun b hb => by
    show (c.w.heap ++ os)[b]? = _
    exact Array.getElem?_append_left hb
  have hs : c.w.heap.size ≤ (Go.Sort.grow c.w os).heap.size := by
    show _ ≤ (c.w.heap ++ os).size
    rw [Array.size_append]
    omega
  refine ⟨⟨rfl, rfl, rfl, rfl, hs, Nat.le_refl _, fun b h _ => hb b h, fun τ blk h _ => ⟨blk, h, rfl, rfl, rfl, rfl⟩, fun b h => .inl h, fun b cs e fz h => ⟨cs, fz, (hb b (Array.getElem?_eq_some_iff.1 h).1).trans h, rfl⟩⟩, ?_⟩
  exact Inv.turn (c := c) (c' := { c with w := Go.Sort.grow c.w os }) ⟨rfl, rfl, rfl, fun _ _ _ _ h => h, fun b ob h _ => (hb b (Array.getElem?_eq_some_iff.1 h).1).trans h⟩ hi (fun b h => Nat.lt_of_lt_of_le (hi.gLt b h) hs)
theorem step_drawn (c : Cx) (hi : Inv c) (n : Nat) : Step c { c with w := { c.w with drawn := n } } ∧ Inv { c with w := { c.w with drawn := n } } := by
  have hs : Step c { c with w := { c.w with drawn := n } } := ⟨rfl, rfl, rfl, rfl, Nat.le_refl _, Nat.le_refl _, fun _ _ _ => rfl, fun t b h _ => ⟨b, h, rfl, rfl, rfl, rfl⟩, fun b h => .inl h, fun b cs e fz h => ⟨cs, fz, h, rfl⟩⟩
  refine ⟨hs, fun t b h => ?_, hi.notG, hi.inj, hi.gLt, hi.wi.step hs⟩
  have hB := hi.blk t b h
  exact ⟨hB.gen, hB.void, fun q hq => (hB.heap q hq).move (fun x v h => h.step hs) rfl⟩
theorem ssort_ok (L : List (List Int)) (ho : ∀ x ∈ L, Oct x) (hl : L.length ≤ 1000000) (hne : L ≠ []) (g : Nat) : GCall Tryd.prog 18 [.vw 0 g 0 L.length] [⟨g, true, 1, strRows L⟩] (fun x S' => x = .tup [] ∧ S' = [⟨g, true, 1, strRows (rsortF L)⟩]) := by
  intro c vals hi hS hlen hv
  have hb : c.S[0]? = some ⟨g, true, 1, strRows L⟩ := by rw [hS]; rfl
  obtain ⟨v0, rfl⟩ : ∃ v0, vals = #[v0] := by
    have : vals.size = 1 := hlen
    exact ⟨vals[0], by apply Array.ext; simp [this]; intro i h1 h2; simp at h2; subst h2; rfl⟩
  have h0 := hv 0 _ v0 rfl rfl
  have hpos : 0 < L.length := List.length_pos_iff.2 hne
  cases h0 with
  | vw _ _ _ _ _ hy hN hvw =>
  obtain ⟨h1, a, cap, rfl, h3, h4, h5⟩ := hvw _ hb rfl
  rcases h5 with ⟨p, hp, rfl, cs, e, fz, h6, h7⟩ | ⟨h5, _⟩
  · have hB := hi.blk 0 _ hb
    obtain ⟨_, cs', e', fz', k1, k2, k3, k4⟩ := (hB.heap p hp).cells ⟨cs, e, fz, h6⟩
    rw [h6] at k1
    cases k1
    have hcell := strs_cell k3
    have hfz := (k4 rfl).get
    simp only [strRows_length, Nat.mul_one] at k2
    have hplt : p.1 < c.w.heap.size := (Array.getElem?_eq_some_iff.1 h6).1
    have hss : (L.map u8s).length = L.length := by simp
    have hH : Go.Sort.Holds encStr c.w p.1 (p.2 + 0 * 1) (L.map u8s).toArray := by
      intro j hj
      have hj' : j < L.length := by simpa using hj
      have hx := List.getElem?_eq_getElem hj'
      have := hcell j _ hx
      rw [Nat.zero_mul, Nat.add_zero]
      refine ⟨?_, ?_⟩
      · rw [World.cell?, h6]
        simp only
        rw [this]
        congr 1
        simp [hj']
      · simp only [World.frozen?, h6]
        have := hfz (p.2 + j) (by omega)
        simpa using this
    have hf : laySort_ren.f 190 = 18 := by kernel_rfl
    have call := Any.slices_Sort_string laySort p.1 (p.2 + 0 * 1) cap (L.map u8s) c.w hH hplt (by rw [hss]; omega)
    rw [hf, hss, sort_same L ho] at call
    clear hf
    refine call.mono ?_
    rintro en w' ⟨rfl, n, os, rfl⟩
    obtain ⟨st1, i1⟩ := step_drawn c hi (c.w.drawn + n)
    have hput : ∀ (j : Nat) (v : Value), cs[j]? = some v → (Go.Sort.putCells encStr (p.2 + 0 * 1) ((rsortF L).map u8s).toArray cs)[j]? = some (if p.2 + 0 * 1 ≤ j ∧ j < p.2 + 0 * 1 + ((rsortF L).map u8s).toArray.size then encStr ((rsortF L).map u8s).toArray[j - (p.2 + 0 * 1)]! else v) := by
      intro j v hv
      simp only [Go.Sort.putCells, Array.getElem?_mapIdx, hv, Option.map_some]
    generalize hcs2 : Go.Sort.putCells encStr (p.2 + 0 * 1) ((rsortF L).map u8s).toArray cs = cs2 at hput
    have hsz2 : cs2.size = cs.size := by rw [← hcs2]; simp [Go.Sort.putCells]
    have hw2 : ∀ b, (Go.Sort.putRow encStr (Go.Sort.ahead c.w n) p.1 (p.2 + 0 * 1) ((rsortF L).map u8s).toArray).heap[b]? = if b = p.1 then some (.cells cs2 e fz) else c.w.heap[b]? := by
      intro b
      show (c.w.heap.modify p.1 _)[b]? = _
      rw [Array.getElem?_modify]
      by_cases hbp : p.1 = b
      · subst hbp
        rw [if_pos rfl, if_pos rfl, h6, Option.map_some]
        simp only [Go.Sort.onCells, hcs2]
      · rw [if_neg hbp, if_neg (fun h => hbp h.symm)]
    have hlr : (rsortF L).length = L.length := rsortF_length L
    obtain ⟨i2, st2⟩ := updBlk0 (c := { c with w := { c.w with drawn := c.w.drawn + n } }) i1 hb rfl (Go.Sort.putRow encStr (Go.Sort.ahead c.w n) p.1 (p.2 + 0 * 1) ((rsortF L).map u8s).toArray) p ⟨g, true, 1, strRows (rsortF L)⟩ c.N rfl rfl rfl (by
        show c.w.heap.size ≤ (c.w.heap.modify p.1 _).size
        rw [Array.size_modify]; omega)
      (fun b _ hne' => by rw [hw2, if_neg (hne' p hp)])
      (fun q cs' e' fz' hq hh => by
        rw [hp] at hq
        cases hq
        have hh' : c.w.heap[p.1]? = some (.cells cs' e' fz') := hh
        rw [h6] at hh'
        cases hh'
        exact ⟨cs2, fz, by rw [hw2, if_pos rfl], hsz2⟩) (.inl ⟨p, hp, rfl⟩) (Nat.le_refl _) hN (fun _ => ⟨rfl, hp, rfl, by rw [strRows_length, strRows_length, hlr]⟩)
      (.inl ⟨fun i row hr => by
          obtain ⟨x, _, rfl⟩ := List.mem_map.1 (List.mem_of_getElem? hr)
          rfl, cs2, e, fz, by rw [hw2, if_pos rfl], by simp only [strRows_length, hlr, hsz2]; omega, fun i row j x hr hx => by
          simp only [strRows, List.getElem?_map] at hr
          obtain ⟨y, hy, rfl⟩ := Option.map_eq_some_iff.1 hr
          have hil : i < L.length := by rw [← hlr]; exact (List.getElem?_eq_some_iff.1 hy).1
          cases j with
          | succ j => simp at hx
          | zero =>
            simp only [List.getElem?_cons_zero, Option.some.injEq] at hx
            subst hx
            have hold := hcell i _ (List.getElem?_eq_getElem hil)
            have := hput _ _ hold
            rw [if_pos ⟨by omega, by simp [hlr]; omega⟩] at this
            refine ⟨.string (str y), ?_, rfl, .v _⟩
            rw [show p.2 + (i * 1 + 0) = p.2 + i by omega, this]
            congr 1
            rw [show p.2 + i - (p.2 + 0 * 1) = i by omega]
            obtain ⟨hyl, hye⟩ := List.getElem?_eq_some_iff.1 hy
            simp [hyl, hye, str_u8s], fun _ => by rw [hsz2]; exact k4 rfl⟩)
    obtain ⟨st3, i3⟩ := step_grow _ i2 os
    refine ⟨.tuple #[], .tup [], _, rfl, rfl, ⟨rfl, ?_⟩, i3, (st1.trans st2).trans st3, relV_tupv []⟩
    show c.S.set 0 _ = _
    rw [hS]
    rfl
  · omega
theorem psorted_ok (L : List (List Int)) (ho : ∀ x ∈ L, Oct x) (hl : L.length ≤ 1000000) : PCall Tryd.prog 9 [.ro 1 false (strRows L)] (.ro 1 false (strRows (rsortF L))) := by
  haveI : ∀ M, PureC (.ro 1 false (strRows M)) := fun M => ⟨.ro (strRows_pure M)⟩
  by_cases hne : L = []
  · subst hne
    have c := clone_str [] (by simp)
    rw [show rsortF [] = [] from rfl]
    refine pcall_mk Tryd.func9 rfl [.tmp 2] Tryd.results9 9 rfl (tk_start ?_)
    (repeat refine ka ?_); refine kr ?_ ?_ (pops_end ?_)
    (repeat refine ka ?_); refine kr ?_ ?_ ?_
    refine ps_gcall c ?_
    rintro x S' (⟨rfl, _, rfl⟩ | ⟨g, rfl, rfl⟩)
    · refine pops_go ?_ ?_ (pops_end ?_)
      (repeat refine ka ?_)
      refine kfzT 3 [] (y := .ro 1 false []) ?_ .nil (by intro τ hτ; cases hτ)
      (repeat refine ka ?_); refine kr ?_ ?_ ?_
      refine ps_pcall sort0 ?_
      refine pops_nil ?_
      (repeat refine ka ?_); refine kr ?_ ?_ (pops_end ?_)
      (repeat refine ka ?_); refine kret ?_; repeat (first | with_reducible refine beh_r ?_ | with_reducible refine blk_r ?_)
      refine ends_ret ?_ retPV_one
      rfl
    · refine pops_go ?_ ?_ (pops_end ?_)
      (repeat refine ka ?_)
      refine kfreeze 0 ?_
      refine kfzT 3 [0] (y := .ro 1 false []) ?_ (lend_strs (L := []) (List.mem_singleton.2 rfl) rfl rfl rfl) (by intro τ hτ blk hb; cases List.mem_singleton.1 hτ; cases hb; rfl)
      (repeat refine ka ?_); refine kr ?_ ?_ ?_
      refine ps_pcall sort0 ?_
      refine pops_nil ?_
      (repeat refine ka ?_); refine kr ?_ ?_ (pops_end ?_)
      (repeat refine ka ?_); refine kret ?_; repeat (first | with_reducible refine beh_r ?_ | with_reducible refine blk_r ?_)
      refine ends_ret ?_ retPV_one
      rfl
  · have c := clone_str L hl
    refine pcall_mk Tryd.func9 rfl [.tmp 2] Tryd.results9 9 rfl (tk_start ?_)
    (repeat refine ka ?_); refine kr ?_ ?_ (pops_end ?_)
    (repeat refine ka ?_); refine kr ?_ ?_ ?_
    refine ps_gcall c ?_
    rintro x S' (⟨_, h, _⟩ | ⟨g, rfl, rfl⟩)
    · exact absurd h hne
    · refine pops_go ?_ ?_ (pops_end ?_)
      (repeat refine ka ?_); refine kr ?_ ?_ ?_
      refine ps_gcall (ssort_ok L ho hl hne g) ?_
      rintro x S' ⟨rfl, rfl⟩
      refine pops_nil ?_
      (repeat refine ka ?_)
      refine kfreeze 0 ?_
      refine kfzT 3 [0] (y := .ro 1 false (strRows (rsortF L))) ?_ (lend_strs (List.mem_singleton.2 rfl) rfl rfl (rsortF_length L)) (by intro τ hτ blk hb; cases List.mem_singleton.1 hτ; cases hb; rfl)
      (repeat refine ka ?_); refine kr ?_ ?_ (pops_end ?_)
      (repeat refine ka ?_); refine kret ?_; repeat (first | with_reducible refine beh_r ?_ | with_reducible refine blk_r ?_)
      refine ends_ret ?_ retPV_one
      rfl
end Go.Proofs.YtgbfbcbblndnoaaDoor.Pv
