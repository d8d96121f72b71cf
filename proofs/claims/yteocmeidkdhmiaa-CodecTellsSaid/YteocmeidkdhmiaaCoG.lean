-- codec.Back.
import Derived.Test.YteocmeidkdhmiaaCoF
import Derived.Test.YteocmeidkdhmiaaRfE
namespace Go.Proofs.Yteocmeidkdhmiaa.Pv
set_option linter.all false
open Go.RowKit Go.Proofs
set_option maxRecDepth 100000
set_option maxHeartbeats 4000000
theorem krf {P : Program} {gf : FuncId} [hfn : FnOk P gf] {caps : List PV} {items : List (List PV)} (hseq : SeqIt P gf caps items) {g : Operand} {ps : Array Tmp} {assign body : Code} {l : List Code} {n : Nat} {tm : List (Nat × PV)} {S0 : List Blk} {Q : Exit → PS → Prop} {α : Type} (Sf : α → List Blk) (V : Nat → α → Prop) (QR : List Blk → Prop) (s0 : α)
    (hbody : ∀ k s item, items[k]? = some item → V k s → Tk P [assign] ⟨n, setTm ps.toList item tm, Sf s⟩ (fun e σ' => e = .normal ∧ Tk P [body] σ' (roundQ Sf V QR k)))
    (hdone : ∀ s, V items.length s → Tk P l ⟨n, tm, Sf s⟩ Q) (hret : ∀ S', QR S' → Q .ret ⟨n, tm, S'⟩)
    (hps : ∀ item ∈ items, item.length = ps.size) (hV : V 0 s0)
    (hg : PS.get ⟨n, tm, S0⟩ g = .fn (.func gf) [] caps := by ((conv => lhs; whnf) <;> fail "no")) (hpn : ∀ p ∈ ps.toList, p < n := by decide) (hS : S0 = Sf s0 := by exact rfl) : Tk P (.rangeFunc g ps assign body :: l) ⟨n, tm, S0⟩ Q :=
  tr_rangeFunc hseq Sf V QR s0 hg hps hpn hS hV (fun k s item h1 h2 => Tr.mono (tk_start (hbody k s item h1 h2)) fun e σ' ⟨h3, h4⟩ => ⟨h3, tk_start h4⟩) hdone hret
theorem backward_ok (f : Bool) (rows : List (List PV)) (hp : ∀ row ∈ rows, ∀ x ∈ row, PV.Pure x) : PCall Try.prog 23 [.ro 4 f rows] (.fn (.func 46) [] [.rp [.ro 4 f rows] 0]) := by
  have hro : PV.Pure (.ro 4 f rows) := .ro hp
  haveI : PureC (.ro 4 f rows) := ⟨hro⟩
  refine pcall_mk Try.func23 rfl [.tmp 2] Try.results23 4 rfl (tk_start ?_)
  (repeat refine ka ?_); refine kr ?_ ?_ ?_
  refine ps_box (fun g0 => ?_)
  refine pops_go ?_ ?_ (pops_end ?_)
  refine kfreeze 0 ?_
  refine kfzP (row := [.ro 4 f rows]) 1 ?_ (by intro x hx; simp only [List.mem_singleton] at hx; subst hx; exact hro)
  (repeat refine ka ?_); refine kr ?_ ?_ (pops_end ?_)
  (repeat refine ka ?_); refine kret ?_; repeat (first | with_reducible refine beh_r ?_ | with_reducible refine blk_r ?_)
  refine ends_ret ?_ retPV_one
  rfl
/-- What stands between two coders on the way back. -/
def bV (o : Op5) (st : List Int → List Int) (mid raw : Int) (b : List Int) : Nat → List Int → Prop
  | 0, X => X = b
  | 1, X => X = e1 o st b
  | 2, X => X = (e2 o st mid b).1 ∧ (e2 o st mid b).2 = 0
  | 3, X => X = (e3 o st mid raw b).1 ∧ (e2 o st mid b).2 = 0 ∧ (e3 o st mid raw b).2 = 0
  | 4, X => X = e4 o st mid raw b ∧ (e2 o st mid b).2 = 0 ∧ (e3 o st mid raw b).2 = 0
  | _, X => X = e5 o st mid raw b ∧ (e2 o st mid b).2 = 0 ∧ (e3 o st mid raw b).2 = 0
theorem cback_ok (o : Op5) (K N : List PV) [hK : PureL K] [hN : PureL N] (hk : K.length = 16) (hn : N.length = 2) (b : List Int) (mid raw : Int) (st : List Int → List Int) (hb : Oct b) (hl : b.length ≤ 1000000) (hst : Oct (e1 o st b) ∧ (e1 o st b).length ≤ 1000000)
    (hs : PCall Try.prog 29 [.agg K, .agg N, .ro 1 false (ints .u8 b)] (.ro 1 false (ints .u8 (st b)))) :
    PCall Try.prog 9 [.agg o.cells, .agg K, .agg N, .agg [.ro 1 false (ints .u8 b), .v (.int .i64 mid)], .v (.int .i64 raw)] (.tup [.ro 1 false (ints .u8 (cback o st mid raw b).1), .v (.int .i64 (cback o st mid raw b).2)]) := by
  have oc : o.cells.length = 5 := rfl
  have hrt := right_ok o
  have k2 := (back_lz2 o st mid raw hb hst).1
  have k3 := (back_lz2 o st mid raw hb hst).2
  have k4 := e4_ok o st mid raw k3
  have ek : K.take 16 = K := by rw [← hk, List.take_length]
  have en : N.take 2 = N := by rw [← hn, List.take_length]
  have hcl := clone_ok b (by omega)
  have hcd := coders_ok o K N hk hn
  have hpu := coders_pure o K N
  have hbk := backward_ok false (coderRows o K N) hpu
  have hit := backward_it false (coderRows o K N) hpu (by intro row hr; simp only [coderRows, List.mem_cons, List.not_mem_nil, or_false] at hr; rcases hr with rfl | rfl | rfl | rfl | rfl <;> rfl) (by rw [coders_length]; decide)
  refine pcall_mkg Try.func9 rfl [.cell 10 29, .cell 11 35] Try.results9 93 rfl (tk_start ?_)
  (repeat refine ka ?_); refine kr ?_ ?_ ?_
  refine ps_box (c := o.cells) (sz := 5) (fun g0 => ?_)
  refine ps_box (c := K) (sz := 16) (fun g1 => ?_) (hs := hk)
  refine ps_box (c := N) (sz := 2) (fun g2 => ?_) (hs := hn)
  refine ps_box (fun g3 => ?_)
  refine ps_box (fun g4 => ?_)
  refine ps_alloc fun g5 => ?_
  refine ps_alloc fun g6 => ?_
  refine pops_nil ?_
  (repeat refine ka ?_); refine kb ?_
  (repeat refine ka ?_)
  refine kcut (fun _ : Unit => [(5, PV.ptr 0 g0 0 0), (6, .ptr 1 g1 0 0), (7, .ptr 2 g2 0 0), (8, .ptr 3 g3 0 0), (9, .ptr 4 g4 0 0), (10, .ptr 5 g5 0 0), (11, .ptr 6 g6 0 0), (18, PV.v (.bool (bad1 o raw)))]) (fun _ => [⟨g0, true, 5, [o.cells]⟩, ⟨g1, true, 16, [K]⟩, ⟨g2, true, 2, [N]⟩, ⟨g3, true, 2, [[.ro 1 false (ints .u8 b), .v (.int .i64 mid)]]⟩, ⟨g4, true, 1, [[.v (.int .i64 raw)]]⟩, ⟨g5, true, 1, [[.v (.slice none 0 0)]]⟩, ⟨g6, true, 1, [[.v (.int .i64 0)]]⟩]) (fun _ => True) ?_ ?_ (by simp)
  · cases hr : o.right
    · rw [hr] at hrt
      have hz : bad1 o raw = true := by unfold bad1; rw [hr]; rfl
      (repeat refine ka ?_); refine kr ?_ ?_ ?_
      refine ps_pcall hrt ?_
      refine pops_go ?_ ?_ (pops_end ?_)
      refine kn ?_; repeat (first | with_reducible refine blk_n ?_ | with_reducible refine beh_n ?_)
      refine ⟨(), trivial, ?_⟩
      rw [hz]
      exact (holds 7 (by repeat (first | exact .nil | refine has1 ?_)))
    · rw [hr] at hrt
      by_cases h0 : raw < 0
      · have hz : bad1 o raw = true := by unfold bad1; rw [hr, decide_eq_true h0]; rfl
        (repeat refine ka ?_); refine kr ?_ ?_ ?_
        refine ps_pcall hrt ?_
        refine pops_go ?_ ?_ (pops_end ?_)
        refine kn ?_; repeat (first | with_reducible refine blk_n ?_ | with_reducible refine beh_n ?_)
        refine ⟨(), trivial, ?_⟩
        rw [hz]
        exact (holds 7 (by repeat (first | exact .nil | refine has1 ?_)))
      · have hz : bad1 o raw = decide (65536 < raw) := by unfold bad1; rw [hr, decide_eq_false h0]; rfl
        (repeat refine ka ?_); refine kr ?_ ?_ ?_
        refine ps_pcall hrt ?_
        refine pops_go ?_ ?_ (pops_end ?_)
        refine kn ?_; repeat (first | with_reducible refine blk_n ?_ | with_reducible refine beh_n ?_)
        refine ⟨(), trivial, ?_⟩
        rw [hz]
        exact (holds 7 (by repeat (first | exact .nil | refine has1 ?_)))
  intro _ _
  by_cases hb1 : bad1 o raw = true
  · rw [hb1]
    (repeat refine ka ?_); refine kct ?_
    (repeat refine ka ?_); refine kr ?_ ?_ ?_
    refine ps_store ?_
    refine ps_store ?_
    refine pops_nil ?_
    (repeat refine ka ?_); refine kret ?_; repeat (first | with_reducible refine beh_r ?_ | with_reducible refine blk_r ?_)
    refine ends_ret ?_ (retPV_2 res_cell res_cell)
    have hz : cback o st mid raw b = ([], 1) := by unfold cback; rw [if_pos hb1]
    rw [hz]
    exact gives_two .nil (.same (.v _))
  have hb1 : bad1 o raw = false := by simpa using hb1
  rw [hb1]
  (repeat refine ka ?_); refine kcf ?_
  (repeat refine ka ?_)
  refine kcut (fun _ : Unit => [(5, PV.ptr 0 g0 0 0), (6, .ptr 1 g1 0 0), (7, .ptr 2 g2 0 0), (8, .ptr 3 g3 0 0), (9, .ptr 4 g4 0 0), (10, .ptr 5 g5 0 0), (11, .ptr 6 g6 0 0), (30, PV.v (.bool (bad2 o mid raw b.length)))]) (fun _ => [⟨g0, true, 5, [o.cells]⟩, ⟨g1, true, 16, [K]⟩, ⟨g2, true, 2, [N]⟩, ⟨g3, true, 2, [[.ro 1 false (ints .u8 b), .v (.int .i64 mid)]]⟩, ⟨g4, true, 1, [[.v (.int .i64 raw)]]⟩, ⟨g5, true, 1, [[.v (.slice none 0 0)]]⟩, ⟨g6, true, 1, [[.v (.int .i64 0)]]⟩]) (fun _ => True) ?_ ?_ (by simp)
  · clear k2 k3 k4 hst hs hrt oc hb1 hcl hcd hpu hbk hit
    obtain ⟨bcj, del, lz, rng, cry⟩ := o
    unfold Op5.cells
    have hz : bad2 ⟨bcj, del, lz, rng, cry⟩ mid raw b.length = (decide (mid < 0) || decide (131072 < mid) || (!lz && !decide (mid = raw)) || (!rng && !decide ((b.length : Int) = mid))) := rfl
    by_cases h1 : mid < 0 <;> by_cases h2 : 131072 < mid <;> by_cases h3 : mid = raw <;> cases lz <;> cases rng <;>
    · first | rw [decide_eq_true h1] at hz | rw [decide_eq_false h1] at hz
      first | rw [decide_eq_true h2] at hz | rw [decide_eq_false h2] at hz
      first | rw [decide_eq_true h3] at hz | rw [decide_eq_false h3] at hz
      simp only [Bool.not_true, Bool.not_false, Bool.and_true, Bool.and_false, Bool.or_true, Bool.or_false, Bool.true_or, Bool.false_or, Bool.true_and, Bool.false_and] at hz
      by_cases h4 : (b.length : Int) = mid
      · first | rw [decide_eq_true h4] at hz | skip
        (repeat refine ka ?_); refine kr ?_ ?_ (pops_end ?_)
        refine kn ?_; repeat (first | with_reducible refine blk_n ?_ | with_reducible refine beh_n ?_)
        refine ⟨(), trivial, ?_⟩
        rw [hz]
        exact (holds 7 (by repeat (first | exact .nil | refine has1 ?_)))
      · first | rw [decide_eq_false h4] at hz | skip
        (repeat refine ka ?_); refine kr ?_ ?_ (pops_end ?_)
        refine kn ?_; repeat (first | with_reducible refine blk_n ?_ | with_reducible refine beh_n ?_)
        refine ⟨(), trivial, ?_⟩
        rw [hz]
        exact (holds 7 (by repeat (first | exact .nil | refine has1 ?_)))
  intro _ _
  by_cases hb2 : bad2 o mid raw b.length = true
  · rw [hb2]
    (repeat refine ka ?_); refine kct ?_
    (repeat refine ka ?_); refine kr ?_ ?_ ?_
    refine ps_store ?_
    refine ps_store ?_
    refine pops_nil ?_
    (repeat refine ka ?_); refine kret ?_; repeat (first | with_reducible refine beh_r ?_ | with_reducible refine blk_r ?_)
    refine ends_ret ?_ (retPV_2 res_cell res_cell)
    have hz : cback o st mid raw b = ([], 2) := by unfold cback; rw [if_neg (by rw [hb1]; decide), if_pos hb2]
    rw [hz]
    exact gives_two .nil (.same (.v _))
  have hb2 : bad2 o mid raw b.length = false := by simpa using hb2
  rw [hb2]
  (repeat refine ka ?_); refine kcf ?_
  (repeat refine ka ?_); refine ksk ?_
  refine kn ?_; repeat (first | with_reducible refine blk_n ?_ | with_reducible refine beh_n ?_)
  have hcb : cback o st mid raw b = if (e2 o st mid b).2 ≠ 0 then ([], 2) else if (e3 o st mid raw b).2 ≠ 0 then ([], 2) else (e5 o st mid raw b, 0) := by
    unfold cback
    rw [if_neg (by rw [hb1]; decide), if_neg (by rw [hb2]; decide)]
  (repeat refine ka ?_); refine kr ?_ ?_ ?_
  refine ps_pcall hcl ?_
  refine ps_alloc fun g7 => ?_
  refine ps_store ?_
  refine pops_nil ?_
  (repeat refine ka ?_); refine kr ?_ ?_ ?_
  rw [ek, en]
  refine ps_pcall hcd ?_
  refine ps_pcall hbk ?_
  refine pops_go ?_ ?_ (pops_end ?_)
  (repeat refine ka ?_); refine kb ?_
  refine krf hit (fun X : List Int => [⟨g0, true, 5, [o.cells]⟩, ⟨g1, true, 16, [K]⟩, ⟨g2, true, 2, [N]⟩, ⟨g3, true, 2, [[.ro 1 false (ints .u8 b), .v (.int .i64 mid)]]⟩, ⟨g4, true, 1, [[.v (.int .i64 raw)]]⟩, ⟨g5, true, 1, [[.v (.slice none 0 0)]]⟩, ⟨g6, true, 1, [[.v (.int .i64 0)]]⟩, ⟨g7, true, 1, [[.ro 1 false (ints .u8 X)]]⟩]) (bV o st mid raw b) (fun S' => ∃ X y, S' = [⟨g0, true, 5, [o.cells]⟩, ⟨g1, true, 16, [K]⟩, ⟨g2, true, 2, [N]⟩, ⟨g3, true, 2, [[.ro 1 false (ints .u8 b), .v (.int .i64 mid)]]⟩, ⟨g4, true, 1, [[.v (.int .i64 raw)]]⟩, ⟨g5, true, 1, [[.v (.slice none 0 0)]]⟩, ⟨g6, true, 1, [[.v (.int .i64 2)]]⟩, ⟨g7, true, 1, [[.ro 1 false (ints .u8 X)]]⟩, y] ∧ cback o st mid raw b = ([], 2)) b ?_ ?_ ?_ (by intro item hi; obtain ⟨k, _, rfl⟩ := List.mem_map.1 hi; rfl) rfl
  · intro k X item hki hV
    have hk5 : k < 5 := by
      have := (List.getElem?_eq_some_iff.1 hki).1
      rw [backItems_length, coders_length] at this
      exact this
    have hc : k = 0 ∨ k = 1 ∨ k = 2 ∨ k = 3 ∨ k = 4 := by omega
    rcases hc with rfl | rfl | rfl | rfl | rfl
    · have hXb : b = X := Eq.symm hV
      subst hXb
      have hg := backItems_get (rows := coderRows o K N) (k := 0) (by rw [coders_length]; decide)
      rw [hki] at hg
      cases hg
      have hrow : (coderRows o K N).getD ((coderRows o K N).length - 1 - 0) [] = [.v (.bool o.cry), .fn (.func 28) [] [.rp K 0, .rp N 0], .fn (.func 50) [] [.rp [.fn (.func 28) [] [.rp K 0, .rp N 0]] 0], .v (.bool false)] := rfl
      rw [hrow]
      clear hrow hki
      simp only [setTm]
      try dsimp only
      by_cases hu : o.cry = true
      · have hcall := plain1_ok 28 [.rp K 0, .rp N 0] inferInstance _ _ raw (crypt_ok K N hK hN _ _ hs hk hn)
        have hz : st b = e1 o st b := by unfold e1; rw [if_pos hu]
        rw [hz] at hcall
        rw [hu]
        (repeat refine ka ?_); refine kr ?_ ?_ ?_
        refine ps_alloc fun g8 => ?_
        refine ps_store ?_
        refine pops_nil ?_
        refine kn ?_; repeat (first | with_reducible refine blk_n ?_ | with_reducible refine beh_n ?_)
        refine ⟨rfl, ?_⟩
        (repeat refine ka ?_); refine kb ?_
        (repeat refine ka ?_); refine kr ?_ ?_ (pops_end ?_)
        (repeat refine ka ?_); refine kcf ?_
        (repeat refine ka ?_); refine ksk ?_
        (repeat refine ka ?_); refine kr ?_ ?_ (pops_end ?_)
        (repeat refine ka ?_); refine kr ?_ ?_ (pops_end ?_)
        (repeat refine ka ?_); refine kcf ?_
        (repeat refine ka ?_); refine ksk ?_
        (repeat refine ka ?_); refine kr ?_ ?_ ?_
        refine ps_vpcall hcall ?_
        refine pops_go ?_ ?_ (pops_end ?_)
        (repeat refine ka ?_); refine kr ?_ ?_ (pops_end ?_)
        (repeat refine ka ?_); refine kcf ?_
        (repeat refine ka ?_); refine ksk ?_
        (repeat refine ka ?_); refine kr ?_ ?_ ?_
        refine ps_store ?_
        refine pops_nil ?_
        refine kn ?_; repeat (first | with_reducible refine blk_n ?_ | with_reducible refine beh_n ?_)
        exact ⟨e1 o st b, rfl, 8, rfl⟩
      · have hu2 : o.cry = false := by simpa using hu
        have hz : e1 o st b = b := by unfold e1; rw [if_neg hu]
        rw [hu2]
        (repeat refine ka ?_); refine kr ?_ ?_ ?_
        refine ps_alloc fun g8 => ?_
        refine ps_store ?_
        refine pops_nil ?_
        refine kn ?_; repeat (first | with_reducible refine blk_n ?_ | with_reducible refine beh_n ?_)
        refine ⟨rfl, ?_⟩
        (repeat refine ka ?_); refine kb ?_
        (repeat refine ka ?_); refine kr ?_ ?_ (pops_end ?_)
        (repeat refine ka ?_); refine kct ?_
        (repeat refine ka ?_); refine kx ?_; (repeat (first | with_reducible refine beh_x ?_ | with_reducible refine blk_up rfl ?_)); refine blk_here ?_; refine beh_n ?_
        exact ⟨b, hz.symm, 8, rfl⟩
    · have hXb : X = e1 o st b := hV
      subst hXb
      have hg := backItems_get (rows := coderRows o K N) (k := 1) (by rw [coders_length]; decide)
      rw [hki] at hg
      cases hg
      have hrow : (coderRows o K N).getD ((coderRows o K N).length - 1 - 1) [] = [.v (.bool o.rng), .fn (.func 39) [] [], .fn (.func 40) [] [], .v (.bool true)] := rfl
      rw [hrow]
      clear hrow hki
      simp only [setTm]
      try dsimp only
      by_cases hu : o.rng = true
      · have hcall := rc_back (e1 o st b) mid hst.1 hst.2
        have hz : rback (e1 o st b) mid = e2 o st mid b := by unfold e2; rw [if_pos hu]
        rw [hz] at hcall
        rw [hu]
        (repeat refine ka ?_); refine kr ?_ ?_ ?_
        refine ps_alloc fun g8 => ?_
        refine ps_store ?_
        refine pops_nil ?_
        refine kn ?_; repeat (first | with_reducible refine blk_n ?_ | with_reducible refine beh_n ?_)
        refine ⟨rfl, ?_⟩
        (repeat refine ka ?_); refine kb ?_
        (repeat refine ka ?_); refine kr ?_ ?_ (pops_end ?_)
        (repeat refine ka ?_); refine kcf ?_
        (repeat refine ka ?_); refine ksk ?_
        (repeat refine ka ?_); refine kr ?_ ?_ (pops_end ?_)
        (repeat refine ka ?_); refine kr ?_ ?_ (pops_end ?_)
        (repeat refine ka ?_); refine kct ?_
        (repeat refine ka ?_); refine kr ?_ ?_ (pops_end ?_)
        (repeat refine ka ?_); refine kr ?_ ?_ ?_
        refine ps_vpcall hcall ?_
        refine pops_go ?_ ?_ (pops_end ?_)
        by_cases hq : (e2 o st mid b).2 = 0
        · rw [hq]
          (repeat refine ka ?_); refine kr ?_ ?_ (pops_end ?_)
          (repeat refine ka ?_); refine kcf ?_
          (repeat refine ka ?_); refine ksk ?_
          (repeat refine ka ?_); refine kr ?_ ?_ ?_
          refine ps_store ?_
          refine pops_nil ?_
          refine kn ?_; repeat (first | with_reducible refine blk_n ?_ | with_reducible refine beh_n ?_)
          exact ⟨(e2 o st mid b).1, ⟨rfl, hq⟩, 8, rfl⟩
        · (repeat refine ka ?_); refine kr ?_ ?_ (pops_end ?_)
          (repeat refine ka ?_); refine kct ?_
          (repeat refine ka ?_); refine kr ?_ ?_ ?_
          refine ps_store ?_
          refine ps_store ?_
          refine pops_nil ?_
          (repeat refine ka ?_); refine kret ?_; repeat (first | with_reducible refine beh_r ?_ | with_reducible refine blk_r ?_)
          exact ⟨_, _, rfl, by rw [hcb, if_pos hq]⟩
      · have hu2 : o.rng = false := by simpa using hu
        have hz : e2 o st mid b = (e1 o st b, 0) := by unfold e2; rw [if_neg hu]
        rw [hu2]
        (repeat refine ka ?_); refine kr ?_ ?_ ?_
        refine ps_alloc fun g8 => ?_
        refine ps_store ?_
        refine pops_nil ?_
        refine kn ?_; repeat (first | with_reducible refine blk_n ?_ | with_reducible refine beh_n ?_)
        refine ⟨rfl, ?_⟩
        (repeat refine ka ?_); refine kb ?_
        (repeat refine ka ?_); refine kr ?_ ?_ (pops_end ?_)
        (repeat refine ka ?_); refine kct ?_
        (repeat refine ka ?_); refine kx ?_; (repeat (first | with_reducible refine beh_x ?_ | with_reducible refine blk_up rfl ?_)); refine blk_here ?_; refine beh_n ?_
        exact ⟨e1 o st b, by rw [show bV o st mid raw b (1 + 1) (e1 o st b) = (e1 o st b = (e2 o st mid b).1 ∧ (e2 o st mid b).2 = 0) from rfl, hz]; exact ⟨rfl, rfl⟩, 8, rfl⟩
    · obtain ⟨rfl, h2⟩ : X = (e2 o st mid b).1 ∧ (e2 o st mid b).2 = 0 := hV
      have hg := backItems_get (rows := coderRows o K N) (k := 2) (by rw [coders_length]; decide)
      rw [hki] at hg
      cases hg
      have hrow : (coderRows o K N).getD ((coderRows o K N).length - 1 - 2) [] = [.v (.bool o.lz), .fn (.func 37) [] [], .fn (.func 38) [] [], .v (.bool false)] := rfl
      rw [hrow]
      clear hrow hki
      simp only [setTm]
      try dsimp only
      by_cases hu : o.lz = true
      · have hcall := back_ok (e2 o st mid b).1 raw k2.1 k2.2
        have hz : back (e2 o st mid b).1 raw = e3 o st mid raw b := by unfold e3; rw [if_pos hu]
        rw [hz] at hcall
        rw [hu]
        (repeat refine ka ?_); refine kr ?_ ?_ ?_
        refine ps_alloc fun g8 => ?_
        refine ps_store ?_
        refine pops_nil ?_
        refine kn ?_; repeat (first | with_reducible refine blk_n ?_ | with_reducible refine beh_n ?_)
        refine ⟨rfl, ?_⟩
        (repeat refine ka ?_); refine kb ?_
        (repeat refine ka ?_); refine kr ?_ ?_ (pops_end ?_)
        (repeat refine ka ?_); refine kcf ?_
        (repeat refine ka ?_); refine ksk ?_
        (repeat refine ka ?_); refine kr ?_ ?_ (pops_end ?_)
        (repeat refine ka ?_); refine kr ?_ ?_ (pops_end ?_)
        (repeat refine ka ?_); refine kcf ?_
        (repeat refine ka ?_); refine ksk ?_
        (repeat refine ka ?_); refine kr ?_ ?_ ?_
        refine ps_vpcall hcall ?_
        refine pops_go ?_ ?_ (pops_end ?_)
        by_cases hq : (e3 o st mid raw b).2 = 0
        · rw [hq]
          (repeat refine ka ?_); refine kr ?_ ?_ (pops_end ?_)
          (repeat refine ka ?_); refine kcf ?_
          (repeat refine ka ?_); refine ksk ?_
          (repeat refine ka ?_); refine kr ?_ ?_ ?_
          refine ps_store ?_
          refine pops_nil ?_
          refine kn ?_; repeat (first | with_reducible refine blk_n ?_ | with_reducible refine beh_n ?_)
          exact ⟨(e3 o st mid raw b).1, ⟨rfl, h2, hq⟩, 8, rfl⟩
        · (repeat refine ka ?_); refine kr ?_ ?_ (pops_end ?_)
          (repeat refine ka ?_); refine kct ?_
          (repeat refine ka ?_); refine kr ?_ ?_ ?_
          refine ps_store ?_
          refine ps_store ?_
          refine pops_nil ?_
          (repeat refine ka ?_); refine kret ?_; repeat (first | with_reducible refine beh_r ?_ | with_reducible refine blk_r ?_)
          exact ⟨_, _, rfl, by rw [hcb, if_neg (by simp [h2]), if_pos hq]⟩
      · have hu2 : o.lz = false := by simpa using hu
        have hz : e3 o st mid raw b = ((e2 o st mid b).1, 0) := by unfold e3; rw [if_neg hu]
        rw [hu2]
        (repeat refine ka ?_); refine kr ?_ ?_ ?_
        refine ps_alloc fun g8 => ?_
        refine ps_store ?_
        refine pops_nil ?_
        refine kn ?_; repeat (first | with_reducible refine blk_n ?_ | with_reducible refine beh_n ?_)
        refine ⟨rfl, ?_⟩
        (repeat refine ka ?_); refine kb ?_
        (repeat refine ka ?_); refine kr ?_ ?_ (pops_end ?_)
        (repeat refine ka ?_); refine kct ?_
        (repeat refine ka ?_); refine kx ?_; (repeat (first | with_reducible refine beh_x ?_ | with_reducible refine blk_up rfl ?_)); refine blk_here ?_; refine beh_n ?_
        exact ⟨(e2 o st mid b).1, by rw [show bV o st mid raw b (2 + 1) (e2 o st mid b).1 = ((e2 o st mid b).1 = (e3 o st mid raw b).1 ∧ (e2 o st mid b).2 = 0 ∧ (e3 o st mid raw b).2 = 0) from rfl, hz]; exact ⟨rfl, h2, rfl⟩, 8, rfl⟩
    · obtain ⟨rfl, h2, h3⟩ : X = (e3 o st mid raw b).1 ∧ (e2 o st mid b).2 = 0 ∧ (e3 o st mid raw b).2 = 0 := hV
      have hg := backItems_get (rows := coderRows o K N) (k := 3) (by rw [coders_length]; decide)
      rw [hki] at hg
      cases hg
      have hrow : (coderRows o K N).getD ((coderRows o K N).length - 1 - 3) [] = [.v (.bool true), .fn (.func 33) [] [.rp o.cells 0], .fn (.func 50) [] [.rp [.fn (.func 35) [] [.rp o.cells 0]] 0], .v (.bool false)] := rfl
      rw [hrow]
      clear hrow hki
      simp only [setTm]
      try dsimp only
      have hcall := plain1_ok 35 [.rp o.cells 0] inferInstance _ _ raw (dback_ok o (e3 o st mid raw b).1 k3.2)
      (repeat refine ka ?_); refine kr ?_ ?_ ?_
      refine ps_alloc fun g8 => ?_
      refine ps_store ?_
      refine pops_nil ?_
      refine kn ?_; repeat (first | with_reducible refine blk_n ?_ | with_reducible refine beh_n ?_)
      refine ⟨rfl, ?_⟩
      (repeat refine ka ?_); refine kb ?_
      (repeat refine ka ?_); refine kr ?_ ?_ (pops_end ?_)
      (repeat refine ka ?_); refine kcf ?_
      (repeat refine ka ?_); refine ksk ?_
      (repeat refine ka ?_); refine kr ?_ ?_ (pops_end ?_)
      (repeat refine ka ?_); refine kr ?_ ?_ (pops_end ?_)
      (repeat refine ka ?_); refine kcf ?_
      (repeat refine ka ?_); refine ksk ?_
      (repeat refine ka ?_); refine kr ?_ ?_ ?_
      refine ps_vpcall hcall ?_
      refine pops_go ?_ ?_ (pops_end ?_)
      have hz : deltaB (e3 o st mid raw b).1 o.del = e4 o st mid raw b := rfl
      rw [hz]
      (repeat refine ka ?_); refine kr ?_ ?_ (pops_end ?_)
      (repeat refine ka ?_); refine kcf ?_
      (repeat refine ka ?_); refine ksk ?_
      (repeat refine ka ?_); refine kr ?_ ?_ ?_
      refine ps_store ?_
      refine pops_nil ?_
      refine kn ?_; repeat (first | with_reducible refine blk_n ?_ | with_reducible refine beh_n ?_)
      exact ⟨e4 o st mid raw b, ⟨rfl, h2, h3⟩, 8, rfl⟩
    · obtain ⟨rfl, h2, h3⟩ : X = e4 o st mid raw b ∧ (e2 o st mid b).2 = 0 ∧ (e3 o st mid raw b).2 = 0 := hV
      have hg := backItems_get (rows := coderRows o K N) (k := 4) (by rw [coders_length]; decide)
      rw [hki] at hg
      cases hg
      have hrow : (coderRows o K N).getD ((coderRows o K N).length - 1 - 4) [] = [.v (.bool o.bcj), .fn (.func 30) [] [], .fn (.func 50) [] [.rp [.fn (.func 32) [] []] 0], .v (.bool false)] := rfl
      rw [hrow]
      clear hrow hki
      simp only [setTm]
      try dsimp only
      by_cases hu : o.bcj = true
      · have hcall := plain1_ok 32 [] inferInstance _ _ raw (lbcj_back (e4 o st mid raw b) k4.1 k4.2)
        have hz : bcjF (-1) (e4 o st mid raw b) = e5 o st mid raw b := by unfold e5; rw [if_pos hu]
        rw [hz] at hcall
        rw [hu]
        (repeat refine ka ?_); refine kr ?_ ?_ ?_
        refine ps_alloc fun g8 => ?_
        refine ps_store ?_
        refine pops_nil ?_
        refine kn ?_; repeat (first | with_reducible refine blk_n ?_ | with_reducible refine beh_n ?_)
        refine ⟨rfl, ?_⟩
        (repeat refine ka ?_); refine kb ?_
        (repeat refine ka ?_); refine kr ?_ ?_ (pops_end ?_)
        (repeat refine ka ?_); refine kcf ?_
        (repeat refine ka ?_); refine ksk ?_
        (repeat refine ka ?_); refine kr ?_ ?_ (pops_end ?_)
        (repeat refine ka ?_); refine kr ?_ ?_ (pops_end ?_)
        (repeat refine ka ?_); refine kcf ?_
        (repeat refine ka ?_); refine ksk ?_
        (repeat refine ka ?_); refine kr ?_ ?_ ?_
        refine ps_vpcall hcall ?_
        refine pops_go ?_ ?_ (pops_end ?_)
        (repeat refine ka ?_); refine kr ?_ ?_ (pops_end ?_)
        (repeat refine ka ?_); refine kcf ?_
        (repeat refine ka ?_); refine ksk ?_
        (repeat refine ka ?_); refine kr ?_ ?_ ?_
        refine ps_store ?_
        refine pops_nil ?_
        refine kn ?_; repeat (first | with_reducible refine blk_n ?_ | with_reducible refine beh_n ?_)
        exact ⟨e5 o st mid raw b, ⟨rfl, h2, h3⟩, 8, rfl⟩
      · have hu2 : o.bcj = false := by simpa using hu
        have hz : e5 o st mid raw b = e4 o st mid raw b := by unfold e5; rw [if_neg hu]
        rw [hu2]
        (repeat refine ka ?_); refine kr ?_ ?_ ?_
        refine ps_alloc fun g8 => ?_
        refine ps_store ?_
        refine pops_nil ?_
        refine kn ?_; repeat (first | with_reducible refine blk_n ?_ | with_reducible refine beh_n ?_)
        refine ⟨rfl, ?_⟩
        (repeat refine ka ?_); refine kb ?_
        (repeat refine ka ?_); refine kr ?_ ?_ (pops_end ?_)
        (repeat refine ka ?_); refine kct ?_
        (repeat refine ka ?_); refine kx ?_; (repeat (first | with_reducible refine beh_x ?_ | with_reducible refine blk_up rfl ?_)); refine blk_here ?_; refine beh_n ?_
        exact ⟨e4 o st mid raw b, ⟨hz.symm, h2, h3⟩, 8, rfl⟩
  · intro X hX
    rw [backItems_length, coders_length] at hX
    obtain ⟨rfl, h2, h3⟩ := hX
    have hfin : cback o st mid raw b = (e5 o st mid raw b, 0) := by rw [hcb, if_neg (by simp [h2]), if_neg (by simp [h3])]
    rw [hfin]
    try dsimp only
    refine kn ?_; repeat (first | with_reducible refine blk_n ?_ | with_reducible refine beh_n ?_)
    (repeat refine ka ?_); refine kr ?_ ?_ ?_
    refine ps_store ?_
    refine ps_store ?_
    refine pops_nil ?_
    (repeat refine ka ?_); refine kret ?_; repeat (first | with_reducible refine beh_r ?_ | with_reducible refine blk_r ?_)
    refine ends_ret ?_ (retPV_2 res_cell res_cell)
    exact gives_two (.same PureC.h) (.same (.v _))
  · rintro S' ⟨X, y, rfl, hz⟩
    dsimp only [inBlk, behind]
    refine ends_ret ?_ (retPV_2 res_cell res_cell)
    rw [hz]
    exact gives_two .nil (.same (.v _))
end Go.Proofs.Yteocmeidkdhmiaa.Pv
