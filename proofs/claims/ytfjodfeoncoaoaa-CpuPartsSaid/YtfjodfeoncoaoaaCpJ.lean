-- cpu: Records; carapacelaw11: own; carapaceref11: SameRecords.
import Derived.Test.YtfjodfeoncoaoaaCpI
import Derived.Test.YtfjodfeoncoaoaaCst
namespace Go.Proofs.Ytfjodfeoncoaoaa.Pv
set_option linter.all false
open Go.RowKit Go.Proofs
set_option maxRecDepth 100000
set_option maxHeartbeats 4000000
/-- A slice that a call gives is frozen, and its block dropped. -/
theorem gcall_frz1 {P : Program} {f : FuncId} {as_ : List PV} {S : List Blk} {R : PV → List Blk → Prop} (h : GCall P f as_ S fun x T => ∃ g sz len rows, x = .vw S.length g 0 len ∧ T = S ++ [⟨g, true, sz, rows⟩] ∧ rows.length = len ∧ (∀ row ∈ rows, ∀ x ∈ row, PV.Pure x) ∧ R (.ro sz false rows) S) : GCall P f as_ S R := by
  intro c vals hi hs hl hv
  refine (h c vals hi hs hl hv).mono ?_
  rintro e w' ⟨v, x, c', rfl, rfl, ⟨g, sz, len, rows, rfl, hT, hlen, hpure, hR⟩, hi', hst, hr⟩
  have hb : c'.S[S.length]? = some ⟨g, true, sz, rows⟩ := by rw [hT, List.getElem?_append_right (Nat.le_refl _), Nat.sub_self]; rfl
  obtain ⟨h1, h2⟩ := freezeBlk hi' hb
  have e : c'.S.set S.length ⟨g, false, sz, rows⟩ = S ++ [⟨g, false, sz, rows⟩] := by
    rw [hT, List.set_append_right _ _ (Nat.le_refl _), Nat.sub_self]; rfl
  have hb2 : (c'.S.set S.length ⟨g, false, sz, rows⟩)[S.length]? = some ⟨g, false, sz, rows⟩ := by
    rw [e, List.getElem?_append_right (Nat.le_refl _), Nat.sub_self]; rfl
  obtain ⟨h3, h4⟩ := dropBlk h1 S.length
  refine ⟨v, .ro sz false rows, { c' with S := (c'.S.set S.length ⟨g, false, sz, rows⟩).take S.length }, rfl, rfl, ?_, h3, hst.trans (h2.trans h4), ?_⟩
  · show R _ ((c'.S.set S.length ⟨g, false, sz, rows⟩).take S.length)
    rw [e, List.take_append_of_le_length (Nat.le_refl _), List.take_length]
    exact hR
  · have k := hr.step h2
    refine (Lend.frel h1 (T := [S.length]) (.vw (by simp) hb2 rfl (by rw [List.drop_zero, ← hlen, List.take_length]) hpure) ?_ k).step h4
    intro t ht b hb'
    simp only [List.mem_singleton] at ht
    subst ht
    have := hb2.symm.trans hb'
    cases this
    rfl
theorem gives_rows11 {S : List Blk} {τ g gg len sz : Nat} {o : Bool} {rows : List (List PV)} (hb : S[τ]? = some ⟨gg, o, sz, rows⟩) (hg : gg = g) (hl : rows.length = len) (hp : ∀ row ∈ rows, ∀ x ∈ row, PV.Pure x) : Gives S (.vw τ g 0 len) (.ro sz false rows) :=
  .vw hb hg (by rw [List.drop_zero, ← hl, List.take_length]) hp
theorem recRows_pure (l) : ∀ row ∈ recRows l, ∀ x ∈ row, PV.Pure x := by
  intro row hr x hx
  obtain ⟨r, _, rfl⟩ := List.mem_map.1 hr
  simp only [List.mem_cons, List.not_mem_nil, or_false] at hx
  rcases hx with rfl | rfl <;> exact .ro (intsPu _)
instance (sz : Nat) (f : Bool) (L) : PureC (.ro sz f (recRows L)) := ⟨.ro (recRows_pure L)⟩
theorem recRows_get {L : List (List Int × List Int)} {i : Nat} {x : List Int × List Int} (h : L[i]? = some x) : (recRows L)[((i : Nat) : Int).toNat]? = some [.ro 1 false (ints .u8 x.1), .ro 1 false (ints .u8 x.2)] := by
  rw [Int.toNat_natCast, recRows, List.getElem?_map, h]; rfl
theorem recRows_take {L : List (List Int × List Int)} {i : Nat} {x : List Int × List Int} (h : L[i]? = some x) : recRows (L.take (i + 1)) = recRows (L.take i) ++ [[.ro 1 false (ints .u8 x.1), .ro 1 false (ints .u8 x.2)]] := by
  obtain ⟨h1, h2⟩ := List.getElem?_eq_some_iff.1 h
  rw [List.take_succ_eq_append_getElem h1, h2]
  simp [recRows]
theorem own11 (L : List (List Int × List Int)) (hl : L.length ≤ 1000) : PCall Try.prog 24 [.ro 2 false (recRows L)] (.ro 2 false (recRows L)) := by
  have hcl := recRows_length L
  refine pcall_mkg Try.func24 rfl [.tmp 2] Try.results24 19 rfl (tk_start ?_)
  (repeat refine ka ?_); refine kr ?_ ?_ (pops_end ?_)
  (repeat refine ka ?_); refine kr ?_ ?_ (pops_end ?_)
  (repeat refine ka ?_); refine kr ?_ ?_ (pops_end ?_)
  refine kvoid 3 2 (fun g0 => ?_)
  (repeat refine ka ?_); refine kb ?_
  refine kw (fun s : Nat × Nat => [(0, .ro 2 false (recRows L)), (3, .vw 0 s.2 0 s.1), (4, .v (.int .i64 s.1))]) (fun s => [⟨s.2, true, 2, recRows (L.take s.1)⟩]) (fun s => s.1 ≤ L.length) (fun s => L.length - s.1) (0, g0) (by simp) (holds 1 (by repeat (first | exact .nil | refine has1 ?_))) ?_
  rintro ⟨i, g0⟩ hi
  simp only at hi ⊢
  have htl : (recRows (L.take i)).length = i := by rw [recRows_length, List.length_take]; omega
  by_cases h : i < L.length
  · obtain ⟨x, hx⟩ : ∃ x, L[i]? = some x := ⟨L[i], by simp [h]⟩
    have hrow := recRows_get hx
    have hts := recRows_take hx
    (repeat refine ka ?_); refine kr ?_ ?_ (pops_end ?_)
    (repeat refine ka ?_); refine kct ?_
    (repeat refine ka ?_); refine ksk ?_
    (repeat refine ka ?_); refine kb ?_
    (repeat refine ka ?_); refine kr ?_ ?_ ?_
    refine ps_lith (rows := [[.ro 1 false (ints .u8 x.1), .ro 1 false (ints .u8 x.2)]]) ?_ ?_
    · refine ps_app_vw (rows' := recRows (L.take (i + 1))) (m := i + 1) (fun g3 => ?_) (hlen := by rw [recRows_length, List.length_take]; omega) (hrows := hts.symm)
      refine pops_go ?_ ?_ (pops_end ?_)
      refine kn ?_; repeat (first | with_reducible refine blk_n ?_ | with_reducible refine beh_n ?_)
      (repeat refine ka ?_); refine kr ?_ ?_ (pops_end ?_)
      refine kn ?_; repeat (first | with_reducible refine blk_n ?_ | with_reducible refine beh_n ?_)
      exact ⟨(i + 1, g3), by simp only; omega, by simp only; omega, (holds 1 (by repeat (first | exact .nil | refine has1 ?_)))⟩
    · intro row hr x hx
      simp only [List.mem_singleton] at hr
      subst hr
      simp only [List.mem_cons, List.not_mem_nil, or_false] at hx
      rcases hx with rfl | rfl <;> exact .ro (intsPu _)
  · obtain rfl : i = L.length := by omega
    rw [List.take_length] at htl ⊢
    (repeat refine ka ?_); refine kr ?_ ?_ (pops_end ?_)
    (repeat refine ka ?_); refine kcf ?_
    (repeat refine ka ?_); refine kx ?_; (repeat (first | with_reducible refine beh_x ?_ | with_reducible refine blk_up rfl ?_)); refine blk_here ?_; refine beh_n ?_
    (repeat refine ka ?_); refine kr ?_ ?_ (pops_end ?_)
    (repeat refine ka ?_); refine kret ?_; repeat (first | with_reducible refine beh_r ?_ | with_reducible refine blk_r ?_)
    refine ends_ret ?_ retPV_one
    exact gives_rows11 rfl rfl htl (recRows_pure _)
theorem same11 (L : List (List Int × List Int)) (hl : L.length ≤ 1000) (ho : ∀ r ∈ L, Oct r.1 ∧ Oct r.2) : PCall Try.prog 23 [.ro 2 false (recRows L), .ro 2 false (recRows L)] (.v (.bool true)) := by
  have hcl := recRows_length L
  refine pcall_mk Try.func23 rfl [.tmp 4] Try.results23 45 rfl (tk_start ?_)
  (repeat refine ka ?_); refine kr ?_ ?_ (pops_end ?_)
  (repeat refine ka ?_); refine kr ?_ ?_ (pops_end ?_)
  (repeat refine ka ?_); refine kcf ?_
  (repeat refine ka ?_); refine ksk ?_
  (repeat refine ka ?_); refine kr ?_ ?_ (pops_end ?_)
  (repeat refine ka ?_); refine kb ?_
  refine kw (fun i : Nat => [(0, .ro 2 false (recRows L)), (1, .ro 2 false (recRows L)), (5, .v (.int .i64 i))]) (fun s => []) (fun i => i ≤ L.length) (fun i => L.length - i) 0 (by simp) (holds 0 (by repeat (first | exact .nil | refine has1 ?_))) ?_
  intro i hi
  by_cases h : i < L.length
  · obtain ⟨x, hx⟩ : ∃ x, L[i]? = some x := ⟨L[i], by simp [h]⟩
    obtain ⟨o1, o2⟩ := ho x (List.mem_of_getElem? hx)
    have hrow := recRows_get hx
    (repeat refine ka ?_); refine kr ?_ ?_ (pops_end ?_)
    (repeat refine ka ?_); refine kct ?_
    (repeat refine ka ?_); refine ksk ?_
    (repeat refine ka ?_); refine kb ?_
    (repeat refine ka ?_); refine kd ?_ ?_ ?_
    refine pd_cst ?_
    refine pstl_go ?_ ?_ ?_
    refine pd_cst ?_
    refine pstl_go ?_ ?_ ?_
    refine pd_cst_g ?_
    refine pstl_go ?_ ?_ ?_
    refine pd_cst_g ?_
    refine pstl_go ?_ ?_ (pstl_end ?_)
    (repeat refine ka ?_); refine kcf ?_
    (repeat refine ka ?_); refine ksk ?_
    refine kn ?_; repeat (first | with_reducible refine blk_n ?_ | with_reducible refine beh_n ?_)
    (repeat refine ka ?_); refine kr ?_ ?_ (pops_end ?_)
    refine kn ?_; repeat (first | with_reducible refine blk_n ?_ | with_reducible refine beh_n ?_)
    exact ⟨i + 1, by omega, by omega, (holds 0 (by repeat (first | exact .nil | refine has1 ?_)))⟩
  · obtain rfl : i = L.length := by omega
    (repeat refine ka ?_); refine kr ?_ ?_ (pops_end ?_)
    (repeat refine ka ?_); refine kcf ?_
    (repeat refine ka ?_); refine kx ?_; (repeat (first | with_reducible refine beh_x ?_ | with_reducible refine blk_up rfl ?_)); refine blk_here ?_; refine beh_n ?_
    (repeat refine ka ?_); refine kr ?_ ?_ (pops_end ?_)
    (repeat refine ka ?_); refine kret ?_; repeat (first | with_reducible refine beh_r ?_ | with_reducible refine blk_r ?_)
    refine ends_ret ?_ retPV_one
    rfl
theorem records_ok (s : CS) (hs : CsOk s) : CCall 25 [] s s (.ro 2 false (recRows s.told)) := by
  intro gc gm gb gt
  have hl := hs.rl
  have htl := hs.tl
  have hcl := recRows_length s.told
  refine gcall_frz1 ?_
  rw [cpuB]
  refine gcall_of_tr Try.func25 rfl [.tmp 2] Try.results25 27 rfl (tk_start ?_)
  (repeat refine ka ?_); refine kr ?_ ?_ (pops_end ?_)
  (repeat refine ka ?_); refine kr ?_ ?_ (pops_end ?_)
  (repeat refine ka ?_); refine kr ?_ ?_ (pops_end ?_)
  refine kvoid 3 2 (fun g0 => ?_)
  (repeat refine ka ?_); refine kb ?_
  refine kw (fun x : Nat × Nat => [(3, .vw 4 x.2 0 x.1), (9, .vw 3 gt 0 s.told.length), (10, .v (.int .i64 s.told.length)), (11, .v (.int .i64 x.1))]) (fun x => [⟨gc, true, 41, [ci .u32 s.regs ++ cpuTl s 1 gm 3 gt]⟩, ⟨gm, true, 1, [[.vw 2 gb 0 s.mem.length]]⟩, ⟨gb, true, 1, ints .u8 s.mem⟩, ⟨gt, true, 2, recRows s.told⟩, ⟨x.2, true, 2, recRows (s.told.take x.1)⟩]) (fun x => x.1 ≤ s.told.length) (fun x => s.told.length - x.1) (0, g0) (by simp) (holds 5 (by repeat (first | exact .nil | refine has1 ?_))) ?_
  rintro ⟨i, g0⟩ hi
  simp only at hi ⊢
  have htt : (recRows (s.told.take i)).length = i := by rw [recRows_length, List.length_take]; omega
  by_cases h : i < s.told.length
  · obtain ⟨x, hx⟩ : ∃ x, s.told[i]? = some x := ⟨s.told[i], by simp [h]⟩
    have hrow := recRows_get hx
    have hrow' : (recRows s.told)[0 + ((i : Nat) : Int).toNat]? = some [.ro 1 false (ints .u8 x.1), .ro 1 false (ints .u8 x.2)] := by rw [Nat.zero_add]; exact hrow
    have hts := recRows_take hx
    have hte := hs.te x (List.mem_of_getElem? hx)
    have c1 := clone_ok x.1 (by omega)
    have c2 := clone_ok x.2 (by omega)
    (repeat refine ka ?_); refine kr ?_ ?_ (pops_end ?_)
    (repeat refine ka ?_); refine kct ?_
    (repeat refine ka ?_); refine ksk ?_
    (repeat refine ka ?_); refine kb ?_
    (repeat refine ka ?_); refine kr ?_ ?_ ?_
    refine ps_alloc fun g1 => ?_
    refine pops_go ?_ ?_ ?_
    refine ps_store ?_
    refine pops_nil ?_
    (repeat refine ka ?_); refine kdt 9 ?_
    refine pstl_go ?_ ?_ ?_
    refine pd_pcall c1 ?_
    refine pstl_go ?_ ?_ ?_
    refine pd_pcall c2 ?_
    refine pstl_go ?_ ?_ ?_
    refine pd_litg (rows := [[.ro 1 false (ints .u8 x.1), .ro 1 false (ints .u8 x.2)]]) ?_ ?_
    · refine pstl_nil ?_
      refine ps_app_vw (rows' := recRows (s.told.take (i + 1))) (m := i + 1) (fun g3 => ?_) (hlen := by rw [recRows_length, List.length_take]; omega) (hrows := hts.symm)
      refine pops_go ?_ ?_ (pops_end ?_)
      refine kn ?_; repeat (first | with_reducible refine blk_n ?_ | with_reducible refine beh_n ?_)
      (repeat refine ka ?_); refine kr ?_ ?_ (pops_end ?_)
      refine kn ?_; repeat (first | with_reducible refine blk_n ?_ | with_reducible refine beh_n ?_)
      exact ⟨(i + 1, g3), by simp only; omega, by simp only; omega, (holds 5 (by repeat (first | exact .nil | refine has1 ?_)))⟩
    · intro row hr x hx
      simp only [List.mem_singleton] at hr
      subst hr
      simp only [List.mem_cons, List.not_mem_nil, or_false] at hx
      rcases hx with rfl | rfl <;> exact .ro (intsPu _)
  · obtain rfl : i = s.told.length := by omega
    rw [List.take_length] at htt ⊢
    (repeat refine ka ?_); refine kr ?_ ?_ (pops_end ?_)
    (repeat refine ka ?_); refine kcf ?_
    (repeat refine ka ?_); refine kx ?_; (repeat (first | with_reducible refine beh_x ?_ | with_reducible refine blk_up rfl ?_)); refine blk_here ?_; refine beh_n ?_
    (repeat refine ka ?_); refine kr ?_ ?_ (pops_end ?_)
    (repeat refine ka ?_); refine kret ?_; repeat (first | with_reducible refine beh_r ?_ | with_reducible refine blk_r ?_)
    refine ends_ret ?_ retPV_one
    exact ⟨g0, 2, s.told.length, recRows s.told, rfl, rfl, htt, recRows_pure _, gt, rfl, rfl⟩
end Go.Proofs.Ytfjodfeoncoaoaa.Pv
