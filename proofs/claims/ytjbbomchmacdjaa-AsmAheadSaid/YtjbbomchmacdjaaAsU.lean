-- AsmAhead.
import Derived.Test.YtjbbomchmacdjaaAsT
namespace Go.Proofs.Ytjbbomchmacdjaa.Pv
set_option linter.all false
open Go.RowKit Go.Proofs
set_option maxRecDepth 100000
set_option maxHeartbeats 4000000
theorem labGo_ext : ∀ (L : List It) (out : List (List Int × Int)) (a : Int), (labGo L out a).2 = 0 → ∃ T, (labGo L out a).1 = out ++ T
  | [], out, a, _ => ⟨[], by simp [labGo]⟩
  | x :: L, out, a, h => by
    rw [labGo] at h ⊢
    by_cases k : x.k = 0
    · rw [if_pos k] at h ⊢
      by_cases f : (findF out x.n).2 = true
      · rw [if_pos f] at h; cases h
      · rw [if_neg f] at h ⊢
        obtain ⟨T, hT⟩ := labGo_ext L _ _ h
        exact ⟨[(x.n, a)] ++ T, by rw [hT, List.append_assoc]⟩
    · rw [if_neg k] at h ⊢
      exact labGo_ext L _ _ h
theorem labGo_app : ∀ (L M : List It) (out : List (List Int × Int)) (a : Int), (labGo (L ++ M) out a).2 = 0 → (labGo L out a).2 = 0 ∧ ∃ T, (labGo (L ++ M) out a).1 = (labGo L out a).1 ++ T
  | [], M, out, a, h => by
    obtain ⟨T, hT⟩ := labGo_ext M out a h
    exact ⟨by simp [labGo], T, by simpa [labGo] using hT⟩
  | x :: L, M, out, a, h => by
    simp only [List.cons_append] at h ⊢
    rw [labGo] at h
    rw [labGo.eq_2, labGo.eq_2]
    by_cases k : x.k = 0
    · rw [if_pos k] at h
      rw [if_pos k, if_pos k]
      by_cases f : (findF out x.n).2 = true
      · rw [if_pos f] at h; cases h
      · rw [if_neg f] at h
        rw [if_neg f, if_neg f]
        exact labGo_app L M _ _ h
    · rw [if_neg k] at h
      rw [if_neg k, if_neg k]
      exact labGo_app L M _ _ h
theorem labelsF_app {L M : List It} (h : (labelsF (L ++ M)).2 = 0) : (labelsF L).2 = 0 ∧ ∃ T, (labelsF (L ++ M)).1 = (labelsF L).1 ++ T := by
  have hl := labelsF_len h
  rw [List.length_append] at hl
  have hl2 : ¬ 4096 < (L ++ M).length := by rw [List.length_append]; omega
  have hl3 : ¬ 4096 < L.length := by omega
  unfold labelsF at h ⊢
  rw [if_neg hl2] at h ⊢
  rw [if_neg hl3]
  by_cases hb : (L ++ M).any badIt = true
  · rw [if_pos hb] at h; cases h
  · have hb2 : ¬ L.any badIt = true := fun k => hb (by rw [List.any_append, k, Bool.true_or])
    rw [if_neg hb] at h ⊢
    rw [if_neg hb2]
    exact labGo_app L M [] 0 h
theorem layF_free {x : It} {to to' at_ : Int} (h : ¬ (x.k = 2 ∨ x.k = 3 ∨ x.k = 5)) : layF x to at_ = layF x to' at_ := by
  have h2 : ¬ x.k = 2 := fun k => h (.inl k)
  have h3 : ¬ x.k = 3 := fun k => h (.inr (.inl k))
  have h5 : ¬ x.k = 5 := fun k => h (.inr (.inr k))
  unfold layF
  simp only [if_neg h2, if_neg h3, if_neg h5]
theorem bGo_app {l1 l2 : List (List Int × Int)} (hp : ∀ n, (findF l1 n).2 = true → findF l2 n = findF l1 n) : ∀ (L M : List It) (W : List Int) (R : List (Int × Bool)), (bGo l1 L W R).2 = 0 → bGo l2 (L ++ M) W R = bGo l2 M (bGo l1 L W R).1.1 (bGo l1 L W R).1.2
  | [], M, W, R, _ => by simp [bGo]
  | x :: L, M, W, R, h => by
    simp only [List.cons_append]
    rw [bGo] at h
    rw [bGo.eq_2, bGo.eq_2]
    by_cases hw : wrongB (decide x.rt) x = true
    · rw [if_pos hw] at h; cases h
    rw [if_neg hw] at h
    rw [if_neg hw, if_neg hw]
    by_cases hn : (x.k = 2 ∨ x.k = 3 ∨ x.k = 5) ∧ (findF l1 x.n).2 = false
    · rw [if_pos hn] at h; cases h
    rw [if_neg hn] at h
    rw [if_neg hn]
    have e : layF x (findF l2 x.n).1 (4 * W.length) = layF x (findF l1 x.n).1 (4 * W.length) ∧ ¬ ((x.k = 2 ∨ x.k = 3 ∨ x.k = 5) ∧ (findF l2 x.n).2 = false) := by
      by_cases hk : x.k = 2 ∨ x.k = 3 ∨ x.k = 5
      · have hf : (findF l1 x.n).2 = true := by
          cases hq : (findF l1 x.n).2
          · exact absurd ⟨hk, hq⟩ hn
          · rfl
        rw [hp _ hf]
        exact ⟨rfl, fun k => by rw [hf] at k; cases k.2⟩
      · exact ⟨layF_free hk, fun k => hk k.1⟩
    rw [if_neg e.2, e.1]
    split at h
    · rename_i h0
      rw [if_pos h0, if_pos h0]
      exact bGo_app hp L M _ _ h
    · rename_i h0
      exact absurd h h0
theorem bGo_ext (labs : List (List Int × Int)) : ∀ (L : List It) (W : List Int) (R : List (Int × Bool)), (bGo labs L W R).2 = 0 → ∃ V T, (bGo labs L W R).1 = (W ++ V, R ++ T)
  | [], W, R, _ => ⟨[], [], by simp [bGo]⟩
  | x :: L, W, R, h => by
    rw [bGo] at h ⊢
    split at h
    · cases h
    · split at h
      · cases h
      · split at h
        · obtain ⟨V, T, hVT⟩ := bGo_ext labs L _ _ h
          rename_i h1 h2 h3
          rw [if_neg h1, if_neg h2, if_pos h3, hVT]
          exact ⟨(layF x (findF labs x.n).1 (4 * W.length)).1.1 ++ V, (layF x (findF labs x.n).1 (4 * W.length)).1.2 ++ T, by rw [List.append_assoc, List.append_assoc]⟩
        · rename_i h3
          exact absurd h h3
theorem ahead {L M : List It} (h1 : (buildF L).2 = 0) (h2 : (buildF (L ++ M)).2 = 0) : ∃ V T, (buildF (L ++ M)).1 = ((buildF L).1.1 ++ V, (buildF L).1.2 ++ T) := by
  unfold buildF at h1 h2 ⊢
  by_cases e2 : (labelsF (L ++ M)).2 = 0
  · obtain ⟨e1, T, hT⟩ := labelsF_app e2
    rw [if_pos e1] at h1
    rw [if_pos e2] at h2
    rw [if_pos e1, if_pos e2]
    have hp : ∀ n, (findF (labelsF L).1 n).2 = true → findF (labelsF (L ++ M)).1 n = findF (labelsF L).1 n := fun n hn => by rw [hT]; exact findF_app hn
    rw [bGo_app hp L M [] [] h1] at h2 ⊢
    exact bGo_ext _ M _ _ h2
  · rw [if_neg e2] at h2
    exact absurd h2 e2
theorem ahead12 {x0 x1 : PV} (h0 : SSl 8 72 (SFs [SInt .i64, SStr, SFs [SInt .i64, SInt .i64, SInt .i64, SInt .i64, SInt .i64], SInt .u32]) [x0]) (h1 : SSl 8 72 (SFs [SInt .i64, SStr, SFs [SInt .i64, SInt .i64, SInt .i64, SInt .i64, SInt .i64], SInt .u32]) [x1]) : PCall Try.prog 9 [x0, x1] (.v (.bool true)) := by
  obtain ⟨rows, e0, hB, hM, hrows⟩ := h0
  cases e0
  obtain ⟨rows', e1, hB', hM', hrows'⟩ := h1
  cases e1
  obtain ⟨L, rfl, hL⟩ := items_of hrows
  obtain ⟨M, rfl, hM1⟩ := items_of hrows'
  rw [itRows_length] at hB hM hB' hM'
  have hcl := itRows_length L
  have hcm := itRows_length M
  have cO := own12 L (by omega)
  have cP := own12 M (by omega)
  obtain ⟨b, hb, cL⟩ := large_ok L (by omega) (fun x hx => (hL x hx).n)
  obtain ⟨b', hb', cM⟩ := large_ok M (by omega) (fun x hx => (hM1 x hx).n)
  have ho : ∀ x ∈ L ++ M, Oct x.n := fun x hx => by
    rcases List.mem_append.1 hx with hx | hx
    · exact (hL x hx).o
    · exact (hM1 x hx).o
  clear hrows hrows'
  by_cases hbb : b = true ∨ b' = true
  · refine pcall_mk Try.func9 rfl [.tmp 4] Try.results9 94 rfl (tk_start ?_)
    (repeat refine ka ?_); refine kr ?_ ?_ (pops_end ?_)
    (repeat refine ka ?_); refine kr ?_ ?_ ?_
    refine ps_pcall awake12 ?_
    refine pops_go ?_ ?_ (pops_end ?_)
    (repeat refine ka ?_); refine kr ?_ ?_ ?_
    refine ps_pcall cO ?_
    refine ps_pcall cL ?_
    refine pops_go ?_ ?_ (pops_end ?_)
    (repeat refine ka ?_); refine kr ?_ ?_ ?_
    refine ps_pcall cP ?_
    refine ps_pcall cM ?_
    refine pops_go ?_ ?_ (pops_end ?_)
    cases b
    · rcases hbb with hbb | rfl
      · cases hbb
      (repeat refine ka ?_); refine kr ?_ ?_ (pops_end ?_)
      (repeat refine ka ?_); refine kct ?_
      (repeat refine ka ?_); refine kr ?_ ?_ (pops_end ?_)
      (repeat refine ka ?_); refine kret ?_; repeat (first | with_reducible refine beh_r ?_ | with_reducible refine blk_r ?_)
      refine ends_ret ?_ retPV_one
      rfl
    · (repeat refine ka ?_); refine kr ?_ ?_ (pops_end ?_)
      (repeat refine ka ?_); refine kct ?_
      (repeat refine ka ?_); refine kr ?_ ?_ (pops_end ?_)
      (repeat refine ka ?_); refine kret ?_; repeat (first | with_reducible refine beh_r ?_ | with_reducible refine blk_r ?_)
      refine ends_ret ?_ retPV_one
      rfl
  have hbf : b = false := by cases b; rfl; exact absurd (.inl rfl) hbb
  have hbf' : b' = false := by cases b'; rfl; exact absurd (.inr rfl) hbb
  subst hbf hbf'
  obtain ⟨hl, _, _⟩ := hb rfl
  obtain ⟨hm, _, _⟩ := hb' rfl
  have hlm : (L ++ M).length = L.length + M.length := List.length_append
  have c1 := build_ok false L (by omega) (fun x hx => ho x (List.mem_append.2 (.inl hx)))
  have c2 := build_ok false (L ++ M) (by omega) ho
  have hbl := buildF_len L
  have hbm := buildF_len (L ++ M)
  have hah := @ahead L M
  have hrr : itRows L ++ itRows M = itRows (L ++ M) := by simp [itRows]
  have hrl : (itRows (L ++ M)).length = L.length + M.length := by rw [itRows_length, hlm]
  generalize buildF L = bf at *
  obtain ⟨⟨W, R⟩, e⟩ := bf
  generalize buildF (L ++ M) = bg at *
  obtain ⟨⟨W', R'⟩, f⟩ := bg
  dsimp only at *
  by_cases he : e = 0 ∧ f = 0
  rotate_left
  · refine pcall_mk Try.func9 rfl [.tmp 4] Try.results9 94 rfl (tk_start ?_)
    (repeat refine ka ?_); refine kr ?_ ?_ (pops_end ?_)
    (repeat refine ka ?_); refine kr ?_ ?_ ?_
    refine ps_pcall awake12 ?_
    refine pops_go ?_ ?_ (pops_end ?_)
    (repeat refine ka ?_); refine kr ?_ ?_ ?_
    refine ps_pcall cO ?_
    refine ps_pcall cL ?_
    refine pops_go ?_ ?_ (pops_end ?_)
    (repeat refine ka ?_); refine kr ?_ ?_ ?_
    refine ps_pcall cP ?_
    refine ps_pcall cM ?_
    refine pops_go ?_ ?_ (pops_end ?_)
    (repeat refine ka ?_); refine kr ?_ ?_ (pops_end ?_)
    (repeat refine ka ?_); refine kcf ?_
    (repeat refine ka ?_); refine ksk ?_
    (repeat refine ka ?_); refine kr ?_ ?_ ?_
    refine ps_pcall c1 ?_
    refine pops_go ?_ ?_ ?_
    refine ps_alloc fun g0 => ?_
    refine ps_store ?_
    refine pops_go ?_ ?_ (pops_end ?_)
    (repeat refine ka ?_); refine kr ?_ ?_ ?_
    refine ps_lit fun g1 => ?_
    refine pops_go ?_ ?_ ?_
    refine ps_app_vw (rows' := itRows L) (m := L.length) (fun g2 => ?_) (hsrc := rfl) (hrows := List.nil_append _)
    refine pops_go ?_ ?_ ?_
    refine ps_app_vw (rows' := itRows (L ++ M)) (m := L.length + M.length) (fun g3 => ?_) (hsrc := rfl) (hrows := hrr)
    refine ps_freeze 1 ?_
    refine ps_rcall [1] c2 (.cons (lend_rows' (List.mem_singleton.2 rfl) rfl rfl hrl (itRows_pure _)) .nil) ?_ (.inr (by intro τ hτ blk hb; simp only [List.mem_singleton] at hτ; subst hτ; cases hb; rfl))
    refine pops_go ?_ ?_ ?_
    refine ps_alloc fun g4 => ?_
    refine ps_store ?_
    refine pops_go ?_ ?_ (pops_end ?_)
    by_cases e0 : e = 0
    · have f0 : ¬ f = 0 := fun h => he ⟨e0, h⟩
      (repeat refine ka ?_); refine kr ?_ ?_ (pops_end ?_)
      (repeat refine ka ?_); refine kct ?_
      (repeat refine ka ?_); refine kr ?_ ?_ (pops_end ?_)
      (repeat refine ka ?_); refine kret ?_; repeat (first | with_reducible refine beh_r ?_ | with_reducible refine blk_r ?_)
      refine ends_ret ?_ retPV_one
      rfl
    · (repeat refine ka ?_); refine kr ?_ ?_ (pops_end ?_)
      (repeat refine ka ?_); refine kct ?_
      (repeat refine ka ?_); refine kr ?_ ?_ (pops_end ?_)
      (repeat refine ka ?_); refine kret ?_; repeat (first | with_reducible refine beh_r ?_ | with_reducible refine blk_r ?_)
      refine ends_ret ?_ retPV_one
      rfl
  obtain ⟨rfl, rfl⟩ := he
  obtain ⟨V, T, hVT⟩ := hah rfl rfl
  simp only [Prod.mk.injEq] at hVT
  obtain ⟨rfl, rfl⟩ := hVT
  have hwl : (W ++ V).length = W.length + V.length := List.length_append
  have hRl : (R ++ T).length = R.length + T.length := List.length_append
  have hr1 := relRows_length R
  have hr2 := relRows_length (R ++ T)
  rw [hRl] at hr2
  have c3 := words12_d W ((W ++ V).take W.length) (by omega) (by rw [List.length_take]; omega)
  rw [List.take_left' rfl, decide_eq_true rfl] at c3
  have htk : (W ++ V).take W.length = W := List.take_left' rfl
  refine pcall_mk Try.func9 rfl [.tmp 4] Try.results9 94 rfl (tk_start ?_)
  (repeat refine ka ?_); refine kr ?_ ?_ (pops_end ?_)
  (repeat refine ka ?_); refine kr ?_ ?_ ?_
  refine ps_pcall awake12 ?_
  refine pops_go ?_ ?_ (pops_end ?_)
  (repeat refine ka ?_); refine kr ?_ ?_ ?_
  refine ps_pcall cO ?_
  refine ps_pcall cL ?_
  refine pops_go ?_ ?_ (pops_end ?_)
  (repeat refine ka ?_); refine kr ?_ ?_ ?_
  refine ps_pcall cP ?_
  refine ps_pcall cM ?_
  refine pops_go ?_ ?_ (pops_end ?_)
  (repeat refine ka ?_); refine kr ?_ ?_ (pops_end ?_)
  (repeat refine ka ?_); refine kcf ?_
  (repeat refine ka ?_); refine ksk ?_
  (repeat refine ka ?_); refine kr ?_ ?_ ?_
  refine ps_pcall c1 ?_
  refine pops_go ?_ ?_ ?_
  refine ps_alloc fun g0 => ?_
  refine ps_store ?_
  refine pops_go ?_ ?_ (pops_end ?_)
  (repeat refine ka ?_); refine kr ?_ ?_ ?_
  refine ps_lit fun g1 => ?_
  refine pops_go ?_ ?_ ?_
  refine ps_app_vw (rows' := itRows L) (m := L.length) (fun g2 => ?_) (hsrc := rfl) (hrows := List.nil_append _)
  refine pops_go ?_ ?_ ?_
  refine ps_app_vw (rows' := itRows (L ++ M)) (m := L.length + M.length) (fun g3 => ?_) (hsrc := rfl) (hrows := hrr)
  refine ps_freeze 1 ?_
  refine ps_rcall [1] c2 (.cons (lend_rows' (List.mem_singleton.2 rfl) rfl rfl hrl (itRows_pure _)) .nil) ?_ (.inr (by intro τ hτ blk hb; simp only [List.mem_singleton] at hτ; subst hτ; cases hb; rfl))
  refine pops_go ?_ ?_ ?_
  refine ps_alloc fun g4 => ?_
  refine ps_store ?_
  refine pops_go ?_ ?_ (pops_end ?_)
  (repeat refine ka ?_); refine kr ?_ ?_ (pops_end ?_)
  (repeat refine ka ?_); refine kcf ?_
  (repeat refine ka ?_); refine ksk ?_
  (repeat refine ka ?_); refine kr ?_ ?_ (pops_end ?_)
  (repeat refine ka ?_); refine kcf ?_
  (repeat refine ka ?_); refine ksk ?_
  (repeat refine ka ?_); refine kd ?_ ?_ ?_
  simp only [Int.toNat_natCast, htk]
  refine pd_pcall c3 ?_
  refine pstl_go ?_ ?_ (pstl_end ?_)
  (repeat refine ka ?_); refine kr ?_ ?_ (pops_end ?_)
  (repeat refine ka ?_); refine kb ?_
  refine kw (fun i : Nat => [(5, .v (.bool true)), (8, .ptr 0 g0 0 0), (10, .ptr 2 g4 0 0), (12, .v (.bool true)), (13, .v (.int .i64 i))]) (fun _ => [⟨g0, true, 2, [[.ro 1 false (ints .u32 W), .ro 2 false (relRows R)]]⟩, ⟨g3, false, 8, itRows (L ++ M)⟩, ⟨g4, true, 2, [[.ro 1 false (ints .u32 (W ++ V)), .ro 2 false (relRows (R ++ T))]]⟩]) (fun i => i ≤ R.length) (fun i => R.length - i) 0 (by simp) (holds 3 (by repeat (first | exact .nil | refine has1 ?_))) ?_
  intro i hi
  by_cases g : (i : Int) < R.length
  · obtain ⟨r, hr⟩ : ∃ r, R[i]? = some r := ⟨R[i]'(by omega), by simp [show i < R.length by omega]⟩
    have hrow := relRows_get hr
    have hrow2 := relRows_get (show (R ++ T)[i]? = some r by rw [List.getElem?_append_left (by omega)]; exact hr)
    (repeat refine ka ?_); refine kr ?_ ?_ (pops_end ?_)
    (repeat refine ka ?_); refine kct ?_
    (repeat refine ka ?_); refine ksk ?_
    (repeat refine ka ?_); refine kb ?_
    (repeat refine ka ?_); refine kd ?_ ?_ (pstl_end ?_)
    (repeat refine ka ?_); refine kcf ?_
    (repeat refine ka ?_); refine ksk ?_
    refine kn ?_; repeat (first | with_reducible refine blk_n ?_ | with_reducible refine beh_n ?_)
    (repeat refine ka ?_); refine kr ?_ ?_ (pops_end ?_)
    refine kn ?_; repeat (first | with_reducible refine blk_n ?_ | with_reducible refine beh_n ?_)
    exact ⟨i + 1, by omega, by omega, (holds 3 (by repeat (first | exact .nil | refine has1 ?_)))⟩
  · (repeat refine ka ?_); refine kr ?_ ?_ (pops_end ?_)
    (repeat refine ka ?_); refine kcf ?_
    (repeat refine ka ?_); refine kx ?_; (repeat (first | with_reducible refine beh_x ?_ | with_reducible refine blk_up rfl ?_)); refine blk_here ?_; refine beh_n ?_
    (repeat refine ka ?_); refine kr ?_ ?_ (pops_end ?_)
    (repeat refine ka ?_); refine kret ?_; repeat (first | with_reducible refine beh_r ?_ | with_reducible refine blk_r ?_)
    refine ends_ret ?_ retPV_one
    rfl
end Go.Proofs.Ytjbbomchmacdjaa.Pv
