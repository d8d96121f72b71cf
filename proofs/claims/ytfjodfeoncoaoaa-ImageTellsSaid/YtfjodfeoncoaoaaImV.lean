-- carapaceref17.Read.
import Derived.Test.YtfjodfeoncoaoaaImR
import Derived.Test.YtfjodfeoncoaoaaImS
namespace Go.Proofs.Ytfjodfeoncoaoaa.Pv
set_option linter.all false
open Go.RowKit Go.Proofs
set_option maxRecDepth 100000
set_option maxHeartbeats 4000000
theorem intsP {k : IntKind} (l : List Int) : ∀ row ∈ ints k l, ∀ x ∈ row, PV.Pure x := by
  intro row hr x hx
  obtain ⟨b, _, rfl⟩ := List.mem_map.1 hr
  rw [List.mem_singleton] at hx
  subst hx
  exact .v _
/-- What an operation makes is no longer written, from there on. -/
theorem pop_frz {P : Program} {o : Oper} {σ : PS} {K : PV → List Blk → Prop} {τ len sz : Nat} {rows : List (List PV)} {S' : Nat → List Blk} (hp : PopSem P σ o fun x T => ∃ g, x = .vw τ g 0 len ∧ T = S' g ∧ (S' g)[τ]? = some ⟨g, true, sz, rows⟩) (hl : rows.length = len) (hpure : ∀ row ∈ rows, ∀ x ∈ row, PV.Pure x)
    (hK : ∀ g, K (.ro sz false rows) ((S' g).set τ ⟨g, false, sz, rows⟩)) : PopSem P σ o K := by
  intro c a r next Q hn
  refine hp c a r next Q fun x' c' v k hi hs hv => ?_
  obtain ⟨g, rfl, k2, k3⟩ := k
  have hb : c'.S[τ]? = some ⟨g, true, sz, rows⟩ := by rw [k2]; exact k3
  have hlt := (List.getElem?_eq_some_iff.1 hb).1
  obtain ⟨h1, h2⟩ := freezeBlk hi hb
  have hb2 : (c'.S.set τ ⟨g, false, sz, rows⟩)[τ]? = some ⟨g, false, sz, rows⟩ := List.getElem?_set_self hlt
  refine hn (.ro sz false rows) { c' with S := c'.S.set τ ⟨g, false, sz, rows⟩ } v (by show K _ (c'.S.set τ _); rw [k2]; exact hK g) h1 (hs.trans h2) ?_
  refine Lend.frel h1 (T := [τ]) (.vw (by simp) hb2 rfl (by rw [List.drop_zero, ← hl, List.take_length]) hpure) ?_ (hv.step h2)
  intro t ht b hb'
  simp only [List.mem_singleton] at ht
  subst ht
  have := hb2.symm.trans hb'
  cases this
  rfl
theorem ps_frz {P : Program} {ops rest : List Oper} {Q : PS → Prop} {o : Oper} {n d : Nat} {tm : List (Nat × PV)} {S : List Blk} {τ len sz : Nat} {rows : List (List PV)} {S' : Nat → List Blk} (hg : o.guard = none) (hd : o.dst = some d)
    (h : Pops P ops (fun σ' => ∃ g, look d σ'.tm = .vw τ g 0 len ∧ σ'.S = S' g ∧ (S' g)[τ]? = some ⟨g, true, sz, rows⟩) [o] ⟨n, tm, S⟩) (hl : rows.length = len) (hpure : ∀ row ∈ rows, ∀ x ∈ row, PV.Pure x)
    (k : ∀ g, Pops P ops Q rest ⟨n, (d, .ro sz false rows) :: tm, (S' g).set τ ⟨g, false, sz, rows⟩⟩) : Pops P ops Q (o :: rest) ⟨n, tm, S⟩ := by
  refine pops_one hg (pop_frz (S' := S') (τ := τ) (sz := sz) ?_ hl hpure fun g => ?_)
  · unfold Pops at h
    rw [hg] at h
    refine popSem_mono h fun x T hx => ?_
    unfold Pops at hx
    rw [hd] at hx
    simpa [PS.put, look] using hx
  · rw [hd]
    exact k g
theorem rread_ok (b : List Int) (hb : Oct b) (hl0 : b.length ≤ 1000000000000000) : PCall Try.prog 12 [.ro 1 false (ints .u8 b)] (readP b) := by
  have htr := trailer_ok b hb hl0
  by_cases c1 : 1048576 < (b.length : Int)
  · have hp : readP b = .tup [.agg Img.zero.cells, .agg Wh.zero.cells, .v (.int .i64 4)] := by
      unfold readP readF findF
      rw [if_pos c1, if_pos (by decide)]
    rw [hp]
    clear hp
    refine pcall_mkg Try.func12 rfl [.cell 2 32, .cell 3 42, .tmp 4] Try.results12 212 rfl (tk_start ?_)
    (repeat refine ka ?_); refine kr ?_ ?_ ?_
    refine ps_alloc fun g2 => ?_
    refine pops_go ?_ ?_ ?_
    refine ps_alloc fun g3 => ?_
    refine pops_go ?_ ?_ (pops_end ?_)
    (repeat refine ka ?_); refine kr ?_ ?_ (pops_end ?_)
    (repeat refine ka ?_); refine kct ?_
    (repeat refine ka ?_); refine kr ?_ ?_ ?_
    refine ps_st_row ?_
    refine ps_st_row ?_
    refine pops_go ?_ ?_ (pops_end ?_)
    (repeat refine ka ?_); refine kret ?_; repeat (first | with_reducible refine beh_r ?_ | with_reducible refine blk_r ?_)
    refine ends_ret ?_ (retPV_3 res_row res_row res_tmp)
    exact gives_zerof _ _
  have hl : b.length ≤ 1000000000 := by omega
  have hla := lastAt_range b
  have hff : findF b = if lastAt b - 8 < 0 ∨ 65536 < (b.length : Int) - (lastAt b - 8) - 12 then ((0, 0), (lastAt b - 8, 5)) else
      if num4 b (lastAt b - 8).toNat < 44 ∨ lastAt b - 8 < num4 b (lastAt b - 8).toNat then ((0, 0), (lastAt b - 8, 5)) else
      if crc ((b.drop ((lastAt b - 8) - num4 b (lastAt b - 8).toNat).toNat).take (num4 b (lastAt b - 8).toNat).toNat) = num4 b ((lastAt b - 8) + 4).toNat then (((lastAt b - 8) - num4 b (lastAt b - 8).toNat, lastAt b - 8), (0, 0))
      else ((0, 0), ((lastAt b - 8) - num4 b (lastAt b - 8).toNat, 6)) := by unfold findF; rw [if_neg c1]
  have hpe : ∀ a e, findF b = ((0, 0), (a, e)) → e ≠ 0 → readP b = .tup [.agg Img.zero.cells, .agg Wh.zero.cells, .v (.int .i64 e)] := by
    intro a e h he
    unfold readP readF
    rw [h, if_pos he]
  refine pcall_mkg Try.func12 rfl [.cell 2 32, .cell 3 42, .tmp 4] Try.results12 212 rfl (tk_start ?_)
  (repeat refine ka ?_); refine kr ?_ ?_ ?_
  refine ps_alloc fun g2 => ?_
  refine pops_go ?_ ?_ ?_
  refine ps_alloc fun g3 => ?_
  refine pops_go ?_ ?_ (pops_end ?_)
  (repeat refine ka ?_); refine kr ?_ ?_ (pops_end ?_)
  (repeat refine ka ?_); refine kcf ?_
  (repeat refine ka ?_); refine ksk ?_
  (repeat refine ka ?_); refine kr ?_ ?_ ?_
  refine ps_pcall htr ?_
  refine pops_go ?_ ?_ (pops_end ?_)
  unfold trailF
  clear htr
  generalize lastAt b = la at *
  obtain ⟨t, ht⟩ : ∃ t, t = la - 8 := ⟨_, rfl⟩
  rw [← ht] at hff ⊢
  by_cases c2 : t < 0 ∨ 65536 < (b.length : Int) - t - 12
  · rw [if_pos c2] at hff ⊢
    rw [hpe _ _ hff (by decide)]
    clear hpe hff
    (repeat refine ka ?_); refine kr ?_ ?_ (pops_end ?_)
    (repeat refine ka ?_); refine kct ?_
    (repeat refine ka ?_); refine kr ?_ ?_ ?_
    refine ps_st_row ?_
    refine ps_st_row ?_
    refine pops_go ?_ ?_ (pops_end ?_)
    (repeat refine ka ?_); refine kret ?_; repeat (first | with_reducible refine beh_r ?_ | with_reducible refine blk_r ?_)
    refine ends_ret ?_ (retPV_3 res_row res_row res_tmp)
    exact gives_zerof _ _
  rw [if_neg c2] at hff ⊢
  have hn := rat_ok b hb hl t (by omega) (by omega)
  have hn2 := rat_ok b hb hl (t + 4) (by omega) (by omega)
  have hr1 := num4_range hb t.toNat
  have hr2 := num4_range hb (t + 4).toNat
  (repeat refine ka ?_); refine kr ?_ ?_ (pops_end ?_)
  (repeat refine ka ?_); refine kcf ?_
  (repeat refine ka ?_); refine ksk ?_
  (repeat refine ka ?_); refine kr ?_ ?_ ?_
  refine ps_pcall hn ?_
  refine pops_go ?_ ?_ (pops_end ?_)
  clear hn
  obtain ⟨n, hne⟩ : ∃ n, n = num4 b t.toNat := ⟨_, rfl⟩
  rw [← hne] at hff hr1 ⊢
  by_cases c4 : n < 44
  · rw [if_pos (.inl c4)] at hff
    rw [hpe _ _ hff (by decide)]
    clear hpe hff
    (repeat refine ka ?_); refine kr ?_ ?_ (pops_end ?_)
    (repeat refine ka ?_); refine kct ?_
    (repeat refine ka ?_); refine kr ?_ ?_ ?_
    refine ps_st_row ?_
    refine ps_st_row ?_
    refine pops_go ?_ ?_ (pops_end ?_)
    (repeat refine ka ?_); refine kret ?_; repeat (first | with_reducible refine beh_r ?_ | with_reducible refine blk_r ?_)
    refine ends_ret ?_ (retPV_3 res_row res_row res_tmp)
    exact gives_zerof _ _
  by_cases c5 : t < n
  · rw [if_pos (.inr c5)] at hff
    rw [hpe _ _ hff (by decide)]
    clear hpe hff
    (repeat refine ka ?_); refine kr ?_ ?_ (pops_end ?_)
    (repeat refine ka ?_); refine kct ?_
    (repeat refine ka ?_); refine kr ?_ ?_ ?_
    refine ps_st_row ?_
    refine ps_st_row ?_
    refine pops_go ?_ ?_ (pops_end ?_)
    (repeat refine ka ?_); refine kret ?_; repeat (first | with_reducible refine beh_r ?_ | with_reducible refine blk_r ?_)
    refine ends_ret ?_ (retPV_3 res_row res_row res_tmp)
    exact gives_zerof _ _
  rw [if_neg (by omega)] at hff
  have hcs := rsum_ok ((b.drop (t - n).toNat).take (t.toNat - (t - n).toNat)) (fun x hx => hb x (List.mem_of_mem_drop (List.mem_of_mem_take hx))) (by rw [List.length_take, List.length_drop]; omega)
  rw [show n.toNat = t.toNat - (t - n).toNat by omega] at hff
  have hcr := crc_range ((b.drop (t - n).toNat).take (t.toNat - (t - n).toNat))
  (repeat refine ka ?_); refine kr ?_ ?_ (pops_end ?_)
  (repeat refine ka ?_); refine kcf ?_
  (repeat refine ka ?_); refine ksk ?_
  (repeat refine ka ?_); refine kr ?_ ?_ (pops_end ?_)
  by_cases c6 : crc ((b.drop (t - n).toNat).take (t.toNat - (t - n).toNat)) = num4 b (t + 4).toNat
  rotate_left
  · rw [if_neg c6] at hff
    rw [hpe _ _ hff (by decide)]
    clear hpe hff
    (repeat refine ka ?_); refine kr ?_ ?_ ?_
    refine ps_pcall hcs ?_
    refine pops_go ?_ ?_ ?_
    refine ps_pcall hn2 ?_
    refine pops_go ?_ ?_ (pops_end ?_)
    (repeat refine ka ?_); refine kct ?_
    (repeat refine ka ?_); refine kr ?_ ?_ ?_
    refine ps_st_row ?_
    refine ps_st_row ?_
    refine pops_go ?_ ?_ (pops_end ?_)
    (repeat refine ka ?_); refine kret ?_; repeat (first | with_reducible refine beh_r ?_ | with_reducible refine blk_r ?_)
    refine ends_ret ?_ (retPV_3 res_row res_row res_tmp)
    exact gives_zerof _ _
  rw [if_pos c6] at hff
  (repeat refine ka ?_); refine kr ?_ ?_ ?_
  refine ps_pcall hcs ?_
  refine pops_go ?_ ?_ ?_
  refine ps_pcall hn2 ?_
  refine pops_go ?_ ?_ (pops_end ?_)
  (repeat refine ka ?_); refine kcf ?_
  (repeat refine ka ?_); refine ksk ?_
  have hp : readP b = .tup [.agg (parseF b (t - n) t).1.cells, .agg (parseF b (t - n) t).2.1.cells, .v (.int .i64 (parseF b (t - n) t).2.2)] := by
    unfold readP readF
    rw [hff]
    simp only [ne_eq, not_true_eq_false, if_false]
  rw [hp]
  clear hp hpe hff hcs hcr hn2 c6 hr2
  obtain ⟨f, hf⟩ : ∃ f, f = t - n := ⟨_, rfl⟩
  rw [← hf]
  have hf0 : 0 ≤ f := by omega
  have hf1 : f + 44 ≤ t := by omega
  have hf2 : t + 12 ≤ b.length := by omega
  have hnn : n = t - f := by omega
  clear hne c4 c5 hr1
  have o4 := getD_oct hb (f + 4).toNat
  have o5 := getD_oct hb (f + 5).toNat
  have o6 := getD_oct hb (f + 6).toNat
  have o7 := getD_oct hb (f + 7).toNat
  obtain ⟨N8, e8⟩ : ∃ N, N = num4 b (f.toNat + 8) := ⟨_, rfl⟩
  have r8 := num4_range hb (f.toNat + 8)
  rw [← e8] at r8
  have a8 : PCall Try.prog 38 [.ro 1 false (ints .u8 b), .v (.int .i64 (f + 8))] (.v (.int .u32 N8)) := by
    rw [e8, show f.toNat + 8 = (f + 8).toNat by omega]
    exact rat_ok b hb hl (f + 8) (by omega) (by omega)
  obtain ⟨N12, e12⟩ : ∃ N, N = num4 b (f.toNat + 12) := ⟨_, rfl⟩
  have r12 := num4_range hb (f.toNat + 12)
  rw [← e12] at r12
  have a12 : PCall Try.prog 38 [.ro 1 false (ints .u8 b), .v (.int .i64 (f + 12))] (.v (.int .u32 N12)) := by
    rw [e12, show f.toNat + 12 = (f + 12).toNat by omega]
    exact rat_ok b hb hl (f + 12) (by omega) (by omega)
  obtain ⟨N16, e16⟩ : ∃ N, N = num4 b (f.toNat + 16) := ⟨_, rfl⟩
  have r16 := num4_range hb (f.toNat + 16)
  rw [← e16] at r16
  have a16 : PCall Try.prog 38 [.ro 1 false (ints .u8 b), .v (.int .i64 (f + 16))] (.v (.int .u32 N16)) := by
    rw [e16, show f.toNat + 16 = (f + 16).toNat by omega]
    exact rat_ok b hb hl (f + 16) (by omega) (by omega)
  obtain ⟨N20, e20⟩ : ∃ N, N = num4 b (f.toNat + 20) := ⟨_, rfl⟩
  have r20 := num4_range hb (f.toNat + 20)
  rw [← e20] at r20
  have a20 : PCall Try.prog 38 [.ro 1 false (ints .u8 b), .v (.int .i64 (f + 20))] (.v (.int .u32 N20)) := by
    rw [e20, show f.toNat + 20 = (f + 20).toNat by omega]
    exact rat_ok b hb hl (f + 20) (by omega) (by omega)
  obtain ⟨N24, e24⟩ : ∃ N, N = num4 b (f.toNat + 24) := ⟨_, rfl⟩
  have r24 := num4_range hb (f.toNat + 24)
  rw [← e24] at r24
  have a24 : PCall Try.prog 38 [.ro 1 false (ints .u8 b), .v (.int .i64 (f + 24))] (.v (.int .u32 N24)) := by
    rw [e24, show f.toNat + 24 = (f + 24).toNat by omega]
    exact rat_ok b hb hl (f + 24) (by omega) (by omega)
  obtain ⟨N28, e28⟩ : ∃ N, N = num4 b (f.toNat + 28) := ⟨_, rfl⟩
  have r28 := num4_range hb (f.toNat + 28)
  rw [← e28] at r28
  have a28 : PCall Try.prog 38 [.ro 1 false (ints .u8 b), .v (.int .i64 (f + 28))] (.v (.int .u32 N28)) := by
    rw [e28, show f.toNat + 28 = (f + 28).toNat by omega]
    exact rat_ok b hb hl (f + 28) (by omega) (by omega)
  obtain ⟨N32, e32⟩ : ∃ N, N = num4 b (f.toNat + 32) := ⟨_, rfl⟩
  have r32 := num4_range hb (f.toNat + 32)
  rw [← e32] at r32
  have a32 : PCall Try.prog 38 [.ro 1 false (ints .u8 b), .v (.int .i64 (f + 32))] (.v (.int .u32 N32)) := by
    rw [e32, show f.toNat + 32 = (f + 32).toNat by omega]
    exact rat_ok b hb hl (f + 32) (by omega) (by omega)
  obtain ⟨N36, e36⟩ : ∃ N, N = num4 b (f.toNat + 36) := ⟨_, rfl⟩
  have r36 := num4_range hb (f.toNat + 36)
  rw [← e36] at r36
  have a36 : PCall Try.prog 38 [.ro 1 false (ints .u8 b), .v (.int .i64 (f + 36))] (.v (.int .u32 N36)) := by
    rw [e36, show f.toNat + 36 = (f + 36).toNat by omega]
    exact rat_ok b hb hl (f + 36) (by omega) (by omega)
  obtain ⟨N40, e40⟩ : ∃ N, N = num4 b (f.toNat + 40) := ⟨_, rfl⟩
  have r40 := num4_range hb (f.toNat + 40)
  rw [← e40] at r40
  have a40 : PCall Try.prog 38 [.ro 1 false (ints .u8 b), .v (.int .i64 (f + 40))] (.v (.int .u32 N40)) := by
    rw [e40, show f.toNat + 40 = (f + 40).toNat by omega]
    exact rat_ok b hb hl (f + 40) (by omega) (by omega)
  (repeat refine ka ?_); refine kr ?_ ?_ (pops_end ?_)
  obtain ⟨O4, q4⟩ : ∃ O, O = b.getD (f + 4).toNat 0 := ⟨_, rfl⟩
  obtain ⟨O5, q5⟩ : ∃ O, O = b.getD (f + 5).toNat 0 := ⟨_, rfl⟩
  rw [← q4] at o4 ⊢
  (repeat refine ka ?_)
  apply kds_once [0, 1, 2, 3, 4, 5, 6, 7, 8, 9, 10, 11, 12, 13, 14, 15, 16, 17, 18, 19, 20, 21, 22, 23, 24, 25, 26, 27, 28, 29, 30, 31, 32, 33, 34, 35, 36, 37, 38, 39, 40, 41, 42, 43, 44, 45, 46, 47, 48, 49, 50] [51, 52]
  · intro X
    simp only [List.cons_append, List.nil_append]
    refine pstl_go ?_ ?_ ?_; refine pd_pcall a8 ?_; refine pstl_go ?_ ?_ ?_; refine pd_pcall a16 ?_; refine pstl_go ?_ ?_ ?_; refine pd_pcall a20 ?_; refine pstl_go ?_ ?_ ?_; refine pd_pcall a24 ?_; refine pstl_go ?_ ?_ ?_; refine pd_pcall a28 ?_; refine pstl_go ?_ ?_ ?_; refine pd_pcall a32 ?_; refine pstl_go ?_ ?_ (pstl_end ?_)
    rfl
  intro hev
  refine hs_w [] [0, 1, 2, 3, 4, 5, 6, 7, 8, 9, 10, 11, 12, 13, 14, 15, 16, 17, 18, 19, 20, 21, 22, 23, 24, 25, 26, 27, 28, 29, 30, 31, 32, 33, 34, 35, 36, 37, 38, 39, 40, 41, 42, 43, 44, 45, 46, 47, 48, 49, 50] ?_ (by refine hev_use hev [] ?_; rfl); refine pstl_nil ?_; refine ⟨rfl, ?_⟩
  refine ps_alloc fun g9 => ?_
  refine pops_nil ?_
  clear hev
  refine hs_wA ?_; refine pstl_go ?_ ?_ ?_; refine pd_pcall a8 ?_; refine pstl_go ?_ ?_ ?_; refine pd_pcall a16 ?_; refine pstl_go ?_ ?_ ?_; refine pd_pcall a20 ?_; refine pstl_go ?_ ?_ ?_; refine pd_pcall a24 ?_; refine pstl_go ?_ ?_ ?_; refine pd_pcall a28 ?_; refine pstl_go ?_ ?_ ?_; refine pd_pcall a32 ?_; refine pstl_go ?_ ?_ (pstl_end ?_); refine ⟨rfl, ?_⟩
  refine ps_st_row ?_
  refine pops_nil ?_
  refine hs_end ?_; refine pstl_nil ?_; refine ⟨rfl, ?_⟩
  rw [← q5]
  clear a8 a16 a20 a24 a28 a32
  (repeat refine ka ?_); refine kr ?_ ?_ ?_
  refine ps_pcall a12 ?_
  refine pops_go ?_ ?_ (pops_end ?_)
  (repeat refine ka ?_); refine kr ?_ ?_ ?_
  refine ps_pcall a36 ?_
  refine pops_go ?_ ?_ (pops_end ?_)
  (repeat refine ka ?_); refine kr ?_ ?_ ?_
  refine ps_pcall a40 ?_
  refine pops_go ?_ ?_ (pops_end ?_)
  clear a12 a36 a40
  have hWo : Oct ((b.drop f.toNat).take ((f + 4).toNat - f.toNat)) := fun x hx => hb x (List.mem_of_mem_drop (List.mem_of_mem_take hx))
  have hfm : formed b f t = true ↔ ((b.drop f.toNat).take ((f + 4).toNat - f.toNat) = [83, 70, 88, 49] ∧ O4 ≤ 15 ∧ b.getD (f + 6).toNat 0 = 0 ∧ b.getD (f + 7).toNat 0 = 0 ∧ 44 + N36 + N12 + N40 = n) := by
    have e4 : (b.drop f.toNat).take ((f + 4).toNat - f.toNat) = [b.getD f.toNat 0, b.getD (f.toNat + 1) 0, b.getD (f.toNat + 2) 0, b.getD (f.toNat + 3) 0] := by
      rw [show (f + 4).toNat - f.toNat = 4 by omega, take4 (by rw [List.length_drop]; omega)]
      simp only [List.getD_eq_getElem?_getD, List.getElem?_drop, Nat.add_zero]
    rw [e4, q4, show (f + 6).toNat = f.toNat + 6 by omega, show (f + 7).toNat = f.toNat + 7 by omega, show (f + 4).toNat = f.toNat + 4 by omega]
    unfold formed
    rw [decide_eq_true_eq, ← e36, ← e12, ← e40, ← hnn]
    simp only [List.cons.injEq, and_true]
    constructor
    · rintro ⟨q1, q2, q3, q4, q5, q6, q7, q8⟩
      exact ⟨⟨q1, q2, q3, q4⟩, by omega, q6, q7, q8⟩
    · rintro ⟨⟨q1, q2, q3, q4⟩, q5, q6, q7, q8⟩
      exact ⟨q1, q2, q3, q4, by omega, q6, q7, q8⟩
  have hpe : ¬ (formed b f t = true ∧ (imgAt b f t).right = true) → parseF b f t = (Img.zero, Wh.zero, 2) := fun h => by
    unfold parseF
    rw [if_neg (by simpa using h)]
  by_cases d1 : (b.drop f.toNat).take ((f + 4).toNat - f.toNat) = [83, 70, 88, 49]
  rotate_left
  · rw [hpe (fun h => d1 (hfm.1 h.1).1)]
    clear hpe hfm
    (repeat refine ka ?_); refine kr ?_ ?_ ?_
    refine ps_cst ?_
    refine pops_go ?_ ?_ (pops_end ?_)
    (repeat refine ka ?_); refine kct ?_
    (repeat refine ka ?_); refine kr ?_ ?_ ?_
    refine ps_st_row ?_
    refine ps_st_row ?_
    refine pops_go ?_ ?_ (pops_end ?_)
    (repeat refine ka ?_); refine kret ?_; repeat (first | with_reducible refine beh_r ?_ | with_reducible refine blk_r ?_)
    refine ends_ret ?_ (retPV_3 res_row res_row res_tmp)
    exact gives_zerof _ _
  by_cases d2 : O4 ≤ 15
  rotate_left
  · rw [hpe (fun h => d2 (hfm.1 h.1).2.1)]
    clear hpe hfm
    (repeat refine ka ?_); refine kr ?_ ?_ ?_
    refine ps_cst ?_
    refine pops_go ?_ ?_ (pops_end ?_)
    (repeat refine ka ?_); refine kct ?_
    (repeat refine ka ?_); refine kr ?_ ?_ ?_
    refine ps_st_row ?_
    refine ps_st_row ?_
    refine pops_go ?_ ?_ (pops_end ?_)
    (repeat refine ka ?_); refine kret ?_; repeat (first | with_reducible refine beh_r ?_ | with_reducible refine blk_r ?_)
    refine ends_ret ?_ (retPV_3 res_row res_row res_tmp)
    exact gives_zerof _ _
  by_cases d3 : b.getD (f + 6).toNat 0 = 0
  rotate_left
  · rw [hpe (fun h => d3 (hfm.1 h.1).2.2.1)]
    clear hpe hfm
    (repeat refine ka ?_); refine kr ?_ ?_ ?_
    refine ps_cst ?_
    refine pops_go ?_ ?_ (pops_end ?_)
    (repeat refine ka ?_); refine kct ?_
    (repeat refine ka ?_); refine kr ?_ ?_ ?_
    refine ps_st_row ?_
    refine ps_st_row ?_
    refine pops_go ?_ ?_ (pops_end ?_)
    (repeat refine ka ?_); refine kret ?_; repeat (first | with_reducible refine beh_r ?_ | with_reducible refine blk_r ?_)
    refine ends_ret ?_ (retPV_3 res_row res_row res_tmp)
    exact gives_zerof _ _
  by_cases d4 : b.getD (f + 7).toNat 0 = 0
  rotate_left
  · rw [hpe (fun h => d4 (hfm.1 h.1).2.2.2.1)]
    clear hpe hfm
    (repeat refine ka ?_); refine kr ?_ ?_ ?_
    refine ps_cst ?_
    refine pops_go ?_ ?_ (pops_end ?_)
    (repeat refine ka ?_); refine kct ?_
    (repeat refine ka ?_); refine kr ?_ ?_ ?_
    refine ps_st_row ?_
    refine ps_st_row ?_
    refine pops_go ?_ ?_ (pops_end ?_)
    (repeat refine ka ?_); refine kret ?_; repeat (first | with_reducible refine beh_r ?_ | with_reducible refine blk_r ?_)
    refine ends_ret ?_ (retPV_3 res_row res_row res_tmp)
    exact gives_zerof _ _
  by_cases d5 : 44 + N36 + N12 + N40 = n
  rotate_left
  · rw [hpe (fun h => d5 (hfm.1 h.1).2.2.2.2)]
    clear hpe hfm
    (repeat refine ka ?_); refine kr ?_ ?_ ?_
    refine ps_cst ?_
    refine pops_go ?_ ?_ (pops_end ?_)
    (repeat refine ka ?_); refine kct ?_
    (repeat refine ka ?_); refine kr ?_ ?_ ?_
    refine ps_st_row ?_
    refine ps_st_row ?_
    refine pops_go ?_ ?_ (pops_end ?_)
    (repeat refine ka ?_); refine kret ?_; repeat (first | with_reducible refine beh_r ?_ | with_reducible refine blk_r ?_)
    refine ends_ret ?_ (retPV_3 res_row res_row res_tmp)
    exact gives_zerof _ _
  (repeat refine ka ?_); refine kr ?_ ?_ ?_
  refine ps_cst ?_
  refine pops_go ?_ ?_ (pops_end ?_)
  (repeat refine ka ?_); refine kcf ?_
  (repeat refine ka ?_); refine ksk ?_
  have hform := hfm.2 ⟨d1, d2, d3, d4, d5⟩
  clear hfm d1 d3 d4 hWo
  obtain ⟨A1, hA1⟩ : ∃ A1, A1 = f + 44 := ⟨_, rfl⟩
  obtain ⟨A2, hA2⟩ : ∃ A2, A2 = A1 + N36 := ⟨_, rfl⟩
  obtain ⟨A3, hA3⟩ : ∃ A3, A3 = A2 + N12 := ⟨_, rfl⟩
  obtain ⟨S1, S1E⟩ : ∃ S1, S1 = (b.drop A1.toNat).take (A2.toNat - A1.toNat) := ⟨_, rfl⟩
  obtain ⟨S2, S2E⟩ : ∃ S2, S2 = (b.drop A2.toNat).take (A3.toNat - A2.toNat) := ⟨_, rfl⟩
  obtain ⟨S3, S3E⟩ : ∃ S3, S3 = (b.drop A3.toNat).take (t.toNat - A3.toNat) := ⟨_, rfl⟩
  have l1 : S1.length ≤ 1000000000 := by rw [S1E, List.length_take, List.length_drop]; omega
  have l2 : S2.length ≤ 1000000000 := by rw [S2E, List.length_take, List.length_drop]; omega
  have l3 : S3.length ≤ 1000000000 := by rw [S3E, List.length_take, List.length_drop]; omega
  have hx : imgAt b f t = ⟨⟨decide (O4 % 2 = 1), O5, decide (O4 / 2 % 2 = 1), decide (O4 / 4 % 2 = 1), decide (O4 / 8 % 2 = 1)⟩, N8, N16, N20, N24, N28, N32, S1, S2, S3⟩ := by
    have hb1 : bit O4 1 = decide (O4 % 2 = 1) := by unfold bit; rw [Int.ediv_one]
    unfold imgAt seg openF
    simp only
    rw [← e36, ← e12, ← e8, ← e16, ← e20, ← e24, ← e28, ← e32, show f.toNat + 4 = (f + 4).toNat by omega, show f.toNat + 5 = (f + 5).toNat by omega, ← q4, ← q5, hb1, S1E, S2E, S3E, ← hA1, ← hA2, ← hA3,
      show (A2 - A1).toNat = A2.toNat - A1.toNat by omega, show (A3 - A2).toNat = A3.toNat - A2.toNat by omega, show (t - A3).toNat = t.toNat - A3.toNat by omega]
    rfl
  have hw : whAt b f t = ⟨f, A1, A2, A3, t⟩ := by
    unfold whAt
    rw [← e36, ← e12, ← hA1, ← hA2, ← hA3]
  have hrt := iright17_ok (imgAt b f t) (by rw [hx]; exact l1) (by rw [hx]; exact l2)
  have hpo : (imgAt b f t).right = true → parseF b f t = (imgAt b f t, whAt b f t, 0) := fun h => by
    unfold parseF
    rw [if_pos (by simp [hform, h])]
  have hpe : (imgAt b f t).right = false → parseF b f t = (Img.zero, Wh.zero, 2) := fun h => by
    unfold parseF
    rw [if_neg (by simp [h])]
  rw [hx] at hrt hpo hpe
  rw [hw] at hpo
  generalize Img.right ⟨⟨decide (O4 % 2 = 1), O5, decide (O4 / 2 % 2 = 1), decide (O4 / 4 % 2 = 1), decide (O4 / 8 % 2 = 1)⟩, N8, N16, N20, N24, N28, N32, S1, S2, S3⟩ = R at hrt hpo hpe
  unfold Img.cells at hrt
  simp only at hrt
  have z0 : 0 ≤ A1 := by omega
  have z1 : A1 ≤ A2 := by omega
  have z2 : A2 ≤ A3 := by omega
  have z3 : A3 ≤ t := by omega
  clear hx hw hform e8 e12 e16 e20 e24 e28 e32 e36 e40
  (repeat refine ka ?_); refine kr ?_ ?_ ?_
  refine ps_alloc fun g13 => ?_
  refine pops_go ?_ ?_ ?_
  refine ps_st_row ?_
  refine pops_nil ?_
  rw [← hA1, ← hA2, ← hA3]
  clear d5 hA1 hA2 hA3
  (repeat refine ka ?_); refine kr ?_ ?_ ?_
  refine ps_lit (fun g => ?_)
  refine pops_go ?_ ?_ ?_
  apply ps_frz (τ := 4) (len := S1.length) (sz := 1) (rows := ints .u8 S1) rfl rfl
  · refine ps_app_vw (rows' := ints .u8 S1) (m := S1.length) (fun g => ?_) (hrows := by rw [S1E]; rfl) (hm := by rw [S1E, ints_length]; omega) (h63 := by simp only [maxLen]; omega) (hbt := by omega)
    refine pops_nil ?_
    exact ⟨g, rfl, rfl, rfl⟩
  · exact ints_length _ _
  · exact intsP _
  intro g
  simp only [List.set_cons_succ, List.set_cons_zero]
  refine pops_go ?_ ?_ ?_
  refine ps_store ?_
  refine pops_nil ?_
  (repeat refine ka ?_); refine kr ?_ ?_ ?_
  refine ps_lit (fun g => ?_)
  refine pops_go ?_ ?_ ?_
  apply ps_frz (τ := 5) (len := S2.length) (sz := 1) (rows := ints .u8 S2) rfl rfl
  · refine ps_app_vw (rows' := ints .u8 S2) (m := S2.length) (fun g => ?_) (hrows := by rw [S2E]; rfl) (hm := by rw [S2E, ints_length]; omega) (h63 := by simp only [maxLen]; omega) (hbt := by omega)
    refine pops_nil ?_
    exact ⟨g, rfl, rfl, rfl⟩
  · exact ints_length _ _
  · exact intsP _
  intro g
  simp only [List.set_cons_succ, List.set_cons_zero]
  refine pops_go ?_ ?_ ?_
  refine ps_store ?_
  refine pops_nil ?_
  (repeat refine ka ?_); refine kr ?_ ?_ ?_
  refine ps_lit (fun g => ?_)
  refine pops_go ?_ ?_ ?_
  apply ps_frz (τ := 6) (len := S3.length) (sz := 1) (rows := ints .u8 S3) rfl rfl
  · refine ps_app_vw (rows' := ints .u8 S3) (m := S3.length) (fun g => ?_) (hrows := by rw [S3E]; rfl) (hm := by rw [S3E, ints_length]; omega) (h63 := by simp only [maxLen]; omega) (hbt := by omega)
    refine pops_nil ?_
    exact ⟨g, rfl, rfl, rfl⟩
  · exact ints_length _ _
  · exact intsP _
  intro g
  simp only [List.set_cons_succ, List.set_cons_zero]
  refine pops_go ?_ ?_ ?_
  refine ps_store ?_
  refine pops_nil ?_
  cases R with
  | false =>
    rw [hpe rfl]
    clear hpe hpo
    (repeat refine ka ?_); refine kr ?_ ?_ ?_
    refine ps_pcall hrt ?_
    clear hrt
    refine pops_go ?_ ?_ (pops_end ?_)
    (repeat refine ka ?_); refine kct ?_
    (repeat refine ka ?_); refine kr ?_ ?_ ?_
    refine ps_st_row ?_
    refine ps_st_row ?_
    refine pops_go ?_ ?_ (pops_end ?_)
    (repeat refine ka ?_); refine kret ?_; repeat (first | with_reducible refine beh_r ?_ | with_reducible refine blk_r ?_)
    refine ends_ret ?_ (retPV_3 res_row res_row res_tmp)
    exact gives_zerof _ _
  | true =>
    rw [hpo rfl]
    clear hpe hpo
    simp only
    unfold Img.cells Wh.cells
    simp only
    (repeat refine ka ?_); refine kr ?_ ?_ ?_
    refine ps_pcall hrt ?_
    clear hrt
    refine pops_go ?_ ?_ (pops_end ?_)
    (repeat refine ka ?_); refine kcf ?_
    (repeat refine ka ?_); refine ksk ?_
    (repeat refine ka ?_); refine kds [0, 1] [2, 3, 4] ?_
    refine pstl_go ?_ ?_ (pstl_end ?_)
    refine hs_w [0] [1] ?_ (by refine pstl_go ?_ ?_ (pstl_end ?_); exact rfl); refine pstl_go ?_ ?_ (pstl_end ?_); refine ⟨rfl, ?_⟩
    refine ps_st_row ?_
    refine pops_nil ?_
    refine hs_w [1] [] ?_ (by refine pstl_go ?_ ?_ (pstl_end ?_); exact rfl); refine pstl_go ?_ ?_ (pstl_end ?_); refine ⟨rfl, ?_⟩
    refine ps_st_row ?_
    refine pops_nil ?_
    refine hs_w [] [] ?_ (by refine pstl_go ?_ ?_ (pstl_end ?_); exact rfl); refine pstl_go ?_ ?_ (pstl_end ?_); refine ⟨rfl, ?_⟩
    refine ps_ev (p := .v (.int .i64 0)) ?_ rfl
    refine pops_nil ?_
    refine hs_end ?_; refine pstl_go ?_ ?_ (pstl_end ?_); refine ⟨rfl, ?_⟩
    (repeat refine ka ?_); refine kret ?_; repeat (first | with_reducible refine beh_r ?_ | with_reducible refine blk_r ?_)
    refine ends_ret ?_ (retPV_3 res_row res_row res_tmp)
    exact .same PureC.h
end Go.Proofs.Ytfjodfeoncoaoaa.Pv
