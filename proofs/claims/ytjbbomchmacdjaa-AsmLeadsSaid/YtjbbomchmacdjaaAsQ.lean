-- carapaceref12.Build.
import Derived.Test.YtjbbomchmacdjaaAsP
namespace Go.Proofs.Ytjbbomchmacdjaa.Pv
set_option linter.all false
open Go.RowKit Go.Proofs
set_option maxRecDepth 100000
set_option maxHeartbeats 4000000
theorem build12 (L : List It) (hl : L.length ≤ 1000000) (ho : ∀ x ∈ L, Oct x.n) : PCall Try.prog 37 [.ro 8 false (itRows L)] (.tup [.agg [.ro 1 false (ints .u32 (buildF L).1.1), .ro 2 false (relRows (buildF L).1.2)], .v (.int .i64 (buildF L).2)]) := by
  have hcl := itRows_length L
  have c0 := labels12 L hl ho
  have hoct := labelsF_oct L ho
  have hat : (labelsF L).2 = 0 → ∀ p ∈ (labelsF L).1, 0 ≤ p.2 ∧ p.2 ≤ 40000 := labelsF_at
  have hlen : (labelsF L).2 = 0 → L.length ≤ 4096 := labelsF_len
  have hlb : (labelsF L).1.length ≤ 1000000 := by
    unfold labelsF
    split
    · simp
    · split
      · simp
      · have := labGo_length L [] 0
        simp only [List.length_nil] at this
        omega
  unfold buildF
  generalize labelsF L = lf at *
  obtain ⟨labs, le⟩ := lf
  dsimp only at *
  refine pcall_mkg Try.func37 rfl [.cell 2 44, .tmp 3] Try.results37 174 rfl (tk_start ?_)
  (repeat refine ka ?_); refine kr ?_ ?_ ?_
  refine ps_alloc fun g0 => ?_
  refine pops_go ?_ ?_ (pops_end ?_)
  by_cases hle : le = 0
  · rw [if_pos hle]
    subst hle
    have hat := hat rfl
    have hlen := hlen rfl
    (repeat refine ka ?_); refine kr ?_ ?_ ?_
    refine ps_pcall c0 ?_
    refine pops_go ?_ ?_ (pops_end ?_)
    (repeat refine ka ?_); refine kr ?_ ?_ (pops_end ?_)
    (repeat refine ka ?_); refine kcf ?_
    (repeat refine ka ?_); refine ksk ?_
    (repeat refine ka ?_); refine kr ?_ ?_ ?_
    refine ps_alloc fun g1 => ?_
    refine ps_store ?_
    refine pops_nil ?_
    (repeat refine ka ?_); refine kr ?_ ?_ (pops_end ?_)
    refine kvoidc 1 0 1 (i := 0) (fun gw => ?_)
    refine kvoidc 1 1 2 (i := 0) (fun gr => ?_)
    (repeat refine ka ?_); refine kb ?_
    refine kw (fun s : Nat × Nat × Nat × List Int × List (Int × Bool) => [(0, .ro 8 false (itRows L)), (2, .ptr 0 g0 0 0), (4, .ro 2 false (labRows labs)), (6, .ptr 1 g1 0 0), (7, .v (.int .i64 s.1))])
      (fun s => [⟨g0, true, 2, [[.v (.slice none 0 0), .v (.slice none 0 0)]]⟩, ⟨g1, true, 2, [[.vw 2 s.2.1 0 s.2.2.2.1.length, .vw 3 s.2.2.1 0 s.2.2.2.2.length]]⟩, ⟨s.2.1, true, 1, ints .u32 s.2.2.2.1⟩, ⟨s.2.2.1, true, 2, relRows s.2.2.2.2⟩])
      (fun s => s.1 ≤ L.length ∧ bGo labs L [] [] = bGo labs (L.drop s.1) s.2.2.2.1 s.2.2.2.2 ∧ s.2.2.2.1.length ≤ 2 * s.1 ∧ s.2.2.2.2.length ≤ s.1) (fun s => L.length - s.1) (0, gw, gr, [], []) (by simp) (holds 4 (by repeat (first | exact .nil | refine has1 ?_))) ?_
    rintro ⟨i, gw, gr, W, R⟩ ⟨hi, hf, hW, hR⟩
    dsimp only at hi hf hW hR ⊢
    have hRl := relRows_length R
    by_cases g : (i : Int) < L.length
    · obtain ⟨x, hx⟩ : ∃ x, L[i]? = some x := ⟨L[i]'(by omega), by simp [show i < L.length by omega]⟩
      have hrow := itRows_get hx
      have hxo := ho x (List.mem_of_getElem? hx)
      have hd : L.drop i = x :: L.drop (i + 1) := drop_cons hx
      rw [hd, bGo] at hf
      have hta := findF_at labs x.n hat
      have c1 := wrong12 x
      have c2 := find12 labs hlb hoct x.n hxo
      unfold It.row at c1
      have hwb : wrongB (decide x.rt) x = false → x.k = 1 → wE x.op x.a x.b x.c x.imm = 0 := by
        intro h h1
        unfold wE
        split
        · rfl
        · rename_i hr
          have : decide x.rt = false := decide_eq_false hr
          rw [this] at h
          simp [wrongB, h1] at h
      generalize wrongB (decide x.rt) x = wb at *
      generalize findF labs x.n = ff at *
      obtain ⟨to, is⟩ := ff
      obtain ⟨k, n, op, a, b, c, imm, w⟩ := x
      dsimp only at *
      have c3 : PCall Try.prog 65 [.agg [.v (.int .i64 op), .v (.int .i64 a), .v (.int .i64 b), .v (.int .i64 c), .v (.int .i64 imm)]] (.tup [.v (.int .u32 (wW op a b c imm)), .v (.int .i64 (wE op a b c imm))]) := rword_ok op a b c imm
      cases wb with
      | true =>
        rw [if_pos rfl] at hf
        rw [hf]
        (repeat refine ka ?_); refine kr ?_ ?_ (pops_end ?_)
        (repeat refine ka ?_); refine kct ?_
        (repeat refine ka ?_); refine ksk ?_
        (repeat refine ka ?_); refine kb ?_
        (repeat refine ka ?_); refine kr ?_ ?_ ?_
        refine ps_alloc fun g2 => ?_
        refine ps_store ?_
        refine pops_nil ?_
        (repeat refine ka ?_); refine kr ?_ ?_ ?_
        refine ps_pcall c1 ?_
        refine pops_go ?_ ?_ (pops_end ?_)
        (repeat refine ka ?_); refine kct ?_
        (repeat refine ka ?_); refine kr ?_ ?_ ?_
        refine ps_store ?_
        refine pops_go ?_ ?_ (pops_end ?_)
        (repeat refine ka ?_); refine kret ?_; repeat (first | with_reducible refine beh_r ?_ | with_reducible refine blk_r ?_)
        refine ends_ret ?_ (retPV_2 res_cella res_tmp)
        exact gives_two (gives_agg2 .nil .nil) (.same (.v _))
      | false =>
        have hwb := hwb rfl
        rw [if_neg (by decide)] at hf
        by_cases k1 : k = 1
        · have hl : layF ⟨k, n, op, a, b, c, imm, w⟩ to (4 * W.length) = (([wW op a b c imm], []), wE op a b c imm) := by simp [layF, k1]
          rw [if_neg (by rintro ⟨h, _⟩; omega), hl] at hf
          rw [hwb k1] at hf
          simp only [if_true, List.append_nil] at hf
          cases is
          · (repeat refine ka ?_); refine kr ?_ ?_ (pops_end ?_)
            (repeat refine ka ?_); refine kct ?_
            (repeat refine ka ?_); refine ksk ?_
            (repeat refine ka ?_); refine kb ?_
            (repeat refine ka ?_); refine kr ?_ ?_ ?_
            refine ps_alloc fun g2 => ?_
            refine ps_store ?_
            refine pops_nil ?_
            (repeat refine ka ?_); refine kr ?_ ?_ ?_
            refine ps_pcall c1 ?_
            refine pops_go ?_ ?_ (pops_end ?_)
            (repeat refine ka ?_); refine kcf ?_
            (repeat refine ka ?_); refine ksk ?_
            (repeat refine ka ?_); refine kr ?_ ?_ ?_
            refine ps_pcall c2 ?_
            refine pops_go ?_ ?_ (pops_end ?_)
            (repeat refine ka ?_); refine kr ?_ ?_ (pops_end ?_)
            (repeat refine ka ?_); refine kcf ?_
            (repeat refine ka ?_); refine ksk ?_
            (repeat refine ka ?_); refine kr ?_ ?_ (pops_end ?_)
            (repeat refine ka ?_); refine kr ?_ ?_ ?_
            refine ps_pcall c3 ?_
            refine pops_go ?_ ?_ (pops_end ?_)
            (repeat refine ka ?_); refine kr ?_ ?_ (pops_end ?_)
            (repeat refine ka ?_); refine kb ?_
            (repeat refine ka ?_); refine kr ?_ ?_ (pops_end ?_)
            (repeat refine ka ?_); refine kct ?_
            (repeat refine ka ?_); refine kr ?_ ?_ ?_
            refine ps_lit fun glgw' => ?_
            refine ps_app_vw (rows' := ints .u32 (W ++ [wW op a b c imm])) (m := W.length + 1) (fun gw' => ?_) (hrows := ints_append _ _ _)
            refine pops_go ?_ ?_ ?_
            refine ps_store ?_
            refine pops_nil ?_
            refine kn ?_; repeat (first | with_reducible refine blk_n ?_ | with_reducible refine beh_n ?_)
            refine kn ?_; repeat (first | with_reducible refine blk_n ?_ | with_reducible refine beh_n ?_)
            (repeat refine ka ?_); refine kr ?_ ?_ (pops_end ?_)
            refine kn ?_; repeat (first | with_reducible refine blk_n ?_ | with_reducible refine beh_n ?_)
            refine ⟨(i + 1, gw', gr, W ++ [wW op a b c imm], R), ⟨by simp only; omega, hf, by simp only [List.length_append, List.length_cons, List.length_nil]; omega, by simp only [List.length_append, List.length_cons, List.length_nil]; omega⟩, by simp only; omega, ?_⟩
            simp only [List.length_append, List.length_cons, List.length_nil, Nat.zero_add]
            exact (holds 4 (by repeat (first | exact .nil | refine has1 ?_)))
          · (repeat refine ka ?_); refine kr ?_ ?_ (pops_end ?_)
            (repeat refine ka ?_); refine kct ?_
            (repeat refine ka ?_); refine ksk ?_
            (repeat refine ka ?_); refine kb ?_
            (repeat refine ka ?_); refine kr ?_ ?_ ?_
            refine ps_alloc fun g2 => ?_
            refine ps_store ?_
            refine pops_nil ?_
            (repeat refine ka ?_); refine kr ?_ ?_ ?_
            refine ps_pcall c1 ?_
            refine pops_go ?_ ?_ (pops_end ?_)
            (repeat refine ka ?_); refine kcf ?_
            (repeat refine ka ?_); refine ksk ?_
            (repeat refine ka ?_); refine kr ?_ ?_ ?_
            refine ps_pcall c2 ?_
            refine pops_go ?_ ?_ (pops_end ?_)
            (repeat refine ka ?_); refine kr ?_ ?_ (pops_end ?_)
            (repeat refine ka ?_); refine kcf ?_
            (repeat refine ka ?_); refine ksk ?_
            (repeat refine ka ?_); refine kr ?_ ?_ (pops_end ?_)
            (repeat refine ka ?_); refine kr ?_ ?_ ?_
            refine ps_pcall c3 ?_
            refine pops_go ?_ ?_ (pops_end ?_)
            (repeat refine ka ?_); refine kr ?_ ?_ (pops_end ?_)
            (repeat refine ka ?_); refine kb ?_
            (repeat refine ka ?_); refine kr ?_ ?_ (pops_end ?_)
            (repeat refine ka ?_); refine kct ?_
            (repeat refine ka ?_); refine kr ?_ ?_ ?_
            refine ps_lit fun glgw' => ?_
            refine ps_app_vw (rows' := ints .u32 (W ++ [wW op a b c imm])) (m := W.length + 1) (fun gw' => ?_) (hrows := ints_append _ _ _)
            refine pops_go ?_ ?_ ?_
            refine ps_store ?_
            refine pops_nil ?_
            refine kn ?_; repeat (first | with_reducible refine blk_n ?_ | with_reducible refine beh_n ?_)
            refine kn ?_; repeat (first | with_reducible refine blk_n ?_ | with_reducible refine beh_n ?_)
            (repeat refine ka ?_); refine kr ?_ ?_ (pops_end ?_)
            refine kn ?_; repeat (first | with_reducible refine blk_n ?_ | with_reducible refine beh_n ?_)
            refine ⟨(i + 1, gw', gr, W ++ [wW op a b c imm], R), ⟨by simp only; omega, hf, by simp only [List.length_append, List.length_cons, List.length_nil]; omega, by simp only [List.length_append, List.length_cons, List.length_nil]; omega⟩, by simp only; omega, ?_⟩
            simp only [List.length_append, List.length_cons, List.length_nil, Nat.zero_add]
            exact (holds 4 (by repeat (first | exact .nil | refine has1 ?_)))
        by_cases k2 : k = 2
        · have hl : layF ⟨k, n, op, a, b, c, imm, w⟩ to (4 * W.length) = (([wW op a b c (Int.tdiv (to - 4 * W.length - 4) 4)], []), if wE op a b c (Int.tdiv (to - 4 * W.length - 4) 4) = 0 then 0 else 4) := by simp [layF, k1, k2]
          cases is with
          | false =>
            rw [if_pos ⟨by omega, rfl⟩] at hf
            rw [hf]
            (repeat refine ka ?_); refine kr ?_ ?_ (pops_end ?_)
            (repeat refine ka ?_); refine kct ?_
            (repeat refine ka ?_); refine ksk ?_
            (repeat refine ka ?_); refine kb ?_
            (repeat refine ka ?_); refine kr ?_ ?_ ?_
            refine ps_alloc fun g2 => ?_
            refine ps_store ?_
            refine pops_nil ?_
            (repeat refine ka ?_); refine kr ?_ ?_ ?_
            refine ps_pcall c1 ?_
            refine pops_go ?_ ?_ (pops_end ?_)
            (repeat refine ka ?_); refine kcf ?_
            (repeat refine ka ?_); refine ksk ?_
            (repeat refine ka ?_); refine kr ?_ ?_ ?_
            refine ps_pcall c2 ?_
            refine pops_go ?_ ?_ (pops_end ?_)
            (repeat refine ka ?_); refine kr ?_ ?_ (pops_end ?_)
            (repeat refine ka ?_); refine kct ?_
            (repeat refine ka ?_); refine kr ?_ ?_ ?_
            refine ps_store ?_
            refine pops_go ?_ ?_ (pops_end ?_)
            (repeat refine ka ?_); refine kret ?_; repeat (first | with_reducible refine beh_r ?_ | with_reducible refine blk_r ?_)
            refine ends_ret ?_ (retPV_2 res_cella res_tmp)
            exact gives_two (gives_agg2 .nil .nil) (.same (.v _))
          | true =>
            rw [if_neg (by rintro ⟨_, h⟩; cases h)] at hf
            have h01 := wE_01 op a b c (Int.tdiv (to - 4 * W.length - 4) 4)
            obtain ⟨q, hqe⟩ : ∃ q, q = Int.tdiv (to - 4 * W.length - 4) 4 := ⟨_, rfl⟩
            have hq : IntKind.i64.wrap (Int.tdiv (to - 4 * W.length - 4) 4) = q := by
              rw [hqe]
              have e1 := @Int.tdiv_eq_ediv (to - 4 * W.length - 4) 4
              have e2 : Int.sign 4 = 1 := rfl
              rw [e2] at e1
              refine wrap_i64 _ ?_ ?_ <;> rw [e1] <;> split <;> omega
            rw [← hqe] at h01 hl
            rw [hl] at hf
            dsimp only at hf
            rcases h01 with h01 | h01
            · simp only [h01, if_true, List.append_nil] at hf
              (repeat refine ka ?_); refine kr ?_ ?_ (pops_end ?_)
              (repeat refine ka ?_); refine kct ?_
              (repeat refine ka ?_); refine ksk ?_
              (repeat refine ka ?_); refine kb ?_
              (repeat refine ka ?_); refine kr ?_ ?_ ?_
              refine ps_alloc fun g2 => ?_
              refine ps_store ?_
              refine pops_nil ?_
              (repeat refine ka ?_); refine kr ?_ ?_ ?_
              refine ps_pcall c1 ?_
              refine pops_go ?_ ?_ (pops_end ?_)
              (repeat refine ka ?_); refine kcf ?_
              (repeat refine ka ?_); refine ksk ?_
              (repeat refine ka ?_); refine kr ?_ ?_ ?_
              refine ps_pcall c2 ?_
              refine pops_go ?_ ?_ (pops_end ?_)
              (repeat refine ka ?_); refine kr ?_ ?_ (pops_end ?_)
              (repeat refine ka ?_); refine kcf ?_
              (repeat refine ka ?_); refine ksk ?_
              (repeat refine ka ?_); refine kr ?_ ?_ (pops_end ?_)
              (repeat refine ka ?_); refine kr ?_ ?_ ?_
              refine ps_pcall c3 ?_
              refine pops_go ?_ ?_ (pops_end ?_)
              (repeat refine ka ?_); refine kr ?_ ?_ (pops_end ?_)
              (repeat refine ka ?_); refine kb ?_
              (repeat refine ka ?_); refine kr ?_ ?_ (pops_end ?_)
              (repeat refine ka ?_); refine kcf ?_
              (repeat refine ka ?_); refine kr ?_ ?_ (pops_end ?_)
              (repeat refine ka ?_); refine kct ?_
              (repeat refine ka ?_); refine kr ?_ ?_ ?_
              refine pops_go _ _ ?_ (he := is_u (is_bin (es_quoz (EvR.stop _ _) rfl rfl (by decide) hq)))
              refine pops_go ?_ ?_ ?_
              refine ps_store ?_
              refine pops_nil ?_
              have c4 : PCall Try.prog 65 [.agg [.v (.int .i64 op), .v (.int .i64 a), .v (.int .i64 b), .v (.int .i64 c), .v (.int .i64 q)]] (.tup [.v (.int .u32 (wW op a b c q)), .v (.int .i64 (wE op a b c q))]) := rword_ok op a b c q
              (repeat refine ka ?_); refine kr ?_ ?_ ?_
              refine ps_pcall c4 ?_
              rw [h01]
              refine pops_go ?_ ?_ (pops_end ?_)
              (repeat refine ka ?_); refine kr ?_ ?_ (pops_end ?_)
              (repeat refine ka ?_); refine kcf ?_
              (repeat refine ka ?_); refine ksk ?_
              (repeat refine ka ?_); refine kr ?_ ?_ ?_
              refine ps_lit fun glgw' => ?_
              refine ps_app_vw (rows' := ints .u32 (W ++ [wW op a b c q])) (m := W.length + 1) (fun gw' => ?_) (hrows := ints_append _ _ _)
              refine pops_go ?_ ?_ ?_
              refine ps_store ?_
              refine pops_nil ?_
              refine kn ?_; repeat (first | with_reducible refine blk_n ?_ | with_reducible refine beh_n ?_)
              refine kn ?_; repeat (first | with_reducible refine blk_n ?_ | with_reducible refine beh_n ?_)
              (repeat refine ka ?_); refine kr ?_ ?_ (pops_end ?_)
              refine kn ?_; repeat (first | with_reducible refine blk_n ?_ | with_reducible refine beh_n ?_)
              refine ⟨(i + 1, gw', gr, W ++ [wW op a b c q], R), ⟨by simp only; omega, hf, by simp only [List.length_append, List.length_cons, List.length_nil]; omega, by simp only [List.length_append, List.length_cons, List.length_nil]; omega⟩, by simp only; omega, ?_⟩
              simp only [List.length_append, List.length_cons, List.length_nil, Nat.zero_add]
              exact (holds 4 (by repeat (first | exact .nil | refine has1 ?_)))
            · rw [h01] at hf
              simp only [show ¬ (1 : Int) = 0 by decide, if_false, show ¬ (4 : Int) = 0 by decide] at hf
              rw [hf]
              (repeat refine ka ?_); refine kr ?_ ?_ (pops_end ?_)
              (repeat refine ka ?_); refine kct ?_
              (repeat refine ka ?_); refine ksk ?_
              (repeat refine ka ?_); refine kb ?_
              (repeat refine ka ?_); refine kr ?_ ?_ ?_
              refine ps_alloc fun g2 => ?_
              refine ps_store ?_
              refine pops_nil ?_
              (repeat refine ka ?_); refine kr ?_ ?_ ?_
              refine ps_pcall c1 ?_
              refine pops_go ?_ ?_ (pops_end ?_)
              (repeat refine ka ?_); refine kcf ?_
              (repeat refine ka ?_); refine ksk ?_
              (repeat refine ka ?_); refine kr ?_ ?_ ?_
              refine ps_pcall c2 ?_
              refine pops_go ?_ ?_ (pops_end ?_)
              (repeat refine ka ?_); refine kr ?_ ?_ (pops_end ?_)
              (repeat refine ka ?_); refine kcf ?_
              (repeat refine ka ?_); refine ksk ?_
              (repeat refine ka ?_); refine kr ?_ ?_ (pops_end ?_)
              (repeat refine ka ?_); refine kr ?_ ?_ ?_
              refine ps_pcall c3 ?_
              refine pops_go ?_ ?_ (pops_end ?_)
              (repeat refine ka ?_); refine kr ?_ ?_ (pops_end ?_)
              (repeat refine ka ?_); refine kb ?_
              (repeat refine ka ?_); refine kr ?_ ?_ (pops_end ?_)
              (repeat refine ka ?_); refine kcf ?_
              (repeat refine ka ?_); refine kr ?_ ?_ (pops_end ?_)
              (repeat refine ka ?_); refine kct ?_
              (repeat refine ka ?_); refine kr ?_ ?_ ?_
              refine pops_go _ _ ?_ (he := is_u (is_bin (es_quoz (EvR.stop _ _) rfl rfl (by decide) hq)))
              refine pops_go ?_ ?_ ?_
              refine ps_store ?_
              refine pops_nil ?_
              have c4 : PCall Try.prog 65 [.agg [.v (.int .i64 op), .v (.int .i64 a), .v (.int .i64 b), .v (.int .i64 c), .v (.int .i64 q)]] (.tup [.v (.int .u32 (wW op a b c q)), .v (.int .i64 (wE op a b c q))]) := rword_ok op a b c q
              (repeat refine ka ?_); refine kr ?_ ?_ ?_
              refine ps_pcall c4 ?_
              rw [h01]
              refine pops_go ?_ ?_ (pops_end ?_)
              (repeat refine ka ?_); refine kr ?_ ?_ (pops_end ?_)
              (repeat refine ka ?_); refine kct ?_
              (repeat refine ka ?_); refine kr ?_ ?_ ?_
              refine ps_store ?_
              refine pops_go ?_ ?_ (pops_end ?_)
              (repeat refine ka ?_); refine kret ?_; repeat (first | with_reducible refine beh_r ?_ | with_reducible refine blk_r ?_)
              refine ends_ret ?_ (retPV_2 res_cella res_tmp)
              exact gives_two (gives_agg2 .nil .nil) (.same (.v _))
        by_cases k3 : k = 3
        · have hl : layF ⟨k, n, op, a, b, c, imm, w⟩ to (4 * W.length) = (([wW 1 a 0 0 (to % 65536), wW 2 a 0 0 (to / 65536)], [(4 * (W.length : Int), true)]), 0) := by simp [layF, k1, k2, k3]
          cases is with
          | false =>
            rw [if_pos ⟨by omega, rfl⟩] at hf
            rw [hf]
            (repeat refine ka ?_); refine kr ?_ ?_ (pops_end ?_)
            (repeat refine ka ?_); refine kct ?_
            (repeat refine ka ?_); refine ksk ?_
            (repeat refine ka ?_); refine kb ?_
            (repeat refine ka ?_); refine kr ?_ ?_ ?_
            refine ps_alloc fun g2 => ?_
            refine ps_store ?_
            refine pops_nil ?_
            (repeat refine ka ?_); refine kr ?_ ?_ ?_
            refine ps_pcall c1 ?_
            refine pops_go ?_ ?_ (pops_end ?_)
            (repeat refine ka ?_); refine kcf ?_
            (repeat refine ka ?_); refine ksk ?_
            (repeat refine ka ?_); refine kr ?_ ?_ ?_
            refine ps_pcall c2 ?_
            refine pops_go ?_ ?_ (pops_end ?_)
            (repeat refine ka ?_); refine kr ?_ ?_ (pops_end ?_)
            (repeat refine ka ?_); refine kct ?_
            (repeat refine ka ?_); refine kr ?_ ?_ ?_
            refine ps_store ?_
            refine pops_go ?_ ?_ (pops_end ?_)
            (repeat refine ka ?_); refine kret ?_; repeat (first | with_reducible refine beh_r ?_ | with_reducible refine blk_r ?_)
            refine ends_ret ?_ (retPV_2 res_cella res_tmp)
            exact gives_two (gives_agg2 .nil .nil) (.same (.v _))
          | true =>
            rw [if_neg (by rintro ⟨_, h⟩; cases h)] at hf
            rw [hl] at hf
            simp only [if_true, List.append_nil] at hf
            (repeat refine ka ?_); refine kr ?_ ?_ (pops_end ?_)
            (repeat refine ka ?_); refine kct ?_
            (repeat refine ka ?_); refine ksk ?_
            (repeat refine ka ?_); refine kb ?_
            (repeat refine ka ?_); refine kr ?_ ?_ ?_
            refine ps_alloc fun g2 => ?_
            refine ps_store ?_
            refine pops_nil ?_
            (repeat refine ka ?_); refine kr ?_ ?_ ?_
            refine ps_pcall c1 ?_
            refine pops_go ?_ ?_ (pops_end ?_)
            (repeat refine ka ?_); refine kcf ?_
            (repeat refine ka ?_); refine ksk ?_
            (repeat refine ka ?_); refine kr ?_ ?_ ?_
            refine ps_pcall c2 ?_
            refine pops_go ?_ ?_ (pops_end ?_)
            (repeat refine ka ?_); refine kr ?_ ?_ (pops_end ?_)
            (repeat refine ka ?_); refine kcf ?_
            (repeat refine ka ?_); refine ksk ?_
            (repeat refine ka ?_); refine kr ?_ ?_ (pops_end ?_)
            (repeat refine ka ?_); refine kr ?_ ?_ ?_
            refine ps_pcall c3 ?_
            refine pops_go ?_ ?_ (pops_end ?_)
            (repeat refine ka ?_); refine kr ?_ ?_ (pops_end ?_)
            (repeat refine ka ?_); refine kb ?_
            (repeat refine ka ?_); refine kr ?_ ?_ (pops_end ?_)
            (repeat refine ka ?_); refine kcf ?_
            (repeat refine ka ?_); refine kr ?_ ?_ (pops_end ?_)
            (repeat refine ka ?_); refine kcf ?_
            (repeat refine ka ?_); refine kr ?_ ?_ (pops_end ?_)
            (repeat refine ka ?_); refine kct ?_
            have c5 : PCall Try.prog 65 [.agg [.v (.int .i64 1), .v (.int .i64 a), .v (.int .i64 0), .v (.int .i64 0), .v (.int .i64 (to % 65536))]] (.tup [.v (.int .u32 (wW 1 a 0 0 (to % 65536))), .v (.int .i64 (wE 1 a 0 0 (to % 65536)))]) := rword_ok 1 a 0 0 (to % 65536)
            have c6 : PCall Try.prog 65 [.agg [.v (.int .i64 2), .v (.int .i64 a), .v (.int .i64 0), .v (.int .i64 0), .v (.int .i64 (to / 65536))]] (.tup [.v (.int .u32 (wW 2 a 0 0 (to / 65536))), .v (.int .i64 (wE 2 a 0 0 (to / 65536)))]) := rword_ok 2 a 0 0 (to / 65536)
            (repeat refine ka ?_); refine kr ?_ ?_ ?_
            refine ps_pcall c5 ?_
            refine pops_go ?_ ?_ (pops_end ?_)
            (repeat refine ka ?_); refine kr ?_ ?_ ?_
            refine ps_pcall c6 ?_
            refine pops_go ?_ ?_ (pops_end ?_)
            (repeat refine ka ?_); refine kr ?_ ?_ ?_
            refine ps_lit fun glgw' => ?_
            refine ps_app_vw (rows' := ints .u32 (W ++ [wW 1 a 0 0 (to % 65536), wW 2 a 0 0 (to / 65536)])) (m := W.length + 2) (fun gw' => ?_) (hrows := ints_append _ _ _)
            refine pops_go ?_ ?_ ?_
            refine ps_store ?_
            refine pops_nil ?_
            (repeat refine ka ?_); refine kr ?_ ?_ ?_
            refine ps_lit fun glgr' => ?_
            refine ps_app_vw (rows' := relRows (R ++ [(4 * (W.length : Int), true)])) (m := R.length + 1) (fun gr' => ?_) (hrows := relRows_snoc R (4 * (W.length : Int), true))
            refine pops_go ?_ ?_ ?_
            refine ps_store ?_
            refine pops_nil ?_
            refine kn ?_; repeat (first | with_reducible refine blk_n ?_ | with_reducible refine beh_n ?_)
            refine kn ?_; repeat (first | with_reducible refine blk_n ?_ | with_reducible refine beh_n ?_)
            (repeat refine ka ?_); refine kr ?_ ?_ (pops_end ?_)
            refine kn ?_; repeat (first | with_reducible refine blk_n ?_ | with_reducible refine beh_n ?_)
            refine ⟨(i + 1, gw', gr', W ++ [wW 1 a 0 0 (to % 65536), wW 2 a 0 0 (to / 65536)], R ++ [(4 * (W.length : Int), true)]), ⟨by simp only; omega, hf, by simp only [List.length_append, List.length_cons, List.length_nil]; omega, by simp only [List.length_append, List.length_cons, List.length_nil]; omega⟩, by simp only; omega, ?_⟩
            simp only [List.length_append, List.length_cons, List.length_nil, Nat.zero_add]
            exact (holds 4 (by repeat (first | exact .nil | refine has1 ?_)))
        by_cases k4 : k = 4
        · have hl : layF ⟨k, n, op, a, b, c, imm, w⟩ to (4 * W.length) = (([w], []), 0) := by simp [layF, k1, k2, k3, k4]
          rw [if_neg (by rintro ⟨h, _⟩; omega), hl] at hf
          simp only [if_true, List.append_nil] at hf
          cases is
          · (repeat refine ka ?_); refine kr ?_ ?_ (pops_end ?_)
            (repeat refine ka ?_); refine kct ?_
            (repeat refine ka ?_); refine ksk ?_
            (repeat refine ka ?_); refine kb ?_
            (repeat refine ka ?_); refine kr ?_ ?_ ?_
            refine ps_alloc fun g2 => ?_
            refine ps_store ?_
            refine pops_nil ?_
            (repeat refine ka ?_); refine kr ?_ ?_ ?_
            refine ps_pcall c1 ?_
            refine pops_go ?_ ?_ (pops_end ?_)
            (repeat refine ka ?_); refine kcf ?_
            (repeat refine ka ?_); refine ksk ?_
            (repeat refine ka ?_); refine kr ?_ ?_ ?_
            refine ps_pcall c2 ?_
            refine pops_go ?_ ?_ (pops_end ?_)
            (repeat refine ka ?_); refine kr ?_ ?_ (pops_end ?_)
            (repeat refine ka ?_); refine kcf ?_
            (repeat refine ka ?_); refine ksk ?_
            (repeat refine ka ?_); refine kr ?_ ?_ (pops_end ?_)
            (repeat refine ka ?_); refine kr ?_ ?_ ?_
            refine ps_pcall c3 ?_
            refine pops_go ?_ ?_ (pops_end ?_)
            (repeat refine ka ?_); refine kr ?_ ?_ (pops_end ?_)
            (repeat refine ka ?_); refine kb ?_
            (repeat refine ka ?_); refine kr ?_ ?_ (pops_end ?_)
            (repeat refine ka ?_); refine kcf ?_
            (repeat refine ka ?_); refine kr ?_ ?_ (pops_end ?_)
            (repeat refine ka ?_); refine kcf ?_
            (repeat refine ka ?_); refine kr ?_ ?_ (pops_end ?_)
            (repeat refine ka ?_); refine kcf ?_
            (repeat refine ka ?_); refine kr ?_ ?_ (pops_end ?_)
            (repeat refine ka ?_); refine kct ?_
            (repeat refine ka ?_); refine kr ?_ ?_ ?_
            refine ps_lit fun glgw' => ?_
            refine ps_app_vw (rows' := ints .u32 (W ++ [w])) (m := W.length + 1) (fun gw' => ?_) (hrows := ints_append _ _ _)
            refine pops_go ?_ ?_ ?_
            refine ps_store ?_
            refine pops_nil ?_
            refine kn ?_; repeat (first | with_reducible refine blk_n ?_ | with_reducible refine beh_n ?_)
            refine kn ?_; repeat (first | with_reducible refine blk_n ?_ | with_reducible refine beh_n ?_)
            (repeat refine ka ?_); refine kr ?_ ?_ (pops_end ?_)
            refine kn ?_; repeat (first | with_reducible refine blk_n ?_ | with_reducible refine beh_n ?_)
            refine ⟨(i + 1, gw', gr, W ++ [w], R), ⟨by simp only; omega, hf, by simp only [List.length_append, List.length_cons, List.length_nil]; omega, by simp only [List.length_append, List.length_cons, List.length_nil]; omega⟩, by simp only; omega, ?_⟩
            simp only [List.length_append, List.length_cons, List.length_nil, Nat.zero_add]
            exact (holds 4 (by repeat (first | exact .nil | refine has1 ?_)))
          · (repeat refine ka ?_); refine kr ?_ ?_ (pops_end ?_)
            (repeat refine ka ?_); refine kct ?_
            (repeat refine ka ?_); refine ksk ?_
            (repeat refine ka ?_); refine kb ?_
            (repeat refine ka ?_); refine kr ?_ ?_ ?_
            refine ps_alloc fun g2 => ?_
            refine ps_store ?_
            refine pops_nil ?_
            (repeat refine ka ?_); refine kr ?_ ?_ ?_
            refine ps_pcall c1 ?_
            refine pops_go ?_ ?_ (pops_end ?_)
            (repeat refine ka ?_); refine kcf ?_
            (repeat refine ka ?_); refine ksk ?_
            (repeat refine ka ?_); refine kr ?_ ?_ ?_
            refine ps_pcall c2 ?_
            refine pops_go ?_ ?_ (pops_end ?_)
            (repeat refine ka ?_); refine kr ?_ ?_ (pops_end ?_)
            (repeat refine ka ?_); refine kcf ?_
            (repeat refine ka ?_); refine ksk ?_
            (repeat refine ka ?_); refine kr ?_ ?_ (pops_end ?_)
            (repeat refine ka ?_); refine kr ?_ ?_ ?_
            refine ps_pcall c3 ?_
            refine pops_go ?_ ?_ (pops_end ?_)
            (repeat refine ka ?_); refine kr ?_ ?_ (pops_end ?_)
            (repeat refine ka ?_); refine kb ?_
            (repeat refine ka ?_); refine kr ?_ ?_ (pops_end ?_)
            (repeat refine ka ?_); refine kcf ?_
            (repeat refine ka ?_); refine kr ?_ ?_ (pops_end ?_)
            (repeat refine ka ?_); refine kcf ?_
            (repeat refine ka ?_); refine kr ?_ ?_ (pops_end ?_)
            (repeat refine ka ?_); refine kcf ?_
            (repeat refine ka ?_); refine kr ?_ ?_ (pops_end ?_)
            (repeat refine ka ?_); refine kct ?_
            (repeat refine ka ?_); refine kr ?_ ?_ ?_
            refine ps_lit fun glgw' => ?_
            refine ps_app_vw (rows' := ints .u32 (W ++ [w])) (m := W.length + 1) (fun gw' => ?_) (hrows := ints_append _ _ _)
            refine pops_go ?_ ?_ ?_
            refine ps_store ?_
            refine pops_nil ?_
            refine kn ?_; repeat (first | with_reducible refine blk_n ?_ | with_reducible refine beh_n ?_)
            refine kn ?_; repeat (first | with_reducible refine blk_n ?_ | with_reducible refine beh_n ?_)
            (repeat refine ka ?_); refine kr ?_ ?_ (pops_end ?_)
            refine kn ?_; repeat (first | with_reducible refine blk_n ?_ | with_reducible refine beh_n ?_)
            refine ⟨(i + 1, gw', gr, W ++ [w], R), ⟨by simp only; omega, hf, by simp only [List.length_append, List.length_cons, List.length_nil]; omega, by simp only [List.length_append, List.length_cons, List.length_nil]; omega⟩, by simp only; omega, ?_⟩
            simp only [List.length_append, List.length_cons, List.length_nil, Nat.zero_add]
            exact (holds 4 (by repeat (first | exact .nil | refine has1 ?_)))
        by_cases k5 : k = 5
        · have hl : layF ⟨k, n, op, a, b, c, imm, w⟩ to (4 * W.length) = (([to % 4294967296], [(4 * (W.length : Int), false)]), 0) := by simp [layF, k1, k2, k3, k4, k5]
          cases is with
          | false =>
            rw [if_pos ⟨by omega, rfl⟩] at hf
            rw [hf]
            (repeat refine ka ?_); refine kr ?_ ?_ (pops_end ?_)
            (repeat refine ka ?_); refine kct ?_
            (repeat refine ka ?_); refine ksk ?_
            (repeat refine ka ?_); refine kb ?_
            (repeat refine ka ?_); refine kr ?_ ?_ ?_
            refine ps_alloc fun g2 => ?_
            refine ps_store ?_
            refine pops_nil ?_
            (repeat refine ka ?_); refine kr ?_ ?_ ?_
            refine ps_pcall c1 ?_
            refine pops_go ?_ ?_ (pops_end ?_)
            (repeat refine ka ?_); refine kcf ?_
            (repeat refine ka ?_); refine ksk ?_
            (repeat refine ka ?_); refine kr ?_ ?_ ?_
            refine ps_pcall c2 ?_
            refine pops_go ?_ ?_ (pops_end ?_)
            (repeat refine ka ?_); refine kr ?_ ?_ (pops_end ?_)
            (repeat refine ka ?_); refine kct ?_
            (repeat refine ka ?_); refine kr ?_ ?_ ?_
            refine ps_store ?_
            refine pops_go ?_ ?_ (pops_end ?_)
            (repeat refine ka ?_); refine kret ?_; repeat (first | with_reducible refine beh_r ?_ | with_reducible refine blk_r ?_)
            refine ends_ret ?_ (retPV_2 res_cella res_tmp)
            exact gives_two (gives_agg2 .nil .nil) (.same (.v _))
          | true =>
            rw [if_neg (by rintro ⟨_, h⟩; cases h)] at hf
            rw [hl] at hf
            simp only [if_true, List.append_nil] at hf
            (repeat refine ka ?_); refine kr ?_ ?_ (pops_end ?_)
            (repeat refine ka ?_); refine kct ?_
            (repeat refine ka ?_); refine ksk ?_
            (repeat refine ka ?_); refine kb ?_
            (repeat refine ka ?_); refine kr ?_ ?_ ?_
            refine ps_alloc fun g2 => ?_
            refine ps_store ?_
            refine pops_nil ?_
            (repeat refine ka ?_); refine kr ?_ ?_ ?_
            refine ps_pcall c1 ?_
            refine pops_go ?_ ?_ (pops_end ?_)
            (repeat refine ka ?_); refine kcf ?_
            (repeat refine ka ?_); refine ksk ?_
            (repeat refine ka ?_); refine kr ?_ ?_ ?_
            refine ps_pcall c2 ?_
            refine pops_go ?_ ?_ (pops_end ?_)
            (repeat refine ka ?_); refine kr ?_ ?_ (pops_end ?_)
            (repeat refine ka ?_); refine kcf ?_
            (repeat refine ka ?_); refine ksk ?_
            (repeat refine ka ?_); refine kr ?_ ?_ (pops_end ?_)
            (repeat refine ka ?_); refine kr ?_ ?_ ?_
            refine ps_pcall c3 ?_
            refine pops_go ?_ ?_ (pops_end ?_)
            (repeat refine ka ?_); refine kr ?_ ?_ (pops_end ?_)
            (repeat refine ka ?_); refine kb ?_
            (repeat refine ka ?_); refine kr ?_ ?_ (pops_end ?_)
            (repeat refine ka ?_); refine kcf ?_
            (repeat refine ka ?_); refine kr ?_ ?_ (pops_end ?_)
            (repeat refine ka ?_); refine kcf ?_
            (repeat refine ka ?_); refine kr ?_ ?_ (pops_end ?_)
            (repeat refine ka ?_); refine kcf ?_
            (repeat refine ka ?_); refine kr ?_ ?_ (pops_end ?_)
            (repeat refine ka ?_); refine kcf ?_
            (repeat refine ka ?_); refine kr ?_ ?_ (pops_end ?_)
            (repeat refine ka ?_); refine kct ?_
            have hw := wrap_u32m to
            (repeat refine ka ?_); refine kr ?_ ?_ ?_
            refine ps_lit fun glgw' => ?_
            refine ps_app_vw (rows' := ints .u32 (W ++ [to % 4294967296])) (m := W.length + 1) (fun gw' => ?_) (hrows := ints_append _ _ _)
            refine pops_go ?_ ?_ ?_
            refine ps_store ?_
            refine pops_nil ?_
            (repeat refine ka ?_); refine kr ?_ ?_ ?_
            refine ps_lit fun glgr' => ?_
            refine ps_app_vw (rows' := relRows (R ++ [(4 * (W.length : Int), false)])) (m := R.length + 1) (fun gr' => ?_) (hrows := relRows_snoc R (4 * (W.length : Int), false))
            refine pops_go ?_ ?_ ?_
            refine ps_store ?_
            refine pops_nil ?_
            refine kn ?_; repeat (first | with_reducible refine blk_n ?_ | with_reducible refine beh_n ?_)
            refine kn ?_; repeat (first | with_reducible refine blk_n ?_ | with_reducible refine beh_n ?_)
            (repeat refine ka ?_); refine kr ?_ ?_ (pops_end ?_)
            refine kn ?_; repeat (first | with_reducible refine blk_n ?_ | with_reducible refine beh_n ?_)
            refine ⟨(i + 1, gw', gr', W ++ [to % 4294967296], R ++ [(4 * (W.length : Int), false)]), ⟨by simp only; omega, hf, by simp only [List.length_append, List.length_cons, List.length_nil]; omega, by simp only [List.length_append, List.length_cons, List.length_nil]; omega⟩, by simp only; omega, ?_⟩
            simp only [List.length_append, List.length_cons, List.length_nil, Nat.zero_add]
            exact (holds 4 (by repeat (first | exact .nil | refine has1 ?_)))
        · have hl : layF ⟨k, n, op, a, b, c, imm, w⟩ to (4 * W.length) = (([], []), 0) := by simp [layF, k1, k2, k3, k4, k5]
          rw [if_neg (by rintro ⟨h, _⟩; omega), hl] at hf
          simp only [if_true, List.append_nil] at hf
          cases is
          · (repeat refine ka ?_); refine kr ?_ ?_ (pops_end ?_)
            (repeat refine ka ?_); refine kct ?_
            (repeat refine ka ?_); refine ksk ?_
            (repeat refine ka ?_); refine kb ?_
            (repeat refine ka ?_); refine kr ?_ ?_ ?_
            refine ps_alloc fun g2 => ?_
            refine ps_store ?_
            refine pops_nil ?_
            (repeat refine ka ?_); refine kr ?_ ?_ ?_
            refine ps_pcall c1 ?_
            refine pops_go ?_ ?_ (pops_end ?_)
            (repeat refine ka ?_); refine kcf ?_
            (repeat refine ka ?_); refine ksk ?_
            (repeat refine ka ?_); refine kr ?_ ?_ ?_
            refine ps_pcall c2 ?_
            refine pops_go ?_ ?_ (pops_end ?_)
            (repeat refine ka ?_); refine kr ?_ ?_ (pops_end ?_)
            (repeat refine ka ?_); refine kcf ?_
            (repeat refine ka ?_); refine ksk ?_
            (repeat refine ka ?_); refine kr ?_ ?_ (pops_end ?_)
            (repeat refine ka ?_); refine kr ?_ ?_ ?_
            refine ps_pcall c3 ?_
            refine pops_go ?_ ?_ (pops_end ?_)
            (repeat refine ka ?_); refine kr ?_ ?_ (pops_end ?_)
            (repeat refine ka ?_); refine kb ?_
            (repeat refine ka ?_); refine kr ?_ ?_ (pops_end ?_)
            (repeat refine ka ?_); refine kcf ?_
            (repeat refine ka ?_); refine kr ?_ ?_ (pops_end ?_)
            (repeat refine ka ?_); refine kcf ?_
            (repeat refine ka ?_); refine kr ?_ ?_ (pops_end ?_)
            (repeat refine ka ?_); refine kcf ?_
            (repeat refine ka ?_); refine kr ?_ ?_ (pops_end ?_)
            (repeat refine ka ?_); refine kcf ?_
            (repeat refine ka ?_); refine kr ?_ ?_ (pops_end ?_)
            (repeat refine ka ?_); refine kcf ?_
            (repeat refine ka ?_); refine ksk ?_
            refine kn ?_; repeat (first | with_reducible refine blk_n ?_ | with_reducible refine beh_n ?_)
            refine kn ?_; repeat (first | with_reducible refine blk_n ?_ | with_reducible refine beh_n ?_)
            (repeat refine ka ?_); refine kr ?_ ?_ (pops_end ?_)
            refine kn ?_; repeat (first | with_reducible refine blk_n ?_ | with_reducible refine beh_n ?_)
            refine ⟨(i + 1, gw, gr, W, R), ⟨by simp only; omega, hf, by simp only [List.length_append, List.length_cons, List.length_nil]; omega, by simp only [List.length_append, List.length_cons, List.length_nil]; omega⟩, by simp only; omega, ?_⟩
            simp only [List.length_append, List.length_cons, List.length_nil, Nat.zero_add]
            exact (holds 4 (by repeat (first | exact .nil | refine has1 ?_)))
          · (repeat refine ka ?_); refine kr ?_ ?_ (pops_end ?_)
            (repeat refine ka ?_); refine kct ?_
            (repeat refine ka ?_); refine ksk ?_
            (repeat refine ka ?_); refine kb ?_
            (repeat refine ka ?_); refine kr ?_ ?_ ?_
            refine ps_alloc fun g2 => ?_
            refine ps_store ?_
            refine pops_nil ?_
            (repeat refine ka ?_); refine kr ?_ ?_ ?_
            refine ps_pcall c1 ?_
            refine pops_go ?_ ?_ (pops_end ?_)
            (repeat refine ka ?_); refine kcf ?_
            (repeat refine ka ?_); refine ksk ?_
            (repeat refine ka ?_); refine kr ?_ ?_ ?_
            refine ps_pcall c2 ?_
            refine pops_go ?_ ?_ (pops_end ?_)
            (repeat refine ka ?_); refine kr ?_ ?_ (pops_end ?_)
            (repeat refine ka ?_); refine kcf ?_
            (repeat refine ka ?_); refine ksk ?_
            (repeat refine ka ?_); refine kr ?_ ?_ (pops_end ?_)
            (repeat refine ka ?_); refine kr ?_ ?_ ?_
            refine ps_pcall c3 ?_
            refine pops_go ?_ ?_ (pops_end ?_)
            (repeat refine ka ?_); refine kr ?_ ?_ (pops_end ?_)
            (repeat refine ka ?_); refine kb ?_
            (repeat refine ka ?_); refine kr ?_ ?_ (pops_end ?_)
            (repeat refine ka ?_); refine kcf ?_
            (repeat refine ka ?_); refine kr ?_ ?_ (pops_end ?_)
            (repeat refine ka ?_); refine kcf ?_
            (repeat refine ka ?_); refine kr ?_ ?_ (pops_end ?_)
            (repeat refine ka ?_); refine kcf ?_
            (repeat refine ka ?_); refine kr ?_ ?_ (pops_end ?_)
            (repeat refine ka ?_); refine kcf ?_
            (repeat refine ka ?_); refine kr ?_ ?_ (pops_end ?_)
            (repeat refine ka ?_); refine kcf ?_
            (repeat refine ka ?_); refine ksk ?_
            refine kn ?_; repeat (first | with_reducible refine blk_n ?_ | with_reducible refine beh_n ?_)
            refine kn ?_; repeat (first | with_reducible refine blk_n ?_ | with_reducible refine beh_n ?_)
            (repeat refine ka ?_); refine kr ?_ ?_ (pops_end ?_)
            refine kn ?_; repeat (first | with_reducible refine blk_n ?_ | with_reducible refine beh_n ?_)
            refine ⟨(i + 1, gw, gr, W, R), ⟨by simp only; omega, hf, by simp only [List.length_append, List.length_cons, List.length_nil]; omega, by simp only [List.length_append, List.length_cons, List.length_nil]; omega⟩, by simp only; omega, ?_⟩
            simp only [List.length_append, List.length_cons, List.length_nil, Nat.zero_add]
            exact (holds 4 (by repeat (first | exact .nil | refine has1 ?_)))
    · have hz : L.drop i = [] := List.drop_eq_nil_of_le (by omega)
      rw [hz, bGo] at hf
      rw [hf]
      (repeat refine ka ?_); refine kr ?_ ?_ (pops_end ?_)
      (repeat refine ka ?_); refine kcf ?_
      (repeat refine ka ?_); refine kx ?_; (repeat (first | with_reducible refine beh_x ?_ | with_reducible refine blk_up rfl ?_)); refine blk_here ?_; refine beh_n ?_
      (repeat refine ka ?_); refine kr ?_ ?_ ?_
      refine ps_store ?_
      refine pops_go ?_ ?_ (pops_end ?_)
      (repeat refine ka ?_); refine kret ?_; repeat (first | with_reducible refine beh_r ?_ | with_reducible refine blk_r ?_)
      refine ends_ret ?_ (retPV_2 res_cella res_tmp)
      exact gives_two (gives_agg2 (gives_ints rfl rfl rfl) (gives_rows rfl rfl hRl (relRows_pure _))) (.same (.v _))
  · rw [if_neg hle]
    (repeat refine ka ?_); refine kr ?_ ?_ ?_
    refine ps_pcall c0 ?_
    refine pops_go ?_ ?_ (pops_end ?_)
    (repeat refine ka ?_); refine kr ?_ ?_ (pops_end ?_)
    (repeat refine ka ?_); refine kct ?_
    (repeat refine ka ?_); refine kr ?_ ?_ ?_
    refine ps_store ?_
    refine pops_go ?_ ?_ (pops_end ?_)
    (repeat refine ka ?_); refine kret ?_; repeat (first | with_reducible refine beh_r ?_ | with_reducible refine blk_r ?_)
    refine ends_ret ?_ (retPV_2 res_cella res_tmp)
    exact gives_two (gives_agg2 .nil .nil) (.same (.v _))
end Go.Proofs.Ytjbbomchmacdjaa.Pv
