-- asm.Build: what it computes.
import Derived.Test.YtgbfbcbblndnoaaAsN
import Derived.Test.YtgbfbcbblndnoaaAsO
namespace Go.Proofs.Ytgbfbcbblndnoaa.Pv
set_option linter.all false
open Go.RowKit Go.Proofs
set_option maxRecDepth 100000
set_option maxHeartbeats 4000000
def bGo (labs : List (List Int × Int)) : List It → List Int → List (Int × Bool) → (List Int × List (Int × Bool)) × Int
  | [], W, R => ((W, R), 0)
  | x :: L, W, R =>
    if wrongB (decide x.rt) x = true then (([], []), 1)
    else if (x.k = 2 ∨ x.k = 3 ∨ x.k = 5) ∧ (findF labs x.n).2 = false then (([], []), 5)
    else if (layF x (findF labs x.n).1 (4 * W.length)).2 = 0 then bGo labs L (W ++ (layF x (findF labs x.n).1 (4 * W.length)).1.1) (R ++ (layF x (findF labs x.n).1 (4 * W.length)).1.2)
    else (([], []), (layF x (findF labs x.n).1 (4 * W.length)).2)
def buildF (L : List It) : (List Int × List (Int × Bool)) × Int := if (labelsF L).2 = 0 then bGo (labelsF L).1 L [] [] else (([], []), (labelsF L).2)
theorem layF_len (x : It) (to at_ : Int) : (layF x to at_).1.1.length ≤ 2 ∧ (layF x to at_).1.2.length ≤ 1 := by
  unfold layF
  repeat' split
  all_goals simp
theorem labelsF_len {L : List It} (h : (labelsF L).2 = 0) : L.length ≤ 4096 := by
  unfold labelsF at h
  split at h
  · cases h
  · omega
theorem labGo_at : ∀ (L : List It) (out : List (List Int × Int)) (a : Int) (B : Int), 0 ≤ a → a + 8 * L.length ≤ B → (∀ p ∈ out, 0 ≤ p.2 ∧ p.2 ≤ B) → ∀ p ∈ (labGo L out a).1, 0 ≤ p.2 ∧ p.2 ≤ B
  | [], out, a, B, _, _, h => by simpa [labGo] using h
  | x :: L, out, a, B, h0, h1, h => by
    have hm := manyF_in x.k
    simp only [List.length_cons] at h1
    rw [labGo]
    split
    · split
      · intro p hp; cases hp
      · refine labGo_at L _ _ B (by omega) (by omega) (fun p hp => ?_)
        rcases List.mem_append.1 hp with hp | hp
        · exact h p hp
        · simp only [List.mem_singleton] at hp
          subst hp
          exact ⟨h0, by omega⟩
    · exact labGo_at L _ _ B (by omega) (by omega) h
theorem labelsF_at {L : List It} (h : (labelsF L).2 = 0) : ∀ p ∈ (labelsF L).1, 0 ≤ p.2 ∧ p.2 ≤ 40000 := by
  have hl := labelsF_len h
  unfold labelsF
  split
  · intro p hp; cases hp
  · split
    · intro p hp; cases hp
    · exact labGo_at L [] 0 40000 (by decide) (by omega) (fun p hp => by cases hp)
theorem findF_at : ∀ (L : List (List Int × Int)) (n : List Int), (∀ p ∈ L, 0 ≤ p.2 ∧ p.2 ≤ 40000) → 0 ≤ (findF L n).1 ∧ (findF L n).1 ≤ 40000
  | [], n, _ => by simp [findF]
  | p :: L, n, h => by
    unfold findF
    split
    · exact h p (.head _)
    · exact findF_at L n (fun q hq => h q (.tail _ hq))
theorem labGo_oct : ∀ (L : List It) (out : List (List Int × Int)) (a : Int), (∀ x ∈ L, Oct x.n) → (∀ p ∈ out, Oct p.1) → ∀ p ∈ (labGo L out a).1, Oct p.1
  | [], out, a, _, h => by simpa [labGo] using h
  | x :: L, out, a, ho, h => by
    rw [labGo]
    split
    · split
      · intro p hp; cases hp
      · refine labGo_oct L _ _ (fun y hy => ho y (.tail _ hy)) (fun p hp => ?_)
        rcases List.mem_append.1 hp with hp | hp
        · exact h p hp
        · simp only [List.mem_singleton] at hp
          subst hp
          exact ho x (.head _)
    · exact labGo_oct L _ _ (fun y hy => ho y (.tail _ hy)) h
theorem labelsF_oct (L : List It) (ho : ∀ x ∈ L, Oct x.n) : ∀ p ∈ (labelsF L).1, Oct p.1 := by
  unfold labelsF
  split
  · intro p hp; cases hp
  · split
    · intro p hp; cases hp
    · exact labGo_oct L [] 0 ho (fun p hp => by cases hp)
theorem mfind_find {labs : List (List Int × Int)} {n : List Int} (hn : Oct n) (ho : ∀ p ∈ labs, Oct p.1) : ((mfind (str n) (mapOf labs)).getD 0 = (findF labs n).1) ∧ (mfind (str n) (mapOf labs)).isSome = (findF labs n).2 := by
  rw [mfind_mapOf labs hn ho]
  cases h : (findF labs n).2 with
  | true => simp
  | false =>
    have : ∀ (L : List (List Int × Int)), (findF L n).2 = false → (findF L n).1 = 0 := by
      intro L
      induction L with
      | nil => intro _; rfl
      | cons p L ih => intro h; unfold findF at h ⊢; split at h; cases h; rename_i hne; rw [if_neg hne]; exact ih h
    simp [this labs h]
theorem build_ok (f : Bool) (L : List It) (hl : L.length ≤ 1000000) (ho : ∀ x ∈ L, Oct x.n) : PCall Try.prog 24 [.ro 8 f (itRows L)] (.tup [.agg [.ro 1 false (ints .u32 (buildF L).1.1), .ro 2 false (relRows (buildF L).1.2)], .v (.int .i64 (buildF L).2)]) := by
  have hcl := itRows_length L
  have c0 := places_ok f L hl ho
  have hoct := labelsF_oct L ho
  have hat : (labelsF L).2 = 0 → ∀ p ∈ (labelsF L).1, 0 ≤ p.2 ∧ p.2 ≤ 40000 := labelsF_at
  have hlen : (labelsF L).2 = 0 → L.length ≤ 4096 := labelsF_len
  unfold buildF
  generalize labelsF L = lf at *
  obtain ⟨labs, le⟩ := lf
  dsimp only at *
  refine pcall_mkg Try.func24 rfl [.cell 2 42, .tmp 3] Try.results24 60 rfl (tk_start ?_)
  (repeat refine ka ?_); refine kr ?_ ?_ ?_
  refine ps_alloc fun g0 => ?_
  refine pops_go ?_ ?_ (pops_end ?_)
  by_cases hle : le = 0
  · rw [if_pos hle]
    subst hle
    have hat := hat rfl
    have hlen := hlen rfl
    (repeat refine ka ?_); refine kr ?_ ?_ ?_
    refine ps_pcall c0 ?_
    refine pops_go ?_ ?_ (pops_end ?_)
    (repeat refine ka ?_); refine kr ?_ ?_ (pops_end ?_)
    (repeat refine ka ?_); refine kcf ?_
    (repeat refine ka ?_); refine ksk ?_
    (repeat refine ka ?_); refine kr ?_ ?_ ?_
    refine ps_box fun g1 => ?_
    refine pops_go ?_ ?_ (pops_end ?_)
    (repeat refine ka ?_); refine kr ?_ ?_ (pops_end ?_)
    refine kvoidc 1 0 1 (i := 0) (fun gw => ?_)
    refine kvoidc 1 1 2 (i := 0) (fun gr => ?_)
    (repeat refine ka ?_); refine kb ?_
    refine kw (fun s : Nat × Nat × Nat × List Int × List (Int × Bool) => [(2, .ptr 0 g0 0 0), (4, .rmp (mapOf labs)), (6, .ptr 1 g1 0 0), (23, .ro 8 f (itRows L)), (24, .v (.int .i64 L.length)), (25, .v (.int .i64 s.1))])
      (fun s => [⟨g0, true, 2, [[.v (.slice none 0 0), .v (.slice none 0 0)]]⟩, ⟨g1, true, 2, [[.vw 2 s.2.1 0 s.2.2.2.1.length, .vw 3 s.2.2.1 0 s.2.2.2.2.length]]⟩, ⟨s.2.1, true, 1, ints .u32 s.2.2.2.1⟩, ⟨s.2.2.1, true, 2, relRows s.2.2.2.2⟩])
      (fun s => s.1 ≤ L.length ∧ bGo labs L [] [] = bGo labs (L.drop s.1) s.2.2.2.1 s.2.2.2.2 ∧ s.2.2.2.1.length ≤ 2 * s.1 ∧ s.2.2.2.2.length ≤ s.1) (fun s => L.length - s.1) (0, gw, gr, [], []) (by simp) (holds 4 (by repeat (first | exact .nil | refine has1 ?_))) ?_
    rintro ⟨i, gw, gr, W, R⟩ ⟨hi, hf, hW, hR⟩
    dsimp only at hi hf hW hR ⊢
    have hRl := relRows_length R
    by_cases g : (i : Int) < L.length
    · obtain ⟨x, hx⟩ : ∃ x, L[i]? = some x := ⟨L[i]'(by omega), by simp [show i < L.length by omega]⟩
      have hrow := itRows_get hx
      have hxo := ho x (List.mem_of_getElem? hx)
      have hd : L.drop i = x :: L.drop (i + 1) := drop_cons hx
      rw [hd, bGo] at hf
      obtain ⟨hm1, hm2⟩ := mfind_find hxo hoct
      have hta := findF_at labs x.n hat
      have c1 := right_it x
      have c2 := named_it x.k
      have c3 := fun gc gW gR => item_ok W R gc gW gR x (findF labs x.n).1 (by omega) (by omega) hta.1 (by omega)
      have hll := layF_len x (findF labs x.n).1 (4 * W.length)
      generalize layF x (findF labs x.n).1 (4 * W.length) = lx at *
      obtain ⟨⟨ws, rs⟩, e⟩ := lx
      unfold It.row at c1 c3
      dsimp only at hf c3 hll
      generalize wrongB (decide x.rt) x = wb at *
      generalize findF labs x.n = ff at *
      obtain ⟨to, is⟩ := ff
      dsimp only at *
      cases wb with
      | true =>
        rw [if_pos rfl] at hf
        rw [hf]
        simp only [Bool.not_true] at c1
        (repeat refine ka ?_); refine kr ?_ ?_ (pops_end ?_)
        (repeat refine ka ?_); refine kct ?_
        (repeat refine ka ?_); refine ksk ?_
        (repeat refine ka ?_); refine kb ?_
        (repeat refine ka ?_); refine kr ?_ ?_ ?_
        refine ps_alloc fun g2 => ?_
        refine ps_store ?_
        refine pops_nil ?_
        (repeat refine ka ?_); refine kr ?_ ?_ (pops_end ?_)
        (repeat refine ka ?_); refine kr ?_ ?_ (pops_end ?_)
        (repeat refine ka ?_); refine kb ?_
        (repeat refine ka ?_); refine kr ?_ ?_ ?_
        refine ps_pcall c1 ?_
        refine pops_go ?_ ?_ (pops_end ?_)
        (repeat refine ka ?_); refine kct ?_
        (repeat refine ka ?_); refine kr ?_ ?_ (pops_end ?_)
        refine kn ?_; repeat (first | with_reducible refine blk_n ?_ | with_reducible refine beh_n ?_)
        (repeat refine ka ?_); refine kr ?_ ?_ (pops_end ?_)
        (repeat refine ka ?_); refine kct ?_
        (repeat refine ka ?_); refine kr ?_ ?_ ?_
        refine ps_store ?_
        refine pops_go ?_ ?_ (pops_end ?_)
        (repeat refine ka ?_); refine kret ?_; repeat (first | with_reducible refine beh_r ?_ | with_reducible refine blk_r ?_)
        refine ends_ret ?_ (retPV_2 res_cella res_tmp)
        exact gives_two (gives_agg2 .nil .nil) (.same (.v _))
      | false =>
        rw [if_neg (by decide)] at hf
        simp only [Bool.not_false] at c1
        by_cases hnm : x.k = 2 ∨ x.k = 3 ∨ x.k = 5
        · rw [decide_eq_true hnm] at c2
          cases is with
          | false =>
            rw [if_pos ⟨hnm, rfl⟩] at hf
            rw [hf]
            (repeat refine ka ?_); refine kr ?_ ?_ (pops_end ?_)
            (repeat refine ka ?_); refine kct ?_
            (repeat refine ka ?_); refine ksk ?_
            (repeat refine ka ?_); refine kb ?_
            (repeat refine ka ?_); refine kr ?_ ?_ ?_
            refine ps_alloc fun g2 => ?_
            refine ps_store ?_
            refine pops_nil ?_
            (repeat refine ka ?_); refine kr ?_ ?_ (pops_end ?_)
            simp only [hm1, hm2]
            (repeat refine ka ?_); refine kr ?_ ?_ (pops_end ?_)
            (repeat refine ka ?_); refine kb ?_
            (repeat refine ka ?_); refine kr ?_ ?_ ?_
            refine ps_pcall c1 ?_
            refine pops_go ?_ ?_ (pops_end ?_)
            (repeat refine ka ?_); refine kcf ?_
            (repeat refine ka ?_); refine kr ?_ ?_ ?_
            refine ps_pcall c2 ?_
            refine pops_go ?_ ?_ (pops_end ?_)
            (repeat refine ka ?_); refine kct ?_
            (repeat refine ka ?_); refine kr ?_ ?_ (pops_end ?_)
            refine kn ?_; repeat (first | with_reducible refine blk_n ?_ | with_reducible refine beh_n ?_)
            (repeat refine ka ?_); refine kr ?_ ?_ (pops_end ?_)
            (repeat refine ka ?_); refine kct ?_
            (repeat refine ka ?_); refine kr ?_ ?_ ?_
            refine ps_store ?_
            refine pops_go ?_ ?_ (pops_end ?_)
            (repeat refine ka ?_); refine kret ?_; repeat (first | with_reducible refine beh_r ?_ | with_reducible refine blk_r ?_)
            refine ends_ret ?_ (retPV_2 res_cella res_tmp)
            exact gives_two (gives_agg2 .nil .nil) (.same (.v _))
          | true =>
            rw [if_neg (by rintro ⟨_, h⟩; cases h)] at hf
            by_cases he : e = 0
            · rw [if_pos he] at hf
              subst he
              (repeat refine ka ?_); refine kr ?_ ?_ (pops_end ?_)
              (repeat refine ka ?_); refine kct ?_
              (repeat refine ka ?_); refine ksk ?_
              (repeat refine ka ?_); refine kb ?_
              (repeat refine ka ?_); refine kr ?_ ?_ ?_
              refine ps_alloc fun g2 => ?_
              refine ps_store ?_
              refine pops_nil ?_
              (repeat refine ka ?_); refine kr ?_ ?_ (pops_end ?_)
              simp only [hm1, hm2]
              (repeat refine ka ?_); refine kr ?_ ?_ (pops_end ?_)
              (repeat refine ka ?_); refine kb ?_
              (repeat refine ka ?_); refine kr ?_ ?_ ?_
              refine ps_pcall c1 ?_
              refine pops_go ?_ ?_ (pops_end ?_)
              (repeat refine ka ?_); refine kcf ?_
              (repeat refine ka ?_); refine kr ?_ ?_ ?_
              refine ps_pcall c2 ?_
              refine pops_go ?_ ?_ (pops_end ?_)
              (repeat refine ka ?_); refine kcf ?_
              (repeat refine ka ?_); refine kr ?_ ?_ ?_
              refine ps_fcall [1, 2, 3] (c3 g1 gw gr) ?_ (by rintro x S' ⟨g, g', rfl, rfl⟩; exact Nat.le_of_ble_eq_true rfl) (hS := by simp only [List.map_cons, List.map_nil, renB, ren_ints, ren_rels]; rfl)
              rintro y S' ⟨gw', gr', rfl, rfl⟩
              (intro x1 S1 hx1 hS1; simp only [List.map_cons, List.map_nil, renB, ren_ints, ren_rels, putB, List.set_cons_zero, List.set_cons_succ, List.cons_append, List.nil_append, List.append_nil, renL, ren, sg, List.length_cons, List.length_nil, Nat.reduceAdd, Nat.zero_add, Nat.add_zero] at hx1 hS1; subst hx1 hS1)
              refine pops_go ?_ ?_ (pops_end ?_)
              refine kn ?_; repeat (first | with_reducible refine blk_n ?_ | with_reducible refine beh_n ?_)
              (repeat refine ka ?_); refine kr ?_ ?_ (pops_end ?_)
              (repeat refine ka ?_); refine kcf ?_
              (repeat refine ka ?_); refine ksk ?_
              refine kn ?_; repeat (first | with_reducible refine blk_n ?_ | with_reducible refine beh_n ?_)
              (repeat refine ka ?_); refine kr ?_ ?_ (pops_end ?_)
              refine kn ?_; repeat (first | with_reducible refine blk_n ?_ | with_reducible refine beh_n ?_)
              refine ⟨(i + 1, gw', gr', W ++ ws, R ++ rs), ⟨by simp only; omega, hf, by simp only [List.length_append]; omega, by simp only [List.length_append]; omega⟩, by simp only; omega, ?_⟩
              simp only [List.length_append]
              exact (holds 4 (by repeat (first | exact .nil | refine has1 ?_)))
            · rw [if_neg he] at hf
              rw [hf]
              (repeat refine ka ?_); refine kr ?_ ?_ (pops_end ?_)
              (repeat refine ka ?_); refine kct ?_
              (repeat refine ka ?_); refine ksk ?_
              (repeat refine ka ?_); refine kb ?_
              (repeat refine ka ?_); refine kr ?_ ?_ ?_
              refine ps_alloc fun g2 => ?_
              refine ps_store ?_
              refine pops_nil ?_
              (repeat refine ka ?_); refine kr ?_ ?_ (pops_end ?_)
              simp only [hm1, hm2]
              (repeat refine ka ?_); refine kr ?_ ?_ (pops_end ?_)
              (repeat refine ka ?_); refine kb ?_
              (repeat refine ka ?_); refine kr ?_ ?_ ?_
              refine ps_pcall c1 ?_
              refine pops_go ?_ ?_ (pops_end ?_)
              (repeat refine ka ?_); refine kcf ?_
              (repeat refine ka ?_); refine kr ?_ ?_ ?_
              refine ps_pcall c2 ?_
              refine pops_go ?_ ?_ (pops_end ?_)
              (repeat refine ka ?_); refine kcf ?_
              (repeat refine ka ?_); refine kr ?_ ?_ ?_
              refine ps_fcall [1, 2, 3] (c3 g1 gw gr) ?_ (by rintro x S' ⟨g, g', rfl, rfl⟩; exact Nat.le_of_ble_eq_true rfl) (hS := by simp only [List.map_cons, List.map_nil, renB, ren_ints, ren_rels]; rfl)
              rintro y S' ⟨gw', gr', rfl, rfl⟩
              (intro x1 S1 hx1 hS1; simp only [List.map_cons, List.map_nil, renB, ren_ints, ren_rels, putB, List.set_cons_zero, List.set_cons_succ, List.cons_append, List.nil_append, List.append_nil, renL, ren, sg, List.length_cons, List.length_nil, Nat.reduceAdd, Nat.zero_add, Nat.add_zero] at hx1 hS1; subst hx1 hS1)
              refine pops_go ?_ ?_ (pops_end ?_)
              refine kn ?_; repeat (first | with_reducible refine blk_n ?_ | with_reducible refine beh_n ?_)
              (repeat refine ka ?_); refine kr ?_ ?_ (pops_end ?_)
              (repeat refine ka ?_); refine kct ?_
              (repeat refine ka ?_); refine kr ?_ ?_ ?_
              refine ps_store ?_
              refine pops_go ?_ ?_ (pops_end ?_)
              (repeat refine ka ?_); refine kret ?_; repeat (first | with_reducible refine beh_r ?_ | with_reducible refine blk_r ?_)
              refine ends_ret ?_ (retPV_2 res_cella res_tmp)
              exact gives_two (gives_agg2 .nil .nil) (.same (.v _))
        · rw [decide_eq_false hnm] at c2
          rw [if_neg (fun h => hnm h.1)] at hf
          by_cases he : e = 0
          · rw [if_pos he] at hf
            subst he
            (repeat refine ka ?_); refine kr ?_ ?_ (pops_end ?_)
            (repeat refine ka ?_); refine kct ?_
            (repeat refine ka ?_); refine ksk ?_
            (repeat refine ka ?_); refine kb ?_
            (repeat refine ka ?_); refine kr ?_ ?_ ?_
            refine ps_alloc fun g2 => ?_
            refine ps_store ?_
            refine pops_nil ?_
            (repeat refine ka ?_); refine kr ?_ ?_ (pops_end ?_)
            simp only [hm1, hm2]
            (repeat refine ka ?_); refine kr ?_ ?_ (pops_end ?_)
            (repeat refine ka ?_); refine kb ?_
            (repeat refine ka ?_); refine kr ?_ ?_ ?_
            refine ps_pcall c1 ?_
            refine pops_go ?_ ?_ (pops_end ?_)
            (repeat refine ka ?_); refine kcf ?_
            (repeat refine ka ?_); refine kr ?_ ?_ ?_
            refine ps_pcall c2 ?_
            refine pops_go ?_ ?_ (pops_end ?_)
            (repeat refine ka ?_); refine kcf ?_
            (repeat refine ka ?_); refine kr ?_ ?_ ?_
            refine ps_fcall [1, 2, 3] (c3 g1 gw gr) ?_ (by rintro x S' ⟨g, g', rfl, rfl⟩; exact Nat.le_of_ble_eq_true rfl) (hS := by simp only [List.map_cons, List.map_nil, renB, ren_ints, ren_rels]; rfl)
            rintro y S' ⟨gw', gr', rfl, rfl⟩
            (intro x1 S1 hx1 hS1; simp only [List.map_cons, List.map_nil, renB, ren_ints, ren_rels, putB, List.set_cons_zero, List.set_cons_succ, List.cons_append, List.nil_append, List.append_nil, renL, ren, sg, List.length_cons, List.length_nil, Nat.reduceAdd, Nat.zero_add, Nat.add_zero] at hx1 hS1; subst hx1 hS1)
            refine pops_go ?_ ?_ (pops_end ?_)
            refine kn ?_; repeat (first | with_reducible refine blk_n ?_ | with_reducible refine beh_n ?_)
            (repeat refine ka ?_); refine kr ?_ ?_ (pops_end ?_)
            (repeat refine ka ?_); refine kcf ?_
            (repeat refine ka ?_); refine ksk ?_
            refine kn ?_; repeat (first | with_reducible refine blk_n ?_ | with_reducible refine beh_n ?_)
            (repeat refine ka ?_); refine kr ?_ ?_ (pops_end ?_)
            refine kn ?_; repeat (first | with_reducible refine blk_n ?_ | with_reducible refine beh_n ?_)
            refine ⟨(i + 1, gw', gr', W ++ ws, R ++ rs), ⟨by simp only; omega, hf, by simp only [List.length_append]; omega, by simp only [List.length_append]; omega⟩, by simp only; omega, ?_⟩
            simp only [List.length_append]
            exact (holds 4 (by repeat (first | exact .nil | refine has1 ?_)))
          · rw [if_neg he] at hf
            rw [hf]
            (repeat refine ka ?_); refine kr ?_ ?_ (pops_end ?_)
            (repeat refine ka ?_); refine kct ?_
            (repeat refine ka ?_); refine ksk ?_
            (repeat refine ka ?_); refine kb ?_
            (repeat refine ka ?_); refine kr ?_ ?_ ?_
            refine ps_alloc fun g2 => ?_
            refine ps_store ?_
            refine pops_nil ?_
            (repeat refine ka ?_); refine kr ?_ ?_ (pops_end ?_)
            simp only [hm1, hm2]
            (repeat refine ka ?_); refine kr ?_ ?_ (pops_end ?_)
            (repeat refine ka ?_); refine kb ?_
            (repeat refine ka ?_); refine kr ?_ ?_ ?_
            refine ps_pcall c1 ?_
            refine pops_go ?_ ?_ (pops_end ?_)
            (repeat refine ka ?_); refine kcf ?_
            (repeat refine ka ?_); refine kr ?_ ?_ ?_
            refine ps_pcall c2 ?_
            refine pops_go ?_ ?_ (pops_end ?_)
            (repeat refine ka ?_); refine kcf ?_
            (repeat refine ka ?_); refine kr ?_ ?_ ?_
            refine ps_fcall [1, 2, 3] (c3 g1 gw gr) ?_ (by rintro x S' ⟨g, g', rfl, rfl⟩; exact Nat.le_of_ble_eq_true rfl) (hS := by simp only [List.map_cons, List.map_nil, renB, ren_ints, ren_rels]; rfl)
            rintro y S' ⟨gw', gr', rfl, rfl⟩
            (intro x1 S1 hx1 hS1; simp only [List.map_cons, List.map_nil, renB, ren_ints, ren_rels, putB, List.set_cons_zero, List.set_cons_succ, List.cons_append, List.nil_append, List.append_nil, renL, ren, sg, List.length_cons, List.length_nil, Nat.reduceAdd, Nat.zero_add, Nat.add_zero] at hx1 hS1; subst hx1 hS1)
            refine pops_go ?_ ?_ (pops_end ?_)
            refine kn ?_; repeat (first | with_reducible refine blk_n ?_ | with_reducible refine beh_n ?_)
            (repeat refine ka ?_); refine kr ?_ ?_ (pops_end ?_)
            (repeat refine ka ?_); refine kct ?_
            (repeat refine ka ?_); refine kr ?_ ?_ ?_
            refine ps_store ?_
            refine pops_go ?_ ?_ (pops_end ?_)
            (repeat refine ka ?_); refine kret ?_; repeat (first | with_reducible refine beh_r ?_ | with_reducible refine blk_r ?_)
            refine ends_ret ?_ (retPV_2 res_cella res_tmp)
            exact gives_two (gives_agg2 .nil .nil) (.same (.v _))
    · have hz : L.drop i = [] := List.drop_eq_nil_of_le (by omega)
      rw [hz, bGo] at hf
      rw [hf]
      (repeat refine ka ?_); refine kr ?_ ?_ (pops_end ?_)
      (repeat refine ka ?_); refine kcf ?_
      (repeat refine ka ?_); refine kx ?_; (repeat (first | with_reducible refine beh_x ?_ | with_reducible refine blk_up rfl ?_)); refine blk_here ?_; refine beh_n ?_
      (repeat refine ka ?_); refine kr ?_ ?_ ?_
      refine ps_store ?_
      refine pops_go ?_ ?_ (pops_end ?_)
      (repeat refine ka ?_); refine kret ?_; repeat (first | with_reducible refine beh_r ?_ | with_reducible refine blk_r ?_)
      refine ends_ret ?_ (retPV_2 res_cella res_tmp)
      exact gives_two (gives_agg2 (gives_ints rfl rfl rfl) (gives_rows rfl rfl hRl (relRows_pure _))) (.same (.v _))
  · rw [if_neg hle]
    (repeat refine ka ?_); refine kr ?_ ?_ ?_
    refine ps_pcall c0 ?_
    refine pops_go ?_ ?_ (pops_end ?_)
    (repeat refine ka ?_); refine kr ?_ ?_ (pops_end ?_)
    (repeat refine ka ?_); refine kct ?_
    (repeat refine ka ?_); refine kr ?_ ?_ ?_
    refine ps_store ?_
    refine pops_go ?_ ?_ (pops_end ?_)
    (repeat refine ka ?_); refine kret ?_; repeat (first | with_reducible refine beh_r ?_ | with_reducible refine blk_r ?_)
    refine ends_ret ?_ (retPV_2 res_cella res_tmp)
    exact gives_two (gives_agg2 .nil .nil) (.same (.v _))
end Go.Proofs.Ytgbfbcbblndnoaa.Pv
