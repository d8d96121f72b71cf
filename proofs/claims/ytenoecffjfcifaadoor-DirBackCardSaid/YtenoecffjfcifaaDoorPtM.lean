-- path.Set.
import Derived.Test.YtenoecffjfcifaaDoorMr
import Derived.Test.YtenoecffjfcifaaDoorFz
import Derived.Test.YtenoecffjfcifaaDoorPtL
namespace Go.Proofs.YtenoecffjfcifaaDoor.Pv
set_option linter.all false
set_option linter.unusedVariables false
open Go.RowKit Go.Proofs
set_option maxRecDepth 100000
set_option maxHeartbeats 4000000
theorem mfind_put_same (k : ByteArray) (z : Int) : ∀ es, mfind k (mput k z es) = some z
  | [] => by simp [mput, mfind, mpos]
  | (s, y) :: es => by
    have ih := mfind_put_same k z es
    unfold mfind at ih ⊢
    rw [mput]
    by_cases h : k = s
    · rw [if_pos h, mpos, if_pos h]; rfl
    · rw [if_neg h, mpos, if_neg h, Option.map_map]
      exact ih
theorem mfind_put_other {k k' : ByteArray} (z : Int) (hne : k ≠ k') : ∀ es, mfind k (mput k' z es) = mfind k es
  | [] => by simp [mput, mfind, mpos, hne]
  | (s, y) :: es => by
    have ih := mfind_put_other z hne es
    unfold mfind at ih ⊢
    rw [mput]
    by_cases h : k' = s
    · subst h
      rw [if_pos rfl, mpos, if_neg hne, mpos, if_neg hne]
    · rw [if_neg h, mpos, mpos]
      by_cases h2 : k = s
      · rw [if_pos h2, if_pos h2]
      · rw [if_neg h2, if_neg h2, Option.map_map, Option.map_map]
        try exact ih
theorem mput_keys (k : ByteArray) (z : Int) : ∀ (es : List (ByteArray × Int)) (q : ByteArray), q ∈ (mput k z es).map (·.1) ↔ q = k ∨ q ∈ es.map (·.1)
  | [], q => by simp [mput]
  | (s, y) :: es, q => by
    rw [mput]
    by_cases h : k = s
    · subst h
      rw [if_pos rfl]
      simp
    · rw [if_neg h, List.map_cons, List.mem_cons, mput_keys k z es q, List.map_cons, List.mem_cons]
      simp only
      constructor
      · rintro (h | h | h)
        · exact .inr (.inl h)
        · exact .inl h
        · exact .inr (.inr h)
      · rintro (h | h | h)
        · exact .inr (.inl h)
        · exact .inl h
        · exact .inr (.inr h)
theorem str_inj06 {a b : List Int} (ha : Oct a) (hb : Oct b) : str a = str b ↔ a = b := by
  constructor
  · intro h
    have := str_eq ha hb
    rw [h] at this
    simpa using this
  · rintro rfl; rfl
/-- How often each text is there. -/
def cntM (L : List (List Int)) : List (ByteArray × Int) := L.foldl (fun es x => mput (str x) ((mfind (str x) es).getD 0 + 1) es) []
theorem cntM_app (L : List (List Int)) (x : List Int) : cntM (L ++ [x]) = mput (str x) ((mfind (str x) (cntM L)).getD 0 + 1) (cntM L) := by
  unfold cntM
  rw [List.foldl_append]
  rfl
theorem cntM_ind {Pr : List (List Int) → Prop} (h0 : Pr []) (h1 : ∀ L x, Pr L → Pr (L ++ [x])) (L : List (List Int)) : Pr L := by
  have : ∀ n (L : List (List Int)), L.length = n → Pr L := by
    intro n
    induction n with
    | zero => intro L hL; rw [List.length_eq_zero_iff.1 hL]; exact h0
    | succ n ih =>
      intro L hL
      have hne : L ≠ [] := by intro h; subst h; simp at hL
      rw [← List.dropLast_concat_getLast hne]
      exact h1 _ _ (ih _ (by rw [List.length_dropLast]; omega))
  exact this _ L rfl
theorem cntM_find (y : List Int) (hy : Oct y) (L : List (List Int)) : (∀ x ∈ L, Oct x) → (mfind (str y) (cntM L)).getD 0 = (L.count y : Int) := by
  induction L using cntM_ind with
  | h0 => intro _; rfl
  | h1 L x ih =>
    intro ho
    have ih := ih fun z hz => ho z (by simp [hz])
    have hx : Oct x := ho x (by simp)
    rw [cntM_app, List.count_append]
    by_cases e : y = x
    · subst e
      rw [mfind_put_same]
      simp [ih]
    · rw [mfind_put_other _ (fun h => e ((str_inj06 hy hx).1 h)), ih]
      have : List.count y [x] = 0 := by
        rw [List.count_singleton]
        simp
        exact fun h => e h.symm
      rw [this]
      rfl
theorem cntM_keys (L : List (List Int)) (q : ByteArray) : q ∈ (cntM L).map (·.1) ↔ ∃ x ∈ L, q = str x := by
  induction L using cntM_ind with
  | h0 => simp [cntM]
  | h1 L x ih =>
    rw [cntM_app, mput_keys, ih]
    constructor
    · rintro (h | ⟨y, h1, h2⟩)
      · exact ⟨x, by simp, h⟩
      · exact ⟨y, by simp [h1], h2⟩
    · rintro ⟨y, h1, h2⟩
      rcases List.mem_append.1 h1 with h1 | h1
      · exact .inr ⟨y, h1, h2⟩
      · simp at h1
        subst h1
        exact .inl h2
/-- Where a / stands, what is ahead of it is there. -/
def begins (L : List (List Int)) (y : List Int) (q : Nat) : Prop := y.getD q 0 = 47 ∧ q < y.length ∧ y.take q ∈ L
theorem clashes_iff (L : List (List Int)) : clashes L ↔ ¬ L.Nodup ∨ ∃ y ∈ L, ∃ q, begins L y q := by
  constructor
  · rintro ⟨i, hi, k, hk, h | h⟩
    · refine .inl fun hn => h.1 ?_
      have h2 := h.2
      rw [List.getD_eq_getElem?_getD, List.getD_eq_getElem?_getD, List.getElem?_eq_getElem hi, List.getElem?_eq_getElem hk] at h2
      exact (List.getElem?_inj hi hn).1 (by rw [List.getElem?_eq_getElem hi, List.getElem?_eq_getElem hk]; exact congrArg some h2)
    · refine .inr ⟨L.getD i [], ?_, (L.getD k []).length, h.2.2, h.1, ?_⟩
      · rw [List.getD_eq_getElem?_getD, List.getElem?_eq_getElem hi]; exact List.getElem_mem hi
      · rw [h.2.1, List.getD_eq_getElem?_getD, List.getElem?_eq_getElem hk]; exact List.getElem_mem hk
  · rintro (h | ⟨y, hy, q, h1, h2, h3⟩)
    · refine Classical.byContradiction fun hc => h ?_
      unfold List.Nodup
      rw [List.pairwise_iff_getElem]
      intro i j hi hj hij he
      refine hc ⟨i, hi, j, hj, .inl ⟨by omega, ?_⟩⟩
      rw [List.getD_eq_getElem?_getD, List.getD_eq_getElem?_getD, List.getElem?_eq_getElem hi, List.getElem?_eq_getElem hj, he]
    · obtain ⟨i, hi, rfl⟩ := List.getElem_of_mem hy
      obtain ⟨k, hk, hke⟩ := List.getElem_of_mem h3
      refine ⟨i, hi, k, hk, .inr ?_⟩
      rw [List.getD_eq_getElem?_getD, List.getD_eq_getElem?_getD, List.getElem?_eq_getElem hi, List.getElem?_eq_getElem hk, hke]
      simp only [Option.getD_some]
      have hl : (L[i].take q).length = q := by rw [List.length_take]; omega
      exact ⟨by omega, by rw [hl], by rw [hl]; exact h1⟩
theorem nodup_app {L : List (List Int)} {x : List Int} : (L ++ [x]).Nodup ↔ L.Nodup ∧ x ∉ L := by
  rw [List.nodup_append]
  constructor
  · rintro ⟨h1, _, h3⟩
    exact ⟨h1, fun h => h3 x h x (by simp) rfl⟩
  · rintro ⟨h1, h2⟩
    exact ⟨h1, by simp, by intro a ha b hb h; simp at hb; subst hb; subst h; exact h2 ha⟩
theorem pset_ok (L : List (List Int)) (ho : ∀ x ∈ L, Oct x) (hl : L.length ≤ 1000000) (hs : ∀ x ∈ L, x.length ≤ 1000000000) : PCall Tryd.prog 26 [.ro 1 false (strRows L)] (.v (.int .i64 (rsetF L))) := by
  have la := strRows_length L
  by_cases hn : (200 : Int) < L.length
  · rw [rsetF, if_pos (by omega)]
    refine pcall_mk Tryd.func26 rfl [.tmp 2] Tryd.results26 58 rfl (tk_start ?_)
    (repeat refine ka ?_); refine kr ?_ ?_ (pops_end ?_)
    (repeat refine ka ?_); refine ksc ?_
    (repeat refine ka ?_); refine kr ?_ ?_ (pops_end ?_)
    (repeat refine ka ?_); refine kct ?_
    (repeat refine ka ?_); refine kr ?_ ?_ (pops_end ?_)
    (repeat refine ka ?_); refine kret ?_; repeat (first | with_reducible refine beh_r ?_ | with_reducible refine blk_r ?_)
    refine ends_ret ?_ retPV_one
    rfl
  have hn' : ¬ 200 < L.length := by omega
  refine pcall_mk Tryd.func26 rfl [.tmp 2] Tryd.results26 58 rfl (tk_start ?_)
  (repeat refine ka ?_); refine kr ?_ ?_ (pops_end ?_)
  (repeat refine ka ?_); refine ksc ?_
  (repeat refine ka ?_); refine kr ?_ ?_ (pops_end ?_)
  (repeat refine ka ?_); refine kcf ?_
  (repeat refine ka ?_); refine ksk ?_
  (repeat refine ka ?_); refine kr ?_ ?_ ?_
  refine ps_mkmap fun g0 => ?_
  refine pops_go ?_ ?_ (pops_end ?_)
  (repeat refine ka ?_); refine kr ?_ ?_ (pops_end ?_)
  (repeat refine ka ?_); refine kr ?_ ?_ (pops_end ?_)
  (repeat refine ka ?_); refine kb ?_
  refine kw (fun i : Nat => [(0, .ro 1 false (strRows L)), (3, .mp 0 g0), (4, .v (.bool (decide (¬ (L.take i).Nodup)))), (14, .ro 1 false (strRows L)), (15, .v (.int .i64 (strRows L).length)), (16, .v (.int .i64 i))]) (fun i => [⟨g0, true, 0, [[.rmp (cntM (L.take i))]]⟩]) (fun i => i ≤ L.length ∧ ∀ x ∈ L.take i, rmayP x) (fun i => L.length - i) 0 ⟨Nat.zero_le _, by simp⟩ ?_ ?_
  · rw [show decide (¬ (L.take 0).Nodup) = false by simp]
    exact (holds 1 (by repeat (first | exact .nil | refine has1 ?_)))
  rintro i ⟨hi, ha⟩
  by_cases h : i < L.length
  · obtain ⟨x, hx⟩ : ∃ x, L[i]? = some x := ⟨L[i], by simp [h]⟩
    have r1 := strRows_get hx
    have hm := List.mem_of_getElem? hx
    have ox := ho x hm
    have c := pmay_ok x ox (hs x hm)
    have htk : L.take (i + 1) = L.take i ++ [x] := by
      obtain ⟨h1, h2⟩ := List.getElem?_eq_some_iff.1 hx
      rw [List.take_succ_eq_append_getElem h1, h2]
    by_cases k : rmayP x
    · rw [decide_eq_true k] at c
      have hcf := cntM_find x ox (L.take i) (fun y hy => ho y (List.mem_of_mem_take hy))
      have hcb : (mfind (str x) (cntM (L.take i))).getD 0 ≤ 200 := by
        rw [hcf]
        have := List.count_le_length (a := x) (l := L.take i)
        have := List.length_take_le i L
        omega
      have hc0 : 0 ≤ (mfind (str x) (cntM (L.take i))).getD 0 := by rw [hcf]; omega
      have hap := cntM_app (L.take i) x
      rw [← htk] at hap
      have hcf2 := cntM_find x ox (L.take (i + 1)) (fun y hy => ho y (List.mem_of_mem_take hy))
      rw [hap] at hcf2
      by_cases hnd : (L.take i).Nodup
      · rw [decide_eq_false (Classical.not_not.2 hnd)]
        by_cases hin : x ∈ L.take i
        · have hcp : 0 < List.count x (L.take i) := List.count_pos_iff.2 hin
          have hct : List.count x (L.take (i + 1)) = List.count x (L.take i) + 1 := by rw [htk, List.count_append]; simp
          have hgt : (mfind (str x) (mput (str x) ((mfind (str x) (cntM (L.take i))).getD 0 + 1) (cntM (L.take i)))).getD 0 > 1 := by rw [hcf2]; omega
          (repeat refine ka ?_); refine kr ?_ ?_ (pops_end ?_)
          (repeat refine ka ?_); refine kct ?_
          (repeat refine ka ?_); refine ksk ?_
          (repeat refine ka ?_); refine kb ?_
          (repeat refine ka ?_); refine kr ?_ ?_ (pops_end ?_)
          (repeat refine ka ?_); refine kr ?_ ?_ ?_
          refine ps_pcall c ?_
          refine pops_go ?_ ?_ (pops_end ?_)
          (repeat refine ka ?_); refine kcf ?_
          (repeat refine ka ?_); refine ksk ?_
          (repeat refine ka ?_); refine kr ?_ ?_ ?_
          refine ps_mapu ?_ (he := rfl)
          refine pops_nil ?_
          (repeat refine ka ?_); refine kr ?_ ?_ (pops_end ?_)
          refine kn ?_; repeat (first | with_reducible refine blk_n ?_ | with_reducible refine beh_n ?_)
          (repeat refine ka ?_); refine kr ?_ ?_ (pops_end ?_)
          refine kn ?_; repeat (first | with_reducible refine blk_n ?_ | with_reducible refine beh_n ?_)
          refine ⟨i + 1, ⟨by omega, fun y hy => ?_⟩, by omega, ?_⟩
          · rw [htk] at hy
            rcases List.mem_append.1 hy with hy | hy
            · exact ha y hy
            · rw [List.mem_singleton] at hy
              rw [hy]
              exact k
          · rw [hap, show decide (¬ (L.take (i + 1)).Nodup) = true from decide_eq_true (by rw [htk, nodup_app]; exact fun hh => hh.2 hin)]
            exact (holds 1 (by repeat (first | exact .nil | refine has1 ?_)))
        · have hcp : List.count x (L.take i) = 0 := List.count_eq_zero.2 hin
          have hct : List.count x (L.take (i + 1)) = List.count x (L.take i) + 1 := by rw [htk, List.count_append]; simp
          have hgt : ¬ (mfind (str x) (mput (str x) ((mfind (str x) (cntM (L.take i))).getD 0 + 1) (cntM (L.take i)))).getD 0 > 1 := by rw [hcf2]; omega
          (repeat refine ka ?_); refine kr ?_ ?_ (pops_end ?_)
          (repeat refine ka ?_); refine kct ?_
          (repeat refine ka ?_); refine ksk ?_
          (repeat refine ka ?_); refine kb ?_
          (repeat refine ka ?_); refine kr ?_ ?_ (pops_end ?_)
          (repeat refine ka ?_); refine kr ?_ ?_ ?_
          refine ps_pcall c ?_
          refine pops_go ?_ ?_ (pops_end ?_)
          (repeat refine ka ?_); refine kcf ?_
          (repeat refine ka ?_); refine ksk ?_
          (repeat refine ka ?_); refine kr ?_ ?_ ?_
          refine ps_mapu ?_ (he := rfl)
          refine pops_nil ?_
          (repeat refine ka ?_); refine kr ?_ ?_ (pops_end ?_)
          refine kn ?_; repeat (first | with_reducible refine blk_n ?_ | with_reducible refine beh_n ?_)
          (repeat refine ka ?_); refine kr ?_ ?_ (pops_end ?_)
          refine kn ?_; repeat (first | with_reducible refine blk_n ?_ | with_reducible refine beh_n ?_)
          refine ⟨i + 1, ⟨by omega, fun y hy => ?_⟩, by omega, ?_⟩
          · rw [htk] at hy
            rcases List.mem_append.1 hy with hy | hy
            · exact ha y hy
            · rw [List.mem_singleton] at hy
              rw [hy]
              exact k
          · rw [hap, show decide (¬ (L.take (i + 1)).Nodup) = false from decide_eq_false (Classical.not_not.2 (by rw [htk, nodup_app]; exact ⟨hnd, hin⟩))]
            exact (holds 1 (by repeat (first | exact .nil | refine has1 ?_)))
      · rw [decide_eq_true hnd]
        (repeat refine ka ?_); refine kr ?_ ?_ (pops_end ?_)
        (repeat refine ka ?_); refine kct ?_
        (repeat refine ka ?_); refine ksk ?_
        (repeat refine ka ?_); refine kb ?_
        (repeat refine ka ?_); refine kr ?_ ?_ (pops_end ?_)
        (repeat refine ka ?_); refine kr ?_ ?_ ?_
        refine ps_pcall c ?_
        refine pops_go ?_ ?_ (pops_end ?_)
        (repeat refine ka ?_); refine kcf ?_
        (repeat refine ka ?_); refine ksk ?_
        (repeat refine ka ?_); refine kr ?_ ?_ ?_
        refine ps_mapu ?_ (he := rfl)
        refine pops_nil ?_
        (repeat refine ka ?_); refine kr ?_ ?_ (pops_end ?_)
        refine kn ?_; repeat (first | with_reducible refine blk_n ?_ | with_reducible refine beh_n ?_)
        (repeat refine ka ?_); refine kr ?_ ?_ (pops_end ?_)
        refine kn ?_; repeat (first | with_reducible refine blk_n ?_ | with_reducible refine beh_n ?_)
        refine ⟨i + 1, ⟨by omega, fun y hy => ?_⟩, by omega, ?_⟩
        · rw [htk] at hy
          rcases List.mem_append.1 hy with hy | hy
          · exact ha y hy
          · rw [List.mem_singleton] at hy
            rw [hy]
            exact k
        · rw [hap, show decide (¬ (L.take (i + 1)).Nodup) = true from decide_eq_true (by rw [htk, nodup_app]; exact fun hh => hnd hh.1)]
          exact (holds 1 (by repeat (first | exact .nil | refine has1 ?_)))
    · rw [decide_eq_false k] at c
      rw [rsetF, if_neg hn', if_neg (fun hall => k (hall x hm))]
      (repeat refine ka ?_); refine kr ?_ ?_ (pops_end ?_)
      (repeat refine ka ?_); refine kct ?_
      (repeat refine ka ?_); refine ksk ?_
      (repeat refine ka ?_); refine kb ?_
      (repeat refine ka ?_); refine kr ?_ ?_ (pops_end ?_)
      (repeat refine ka ?_); refine kr ?_ ?_ ?_
      refine ps_pcall c ?_
      refine pops_go ?_ ?_ (pops_end ?_)
      (repeat refine ka ?_); refine kct ?_
      (repeat refine ka ?_); refine kr ?_ ?_ (pops_end ?_)
      (repeat refine ka ?_); refine kret ?_; repeat (first | with_reducible refine beh_r ?_ | with_reducible refine blk_r ?_)
      refine ends_ret ?_ retPV_one
      rfl
  · obtain rfl : i = L.length := by omega
    rw [List.take_length] at ha ⊢
    (repeat refine ka ?_); refine kr ?_ ?_ (pops_end ?_)
    (repeat refine ka ?_); refine kcf ?_
    (repeat refine ka ?_); refine kx ?_; (repeat (first | with_reducible refine beh_x ?_ | with_reducible refine blk_up rfl ?_)); refine blk_here ?_; refine beh_n ?_
    (repeat refine ka ?_); refine klab ?_
    refine ka ?_
    have hcl := clashes_iff L
    have hfin : rsetF L = if clashes L then 7 else 0 := by rw [rsetF, if_neg hn', if_pos ha]
    generalize htw : decide (¬ L.Nodup) = tw
    refine kfreeze 0 ?_
    refine kmr (τ := 0) 1 (fun r => [(36, .v (.pointer (some ⟨r, 0, none⟩))), (3, .mp 0 g0), (4, .v (.bool tw))]) (fun r s => [(7, .v (.string s)), (36, .v (.pointer (some ⟨r, 0, none⟩))), (3, .mp 0 g0), (4, .v (.bool tw))]) (fun I => ∀ j ∈ I, ∀ y ∈ L, ∀ z, (cntM L)[j]? = some (str y, z) → ∀ q, ¬ begins L y q) ?_ ?_ ?_ (by simp) ?_ ?_
    · refine pops_go ?_ ?_ (pops_end ?_)
      exact ⟨rfl, rfl, rfl, fun r => (by repeat (first | exact .nil | refine has1 ?_))⟩
    · rintro r x b ⟨y, rfl⟩
      refine pops_go ?_ ?_ (pops_end ?_)
      exact ⟨rfl, rfl, (by repeat (first | exact .nil | refine has1 ?_)), rfl⟩
    · intro r s z
      refine pops_go ?_ ?_ (pops_end ?_)
      exact ⟨rfl, (by repeat (first | exact .nil | refine has1 ?_)), rfl⟩
    · intro r I i s z hi hiI hV
      obtain ⟨y, hyL, rfl⟩ := (cntM_keys L s).1 (List.mem_map.2 ⟨_, List.mem_of_getElem? hi, rfl⟩)
      have oy := ho y hyL
      have ly := hs y hyL
      have my := (rmay_iff y).1 (ha y hyL)
      have hsz : (str y).size = y.length := by simp [str, ByteArray.size]
      (repeat refine ka ?_); refine kr ?_ ?_ ?_
      refine ps_rangeS fun g1 => ?_
      refine pops_nil ?_
      (repeat refine ka ?_); refine kb ?_
      refine kw (fun q : Nat => [(7, PV.v (.string (str y))), (36, .v (.pointer (some ⟨r, 0, none⟩))), (3, .mp 0 g0), (4, .v (.bool tw)), (42, .it 1 g1)]) (fun q => [⟨g0, false, 0, [[.rmp (cntM L)]]⟩, ⟨g1, true, 0, [[.v (.string (str y)), .v (.int .i64 ((q : Nat) : Int))]]⟩]) (fun q => q ≤ y.length ∧ ∀ p, p < q → ¬ begins L y p) (fun q => y.length - q) 0 ⟨Nat.zero_le _, by intro p hp; omega⟩ (holds 2 (by repeat (first | exact .nil | refine has1 ?_))) ?_
      rintro q ⟨hq, hp⟩
      by_cases hlt : q < y.length
      · have hok := my.2.1 _ (getD_mem hlt)
        have hd := decode_lo y oy q hlt (by have := hok.2.1; omega)
        have hc := cntM_find (y.take q) (oct_take oy q) L ho
        have e : ((q : Nat) : Int).toNat = q := Int.toNat_natCast q
        rw [← e] at hc
        have hc1 : (((y.getD q 0).toNat : Nat) : Int) = y.getD q 0 := by have := hok.1; omega
        (repeat refine ka ?_); refine kr ?_ ?_ ?_
        refine ps_nextS ?_ (by rw [hsz]; exact hlt)
        rw [hd]
        dsimp only
        rw [hc1]
        refine pops_go ?_ ?_ (pops_end ?_)
        (repeat refine ka ?_); refine kct ?_
        (repeat refine ka ?_); refine ksk ?_
        (repeat refine ka ?_); refine kb ?_
        (repeat refine ka ?_); refine kr ?_ ?_ (pops_end ?_)
        by_cases h47 : y.getD q 0 = 47
        · by_cases hin : y.take q ∈ L
          · have hpos : (mfind (str (y.take ((q : Nat) : Int).toNat)) (cntM L)).getD 0 > 0 := by
              rw [hc, e]
              have := List.count_pos_iff.2 hin
              omega
            have hcc : clashes L := hcl.2 (.inr ⟨y, hyL, q, h47, hlt, hin⟩)
            rw [hfin, if_pos hcc]
            (repeat refine ka ?_); refine kr ?_ ?_ (pops_end ?_)
            (repeat refine ka ?_); refine kct ?_
            (repeat refine ka ?_); refine kr ?_ ?_ (pops_end ?_)
            (repeat refine ka ?_); refine kx ?_; (repeat (first | with_reducible refine beh_x ?_ | with_reducible refine blk_up rfl ?_)); refine blk_here ?_; refine beh_n ?_
            (repeat refine ka ?_); refine kr ?_ ?_ (pops_end ?_)
            (repeat refine ka ?_); refine kct ?_
            (repeat refine ka ?_); refine kr ?_ ?_ (pops_end ?_)
            (repeat refine ka ?_); refine kret ?_; repeat (first | with_reducible refine beh_r ?_ | with_reducible refine blk_r ?_)
            refine ends_ret ?_ retPV_one
            rfl
          · have hpos : ¬ (mfind (str (y.take ((q : Nat) : Int).toNat)) (cntM L)).getD 0 > 0 := by
              rw [hc, e]
              have := List.count_eq_zero.2 hin
              omega
            (repeat refine ka ?_); refine kr ?_ ?_ (pops_end ?_)
            (repeat refine ka ?_); refine kcf ?_
            (repeat refine ka ?_); refine ksk ?_
            refine kn ?_; repeat (first | with_reducible refine blk_n ?_ | with_reducible refine beh_n ?_)
            refine ⟨q + 1, ⟨by omega, fun p hpq => ?_⟩, by omega, (holds 2 (by repeat (first | exact .nil | refine has1 ?_)))⟩
            by_cases epq : p = q
            · subst epq
              exact fun hb => hin hb.2.2
            · exact hp p (by omega)
        · (repeat refine ka ?_); refine kr ?_ ?_ (pops_end ?_)
          (repeat refine ka ?_); refine kcf ?_
          (repeat refine ka ?_); refine ksk ?_
          refine kn ?_; repeat (first | with_reducible refine blk_n ?_ | with_reducible refine beh_n ?_)
          refine ⟨q + 1, ⟨by omega, fun p hpq => ?_⟩, by omega, (holds 2 (by repeat (first | exact .nil | refine has1 ?_)))⟩
          by_cases epq : p = q
          · subst epq
            exact fun hb => h47 hb.1
          · exact hp p (by omega)
      · obtain rfl : q = y.length := by omega
        (repeat refine ka ?_); refine kr ?_ ?_ ?_
        refine ps_nextE ?_ (by rw [hsz]; omega)
        refine pops_go ?_ ?_ (pops_end ?_)
        (repeat refine ka ?_); refine kcf ?_
        (repeat refine ka ?_); refine kx ?_; (repeat (first | with_reducible refine beh_x ?_ | with_reducible refine blk_up rfl ?_)); refine blk_here ?_; refine beh_n ?_
        refine kn ?_; repeat (first | with_reducible refine blk_n ?_ | with_reducible refine beh_n ?_)
        refine ⟨fun j hj y' hy' z' hz' p => ?_, (holds 1 (by repeat (first | exact .nil | refine has1 ?_)))⟩
        rcases List.mem_append.1 hj with hj | hj
        · exact hV j hj y' hy' z' hz' p
        · rw [List.mem_singleton] at hj
          subst hj
          rw [hi] at hz'
          simp only [Option.some.injEq, Prod.mk.injEq] at hz'
          obtain rfl := (str_inj06 oy (ho y' hy')).1 hz'.1
          intro hb
          exact hp p hb.2.1 hb
    · intro r I hV hall
      have hno : ¬ ∃ y ∈ L, ∃ q, begins L y q := by
        rintro ⟨y, hy, q, hb⟩
        have hk := (cntM_keys L (str y)).2 ⟨y, hy, rfl⟩
        obtain ⟨⟨s, z⟩, hm, hs'⟩ := List.mem_map.1 hk
        obtain ⟨j, hj⟩ := List.getElem?_of_mem hm
        simp only at hs'
        subst hs'
        exact hV j (hall j (List.getElem?_eq_some_iff.1 hj).1) y hy z hj q hb
      cases tw with
      | true =>
        have hnd : ¬ L.Nodup := of_decide_eq_true htw
        rw [hfin, if_pos (hcl.2 (.inl hnd))]
        (repeat refine ka ?_); refine kr ?_ ?_ (pops_end ?_)
        (repeat refine ka ?_); refine kct ?_
        (repeat refine ka ?_); refine kr ?_ ?_ (pops_end ?_)
        (repeat refine ka ?_); refine kret ?_; repeat (first | with_reducible refine beh_r ?_ | with_reducible refine blk_r ?_)
        refine ends_ret ?_ retPV_one
        rfl
      | false =>
        have hnd : ¬ ¬ L.Nodup := of_decide_eq_false htw
        rw [hfin, if_neg (fun hc => (hcl.1 hc).elim hnd hno)]
        (repeat refine ka ?_); refine kr ?_ ?_ (pops_end ?_)
        (repeat refine ka ?_); refine kcf ?_
        (repeat refine ka ?_); refine ksk ?_
        (repeat refine ka ?_); refine kr ?_ ?_ (pops_end ?_)
        (repeat refine ka ?_); refine kret ?_; repeat (first | with_reducible refine beh_r ?_ | with_reducible refine blk_r ?_)
        refine ends_ret ?_ retPV_one
        rfl
end Go.Proofs.YtenoecffjfcifaaDoor.Pv
