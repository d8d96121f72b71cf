-- link: Load.
import Derived.Test.YtjbbomchmacdjaaLkD
namespace Go.Proofs.Ytjbbomchmacdjaa.Pv
set_option linter.all false
open Go.RowKit Go.Proofs
set_option maxRecDepth 100000
set_option maxHeartbeats 4000000
theorem take_snoc (l : List Int) (k : Nat) (h : k < l.length) : l.take (k + 1) = l.take k ++ [l.getD k 0] := by
  rw [List.take_succ_eq_append_getElem h, List.getD_eq_getElem?_getD, List.getElem?_eq_getElem h]; rfl
theorem setF_getD (V : List Int) (q : Int × Bool) (n : Int) (k : Nat) (h0 : 0 ≤ q.1) (h : q.1 + (if q.2 then 8 else 4) ≤ 4 * (k : Int)) : (setF V q n).getD k 0 = V.getD k 0 := by
  unfold setF
  simp only [List.getD_eq_getElem?_getD]
  split
  · rename_i hp
    rw [if_pos hp] at h
    rw [List.getElem?_set_ne (by omega), List.getElem?_set_ne (by omega)]
  · rename_i hp
    rw [if_neg hp] at h
    rw [List.getElem?_set_ne (by omega)]
theorem told_same (b : Int) (W0 : List Int) : ∀ (R : List (Int × Bool)) (fr : Int) (V : List Int), 0 ≤ fr → rightGo W0 fr R = true → (∀ k : Nat, fr ≤ 4 * (k : Int) → V.getD k 0 = W0.getD k 0) → ∀ (i : Nat) (r : Int × Bool), R[i]? = some r → toldF (turnGo b V (R.take i)) r = toldF W0 r
  | [], _, _, _, _, _, i, r, h => by simp at h
  | q :: R, fr, V, h0, hg, ha, i, r, h => by
    unfold rightGo at hg
    split at hg
    · cases hg
    · rename_i hn
      have h1 : ¬ q.1 < fr ∧ q.1 % 4 = 0 := by omega
      cases i with
      | zero =>
        simp at h
        subst h
        rw [List.take_zero, turnGo]
        unfold toldF
        rw [ha (q.1 / 4).toNat (by omega), ha (q.1 / 4 + 1).toNat (by omega)]
      | succ i =>
        rw [List.getElem?_cons_succ] at h
        rw [List.take_succ_cons, turnGo]
        split at hg
        · rename_i hp
          simp only [Bool.and_eq_true] at hg
          refine told_same b W0 R (q.1 + 8) _ (by omega) hg.2 (fun k hk => ?_) i r h
          rw [setF_getD V q _ k (by omega) (by rw [if_pos hp]; exact hk)]
          exact ha k (by omega)
        · rename_i hp
          refine told_same b W0 R (q.1 + 4) _ (by omega) hg (fun k hk => ?_) i r h
          rw [setF_getD V q _ k (by omega) (by rw [if_neg hp]; exact hk)]
          exact ha k (by omega)
/-- Words' bytes. -/
def wbytes (w : Int) : List Int := [w % 256, w / 256 % 256, w / 65536 % 256, w / 16777216]
def bytesF : List Int → List Int
  | [] => []
  | w :: W => wbytes w ++ bytesF W
theorem bytesF_append (a b : List Int) : bytesF (a ++ b) = bytesF a ++ bytesF b := by
  induction a with
  | nil => rfl
  | cons w a ih => rw [List.cons_append, bytesF, bytesF, ih, List.append_assoc]
theorem bytesF_length (a : List Int) : (bytesF a).length = 4 * a.length := by
  induction a with
  | nil => rfl
  | cons w a ih => rw [bytesF, List.length_append, ih]; simp [wbytes]; omega
theorem bytesF_take (W : List Int) (i : Nat) (h : i < W.length) : bytesF (W.take (i + 1)) = bytesF (W.take i) ++ wbytes (W.getD i 0) := by
  rw [take_snoc W i h, bytesF_append]
  rfl
theorem ref_more (c : Cd) (hc : c.ok) (hrt : c.right = true) (b : Int) (hb0 : 0 ≤ b) (hb1 : b < 4294967296) : PCall Try.prog 53 [c.pv, .v (.int .u32 b)] (.ro 1 false (ints .u32 (turnGo b c.W c.R))) := by
  have hin := right_in c.W c.R 0 (by decide) hrt
  have hsame := told_same b c.W c.R 0 c.W (by decide) hrt (fun _ _ => rfl)
  have hval := fun r hr => ref_value c hc.w (by have := hc.n; omega) r hr
  obtain ⟨W, R⟩ := c
  obtain ⟨hW, hn, hm, hRR⟩ := hc
  have hrl := relRows_length R
  unfold Cd.pv Cd.row at *
  dsimp only at *
  refine pcall_mkg Try.func53 rfl [.tmp 4] Try.results53 67 rfl (tk_start ?_)
  (repeat refine ka ?_); refine kr ?_ ?_ ?_
  refine ps_box fun g0 => ?_
  refine pops_go ?_ ?_ (pops_end ?_)
  (repeat refine ka ?_); refine kr ?_ ?_ ?_
  refine ps_lit fun g1 => ?_
  refine pops_go ?_ ?_ ?_
  refine ps_app_vw (rows' := ints .u32 W) (m := W.length) (fun g2 => ?_) (hsrc := rfl) (hrows := by simp [ints]) (hm := by simp [ints_length])
  refine pops_go ?_ ?_ (pops_end ?_)
  (repeat refine ka ?_); refine kr ?_ ?_ (pops_end ?_)
  (repeat refine ka ?_); refine kb ?_
  refine kw (fun i : Nat => [(1, .v (.int .u32 b)), (2, .ptr 0 g0 0 0), (5, .vw 1 g2 0 W.length), (6, .v (.int .i64 i))]) (fun i => [⟨g0, true, 2, [[.ro 1 false (ints .u32 W), .ro 2 false (relRows R)]]⟩, ⟨g2, true, 1, ints .u32 (turnGo b W (R.take i))⟩])
    (fun i => i ≤ R.length) (fun i => R.length - i) 0 (by omega) (holds 2 (by repeat (first | exact .nil | refine has1 ?_))) ?_
  intro i hi
  have htl := turnGo_length b (R.take i) W
  have htw := turnGo_wd b (R.take i) W hW
  by_cases h : i < R.length
  · obtain ⟨r, hr⟩ : ∃ r, R[i]? = some r := ⟨R[i], by simp [h]⟩
    have hrow := relRows_get hr
    have hts := turnGo_take b W R i r hr
    have hin' := (hin r (List.mem_of_getElem? hr)).1
    have hval' := hval r hin'
    have hto := told_in hW r
    rw [hsame i r hr] at hts
    generalize turnGo b W (R.take i) = V at *
    have hadd := add_u32 (toldF W r) b
    have hr0 : 0 ≤ r.1 ∧ r.1 / 4 < V.length := ⟨hin'.1, by have := hin'.2; rw [htl]; split at this <;> omega⟩
    have hr1 : r.2 = true → r.1 / 4 + 1 < V.length := fun hp => by have := hin'.2; rw [htl]; rw [if_pos hp] at this; exact this
    obtain ⟨a, p⟩ := r
    have g0' := htw.getD (0 + (a / 4).toNat)
    dsimp only at *
    unfold setF at hts
    dsimp only at hts
    generalize hmm : (toldF W (a, p) + b) % 4294967296 = m at *
    have hm0 : 0 ≤ m ∧ m < 4294967296 := by omega
    (repeat refine ka ?_); refine kr ?_ ?_ (pops_end ?_)
    (repeat refine ka ?_); refine kct ?_
    (repeat refine ka ?_); refine ksk ?_
    (repeat refine ka ?_); refine kb ?_
    (repeat refine ka ?_); refine kr ?_ ?_ ?_
    refine ps_alloc fun g3 => ?_
    refine ps_store ?_
    refine pops_nil ?_
    (repeat refine ka ?_); refine kr ?_ ?_ ?_
    refine ps_pcall hval' ?_
    refine pops_go ?_ ?_ (pops_end ?_)
    (repeat refine ka ?_); refine kr ?_ ?_ (pops_end ?_)
    cases p with
    | false =>
      simp only [Bool.false_eq_true, if_false] at hts
      (repeat refine ka ?_); refine kr ?_ ?_ (pops_end ?_)
      (repeat refine ka ?_); refine kcf ?_
      (repeat refine ka ?_); refine kr ?_ ?_ ?_
      refine ps_seti ?_
      refine pops_nil ?_
      rw [Nat.zero_add, ← hts]
      refine kn ?_; repeat (first | with_reducible refine blk_n ?_ | with_reducible refine beh_n ?_)
      (repeat refine ka ?_); refine kr ?_ ?_ (pops_end ?_)
      refine kn ?_; repeat (first | with_reducible refine blk_n ?_ | with_reducible refine beh_n ?_)
      exact ⟨i + 1, by omega, by omega, (holds 2 (by repeat (first | exact .nil | refine has1 ?_)))⟩
    | true =>
      simp only [if_true] at hts
      have hr1 := hr1 rfl
      obtain ⟨V1, hV1⟩ : ∃ V1, V1 = V.set (0 + (a / 4).toNat) (V.getD (0 + (a / 4).toNat) 0 / 65536 * 65536 + m % 65536) := ⟨_, rfl⟩
      have hV1l : V1.length = V.length := by rw [hV1, List.length_set]
      have hge : V1.getD (0 + (a / 4 + 1).toNat) 0 = V.getD (0 + (a / 4 + 1).toNat) 0 := by
        rw [hV1, List.getD_eq_getElem?_getD, List.getElem?_set_ne (by omega), ← List.getD_eq_getElem?_getD]
      have g1' := htw.getD (0 + (a / 4 + 1).toNat)
      rw [← hge] at g1'
      (repeat refine ka ?_); refine kr ?_ ?_ (pops_end ?_)
      (repeat refine ka ?_); refine kct ?_
      (repeat refine ka ?_); refine kr ?_ ?_ ?_
      refine ps_seti ?_
      refine pops_nil ?_
      rw [← hV1]
      (repeat refine ka ?_); refine kr ?_ ?_ ?_
      refine ps_seti ?_
      refine pops_nil ?_
      have hfin : V1.set (0 + (a / 4 + 1).toNat) (V1.getD (0 + (a / 4 + 1).toNat) 0 / 65536 * 65536 + m / 65536) = turnGo b W (R.take (i + 1)) := by
        rw [hge, hV1, hts, Nat.zero_add, Nat.zero_add]
      rw [hfin]
      refine kn ?_; repeat (first | with_reducible refine blk_n ?_ | with_reducible refine beh_n ?_)
      (repeat refine ka ?_); refine kr ?_ ?_ (pops_end ?_)
      refine kn ?_; repeat (first | with_reducible refine blk_n ?_ | with_reducible refine beh_n ?_)
      exact ⟨i + 1, by omega, by omega, (holds 2 (by repeat (first | exact .nil | refine has1 ?_)))⟩
  · obtain rfl : i = R.length := by omega
    rw [List.take_length] at htl ⊢
    (repeat refine ka ?_); refine kr ?_ ?_ (pops_end ?_)
    (repeat refine ka ?_); refine kcf ?_
    (repeat refine ka ?_); refine kx ?_; (repeat (first | with_reducible refine beh_x ?_ | with_reducible refine blk_up rfl ?_)); refine blk_here ?_; refine beh_n ?_
    (repeat refine ka ?_); refine kr ?_ ?_ (pops_end ?_)
    (repeat refine ka ?_); refine kret ?_; repeat (first | with_reducible refine beh_r ?_ | with_reducible refine blk_r ?_)
    refine ends_ret ?_ retPV_one
    exact gives_ints rfl rfl htl
theorem ref_bytes14 (W : List Int) (hW : Wd W) (hn : W.length ≤ 50000000) (f : Bool) : PCall Try.prog 52 [.ro 1 f (ints .u32 W)] (.ro 1 false (ints .u8 (bytesF W))) := by
  refine pcall_mkg Try.func52 rfl [.tmp 2] Try.results52 35 rfl (tk_start ?_)
  (repeat refine ka ?_); refine kr ?_ ?_ (pops_end ?_)
  (repeat refine ka ?_); refine kr ?_ ?_ ?_
  refine ps_lit fun g1 => ?_
  refine pops_go ?_ ?_ (pops_end ?_)
  (repeat refine ka ?_); refine kr ?_ ?_ (pops_end ?_)
  (repeat refine ka ?_); refine kb ?_
  refine kw (fun s : Nat × Nat => [(0, .ro 1 f (ints .u32 W)), (3, .vw 0 s.2 0 (4 * s.1)), (4, .v (.int .i64 s.1))]) (fun s => [⟨s.2, true, 1, ints .u8 (bytesF (W.take s.1))⟩]) (fun s => s.1 ≤ W.length) (fun s => W.length - s.1) (0, g1) (by simp) (holds 1 (by repeat (first | exact .nil | refine has1 ?_))) ?_
  rintro ⟨i, g⟩ hi
  simp only at hi ⊢
  have hbl : (bytesF (W.take i)).length = 4 * i := by rw [bytesF_length, List.length_take]; omega
  by_cases h : i < W.length
  · have hbt := bytesF_take W i h
    have hg := hW.getD i
    have hgg : W.getD ((i : Nat) : Int).toNat 0 = W.getD i 0 := by rw [Int.toNat_natCast]
    (repeat refine ka ?_); refine kr ?_ ?_ (pops_end ?_)
    (repeat refine ka ?_); refine kct ?_
    (repeat refine ka ?_); refine ksk ?_
    (repeat refine ka ?_); refine kb ?_
    (repeat refine ka ?_); refine kr ?_ ?_ (pops_end ?_)
    rw [hgg]
    (repeat refine ka ?_); refine kr ?_ ?_ ?_
    refine ps_lit fun g2 => ?_
    refine pops_go ?_ ?_ ?_
    refine ps_app_vw (rows' := ints .u8 (bytesF (W.take (i + 1)))) (m := 4 * (i + 1)) (fun g3 => ?_) (hlen := by rw [ints_length, hbl]) (hrows := by rw [hbt]; simp [ints, wbytes]) (hm := by simp; omega)
    refine pops_go ?_ ?_ (pops_end ?_)
    refine kn ?_; repeat (first | with_reducible refine blk_n ?_ | with_reducible refine beh_n ?_)
    (repeat refine ka ?_); refine kr ?_ ?_ (pops_end ?_)
    refine kn ?_; repeat (first | with_reducible refine blk_n ?_ | with_reducible refine beh_n ?_)
    exact ⟨(i + 1, g3), by simp only; omega, by simp only; omega, (holds 1 (by repeat (first | exact .nil | refine has1 ?_)))⟩
  · obtain rfl : i = W.length := by omega
    rw [List.take_length] at hbl ⊢
    (repeat refine ka ?_); refine kr ?_ ?_ (pops_end ?_)
    (repeat refine ka ?_); refine kcf ?_
    (repeat refine ka ?_); refine kx ?_; (repeat (first | with_reducible refine beh_x ?_ | with_reducible refine blk_up rfl ?_)); refine blk_here ?_; refine beh_n ?_
    (repeat refine ka ?_); refine kr ?_ ?_ (pops_end ?_)
    (repeat refine ka ?_); refine kret ?_; repeat (first | with_reducible refine beh_r ?_ | with_reducible refine blk_r ?_)
    refine ends_ret ?_ retPV_one
    exact gives_ints rfl rfl hbl
def loadF (c : Cd) (base : Int) : List Int × Int := if c.right = false ∨ base % 4 ≠ 0 then ([], 1) else (bytesF (turnGo base c.W c.R), 0)
theorem ref_load (c : Cd) (hc : c.ok) (b : Int) (hb0 : 0 ≤ b) (hb1 : b < 4294967296) : PCall Try.prog 25 [c.pv, .v (.int .u32 b)] (.tup [.ro 1 false (ints .u8 (loadF c b).1), .v (.int .i64 (loadF c b).2)]) := by
  have c1 := ref_right c hc
  have c2 := fun h => ref_more c hc h b hb0 hb1
  have c3 := ref_bytes14 (turnGo b c.W c.R) (turnGo_wd b c.R c.W hc.w) (by rw [turnGo_length]; exact hc.n) false
  unfold loadF
  refine pcall_mkg Try.func25 rfl [.tmp 4, .tmp 5] Try.results25 18 rfl (tk_start ?_)
  cases hr : c.right with
  | false =>
    rw [hr] at c1
    rw [if_pos (.inl rfl)]
    unfold Cd.pv Cd.row at *
    (repeat' (first | refine ka ?_ | refine ksk ?_ | (refine kr ?_ ?_ ?_; first | refine pops_end ?_ | (refine ps_split (fun hb => ?_) (fun hb => ?_); (fail_if_success (guard_hyp hb : true = true)); (fail_if_success (guard_hyp hb : false = true)); all_goals (have hp := hb; (try simp only [decide_eq_true_eq, Bool.eq_false_iff, ne_eq, Bool.not_eq_true', Bool.not_eq_false', Bool.and_eq_true, Bool.or_eq_true, decide_true, decide_false, Bool.and_true, Bool.true_and, Bool.false_eq_true, not_false_eq_true, true_and, and_true] at hp); (try rw [hb]); (try clear hb))) | refine ps_pcall (c1) ?_ | refine ps_pcall_g (c1) ?_ | refine ps_alloc fun g => ?_ | refine ps_box fun g => ?_ | refine ps_store ?_ | refine ps_lit fun g => ?_ | refine pops_nil ?_ | skip) | (refine kd ?_ ?_ ?_; first | refine pstl_end ?_ | (refine pd_split (fun hb => ?_) (fun hb => ?_); (fail_if_success (guard_hyp hb : true = true)); (fail_if_success (guard_hyp hb : false = true)); all_goals (have hp := hb; (try simp only [decide_eq_true_eq, Bool.eq_false_iff, ne_eq, Bool.not_eq_true', Bool.not_eq_false', Bool.and_eq_true, Bool.or_eq_true, decide_true, decide_false, Bool.and_true, Bool.true_and, Bool.false_eq_true, not_false_eq_true, true_and, and_true] at hp); (try rw [hb]); (try clear hb))) | refine pd_pcall (c1) ?_ | refine pd_pcall_g (c1) ?_ | skip) | refine kct ?_ | refine kcf ?_ | (refine kcs (fun hb => ?_) (fun hb => ?_) <;> (have hp := hb; (try simp only [decide_eq_true_eq, Bool.eq_false_iff, ne_eq, Bool.not_eq_true', Bool.not_eq_false', Bool.and_eq_true, Bool.or_eq_true, decide_true, decide_false, Bool.and_true, Bool.true_and, Bool.false_eq_true, not_false_eq_true, true_and, and_true] at hp); (try rw [hb]); (try clear hb))) | (refine kret ?_; repeat (first | with_reducible refine beh_r ?_ | with_reducible refine blk_r ?_)) | refine kb ?_ | (refine ps_split (fun hb => ?_) (fun hb => ?_); (fail_if_success (guard_hyp hb : true = true)); (fail_if_success (guard_hyp hb : false = true)); all_goals (have hp := hb; (try simp only [decide_eq_true_eq, Bool.eq_false_iff, ne_eq, Bool.not_eq_true', Bool.not_eq_false', Bool.and_eq_true, Bool.or_eq_true, decide_true, decide_false, Bool.and_true, Bool.true_and, Bool.false_eq_true, not_false_eq_true, true_and, and_true] at hp); (try rw [hb]); (try clear hb))) | refine ps_pcall (c1) ?_ | refine ps_pcall_g (c1) ?_ | refine ps_alloc fun g => ?_ | refine ps_box fun g => ?_ | refine ps_store ?_ | refine ps_lit fun g => ?_ | refine pops_nil ?_ | (refine pd_split (fun hb => ?_) (fun hb => ?_); (fail_if_success (guard_hyp hb : true = true)); (fail_if_success (guard_hyp hb : false = true)); all_goals (have hp := hb; (try simp only [decide_eq_true_eq, Bool.eq_false_iff, ne_eq, Bool.not_eq_true', Bool.not_eq_false', Bool.and_eq_true, Bool.or_eq_true, decide_true, decide_false, Bool.and_true, Bool.true_and, Bool.false_eq_true, not_false_eq_true, true_and, and_true] at hp); (try rw [hb]); (try clear hb))) | refine pd_pcall (c1) ?_ | refine pd_pcall_g (c1) ?_ | (refine pops_go ?_ ?_ ?_; first | refine pops_end ?_ | (refine ps_split (fun hb => ?_) (fun hb => ?_); (fail_if_success (guard_hyp hb : true = true)); (fail_if_success (guard_hyp hb : false = true)); all_goals (have hp := hb; (try simp only [decide_eq_true_eq, Bool.eq_false_iff, ne_eq, Bool.not_eq_true', Bool.not_eq_false', Bool.and_eq_true, Bool.or_eq_true, decide_true, decide_false, Bool.and_true, Bool.true_and, Bool.false_eq_true, not_false_eq_true, true_and, and_true] at hp); (try rw [hb]); (try clear hb))) | refine ps_pcall (c1) ?_ | refine ps_pcall_g (c1) ?_ | refine ps_alloc fun g => ?_ | refine ps_box fun g => ?_ | refine ps_store ?_ | refine ps_lit fun g => ?_ | refine pops_nil ?_) | (refine pstl_go ?_ ?_ ?_; first | refine pstl_end ?_ | (refine pd_split (fun hb => ?_) (fun hb => ?_); (fail_if_success (guard_hyp hb : true = true)); (fail_if_success (guard_hyp hb : false = true)); all_goals (have hp := hb; (try simp only [decide_eq_true_eq, Bool.eq_false_iff, ne_eq, Bool.not_eq_true', Bool.not_eq_false', Bool.and_eq_true, Bool.or_eq_true, decide_true, decide_false, Bool.and_true, Bool.true_and, Bool.false_eq_true, not_false_eq_true, true_and, and_true] at hp); (try rw [hb]); (try clear hb))) | refine pd_pcall (c1) ?_ | refine pd_pcall_g (c1) ?_) | (refine kn ?_; repeat (first | with_reducible refine blk_n ?_ | with_reducible refine beh_n ?_)) | (refine kx ?_; (repeat (first | with_reducible refine beh_x ?_ | with_reducible refine blk_up rfl ?_)); refine blk_here ?_; refine beh_n ?_)))
    refine ends_ret ?_ retPV_two
    exact gives_two .nil (.same (.v _))
  | true =>
    rw [hr] at c1
    have c2 := c2 hr
    by_cases hq : b % 4 = 0
    · rw [if_neg (by simp [hq])]
      unfold Cd.pv Cd.row at *
      (repeat' (first | refine ka ?_ | refine ksk ?_ | (refine kr ?_ ?_ ?_; first | refine pops_end ?_ | (refine ps_split (fun hb => ?_) (fun hb => ?_); (fail_if_success (guard_hyp hb : true = true)); (fail_if_success (guard_hyp hb : false = true)); all_goals (have hp := hb; (try simp only [decide_eq_true_eq, Bool.eq_false_iff, ne_eq, Bool.not_eq_true', Bool.not_eq_false', Bool.and_eq_true, Bool.or_eq_true, decide_true, decide_false, Bool.and_true, Bool.true_and, Bool.false_eq_true, not_false_eq_true, true_and, and_true] at hp); (try rw [hb]); (try clear hb))) | refine ps_pcall (c1) ?_ | refine ps_pcall_g (c1) ?_ | refine ps_pcall (c2) ?_ | refine ps_pcall_g (c2) ?_ | refine ps_pcall (c3) ?_ | refine ps_pcall_g (c3) ?_ | refine ps_alloc fun g => ?_ | refine ps_box fun g => ?_ | refine ps_store ?_ | refine ps_lit fun g => ?_ | refine pops_nil ?_ | skip) | (refine kd ?_ ?_ ?_; first | refine pstl_end ?_ | (refine pd_split (fun hb => ?_) (fun hb => ?_); (fail_if_success (guard_hyp hb : true = true)); (fail_if_success (guard_hyp hb : false = true)); all_goals (have hp := hb; (try simp only [decide_eq_true_eq, Bool.eq_false_iff, ne_eq, Bool.not_eq_true', Bool.not_eq_false', Bool.and_eq_true, Bool.or_eq_true, decide_true, decide_false, Bool.and_true, Bool.true_and, Bool.false_eq_true, not_false_eq_true, true_and, and_true] at hp); (try rw [hb]); (try clear hb))) | refine pd_pcall (c1) ?_ | refine pd_pcall_g (c1) ?_ | refine pd_pcall (c2) ?_ | refine pd_pcall_g (c2) ?_ | refine pd_pcall (c3) ?_ | refine pd_pcall_g (c3) ?_ | skip) | refine kct ?_ | refine kcf ?_ | (refine kcs (fun hb => ?_) (fun hb => ?_) <;> (have hp := hb; (try simp only [decide_eq_true_eq, Bool.eq_false_iff, ne_eq, Bool.not_eq_true', Bool.not_eq_false', Bool.and_eq_true, Bool.or_eq_true, decide_true, decide_false, Bool.and_true, Bool.true_and, Bool.false_eq_true, not_false_eq_true, true_and, and_true] at hp); (try rw [hb]); (try clear hb))) | (refine kret ?_; repeat (first | with_reducible refine beh_r ?_ | with_reducible refine blk_r ?_)) | refine kb ?_ | (refine ps_split (fun hb => ?_) (fun hb => ?_); (fail_if_success (guard_hyp hb : true = true)); (fail_if_success (guard_hyp hb : false = true)); all_goals (have hp := hb; (try simp only [decide_eq_true_eq, Bool.eq_false_iff, ne_eq, Bool.not_eq_true', Bool.not_eq_false', Bool.and_eq_true, Bool.or_eq_true, decide_true, decide_false, Bool.and_true, Bool.true_and, Bool.false_eq_true, not_false_eq_true, true_and, and_true] at hp); (try rw [hb]); (try clear hb))) | refine ps_pcall (c1) ?_ | refine ps_pcall_g (c1) ?_ | refine ps_pcall (c2) ?_ | refine ps_pcall_g (c2) ?_ | refine ps_pcall (c3) ?_ | refine ps_pcall_g (c3) ?_ | refine ps_alloc fun g => ?_ | refine ps_box fun g => ?_ | refine ps_store ?_ | refine ps_lit fun g => ?_ | refine pops_nil ?_ | (refine pd_split (fun hb => ?_) (fun hb => ?_); (fail_if_success (guard_hyp hb : true = true)); (fail_if_success (guard_hyp hb : false = true)); all_goals (have hp := hb; (try simp only [decide_eq_true_eq, Bool.eq_false_iff, ne_eq, Bool.not_eq_true', Bool.not_eq_false', Bool.and_eq_true, Bool.or_eq_true, decide_true, decide_false, Bool.and_true, Bool.true_and, Bool.false_eq_true, not_false_eq_true, true_and, and_true] at hp); (try rw [hb]); (try clear hb))) | refine pd_pcall (c1) ?_ | refine pd_pcall_g (c1) ?_ | refine pd_pcall (c2) ?_ | refine pd_pcall_g (c2) ?_ | refine pd_pcall (c3) ?_ | refine pd_pcall_g (c3) ?_ | (refine pops_go ?_ ?_ ?_; first | refine pops_end ?_ | (refine ps_split (fun hb => ?_) (fun hb => ?_); (fail_if_success (guard_hyp hb : true = true)); (fail_if_success (guard_hyp hb : false = true)); all_goals (have hp := hb; (try simp only [decide_eq_true_eq, Bool.eq_false_iff, ne_eq, Bool.not_eq_true', Bool.not_eq_false', Bool.and_eq_true, Bool.or_eq_true, decide_true, decide_false, Bool.and_true, Bool.true_and, Bool.false_eq_true, not_false_eq_true, true_and, and_true] at hp); (try rw [hb]); (try clear hb))) | refine ps_pcall (c1) ?_ | refine ps_pcall_g (c1) ?_ | refine ps_pcall (c2) ?_ | refine ps_pcall_g (c2) ?_ | refine ps_pcall (c3) ?_ | refine ps_pcall_g (c3) ?_ | refine ps_alloc fun g => ?_ | refine ps_box fun g => ?_ | refine ps_store ?_ | refine ps_lit fun g => ?_ | refine pops_nil ?_) | (refine pstl_go ?_ ?_ ?_; first | refine pstl_end ?_ | (refine pd_split (fun hb => ?_) (fun hb => ?_); (fail_if_success (guard_hyp hb : true = true)); (fail_if_success (guard_hyp hb : false = true)); all_goals (have hp := hb; (try simp only [decide_eq_true_eq, Bool.eq_false_iff, ne_eq, Bool.not_eq_true', Bool.not_eq_false', Bool.and_eq_true, Bool.or_eq_true, decide_true, decide_false, Bool.and_true, Bool.true_and, Bool.false_eq_true, not_false_eq_true, true_and, and_true] at hp); (try rw [hb]); (try clear hb))) | refine pd_pcall (c1) ?_ | refine pd_pcall_g (c1) ?_ | refine pd_pcall (c2) ?_ | refine pd_pcall_g (c2) ?_ | refine pd_pcall (c3) ?_ | refine pd_pcall_g (c3) ?_) | (refine kn ?_; repeat (first | with_reducible refine blk_n ?_ | with_reducible refine beh_n ?_)) | (refine kx ?_; (repeat (first | with_reducible refine beh_x ?_ | with_reducible refine blk_up rfl ?_)); refine blk_here ?_; refine beh_n ?_)))
      refine ends_ret ?_ retPV_two
      exact gives_two (.same (ints_pure _ _ _ _)) (.same (.v _))
    · rw [if_pos (.inr hq)]
      unfold Cd.pv Cd.row at *
      (repeat' (first | refine ka ?_ | refine ksk ?_ | (refine kr ?_ ?_ ?_; first | refine pops_end ?_ | (refine ps_split (fun hb => ?_) (fun hb => ?_); (fail_if_success (guard_hyp hb : true = true)); (fail_if_success (guard_hyp hb : false = true)); all_goals (have hp := hb; (try simp only [decide_eq_true_eq, Bool.eq_false_iff, ne_eq, Bool.not_eq_true', Bool.not_eq_false', Bool.and_eq_true, Bool.or_eq_true, decide_true, decide_false, Bool.and_true, Bool.true_and, Bool.false_eq_true, not_false_eq_true, true_and, and_true] at hp); (try rw [hb]); (try clear hb))) | refine ps_pcall (c1) ?_ | refine ps_pcall_g (c1) ?_ | refine ps_alloc fun g => ?_ | refine ps_box fun g => ?_ | refine ps_store ?_ | refine ps_lit fun g => ?_ | refine pops_nil ?_ | skip) | (refine kd ?_ ?_ ?_; first | refine pstl_end ?_ | (refine pd_split (fun hb => ?_) (fun hb => ?_); (fail_if_success (guard_hyp hb : true = true)); (fail_if_success (guard_hyp hb : false = true)); all_goals (have hp := hb; (try simp only [decide_eq_true_eq, Bool.eq_false_iff, ne_eq, Bool.not_eq_true', Bool.not_eq_false', Bool.and_eq_true, Bool.or_eq_true, decide_true, decide_false, Bool.and_true, Bool.true_and, Bool.false_eq_true, not_false_eq_true, true_and, and_true] at hp); (try rw [hb]); (try clear hb))) | refine pd_pcall (c1) ?_ | refine pd_pcall_g (c1) ?_ | skip) | refine kct ?_ | refine kcf ?_ | (refine kcs (fun hb => ?_) (fun hb => ?_) <;> (have hp := hb; (try simp only [decide_eq_true_eq, Bool.eq_false_iff, ne_eq, Bool.not_eq_true', Bool.not_eq_false', Bool.and_eq_true, Bool.or_eq_true, decide_true, decide_false, Bool.and_true, Bool.true_and, Bool.false_eq_true, not_false_eq_true, true_and, and_true] at hp); (try rw [hb]); (try clear hb))) | (refine kret ?_; repeat (first | with_reducible refine beh_r ?_ | with_reducible refine blk_r ?_)) | refine kb ?_ | (refine ps_split (fun hb => ?_) (fun hb => ?_); (fail_if_success (guard_hyp hb : true = true)); (fail_if_success (guard_hyp hb : false = true)); all_goals (have hp := hb; (try simp only [decide_eq_true_eq, Bool.eq_false_iff, ne_eq, Bool.not_eq_true', Bool.not_eq_false', Bool.and_eq_true, Bool.or_eq_true, decide_true, decide_false, Bool.and_true, Bool.true_and, Bool.false_eq_true, not_false_eq_true, true_and, and_true] at hp); (try rw [hb]); (try clear hb))) | refine ps_pcall (c1) ?_ | refine ps_pcall_g (c1) ?_ | refine ps_alloc fun g => ?_ | refine ps_box fun g => ?_ | refine ps_store ?_ | refine ps_lit fun g => ?_ | refine pops_nil ?_ | (refine pd_split (fun hb => ?_) (fun hb => ?_); (fail_if_success (guard_hyp hb : true = true)); (fail_if_success (guard_hyp hb : false = true)); all_goals (have hp := hb; (try simp only [decide_eq_true_eq, Bool.eq_false_iff, ne_eq, Bool.not_eq_true', Bool.not_eq_false', Bool.and_eq_true, Bool.or_eq_true, decide_true, decide_false, Bool.and_true, Bool.true_and, Bool.false_eq_true, not_false_eq_true, true_and, and_true] at hp); (try rw [hb]); (try clear hb))) | refine pd_pcall (c1) ?_ | refine pd_pcall_g (c1) ?_ | (refine pops_go ?_ ?_ ?_; first | refine pops_end ?_ | (refine ps_split (fun hb => ?_) (fun hb => ?_); (fail_if_success (guard_hyp hb : true = true)); (fail_if_success (guard_hyp hb : false = true)); all_goals (have hp := hb; (try simp only [decide_eq_true_eq, Bool.eq_false_iff, ne_eq, Bool.not_eq_true', Bool.not_eq_false', Bool.and_eq_true, Bool.or_eq_true, decide_true, decide_false, Bool.and_true, Bool.true_and, Bool.false_eq_true, not_false_eq_true, true_and, and_true] at hp); (try rw [hb]); (try clear hb))) | refine ps_pcall (c1) ?_ | refine ps_pcall_g (c1) ?_ | refine ps_alloc fun g => ?_ | refine ps_box fun g => ?_ | refine ps_store ?_ | refine ps_lit fun g => ?_ | refine pops_nil ?_) | (refine pstl_go ?_ ?_ ?_; first | refine pstl_end ?_ | (refine pd_split (fun hb => ?_) (fun hb => ?_); (fail_if_success (guard_hyp hb : true = true)); (fail_if_success (guard_hyp hb : false = true)); all_goals (have hp := hb; (try simp only [decide_eq_true_eq, Bool.eq_false_iff, ne_eq, Bool.not_eq_true', Bool.not_eq_false', Bool.and_eq_true, Bool.or_eq_true, decide_true, decide_false, Bool.and_true, Bool.true_and, Bool.false_eq_true, not_false_eq_true, true_and, and_true] at hp); (try rw [hb]); (try clear hb))) | refine pd_pcall (c1) ?_ | refine pd_pcall_g (c1) ?_) | (refine kn ?_; repeat (first | with_reducible refine blk_n ?_ | with_reducible refine beh_n ?_)) | (refine kx ?_; (repeat (first | with_reducible refine beh_x ?_ | with_reducible refine blk_up rfl ?_)); refine blk_here ?_; refine beh_n ?_)))
      refine ends_ret ?_ retPV_two
      exact gives_two .nil (.same (.v _))
theorem lk_load (c : Cd) (hc : c.ok) (b : Int) (hb0 : 0 ≤ b) (hb1 : b < 4294967296) : PCall Try.prog 24 [c.pv, .v (.int .u32 b)] (.tup [.ro 1 false (ints .u8 (loadF c b).1), .v (.int .i64 (loadF c b).2)]) := by
  have c1 := lk_right c hc
  have hin := right_in c.W c.R 0 (by decide)
  have hcr : c.right = rightGo c.W 0 c.R := rfl
  rw [← hcr] at hin
  have htl := turnGo_length b c.R c.W
  have htw := turnGo_wd b c.R c.W hc.w
  have hn := hc.n
  unfold loadF
  refine pcall_mkg Try.func24 rfl [.tmp 4, .tmp 5] Try.results24 41 rfl (tk_start ?_)
  cases hr : c.right with
  | false =>
    rw [hr] at c1
    rw [if_pos (.inl rfl)]
    unfold Cd.pv Cd.row at *
    (repeat' (first | refine ka ?_ | refine ksk ?_ | (refine kr ?_ ?_ ?_; first | refine pops_end ?_ | (refine ps_split (fun hb => ?_) (fun hb => ?_); (fail_if_success (guard_hyp hb : true = true)); (fail_if_success (guard_hyp hb : false = true)); all_goals (have hp := hb; (try simp only [decide_eq_true_eq, Bool.eq_false_iff, ne_eq, Bool.not_eq_true', Bool.not_eq_false', Bool.and_eq_true, Bool.or_eq_true, decide_true, decide_false, Bool.and_true, Bool.true_and, Bool.false_eq_true, not_false_eq_true, true_and, and_true] at hp); (try rw [hb]); (try clear hb))) | refine ps_pcall (c1) ?_ | refine ps_pcall_g (c1) ?_ | refine ps_alloc fun g => ?_ | refine ps_box fun g => ?_ | refine ps_store ?_ | refine ps_lit fun g => ?_ | refine pops_nil ?_ | skip) | (refine kd ?_ ?_ ?_; first | refine pstl_end ?_ | (refine pd_split (fun hb => ?_) (fun hb => ?_); (fail_if_success (guard_hyp hb : true = true)); (fail_if_success (guard_hyp hb : false = true)); all_goals (have hp := hb; (try simp only [decide_eq_true_eq, Bool.eq_false_iff, ne_eq, Bool.not_eq_true', Bool.not_eq_false', Bool.and_eq_true, Bool.or_eq_true, decide_true, decide_false, Bool.and_true, Bool.true_and, Bool.false_eq_true, not_false_eq_true, true_and, and_true] at hp); (try rw [hb]); (try clear hb))) | refine pd_pcall (c1) ?_ | refine pd_pcall_g (c1) ?_ | skip) | refine kct ?_ | refine kcf ?_ | (refine kcs (fun hb => ?_) (fun hb => ?_) <;> (have hp := hb; (try simp only [decide_eq_true_eq, Bool.eq_false_iff, ne_eq, Bool.not_eq_true', Bool.not_eq_false', Bool.and_eq_true, Bool.or_eq_true, decide_true, decide_false, Bool.and_true, Bool.true_and, Bool.false_eq_true, not_false_eq_true, true_and, and_true] at hp); (try rw [hb]); (try clear hb))) | (refine kret ?_; repeat (first | with_reducible refine beh_r ?_ | with_reducible refine blk_r ?_)) | refine kb ?_ | (refine ps_split (fun hb => ?_) (fun hb => ?_); (fail_if_success (guard_hyp hb : true = true)); (fail_if_success (guard_hyp hb : false = true)); all_goals (have hp := hb; (try simp only [decide_eq_true_eq, Bool.eq_false_iff, ne_eq, Bool.not_eq_true', Bool.not_eq_false', Bool.and_eq_true, Bool.or_eq_true, decide_true, decide_false, Bool.and_true, Bool.true_and, Bool.false_eq_true, not_false_eq_true, true_and, and_true] at hp); (try rw [hb]); (try clear hb))) | refine ps_pcall (c1) ?_ | refine ps_pcall_g (c1) ?_ | refine ps_alloc fun g => ?_ | refine ps_box fun g => ?_ | refine ps_store ?_ | refine ps_lit fun g => ?_ | refine pops_nil ?_ | (refine pd_split (fun hb => ?_) (fun hb => ?_); (fail_if_success (guard_hyp hb : true = true)); (fail_if_success (guard_hyp hb : false = true)); all_goals (have hp := hb; (try simp only [decide_eq_true_eq, Bool.eq_false_iff, ne_eq, Bool.not_eq_true', Bool.not_eq_false', Bool.and_eq_true, Bool.or_eq_true, decide_true, decide_false, Bool.and_true, Bool.true_and, Bool.false_eq_true, not_false_eq_true, true_and, and_true] at hp); (try rw [hb]); (try clear hb))) | refine pd_pcall (c1) ?_ | refine pd_pcall_g (c1) ?_ | (refine pops_go ?_ ?_ ?_; first | refine pops_end ?_ | (refine ps_split (fun hb => ?_) (fun hb => ?_); (fail_if_success (guard_hyp hb : true = true)); (fail_if_success (guard_hyp hb : false = true)); all_goals (have hp := hb; (try simp only [decide_eq_true_eq, Bool.eq_false_iff, ne_eq, Bool.not_eq_true', Bool.not_eq_false', Bool.and_eq_true, Bool.or_eq_true, decide_true, decide_false, Bool.and_true, Bool.true_and, Bool.false_eq_true, not_false_eq_true, true_and, and_true] at hp); (try rw [hb]); (try clear hb))) | refine ps_pcall (c1) ?_ | refine ps_pcall_g (c1) ?_ | refine ps_alloc fun g => ?_ | refine ps_box fun g => ?_ | refine ps_store ?_ | refine ps_lit fun g => ?_ | refine pops_nil ?_) | (refine pstl_go ?_ ?_ ?_; first | refine pstl_end ?_ | (refine pd_split (fun hb => ?_) (fun hb => ?_); (fail_if_success (guard_hyp hb : true = true)); (fail_if_success (guard_hyp hb : false = true)); all_goals (have hp := hb; (try simp only [decide_eq_true_eq, Bool.eq_false_iff, ne_eq, Bool.not_eq_true', Bool.not_eq_false', Bool.and_eq_true, Bool.or_eq_true, decide_true, decide_false, Bool.and_true, Bool.true_and, Bool.false_eq_true, not_false_eq_true, true_and, and_true] at hp); (try rw [hb]); (try clear hb))) | refine pd_pcall (c1) ?_ | refine pd_pcall_g (c1) ?_) | (refine kn ?_; repeat (first | with_reducible refine blk_n ?_ | with_reducible refine beh_n ?_)) | (refine kx ?_; (repeat (first | with_reducible refine beh_x ?_ | with_reducible refine blk_up rfl ?_)); refine blk_here ?_; refine beh_n ?_)))
    refine ends_ret ?_ retPV_two
    exact gives_two .nil (.same (.v _))
  | true =>
    rw [hr] at c1
    by_cases hq : b % 4 = 0
    case neg =>
      rw [if_pos (.inr hq)]
      unfold Cd.pv Cd.row at *
      (repeat' (first | refine ka ?_ | refine ksk ?_ | (refine kr ?_ ?_ ?_; first | refine pops_end ?_ | (refine ps_split (fun hb => ?_) (fun hb => ?_); (fail_if_success (guard_hyp hb : true = true)); (fail_if_success (guard_hyp hb : false = true)); all_goals (have hp := hb; (try simp only [decide_eq_true_eq, Bool.eq_false_iff, ne_eq, Bool.not_eq_true', Bool.not_eq_false', Bool.and_eq_true, Bool.or_eq_true, decide_true, decide_false, Bool.and_true, Bool.true_and, Bool.false_eq_true, not_false_eq_true, true_and, and_true] at hp); (try rw [hb]); (try clear hb))) | refine ps_pcall (c1) ?_ | refine ps_pcall_g (c1) ?_ | refine ps_alloc fun g => ?_ | refine ps_box fun g => ?_ | refine ps_store ?_ | refine ps_lit fun g => ?_ | refine pops_nil ?_ | skip) | (refine kd ?_ ?_ ?_; first | refine pstl_end ?_ | (refine pd_split (fun hb => ?_) (fun hb => ?_); (fail_if_success (guard_hyp hb : true = true)); (fail_if_success (guard_hyp hb : false = true)); all_goals (have hp := hb; (try simp only [decide_eq_true_eq, Bool.eq_false_iff, ne_eq, Bool.not_eq_true', Bool.not_eq_false', Bool.and_eq_true, Bool.or_eq_true, decide_true, decide_false, Bool.and_true, Bool.true_and, Bool.false_eq_true, not_false_eq_true, true_and, and_true] at hp); (try rw [hb]); (try clear hb))) | refine pd_pcall (c1) ?_ | refine pd_pcall_g (c1) ?_ | skip) | refine kct ?_ | refine kcf ?_ | (refine kcs (fun hb => ?_) (fun hb => ?_) <;> (have hp := hb; (try simp only [decide_eq_true_eq, Bool.eq_false_iff, ne_eq, Bool.not_eq_true', Bool.not_eq_false', Bool.and_eq_true, Bool.or_eq_true, decide_true, decide_false, Bool.and_true, Bool.true_and, Bool.false_eq_true, not_false_eq_true, true_and, and_true] at hp); (try rw [hb]); (try clear hb))) | (refine kret ?_; repeat (first | with_reducible refine beh_r ?_ | with_reducible refine blk_r ?_)) | refine kb ?_ | (refine ps_split (fun hb => ?_) (fun hb => ?_); (fail_if_success (guard_hyp hb : true = true)); (fail_if_success (guard_hyp hb : false = true)); all_goals (have hp := hb; (try simp only [decide_eq_true_eq, Bool.eq_false_iff, ne_eq, Bool.not_eq_true', Bool.not_eq_false', Bool.and_eq_true, Bool.or_eq_true, decide_true, decide_false, Bool.and_true, Bool.true_and, Bool.false_eq_true, not_false_eq_true, true_and, and_true] at hp); (try rw [hb]); (try clear hb))) | refine ps_pcall (c1) ?_ | refine ps_pcall_g (c1) ?_ | refine ps_alloc fun g => ?_ | refine ps_box fun g => ?_ | refine ps_store ?_ | refine ps_lit fun g => ?_ | refine pops_nil ?_ | (refine pd_split (fun hb => ?_) (fun hb => ?_); (fail_if_success (guard_hyp hb : true = true)); (fail_if_success (guard_hyp hb : false = true)); all_goals (have hp := hb; (try simp only [decide_eq_true_eq, Bool.eq_false_iff, ne_eq, Bool.not_eq_true', Bool.not_eq_false', Bool.and_eq_true, Bool.or_eq_true, decide_true, decide_false, Bool.and_true, Bool.true_and, Bool.false_eq_true, not_false_eq_true, true_and, and_true] at hp); (try rw [hb]); (try clear hb))) | refine pd_pcall (c1) ?_ | refine pd_pcall_g (c1) ?_ | (refine pops_go ?_ ?_ ?_; first | refine pops_end ?_ | (refine ps_split (fun hb => ?_) (fun hb => ?_); (fail_if_success (guard_hyp hb : true = true)); (fail_if_success (guard_hyp hb : false = true)); all_goals (have hp := hb; (try simp only [decide_eq_true_eq, Bool.eq_false_iff, ne_eq, Bool.not_eq_true', Bool.not_eq_false', Bool.and_eq_true, Bool.or_eq_true, decide_true, decide_false, Bool.and_true, Bool.true_and, Bool.false_eq_true, not_false_eq_true, true_and, and_true] at hp); (try rw [hb]); (try clear hb))) | refine ps_pcall (c1) ?_ | refine ps_pcall_g (c1) ?_ | refine ps_alloc fun g => ?_ | refine ps_box fun g => ?_ | refine ps_store ?_ | refine ps_lit fun g => ?_ | refine pops_nil ?_) | (refine pstl_go ?_ ?_ ?_; first | refine pstl_end ?_ | (refine pd_split (fun hb => ?_) (fun hb => ?_); (fail_if_success (guard_hyp hb : true = true)); (fail_if_success (guard_hyp hb : false = true)); all_goals (have hp := hb; (try simp only [decide_eq_true_eq, Bool.eq_false_iff, ne_eq, Bool.not_eq_true', Bool.not_eq_false', Bool.and_eq_true, Bool.or_eq_true, decide_true, decide_false, Bool.and_true, Bool.true_and, Bool.false_eq_true, not_false_eq_true, true_and, and_true] at hp); (try rw [hb]); (try clear hb))) | refine pd_pcall (c1) ?_ | refine pd_pcall_g (c1) ?_) | (refine kn ?_; repeat (first | with_reducible refine blk_n ?_ | with_reducible refine beh_n ?_)) | (refine kx ?_; (repeat (first | with_reducible refine beh_x ?_ | with_reducible refine blk_up rfl ?_)); refine blk_here ?_; refine beh_n ?_)))
      refine ends_ret ?_ retPV_two
      exact gives_two .nil (.same (.v _))
    rw [if_neg (by simp [hq])]
    have c2 := fun gb => lk_turned c hc (fun r h => (hin hr r h).1) 51 ⟨gb, true, 1, [[.v (.int .u32 b)]]⟩ gb rfl b (fun e => rfl) (load1 gb b)
    generalize turnGo b c.W c.R = V at *
    unfold Cd.pv Cd.row at *
    obtain ⟨W, R⟩ := c
    dsimp only at *
    (repeat refine ka ?_); refine kr ?_ ?_ ?_
    refine ps_box fun g0 => ?_
    refine ps_box fun g1 => ?_
    refine pops_go ?_ ?_ (pops_end ?_)
    (repeat refine ka ?_); refine kr ?_ ?_ ?_
    refine ps_pcall c1 ?_
    refine pops_go ?_ ?_ (pops_end ?_)
    (repeat refine ka ?_); refine kcf ?_
    (repeat refine ka ?_); refine ksk ?_
    (repeat refine ka ?_); refine kr ?_ ?_ (pops_end ?_)
    (repeat refine ka ?_)
    refine kvoid 6 1 (fun g2 => ?_)
    (repeat refine ka ?_); refine kr ?_ ?_ ?_
    refine ps_fcall [1] (c2 g1) ?_ (by rintro x S' ⟨B1, g, rfl, rfl⟩; exact Nat.le_of_ble_eq_true rfl)
    rintro x S' ⟨B1, g3, rfl, rfl⟩
    (intro x1 S1 hx1 hS1; simp only [List.map_cons, List.map_nil, renB, ren_ints, putB, List.set_cons_zero, List.set_cons_succ, List.cons_append, List.nil_append, List.append_nil, renL, ren, sg, List.length_cons, List.length_nil, Nat.reduceAdd, Nat.zero_add, Nat.add_zero] at hx1 hS1; subst hx1 hS1)
    refine pops_go ?_ ?_ (pops_end ?_)
    generalize hBB : ({ gen := B1.gen, own := B1.own, sz := B1.sz, rows := List.map (renL (sg [1] 3)) B1.rows } : Blk) = BB
    (repeat refine ka ?_); refine kb ?_
    refine kw (fun s : Nat × Nat => [(6, .vw 2 s.2 0 (4 * s.1)), (19, .vw 4 g3 0 W.length), (20, .v (.int .i64 W.length)), (21, .v (.int .i64 s.1))]) (fun s => [⟨g0, true, 2, [[.ro 1 false (ints .u32 W), .ro 2 false (relRows R)]]⟩, ⟨g1, true, 1, [[.v (.int .u32 b)]]⟩, ⟨s.2, true, 1, ints .u8 (bytesF (V.take s.1))⟩, BB, ⟨g3, true, 1, ints .u32 V⟩])
      (fun s => s.1 ≤ W.length) (fun s => W.length - s.1) (0, g2) (by simp) (by simp only [List.take_zero]; exact (holds 5 (by repeat (first | exact .nil | refine has1 ?_)))) ?_
    rintro ⟨i, g⟩ hi
    simp only at hi ⊢
    have hbl : (bytesF (V.take i)).length = 4 * i := by rw [bytesF_length, List.length_take]; omega
    by_cases h : i < W.length
    · have hbt := bytesF_take V i (by omega)
      have hg := htw.getD i
      have hgg : V.getD (0 + ((i : Nat) : Int).toNat) 0 = V.getD i 0 := by rw [Int.toNat_natCast, Nat.zero_add]
      (repeat refine ka ?_); refine kr ?_ ?_ (pops_end ?_)
      (repeat refine ka ?_); refine kct ?_
      (repeat refine ka ?_); refine ksk ?_
      (repeat refine ka ?_); refine kb ?_
      (repeat refine ka ?_); refine kr ?_ ?_ (pops_end ?_)
      rw [hgg]
      (repeat refine ka ?_); refine kr ?_ ?_ ?_
      refine ps_lit fun g2 => ?_
      refine pops_go ?_ ?_ ?_
      refine ps_app_vw (rows' := ints .u8 (bytesF (V.take (i + 1)))) (m := 4 * (i + 1)) (fun g3 => ?_) (hlen := by rw [ints_length, hbl]) (hrows := by rw [hbt]; simp [ints, wbytes]) (hm := by simp; omega)
      refine pops_go ?_ ?_ (pops_end ?_)
      refine kn ?_; repeat (first | with_reducible refine blk_n ?_ | with_reducible refine beh_n ?_)
      (repeat refine ka ?_); refine kr ?_ ?_ (pops_end ?_)
      refine kn ?_; repeat (first | with_reducible refine blk_n ?_ | with_reducible refine beh_n ?_)
      exact ⟨(i + 1, g3), by simp only; omega, by simp only; omega, (holds 5 (by repeat (first | exact .nil | refine has1 ?_)))⟩
    · obtain rfl : i = W.length := by omega
      rw [← htl, List.take_length] at hbl ⊢
      (repeat refine ka ?_); refine kr ?_ ?_ (pops_end ?_)
      (repeat refine ka ?_); refine kcf ?_
      (repeat refine ka ?_); refine kx ?_; (repeat (first | with_reducible refine beh_x ?_ | with_reducible refine blk_up rfl ?_)); refine blk_here ?_; refine beh_n ?_
      (repeat refine ka ?_); refine kr ?_ ?_ (pops_end ?_)
      (repeat refine ka ?_); refine kret ?_; repeat (first | with_reducible refine beh_r ?_ | with_reducible refine blk_r ?_)
      refine ends_ret ?_ retPV_two
      rw [htl] at *
      exact gives_two (gives_ints rfl rfl hbl) (.same (.v _))
end Go.Proofs.Ytjbbomchmacdjaa.Pv
