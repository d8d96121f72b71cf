-- xtea: mix, Block; carapaceref02: mix, word, Block.
import Derived.Test.YteocmeidkdhmiaaXtK
import Derived.Test.YteocmeidkdhmiaaXtA
namespace Go.Proofs.Yteocmeidkdhmiaa.Pv
set_option linter.all false
open Go.RowKit Go.Proofs
set_option maxRecDepth 100000
set_option maxHeartbeats 4000000
def mixF (w s k : Int) : Int := Go.bits .xor .u32 (IntKind.u32.wrap (Go.bits .xor .u32 (IntKind.u32.wrap (w * 16)) (w / 32) + w)) (IntKind.u32.wrap (s + k))
theorem mix_ok (w s k : Int) : PCall Try.prog 71 [.v (.int .u32 w), .v (.int .u32 s), .v (.int .u32 k)] (.v (.int .u32 (mixF w s k))) := by
  obtain ⟨a1, e1⟩ : ∃ a, IntKind.u32.wrap (w * 16) = a := ⟨_, rfl⟩
  obtain ⟨a2, e2⟩ : ∃ a, Go.bits .xor .u32 a1 (w / 32) = a := ⟨_, rfl⟩
  obtain ⟨a3, e3⟩ : ∃ a, IntKind.u32.wrap (a2 + w) = a := ⟨_, rfl⟩
  obtain ⟨a4, e4⟩ : ∃ a, IntKind.u32.wrap (s + k) = a := ⟨_, rfl⟩
  obtain ⟨a5, e5⟩ : ∃ a, Go.bits .xor .u32 a3 a4 = a := ⟨_, rfl⟩
  have e : mixF w s k = a5 := by rw [mixF, e1, e2, e3, e4, e5]
  rw [e]
  refine pcall_mk Try.func71 rfl [.tmp 6] Try.results71 18 rfl (tk_start ?_)
  (repeat' (first | refine ka ?_ | refine ksk ?_ | (refine kr ?_ ?_ ?_; first | refine pops_end ?_ | (refine ps_split (fun hb => ?_) (fun hb => ?_); (fail_if_success (guard_hyp hb : true = true)); (fail_if_success (guard_hyp hb : false = true)); all_goals (have hp := hb; (try simp only [decide_eq_true_eq, Bool.eq_false_iff, ne_eq, Bool.not_eq_true', Bool.not_eq_false', Bool.and_eq_true, Bool.or_eq_true, decide_true, decide_false, Bool.and_true, Bool.true_and, Bool.false_eq_true, not_false_eq_true, true_and, and_true] at hp); (try rw [hb]); (try clear hb))) | refine ps_alloc fun g => ?_ | refine ps_box fun g => ?_ | refine ps_store ?_ | refine ps_lit fun g => ?_ | refine pops_nil ?_ | skip) | (refine kd ?_ ?_ ?_; first | refine pstl_end ?_ | (refine pd_split (fun hb => ?_) (fun hb => ?_); (fail_if_success (guard_hyp hb : true = true)); (fail_if_success (guard_hyp hb : false = true)); all_goals (have hp := hb; (try simp only [decide_eq_true_eq, Bool.eq_false_iff, ne_eq, Bool.not_eq_true', Bool.not_eq_false', Bool.and_eq_true, Bool.or_eq_true, decide_true, decide_false, Bool.and_true, Bool.true_and, Bool.false_eq_true, not_false_eq_true, true_and, and_true] at hp); (try rw [hb]); (try clear hb))) | skip) | refine kct ?_ | refine kcf ?_ | (refine kcs (fun hb => ?_) (fun hb => ?_) <;> (have hp := hb; (try simp only [decide_eq_true_eq, Bool.eq_false_iff, ne_eq, Bool.not_eq_true', Bool.not_eq_false', Bool.and_eq_true, Bool.or_eq_true, decide_true, decide_false, Bool.and_true, Bool.true_and, Bool.false_eq_true, not_false_eq_true, true_and, and_true] at hp); (try rw [hb]); (try clear hb))) | (refine kret ?_; repeat (first | with_reducible refine beh_r ?_ | with_reducible refine blk_r ?_)) | refine kb ?_ | (refine ps_split (fun hb => ?_) (fun hb => ?_); (fail_if_success (guard_hyp hb : true = true)); (fail_if_success (guard_hyp hb : false = true)); all_goals (have hp := hb; (try simp only [decide_eq_true_eq, Bool.eq_false_iff, ne_eq, Bool.not_eq_true', Bool.not_eq_false', Bool.and_eq_true, Bool.or_eq_true, decide_true, decide_false, Bool.and_true, Bool.true_and, Bool.false_eq_true, not_false_eq_true, true_and, and_true] at hp); (try rw [hb]); (try clear hb))) | refine ps_alloc fun g => ?_ | refine ps_box fun g => ?_ | refine ps_store ?_ | refine ps_lit fun g => ?_ | refine pops_nil ?_ | (refine pd_split (fun hb => ?_) (fun hb => ?_); (fail_if_success (guard_hyp hb : true = true)); (fail_if_success (guard_hyp hb : false = true)); all_goals (have hp := hb; (try simp only [decide_eq_true_eq, Bool.eq_false_iff, ne_eq, Bool.not_eq_true', Bool.not_eq_false', Bool.and_eq_true, Bool.or_eq_true, decide_true, decide_false, Bool.and_true, Bool.true_and, Bool.false_eq_true, not_false_eq_true, true_and, and_true] at hp); (try rw [hb]); (try clear hb))) | (refine pops_go ?_ ?_ ?_; first | refine pops_end ?_ | (refine ps_split (fun hb => ?_) (fun hb => ?_); (fail_if_success (guard_hyp hb : true = true)); (fail_if_success (guard_hyp hb : false = true)); all_goals (have hp := hb; (try simp only [decide_eq_true_eq, Bool.eq_false_iff, ne_eq, Bool.not_eq_true', Bool.not_eq_false', Bool.and_eq_true, Bool.or_eq_true, decide_true, decide_false, Bool.and_true, Bool.true_and, Bool.false_eq_true, not_false_eq_true, true_and, and_true] at hp); (try rw [hb]); (try clear hb))) | refine ps_alloc fun g => ?_ | refine ps_box fun g => ?_ | refine ps_store ?_ | refine ps_lit fun g => ?_ | refine pops_nil ?_) | (refine pstl_go ?_ ?_ ?_; first | refine pstl_end ?_ | (refine pd_split (fun hb => ?_) (fun hb => ?_); (fail_if_success (guard_hyp hb : true = true)); (fail_if_success (guard_hyp hb : false = true)); all_goals (have hp := hb; (try simp only [decide_eq_true_eq, Bool.eq_false_iff, ne_eq, Bool.not_eq_true', Bool.not_eq_false', Bool.and_eq_true, Bool.or_eq_true, decide_true, decide_false, Bool.and_true, Bool.true_and, Bool.false_eq_true, not_false_eq_true, true_and, and_true] at hp); (try rw [hb]); (try clear hb)))) | (refine kn ?_; repeat (first | with_reducible refine blk_n ?_ | with_reducible refine beh_n ?_)) | (refine kx ?_; (repeat (first | with_reducible refine beh_x ?_ | with_reducible refine blk_up rfl ?_)); refine blk_here ?_; refine beh_n ?_)))
  refine ends_ret ?_ retPV_one
  rfl
theorem rmix_ok (w s k : Int) (hw : 0 ≤ w ∧ w < 4294967296) : PCall Try.prog 68 [.v (.int .u32 w), .v (.int .u32 s), .v (.int .u32 k)] (.v (.int .u32 (mixF w s k))) := by
  obtain ⟨a1, e1⟩ : ∃ a, IntKind.u32.wrap (w * 16) = a := ⟨_, rfl⟩
  obtain ⟨a2, e2⟩ : ∃ a, Go.bits .xor .u32 a1 (w / 32) = a := ⟨_, rfl⟩
  obtain ⟨a3, e3⟩ : ∃ a, IntKind.u32.wrap (a2 + w) = a := ⟨_, rfl⟩
  obtain ⟨a4, e4⟩ : ∃ a, IntKind.u32.wrap (s + k) = a := ⟨_, rfl⟩
  obtain ⟨a5, e5⟩ : ∃ a, Go.bits .xor .u32 a3 a4 = a := ⟨_, rfl⟩
  have e6 : IntKind.u32.wrap (w / 32) = w / 32 := wrap_u32 _ (by omega) (by omega)
  have e : mixF w s k = a5 := by rw [mixF, e1, e2, e3, e4, e5]
  rw [e]
  refine pcall_mk Try.func68 rfl [.tmp 6] Try.results68 18 rfl (tk_start ?_)
  (repeat' (first | refine ka ?_ | refine ksk ?_ | (refine kr ?_ ?_ ?_; first | refine pops_end ?_ | (refine ps_split (fun hb => ?_) (fun hb => ?_); (fail_if_success (guard_hyp hb : true = true)); (fail_if_success (guard_hyp hb : false = true)); all_goals (have hp := hb; (try simp only [decide_eq_true_eq, Bool.eq_false_iff, ne_eq, Bool.not_eq_true', Bool.not_eq_false', Bool.and_eq_true, Bool.or_eq_true, decide_true, decide_false, Bool.and_true, Bool.true_and, Bool.false_eq_true, not_false_eq_true, true_and, and_true] at hp); (try rw [hb]); (try clear hb))) | refine ps_alloc fun g => ?_ | refine ps_box fun g => ?_ | refine ps_store ?_ | refine ps_lit fun g => ?_ | refine pops_nil ?_ | skip) | (refine kd ?_ ?_ ?_; first | refine pstl_end ?_ | (refine pd_split (fun hb => ?_) (fun hb => ?_); (fail_if_success (guard_hyp hb : true = true)); (fail_if_success (guard_hyp hb : false = true)); all_goals (have hp := hb; (try simp only [decide_eq_true_eq, Bool.eq_false_iff, ne_eq, Bool.not_eq_true', Bool.not_eq_false', Bool.and_eq_true, Bool.or_eq_true, decide_true, decide_false, Bool.and_true, Bool.true_and, Bool.false_eq_true, not_false_eq_true, true_and, and_true] at hp); (try rw [hb]); (try clear hb))) | skip) | refine kct ?_ | refine kcf ?_ | (refine kcs (fun hb => ?_) (fun hb => ?_) <;> (have hp := hb; (try simp only [decide_eq_true_eq, Bool.eq_false_iff, ne_eq, Bool.not_eq_true', Bool.not_eq_false', Bool.and_eq_true, Bool.or_eq_true, decide_true, decide_false, Bool.and_true, Bool.true_and, Bool.false_eq_true, not_false_eq_true, true_and, and_true] at hp); (try rw [hb]); (try clear hb))) | (refine kret ?_; repeat (first | with_reducible refine beh_r ?_ | with_reducible refine blk_r ?_)) | refine kb ?_ | (refine ps_split (fun hb => ?_) (fun hb => ?_); (fail_if_success (guard_hyp hb : true = true)); (fail_if_success (guard_hyp hb : false = true)); all_goals (have hp := hb; (try simp only [decide_eq_true_eq, Bool.eq_false_iff, ne_eq, Bool.not_eq_true', Bool.not_eq_false', Bool.and_eq_true, Bool.or_eq_true, decide_true, decide_false, Bool.and_true, Bool.true_and, Bool.false_eq_true, not_false_eq_true, true_and, and_true] at hp); (try rw [hb]); (try clear hb))) | refine ps_alloc fun g => ?_ | refine ps_box fun g => ?_ | refine ps_store ?_ | refine ps_lit fun g => ?_ | refine pops_nil ?_ | (refine pd_split (fun hb => ?_) (fun hb => ?_); (fail_if_success (guard_hyp hb : true = true)); (fail_if_success (guard_hyp hb : false = true)); all_goals (have hp := hb; (try simp only [decide_eq_true_eq, Bool.eq_false_iff, ne_eq, Bool.not_eq_true', Bool.not_eq_false', Bool.and_eq_true, Bool.or_eq_true, decide_true, decide_false, Bool.and_true, Bool.true_and, Bool.false_eq_true, not_false_eq_true, true_and, and_true] at hp); (try rw [hb]); (try clear hb))) | (refine pops_go ?_ ?_ ?_; first | refine pops_end ?_ | (refine ps_split (fun hb => ?_) (fun hb => ?_); (fail_if_success (guard_hyp hb : true = true)); (fail_if_success (guard_hyp hb : false = true)); all_goals (have hp := hb; (try simp only [decide_eq_true_eq, Bool.eq_false_iff, ne_eq, Bool.not_eq_true', Bool.not_eq_false', Bool.and_eq_true, Bool.or_eq_true, decide_true, decide_false, Bool.and_true, Bool.true_and, Bool.false_eq_true, not_false_eq_true, true_and, and_true] at hp); (try rw [hb]); (try clear hb))) | refine ps_alloc fun g => ?_ | refine ps_box fun g => ?_ | refine ps_store ?_ | refine ps_lit fun g => ?_ | refine pops_nil ?_) | (refine pstl_go ?_ ?_ ?_; first | refine pstl_end ?_ | (refine pd_split (fun hb => ?_) (fun hb => ?_); (fail_if_success (guard_hyp hb : true = true)); (fail_if_success (guard_hyp hb : false = true)); all_goals (have hp := hb; (try simp only [decide_eq_true_eq, Bool.eq_false_iff, ne_eq, Bool.not_eq_true', Bool.not_eq_false', Bool.and_eq_true, Bool.or_eq_true, decide_true, decide_false, Bool.and_true, Bool.true_and, Bool.false_eq_true, not_false_eq_true, true_and, and_true] at hp); (try rw [hb]); (try clear hb)))) | (refine kn ?_; repeat (first | with_reducible refine blk_n ?_ | with_reducible refine beh_n ?_)) | (refine kx ?_; (repeat (first | with_reducible refine beh_x ?_ | with_reducible refine blk_up rfl ?_)); refine blk_here ?_; refine beh_n ?_)))
  refine ends_ret ?_ retPV_one
  rfl
theorem word_ok (K : List Int) (hK : K.length = 16) (ho : Oct K) (i : Nat) (hi : i < 4) : PCall Try.prog 69 [.agg (ci .u8 K), .v (.int .u32 i)] (.v (.int .u32 ((ksOf K).getD i 0))) := by
  obtain ⟨r, hr⟩ : ∃ r, r = (ksOf K).getD i 0 := ⟨_, rfl⟩
  have g0 := oct_getD ho (4 * (i : Int)).toNat
  have g1 := oct_getD ho (4 * (i : Int) + 1).toNat
  have g2 := oct_getD ho (4 * (i : Int) + 2).toNat
  have g3 := oct_getD ho (4 * (i : Int) + 3).toNat
  have er : r = K.getD (4 * (i : Int)).toNat 0 + 256 * K.getD (4 * (i : Int) + 1).toNat 0 + 65536 * K.getD (4 * (i : Int) + 2).toNat 0 + 16777216 * K.getD (4 * (i : Int) + 3).toNat 0 := by
    have hd : ∀ n j, (K.drop n).getD j 0 = K.getD (n + j) 0 := by
      intro n j
      rw [List.getD_eq_getElem?_getD, List.getElem?_drop, ← List.getD_eq_getElem?_getD]
    have hc : i = 0 ∨ i = 1 ∨ i = 2 ∨ i = 3 := by omega
    rw [hr]
    rcases hc with rfl | rfl | rfl | rfl
    · show wd K = _
      unfold wd
      show _ = K.getD 0 0 + 256 * K.getD 1 0 + 65536 * K.getD 2 0 + 16777216 * K.getD 3 0
      omega
    · show wd (K.drop 4) = _
      unfold wd
      rw [hd, hd, hd, hd]
      simp only [Nat.reduceAdd]
      show _ = K.getD 4 0 + 256 * K.getD 5 0 + 65536 * K.getD 6 0 + 16777216 * K.getD 7 0
      omega
    · show wd (K.drop 8) = _
      unfold wd
      rw [hd, hd, hd, hd]
      simp only [Nat.reduceAdd]
      show _ = K.getD 8 0 + 256 * K.getD 9 0 + 65536 * K.getD 10 0 + 16777216 * K.getD 11 0
      omega
    · show wd (K.drop 12) = _
      unfold wd
      rw [hd, hd, hd, hd]
      simp only [Nat.reduceAdd]
      show _ = K.getD 12 0 + 256 * K.getD 13 0 + 65536 * K.getD 14 0 + 16777216 * K.getD 15 0
      omega
  rw [← hr, er]
  clear er hr
  refine pcall_mk Try.func69 rfl [.tmp 4] Try.results69 34 rfl (tk_start ?_)
  (repeat refine ka ?_); refine kr ?_ ?_ ?_
  refine ps_box (c := ci .u8 K ++ []) (sz := 16) (fun g0 => ?_) (hc := by rw [List.append_nil]; rfl) (hs := by rw [List.append_nil, ci_length, hK])
  refine pops_go ?_ ?_ (pops_end ?_)
  (repeat refine ka ?_); refine kr ?_ ?_ (pops_end ?_)
  (repeat refine ka ?_); refine kd ?_ ?_ (pstl_end ?_)
  (repeat refine ka ?_); refine kret ?_; repeat (first | with_reducible refine beh_r ?_ | with_reducible refine blk_r ?_)
  refine ends_ret ?_ retPV_one
  rfl
theorem wd_u32 {l : List Int} (h : Oct l) : U32 (wd l) := by
  have g0 := oct_getD h 0
  have g1 := oct_getD h 1
  have g2 := oct_getD h 2
  have g3 := oct_getD h 3
  unfold wd U32
  omega
def xstep (ks : List Int) (t : Int × Int × Int) : Int × Int × Int :=
  ((t.1 + mixF t.2.1 t.2.2 (ks.getD (t.2.2 % 4).toNat 0)) % 4294967296,
   (t.2.1 + mixF ((t.1 + mixF t.2.1 t.2.2 (ks.getD (t.2.2 % 4).toNat 0)) % 4294967296) ((t.2.2 + 2654435769) % 4294967296) (ks.getD ((t.2.2 + 2654435769) % 4294967296 / 2048 % 4).toNat 0)) % 4294967296,
   (t.2.2 + 2654435769) % 4294967296)
def xrun (ks : List Int) (v0 v1 : Int) : Nat → Int × Int × Int
  | 0 => (v0, v1, 0)
  | n + 1 => xstep ks (xrun ks v0 v1 n)
theorem xrun_u32 (ks : List Int) {v0 v1 : Int} (h0 : U32 v0) (h1 : U32 v1) : ∀ n, U32 (xrun ks v0 v1 n).1 ∧ U32 (xrun ks v0 v1 n).2.1 ∧ U32 (xrun ks v0 v1 n).2.2
  | 0 => ⟨h0, h1, Int.le_refl 0, (by decide : (0 : Int) < 4294967296)⟩
  | n + 1 => by
    unfold xrun xstep U32
    refine ⟨⟨?_, ?_⟩, ⟨?_, ?_⟩, ⟨?_, ?_⟩⟩ <;> dsimp only <;> omega
theorem block_ok (K : List Int) (hK : K.length = 16) (ho : Oct K) (v0 v1 : Int) (h0 : U32 v0) (h1 : U32 v1) : PCall Try.prog 64 [.agg (ci .u8 K), .agg [.v (.int .u32 v0), .v (.int .u32 v1)]] (.agg [.v (.int .u32 (xrun (ksOf K) v0 v1 32).1), .v (.int .u32 (xrun (ksOf K) v0 v1 32).2.1)]) := by
  have ck := keyed_ok K hK ho
  have hx := xrun_u32 (ksOf K) h0 h1
  have hz : xrun (ksOf K) v0 v1 0 = (v0, v1, 0) := rfl
  have hsu : ∀ n, xrun (ksOf K) v0 v1 (n + 1) = xstep (ksOf K) (xrun (ksOf K) v0 v1 n) := fun n => rfl
  have hl : (ksOf K).length = 4 := rfl
  generalize xrun (ksOf K) v0 v1 = R at *
  generalize ksOf K = ks at *
  refine pcall_mk Try.func64 rfl [.cell 4 27] Try.results64 40 rfl (tk_start ?_)
  (repeat refine ka ?_); refine kr ?_ ?_ ?_
  refine ps_box (c := ci .u8 K) (sz := 16) (fun g0 => ?_) (hs := by rw [ci_length, hK])
  refine ps_box (fun g1 => ?_)
  refine ps_alloc fun g2 => ?_
  refine pops_nil ?_
  (repeat refine ka ?_); refine kr ?_ ?_ ?_
  refine ps_pcall ck ?_
  refine ps_alloc fun g3 => ?_
  refine ps_store (row' := ci .u32 ks ++ []) ?_ (hn := by rw [ci_length, hl]) (hle := by rw [ci_length, hl]; decide) (hov := by rw [List.append_nil]; simp [over, ci_length, hl])
  refine pops_nil ?_
  (repeat refine ka ?_); refine kr ?_ ?_ (pops_end ?_)
  (repeat refine ka ?_); refine kr ?_ ?_ (pops_end ?_)
  (repeat refine ka ?_); refine kb ?_
  refine kw (fun j : Nat => [(3, PV.ptr 1 g1 0 0), (4, .ptr 2 g2 0 0), (5, .ptr 3 g3 0 0), (6, .v (.int .u32 (R j).2.2)), (9, .v (.int .i64 j))]) (fun j => [⟨g0, true, 16, [ci .u8 K]⟩, ⟨g1, true, 2, [[.v (.int .u32 (R j).1), .v (.int .u32 (R j).2.1)]]⟩, ⟨g2, true, 2, [[.v (.int .u32 0), .v (.int .u32 0)]]⟩, ⟨g3, true, 4, [ci .u32 ks ++ []]⟩]) (fun j => j ≤ 32) (fun j => 32 - j) 0 (by decide) (by rw [hz]; exact (holds 4 (by repeat (first | exact .nil | refine has1 ?_)))) ?_
  intro j hj
  by_cases hg : (j : Int) < 32
  · obtain ⟨x0, x1, x2⟩ := hx j
    have hn := hsu j
    generalize R j = T at *
    obtain ⟨a, b, s⟩ := T
    unfold xstep at hn
    dsimp only at hn x0 x1 x2 ⊢
    have b0 := x2.1
    have b1 := x2.2
    obtain ⟨m1, e1⟩ : ∃ m, m = mixF b s (ks.getD (s % 4).toNat 0) := ⟨_, rfl⟩
    have c1 := mix_ok b s (ks.getD (s % 4).toNat 0)
    rw [← e1] at hn c1
    clear e1
    obtain ⟨a', ea⟩ : ∃ a', a' = (a + m1) % 4294967296 := ⟨_, rfl⟩
    have wa : IntKind.u32.wrap (a + m1) = a' := by rw [ea]; rfl
    obtain ⟨s', es⟩ : ∃ s', s' = (s + 2654435769) % 4294967296 := ⟨_, rfl⟩
    have ws : IntKind.u32.wrap (s + 2654435769) = s' := by rw [es]; rfl
    have s0 : 0 ≤ s' := by omega
    rw [← ea, ← es] at hn
    clear ea es
    obtain ⟨m2, e2⟩ : ∃ m, m = mixF a' s' (ks.getD (s' / 2048 % 4).toNat 0) := ⟨_, rfl⟩
    have c2 := mix_ok a' s' (ks.getD (s' / 2048 % 4).toNat 0)
    rw [← e2] at hn c2
    clear e2
    have wb : IntKind.u32.wrap (b + m2) = (b + m2) % 4294967296 := rfl
    (repeat refine ka ?_); refine kr ?_ ?_ (pops_end ?_)
    (repeat refine ka ?_); refine kct ?_
    (repeat refine ka ?_); refine ksk ?_
    (repeat refine ka ?_); refine kb ?_
    (repeat refine ka ?_); refine kdt 10 ?_
    refine pstl_go ?_ ?_ ?_
    refine pd_pcall c1 ?_
    refine pstl_go ?_ ?_ (pstl_end ?_)
    refine pops_go ?_ ?_ ?_
    refine ps_store (row' := [.v (.int .u32 a'), .v (.int .u32 b)]) ?_
    refine pops_nil ?_
    (repeat refine ka ?_); refine kr ?_ ?_ (pops_end ?_)
    (repeat refine ka ?_); refine kdt 11 ?_
    refine pstl_go ?_ ?_ ?_
    refine pd_pcall c2 ?_
    refine pstl_go ?_ ?_ (pstl_end ?_)
    refine pops_go ?_ ?_ ?_
    refine ps_store (row' := [.v (.int .u32 a'), .v (.int .u32 ((b + m2) % 4294967296))]) ?_
    refine pops_nil ?_
    refine kn ?_; repeat (first | with_reducible refine blk_n ?_ | with_reducible refine beh_n ?_)
    (repeat refine ka ?_); refine kr ?_ ?_ (pops_end ?_)
    refine kn ?_; repeat (first | with_reducible refine blk_n ?_ | with_reducible refine beh_n ?_)
    refine ⟨j + 1, by omega, by omega, ?_⟩
    rw [hn]
    exact (holds 4 (by repeat (first | exact .nil | refine has1 ?_)))
  · obtain rfl : j = 32 := by omega
    (repeat refine ka ?_); refine kr ?_ ?_ (pops_end ?_)
    (repeat refine ka ?_); refine kcf ?_
    (repeat refine ka ?_); refine kx ?_; (repeat (first | with_reducible refine beh_x ?_ | with_reducible refine blk_up rfl ?_)); refine blk_here ?_; refine beh_n ?_
    (repeat refine ka ?_); refine kr ?_ ?_ ?_
    refine ps_store ?_
    refine pops_nil ?_
    (repeat refine ka ?_); refine kret ?_; repeat (first | with_reducible refine beh_r ?_ | with_reducible refine blk_r ?_)
    refine ends_ret ?_ (retPV_1 res_cella)
    rfl
theorem rblock_ok (K : List Int) (hK : K.length = 16) (ho : Oct K) (v0 v1 : Int) (h0 : U32 v0) (h1 : U32 v1) : PCall Try.prog 63 [.agg (ci .u8 K), .agg [.v (.int .u32 v0), .v (.int .u32 v1)]] (.agg [.v (.int .u32 (xrun (ksOf K) v0 v1 32).1), .v (.int .u32 (xrun (ksOf K) v0 v1 32).2.1)]) := by
  have cw := word_ok K hK ho
  have hx := xrun_u32 (ksOf K) h0 h1
  have hz : xrun (ksOf K) v0 v1 0 = (v0, v1, 0) := rfl
  have hsu : ∀ n, xrun (ksOf K) v0 v1 (n + 1) = xstep (ksOf K) (xrun (ksOf K) v0 v1 n) := fun n => rfl
  generalize xrun (ksOf K) v0 v1 = R at *
  generalize ksOf K = ks at *
  refine pcall_mk Try.func63 rfl [.cell 4 27] Try.results63 41 rfl (tk_start ?_)
  (repeat refine ka ?_); refine kr ?_ ?_ ?_
  refine ps_box (c := ci .u8 K) (sz := 16) (fun g0 => ?_) (hs := by rw [ci_length, hK])
  refine ps_box (fun g1 => ?_)
  refine ps_alloc fun g2 => ?_
  refine pops_nil ?_
  (repeat refine ka ?_); refine kr ?_ ?_ (pops_end ?_)
  (repeat refine ka ?_); refine kr ?_ ?_ (pops_end ?_)
  (repeat refine ka ?_); refine kr ?_ ?_ (pops_end ?_)
  (repeat refine ka ?_); refine kr ?_ ?_ (pops_end ?_)
  (repeat refine ka ?_); refine kb ?_
  refine kw (fun j : Nat => [(2, PV.ptr 0 g0 0 0), (4, .ptr 2 g2 0 0), (5, .v (.int .u32 (R j).1)), (6, .v (.int .u32 (R j).2.1)), (7, .v (.int .u32 (R j).2.2)), (8, .v (.int .i64 j))]) (fun j => [⟨g0, true, 16, [ci .u8 K]⟩, ⟨g1, true, 2, [[.v (.int .u32 v0), .v (.int .u32 v1)]]⟩, ⟨g2, true, 2, [[.v (.int .u32 0), .v (.int .u32 0)]]⟩]) (fun j => j ≤ 32) (fun j => 32 - j) 0 (by decide) (by rw [hz]; exact (holds 3 (by repeat (first | exact .nil | refine has1 ?_)))) ?_
  intro j hj
  by_cases hg : (j : Int) < 32
  · obtain ⟨x0, x1, x2⟩ := hx j
    have hn := hsu j
    generalize R j = T at *
    obtain ⟨a, b, s⟩ := T
    unfold xstep at hn
    dsimp only at hn x0 x1 x2 ⊢
    have b0 := x2.1
    have b1 := x2.2
    obtain ⟨m1, e1⟩ : ∃ m, m = mixF b s (ks.getD (s % 4).toNat 0) := ⟨_, rfl⟩
    have w1 := cw (s % 4).toNat (by omega)
    rw [Int.toNat_of_nonneg (by omega : 0 ≤ s % 4)] at w1
    have c1 := rmix_ok b s (ks.getD (s % 4).toNat 0) x1
    rw [← e1] at hn c1
    clear e1
    obtain ⟨a', ea⟩ : ∃ a', a' = (a + m1) % 4294967296 := ⟨_, rfl⟩
    have wa : IntKind.u32.wrap (a + m1) = a' := by rw [ea]; rfl
    have ua : U32 a' := by rw [ea]; exact ⟨by omega, by omega⟩
    obtain ⟨s', es⟩ : ∃ s', s' = (s + 2654435769) % 4294967296 := ⟨_, rfl⟩
    have ws : IntKind.u32.wrap (s + 2654435769) = s' := by rw [es]; rfl
    have s0 : 0 ≤ s' := by omega
    have s1 : s' < 4294967296 := by omega
    rw [← ea, ← es] at hn
    clear ea es
    obtain ⟨m2, e2⟩ : ∃ m, m = mixF a' s' (ks.getD (s' / 2048 % 4).toNat 0) := ⟨_, rfl⟩
    have w2 := cw (s' / 2048 % 4).toNat (by omega)
    rw [Int.toNat_of_nonneg (by omega : 0 ≤ s' / 2048 % 4)] at w2
    have c2 := rmix_ok a' s' (ks.getD (s' / 2048 % 4).toNat 0) ua
    rw [← e2] at hn c2
    clear e2
    have wb : IntKind.u32.wrap (b + m2) = (b + m2) % 4294967296 := rfl
    (repeat refine ka ?_); refine kr ?_ ?_ (pops_end ?_)
    (repeat refine ka ?_); refine kct ?_
    (repeat refine ka ?_); refine ksk ?_
    (repeat refine ka ?_); refine kb ?_
    (repeat refine ka ?_); refine kr ?_ ?_ ?_
    refine ps_pcall w1 ?_
    refine ps_pcall c1 ?_
    refine pops_go ?_ ?_ (pops_end ?_)
    (repeat refine ka ?_); refine kr ?_ ?_ (pops_end ?_)
    (repeat refine ka ?_); refine kr ?_ ?_ ?_
    refine ps_pcall w2 ?_
    refine ps_pcall c2 ?_
    refine pops_go ?_ ?_ (pops_end ?_)
    refine kn ?_; repeat (first | with_reducible refine blk_n ?_ | with_reducible refine beh_n ?_)
    (repeat refine ka ?_); refine kr ?_ ?_ (pops_end ?_)
    refine kn ?_; repeat (first | with_reducible refine blk_n ?_ | with_reducible refine beh_n ?_)
    refine ⟨j + 1, by omega, by omega, ?_⟩
    rw [hn]
    exact (holds 3 (by repeat (first | exact .nil | refine has1 ?_)))
  · obtain rfl : j = 32 := by omega
    (repeat refine ka ?_); refine kr ?_ ?_ (pops_end ?_)
    (repeat refine ka ?_); refine kcf ?_
    (repeat refine ka ?_); refine kx ?_; (repeat (first | with_reducible refine beh_x ?_ | with_reducible refine blk_up rfl ?_)); refine blk_here ?_; refine beh_n ?_
    (repeat refine ka ?_); refine kr ?_ ?_ ?_
    refine ps_store ?_
    refine pops_nil ?_
    (repeat refine ka ?_); refine kret ?_; repeat (first | with_reducible refine beh_r ?_ | with_reducible refine blk_r ?_)
    refine ends_ret ?_ (retPV_1 res_cella)
    rfl
theorem blocks (k0 k1 k2 k3 k4 k5 k6 k7 k8 k9 k10 k11 k12 k13 k14 k15 : Int) (hk : ∀ x ∈ ([k0, k1, k2, k3, k4, k5, k6, k7, k8, k9, k10, k11, k12, k13, k14, k15] : List Int), 0 ≤ x ∧ x < 256) : ∃ B, BlockIs 64 k0 k1 k2 k3 k4 k5 k6 k7 k8 k9 k10 k11 k12 k13 k14 k15 B ∧ BlockIs 63 k0 k1 k2 k3 k4 k5 k6 k7 k8 k9 k10 k11 k12 k13 k14 k15 B := by
  refine ⟨fun v0 v1 => ((xrun (ksOf [k0, k1, k2, k3, k4, k5, k6, k7, k8, k9, k10, k11, k12, k13, k14, k15]) v0 v1 32).1, (xrun (ksOf [k0, k1, k2, k3, k4, k5, k6, k7, k8, k9, k10, k11, k12, k13, k14, k15]) v0 v1 32).2.1), ?_, ?_⟩
  · intro v0 v1 h0 h1
    have h := xrun_u32 (ksOf [k0, k1, k2, k3, k4, k5, k6, k7, k8, k9, k10, k11, k12, k13, k14, k15]) h0 h1 32
    exact ⟨h.1, h.2.1, block_ok [k0, k1, k2, k3, k4, k5, k6, k7, k8, k9, k10, k11, k12, k13, k14, k15] rfl hk v0 v1 h0 h1⟩
  · intro v0 v1 h0 h1
    have h := xrun_u32 (ksOf [k0, k1, k2, k3, k4, k5, k6, k7, k8, k9, k10, k11, k12, k13, k14, k15]) h0 h1 32
    exact ⟨h.1, h.2.1, rblock_ok [k0, k1, k2, k3, k4, k5, k6, k7, k8, k9, k10, k11, k12, k13, k14, k15] rfl hk v0 v1 h0 h1⟩
end Go.Proofs.Yteocmeidkdhmiaa.Pv
