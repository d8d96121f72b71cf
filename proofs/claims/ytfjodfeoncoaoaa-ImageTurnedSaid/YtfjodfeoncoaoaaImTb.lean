-- carapacelaw17.ImageTurned.
import Derived.Test.YtfjodfeoncoaoaaImZa
import Derived.Test.YtfjodfeoncoaoaaImTa
namespace Go.Proofs.Ytfjodfeoncoaoaa.Pv
set_option linter.all false
open Go.RowKit Go.Proofs
set_option maxRecDepth 100000
set_option maxHeartbeats 4000000
theorem turned17 {x0 x1 x2 : PV} (h0 : ∃ xs, x0 = .agg xs ∧ SImg xs) (h1 : SInt .i64 [x1]) (h2 : SInt .u32 [x2]) : PCall Try.prog 5 [x0, x1, x2] (.v (.bool true)) := by
  obtain ⟨xs, rfl, hxs⟩ := h0
  obtain ⟨at_, e1, hat⟩ := h1
  obtain ⟨tu, e2, htu⟩ := h2
  cases e1
  cases e2
  have hat' : -9223372036854775808 ≤ at_ ∧ at_ ≤ 9223372036854775807 := by
    simp [Lit.wf, IntKind.min, IntKind.max, IntKind.bits, IntKind.signed] at hat
    omega
  have htu' := wf32 htu
  obtain ⟨x, rfl, hx, xs1, xs2, xs3⟩ := img_of hxs
  clear hxs hat htu
  have hlx := large_ok x
  by_cases gx : largeF x = true
  · rw [gx] at hlx
    obtain ⟨⟨bcj, del, lz, rng, cry⟩, count, mid, raw, sum, n0, n1, stub, pay, dir⟩ := x
    unfold Img.cells at *
    simp only at hlx ⊢
    refine pcall_mk Try.func5 rfl [.tmp 6] Try.results5 100 rfl (tk_start ?_)
    (repeat' (first | refine ka ?_ | refine ksk ?_ | (refine kr ?_ ?_ ?_; first | refine pops_end ?_ | (refine ps_split (fun hb => ?_) (fun hb => ?_); (fail_if_success (guard_hyp hb : true = true)); (fail_if_success (guard_hyp hb : false = true)); all_goals (have hp := hb; (try simp only [decide_eq_true_eq, Bool.eq_false_iff, ne_eq, Bool.not_eq_true', Bool.not_eq_false', Bool.and_eq_true, Bool.or_eq_true, decide_true, decide_false, Bool.and_true, Bool.true_and, Bool.false_eq_true, not_false_eq_true, true_and, and_true] at hp); (try rw [hb]); (try clear hb))) | refine ps_pcall (im_awake) ?_ | refine ps_pcall_g (im_awake) ?_ | refine ps_pcall (hlx) ?_ | refine ps_pcall_g (hlx) ?_ | refine ps_alloc fun g => ?_ | refine ps_box fun g => ?_ | refine ps_store ?_ | refine ps_lit fun g => ?_ | refine pops_nil ?_ | skip) | (refine kd ?_ ?_ ?_; first | refine pstl_end ?_ | (refine pd_split (fun hb => ?_) (fun hb => ?_); (fail_if_success (guard_hyp hb : true = true)); (fail_if_success (guard_hyp hb : false = true)); all_goals (have hp := hb; (try simp only [decide_eq_true_eq, Bool.eq_false_iff, ne_eq, Bool.not_eq_true', Bool.not_eq_false', Bool.and_eq_true, Bool.or_eq_true, decide_true, decide_false, Bool.and_true, Bool.true_and, Bool.false_eq_true, not_false_eq_true, true_and, and_true] at hp); (try rw [hb]); (try clear hb))) | refine pd_pcall (im_awake) ?_ | refine pd_pcall_g (im_awake) ?_ | refine pd_pcall (hlx) ?_ | refine pd_pcall_g (hlx) ?_ | skip) | refine kct ?_ | refine kcf ?_ | (refine kcs (fun hb => ?_) (fun hb => ?_) <;> (have hp := hb; (try simp only [decide_eq_true_eq, Bool.eq_false_iff, ne_eq, Bool.not_eq_true', Bool.not_eq_false', Bool.and_eq_true, Bool.or_eq_true, decide_true, decide_false, Bool.and_true, Bool.true_and, Bool.false_eq_true, not_false_eq_true, true_and, and_true] at hp); (try rw [hb]); (try clear hb))) | (refine kret ?_; repeat (first | with_reducible refine beh_r ?_ | with_reducible refine blk_r ?_)) | refine kb ?_ | (refine ps_split (fun hb => ?_) (fun hb => ?_); (fail_if_success (guard_hyp hb : true = true)); (fail_if_success (guard_hyp hb : false = true)); all_goals (have hp := hb; (try simp only [decide_eq_true_eq, Bool.eq_false_iff, ne_eq, Bool.not_eq_true', Bool.not_eq_false', Bool.and_eq_true, Bool.or_eq_true, decide_true, decide_false, Bool.and_true, Bool.true_and, Bool.false_eq_true, not_false_eq_true, true_and, and_true] at hp); (try rw [hb]); (try clear hb))) | refine ps_pcall (im_awake) ?_ | refine ps_pcall_g (im_awake) ?_ | refine ps_pcall (hlx) ?_ | refine ps_pcall_g (hlx) ?_ | refine ps_alloc fun g => ?_ | refine ps_box fun g => ?_ | refine ps_store ?_ | refine ps_lit fun g => ?_ | refine pops_nil ?_ | (refine pd_split (fun hb => ?_) (fun hb => ?_); (fail_if_success (guard_hyp hb : true = true)); (fail_if_success (guard_hyp hb : false = true)); all_goals (have hp := hb; (try simp only [decide_eq_true_eq, Bool.eq_false_iff, ne_eq, Bool.not_eq_true', Bool.not_eq_false', Bool.and_eq_true, Bool.or_eq_true, decide_true, decide_false, Bool.and_true, Bool.true_and, Bool.false_eq_true, not_false_eq_true, true_and, and_true] at hp); (try rw [hb]); (try clear hb))) | refine pd_pcall (im_awake) ?_ | refine pd_pcall_g (im_awake) ?_ | refine pd_pcall (hlx) ?_ | refine pd_pcall_g (hlx) ?_ | (refine pops_go ?_ ?_ ?_; first | refine pops_end ?_ | (refine ps_split (fun hb => ?_) (fun hb => ?_); (fail_if_success (guard_hyp hb : true = true)); (fail_if_success (guard_hyp hb : false = true)); all_goals (have hp := hb; (try simp only [decide_eq_true_eq, Bool.eq_false_iff, ne_eq, Bool.not_eq_true', Bool.not_eq_false', Bool.and_eq_true, Bool.or_eq_true, decide_true, decide_false, Bool.and_true, Bool.true_and, Bool.false_eq_true, not_false_eq_true, true_and, and_true] at hp); (try rw [hb]); (try clear hb))) | refine ps_pcall (im_awake) ?_ | refine ps_pcall_g (im_awake) ?_ | refine ps_pcall (hlx) ?_ | refine ps_pcall_g (hlx) ?_ | refine ps_alloc fun g => ?_ | refine ps_box fun g => ?_ | refine ps_store ?_ | refine ps_lit fun g => ?_ | refine pops_nil ?_) | (refine pstl_go ?_ ?_ ?_; first | refine pstl_end ?_ | (refine pd_split (fun hb => ?_) (fun hb => ?_); (fail_if_success (guard_hyp hb : true = true)); (fail_if_success (guard_hyp hb : false = true)); all_goals (have hp := hb; (try simp only [decide_eq_true_eq, Bool.eq_false_iff, ne_eq, Bool.not_eq_true', Bool.not_eq_false', Bool.and_eq_true, Bool.or_eq_true, decide_true, decide_false, Bool.and_true, Bool.true_and, Bool.false_eq_true, not_false_eq_true, true_and, and_true] at hp); (try rw [hb]); (try clear hb))) | refine pd_pcall (im_awake) ?_ | refine pd_pcall_g (im_awake) ?_ | refine pd_pcall (hlx) ?_ | refine pd_pcall_g (hlx) ?_) | (refine kn ?_; repeat (first | with_reducible refine blk_n ?_ | with_reducible refine beh_n ?_)) | (refine kx ?_; (repeat (first | with_reducible refine beh_x ?_ | with_reducible refine blk_up rfl ?_)); refine blk_here ?_; refine beh_n ?_)))
    all_goals (refine ends_ret ?_ retPV_one; rfl)
  rw [Bool.not_eq_true] at gx
  rw [gx] at hlx
  have sx : x.stub.length ≤ 5000 ∧ x.pay.length ≤ 3000 ∧ x.dir.length ≤ 3000 := by
    unfold largeF at gx
    rw [decide_eq_false_iff_not] at gx
    omega
  have hal := x.all_length
  have hpp : ∀ row ∈ ints .u8 [1, 2, 3], ∀ x ∈ row, PV.Pure x := fun row hr x hx => by
    obtain ⟨b, _, rfl⟩ := List.mem_map.1 hr
    rw [List.mem_singleton] at hx
    subst hx
    exact .v _
  cases hR : x.right with
  | false =>
    have c1 := bytes_ok [1, 2, 3] x hx (by decide) (by omega) (by omega) (by omega)
    have hbf : bytesF [1, 2, 3] x = ([], 1) := by unfold bytesF; rw [hR]; rfl
    rw [hbf] at c1
    simp only at c1
    obtain ⟨⟨bcj, del, lz, rng, cry⟩, count, mid, raw, sum, n0, n1, stub, pay, dir⟩ := x
    unfold Img.cells at *
    simp only at hlx c1 ⊢
    clear hx
    refine pcall_mk Try.func5 rfl [.tmp 6] Try.results5 100 rfl (tk_start ?_)
    (repeat refine ka ?_); refine kr ?_ ?_ ?_
    refine ps_box (fun gx => ?_)
    refine pops_go ?_ ?_ (pops_end ?_)
    (repeat refine ka ?_); refine kr ?_ ?_ ?_
    refine ps_pcall im_awake ?_
    refine pops_go ?_ ?_ (pops_end ?_)
    (repeat refine ka ?_); refine kr ?_ ?_ ?_
    refine ps_pcall hlx ?_
    refine pops_go ?_ ?_ (pops_end ?_)
    (repeat refine ka ?_); refine kcf ?_
    (repeat refine ka ?_); refine ksk ?_
    (repeat refine ka ?_); refine kr ?_ ?_ ?_
    refine ps_litg (rows := ints .u8 [1, 2, 3]) ?_ hpp
    refine pops_go ?_ ?_ ?_
    refine ps_pcall c1 ?_
    refine pops_go ?_ ?_ (pops_end ?_)
    (repeat refine ka ?_); refine kr ?_ ?_ (pops_end ?_)
    (repeat refine ka ?_); refine kct ?_
    (repeat refine ka ?_); refine kr ?_ ?_ (pops_end ?_)
    (repeat refine ka ?_); refine kret ?_; repeat (first | with_reducible refine beh_r ?_ | with_reducible refine blk_r ?_)
    refine ends_ret ?_ retPV_one
    rfl
  | true =>
    have hoA := x.all_oct hx
    have c1 := bytes_own [1, 2, 3] x hx hR (by simp; omega) (by decide) (by omega) (by omega) (by omega)
    have hBe : x.bytes [1, 2, 3] = [1, 2, 3] ++ (x.all ++ (le4 (x.all.length : Int) ++ (le4 (crc x.all) ++ [49, 88, 70, 83]))) := rfl
    have hBl : (x.bytes [1, 2, 3]).length = x.all.length + 15 := by rw [hBe]; simp [le4_length]
    rw [hBl, hBe] at c1
    have c9 := isame_ok Img.zero Img.zero zero_ok zero_ok (by decide) (by decide) (by decide) (by decide) (by decide) (by decide)
    rw [sameF_self] at c9
    generalize x.all = A at *
    clear gx xs1 xs2 xs3 hBl hBe hR
    obtain ⟨⟨bcj, del, lz, rng, cry⟩, count, mid, raw, sum, n0, n1, stub, pay, dir⟩ := x
    simp only at sx hal
    clear hx
    unfold Img.cells at hlx c1
    simp only at hlx c1
    show PCall _ _ [.agg [.v (.bool bcj), .v (.int .i64 del), .v (.bool lz), .v (.bool rng), .v (.bool cry), .v (.int .i64 count), .v (.int .i64 mid), .v (.int .i64 raw), .v (.int .u32 sum), .v (.int .u32 n0), .v (.int .u32 n1), .ro 1 false (ints .u8 stub), .ro 1 false (ints .u8 pay), .ro 1 false (ints .u8 dir)], _, _] _
    refine pcall_mk Try.func5 rfl [.tmp 6] Try.results5 100 rfl (tk_start ?_)
    (repeat refine ka ?_); refine kr ?_ ?_ ?_
    refine ps_box (fun gx => ?_)
    refine pops_go ?_ ?_ (pops_end ?_)
    (repeat refine ka ?_); refine kr ?_ ?_ ?_
    refine ps_pcall im_awake ?_
    refine pops_go ?_ ?_ (pops_end ?_)
    (repeat refine ka ?_); refine kr ?_ ?_ ?_
    refine ps_pcall hlx ?_
    refine pops_go ?_ ?_ (pops_end ?_)
    (repeat refine ka ?_); refine kcf ?_
    (repeat refine ka ?_); refine ksk ?_
    (repeat refine ka ?_); refine kr ?_ ?_ ?_
    refine ps_litg (rows := ints .u8 [1, 2, 3]) ?_ hpp
    refine pops_go ?_ ?_ ?_
    refine ps_fcall [] c1 ?_ (by rintro x S' ⟨gx', gA, g', rfl, rfl⟩; exact Nat.le_of_ble_eq_true rfl)
    rintro y S' ⟨gx', gA, g0, rfl, rfl⟩
    (intro x1 S1 hx1 hS1; simp only [List.map_cons, List.map_nil, renB, ren_ints, putB, List.set_cons_zero, List.set_cons_succ, List.cons_append, List.nil_append, List.append_nil, renL, ren, sg, List.length_cons, List.length_nil, Nat.reduceAdd, Nat.zero_add, Nat.add_zero] at hx1 hS1; subst hx1 hS1)
    refine pops_go ?_ ?_ (pops_end ?_)
    clear hlx c1
    by_cases g1 : tu = 0
    · (repeat refine ka ?_); refine kr ?_ ?_ (pops_end ?_)
      (repeat refine ka ?_); refine kct ?_
      (repeat refine ka ?_); refine kr ?_ ?_ (pops_end ?_)
      (repeat refine ka ?_); refine kret ?_; repeat (first | with_reducible refine beh_r ?_ | with_reducible refine blk_r ?_)
      refine ends_ret ?_ retPV_one
      rfl
    by_cases g2 : at_ < 24
    · (repeat refine ka ?_); refine kr ?_ ?_ (pops_end ?_)
      (repeat refine ka ?_); refine kct ?_
      (repeat refine ka ?_); refine kr ?_ ?_ (pops_end ?_)
      (repeat refine ka ?_); refine kret ?_; repeat (first | with_reducible refine beh_r ?_ | with_reducible refine blk_r ?_)
      refine ends_ret ?_ retPV_one
      rfl
    by_cases g3 : at_ > 8 * (((A.length + 15 : Nat) : Int) - 12) - 32
    · (repeat refine ka ?_); refine kr ?_ ?_ (pops_end ?_)
      (repeat refine ka ?_); refine kct ?_
      (repeat refine ka ?_); refine kr ?_ ?_ (pops_end ?_)
      (repeat refine ka ?_); refine kret ?_; repeat (first | with_reducible refine beh_r ?_ | with_reducible refine blk_r ?_)
      refine ends_ret ?_ retPV_one
      rfl
    obtain ⟨a, ha⟩ : ∃ a, a = (at_ - 24).toNat := ⟨_, rfl⟩
    have haA : a + 32 ≤ 8 * A.length := by omega
    obtain ⟨W, hW⟩ : ∃ W, W = BitVec.ofInt 32 tu := ⟨_, rfl⟩
    have hUW : Cr.U W = tu := by rw [hW]; exact Cr.U_of_range32 htu'.1 htu'.2
    have hWn : W ≠ 0#32 := by
      intro h
      rw [h] at hUW
      exact g1 hUW.symm
    have hW0 : Cr.U (W >>> 0) = tu := by rw [BitVec.ushiftRight_zero]; exact hUW
    obtain ⟨TR, hTR⟩ : ∃ TR, TR = le4 (A.length : Int) ++ (le4 (crc A) ++ [49, 88, 70, 83]) := ⟨_, rfl⟩
    have hTl : TR.length = 12 := by rw [hTR]; rfl
    have hTo : Oct TR := by
      intro y hy
      rw [hTR, List.mem_append, List.mem_append] at hy
      rcases hy with h | h | h
      · exact le4_oct _ y h
      · exact le4_oct _ y h
      · exact (by decide : Oct [49, 88, 70, 83]) y h
    rw [← hTR]
    (repeat refine ka ?_); refine kr ?_ ?_ (pops_end ?_)
    (repeat refine ka ?_); refine kcf ?_
    (repeat refine ka ?_); refine ksk ?_
    (repeat refine ka ?_); refine kr ?_ ?_ (pops_end ?_)
    (repeat refine ka ?_); refine kb ?_
    rw [← hW0]
    refine kw (fun q : Nat × List Int => [(1, PV.v (.int .i64 at_)), (2, .v (.int .u32 (Cr.U (W >>> q.1)))), (7, .v (.bool true)), (8, .vw 3 g0 0 (A.length + 15)), (10, .v (.int .i64 q.1))])
      (fun q => [⟨gx, true, 14, [[.v (.bool bcj), .v (.int .i64 del), .v (.bool lz), .v (.bool rng), .v (.bool cry), .v (.int .i64 count), .v (.int .i64 mid), .v (.int .i64 raw), .v (.int .u32 sum), .v (.int .u32 n0), .v (.int .u32 n1), .ro 1 false (ints .u8 stub), .ro 1 false (ints .u8 pay), .ro 1 false (ints .u8 dir)]]⟩, ⟨gx', true, 14, [[.v (.bool bcj), .v (.int .i64 del), .v (.bool lz), .v (.bool rng), .v (.bool cry), .v (.int .i64 count), .v (.int .i64 mid), .v (.int .i64 raw), .v (.int .u32 sum), .v (.int .u32 n0), .v (.int .u32 n1), .ro 1 false (ints .u8 stub), .ro 1 false (ints .u8 pay), .ro 1 false (ints .u8 dir)]]⟩, ⟨gA, false, 1, ints .u8 A⟩, ⟨g0, true, 1, ints .u8 ([1, 2, 3] ++ (q.2 ++ TR))⟩])
      (fun q => q.1 ≤ 32 ∧ q.2.length = A.length ∧ Oct q.2 ∧ Cr.fold (~~~ BitVec.ofInt 32 0) q.2 = Cr.fold (~~~ BitVec.ofInt 32 0) A ^^^ Cr.steps (8 * A.length - a) (Cr.lowb W q.1)) (fun q => 32 - q.1) (0, A) ⟨by simp only; omega, rfl, hoA, turn_start A a W _⟩ (holds 4 (by repeat (first | exact .nil | refine has1 ?_))) ?_
    rintro ⟨i, X⟩ ⟨hi, hXl, hXo, hf⟩
    simp only at hi hXl hXo hf ⊢
    have hLl : ([1, 2, 3] ++ (X ++ TR)).length = A.length + 15 := by simp [hXl, hTl]
    by_cases g : (i : Int) < 32
    · have hlo := Cr.U_lo (W >>> i)
      have hhi := Cr.U32_hi (W >>> i)
      have hq : IntKind.u32.wrap (Cr.U (W >>> i) / 2) = Cr.U (W >>> (i + 1)) := by
        rw [IntKind.wrap_u32, BitVec.shiftRight_add, ← Cr.half32 (W >>> i)]
        omega
      have hod := odd_iff (W >>> i)
      have hob : Cr.odd (W >>> i) = W.getLsbD i := by unfold Cr.odd; rw [BitVec.getLsbD_ushiftRight, Nat.add_zero]
      cases hbit : W.getLsbD i with
      | false =>
        rw [hob, hbit] at hod
        have g5 : ¬ Cr.U (W >>> i) % 2 = 1 := fun h => by cases hod.1 h
        have hf' := turn_keep hf hbit
        (repeat refine ka ?_); refine kr ?_ ?_ (pops_end ?_)
        (repeat refine ka ?_); refine kct ?_
        (repeat refine ka ?_); refine ksk ?_
        (repeat refine ka ?_); refine kb ?_
        (repeat refine ka ?_); refine kr ?_ ?_ (pops_end ?_)
        (repeat refine ka ?_); refine kr ?_ ?_ (pops_end ?_)
        (repeat refine ka ?_); refine kr ?_ ?_ (pops_end ?_)
        (repeat refine ka ?_); refine kcf ?_
        (repeat refine ka ?_); refine ksk ?_
        refine kn ?_; repeat (first | with_reducible refine blk_n ?_ | with_reducible refine beh_n ?_)
        (repeat refine ka ?_); refine kr ?_ ?_ (pops_end ?_)
        refine kn ?_; repeat (first | with_reducible refine blk_n ?_ | with_reducible refine beh_n ?_)
        exact ⟨(i + 1, X), ⟨by simp only; omega, hXl, hXo, hf'⟩, by simp only; omega, (holds 4 (by repeat (first | exact .nil | refine has1 ?_)))⟩
      | true =>
        rw [hob, hbit] at hod
        have g5 : Cr.U (W >>> i) % 2 = 1 := hod.2 rfl
        obtain ⟨hf', hXo'⟩ := turn_step haA (by omega) hXl hXo hf hbit
        have hidx : ((at_ + i) / 8).toNat = (a + i) / 8 + 3 := by omega
        have hrm : ((at_ + i) % 8).toNat = (a + i) % 8 := by omega
        generalize hqe : (a + i) / 8 = q at *
        generalize hre : (a + i) % 8 = r at *
        have hqX : q < X.length := by omega
        have hgd : ([1, 2, 3] ++ (X ++ TR)).getD (q + 3) 0 = X.getD q 0 := by
          rw [Nat.add_comm, show 3 + q = ([1, 2, 3] : List Int).length + q from rfl, getD_app, getD_low hqX]
        have hset : ∀ v : Int, ([1, 2, 3] ++ (X ++ TR)).set (q + 3) v = [1, 2, 3] ++ (X.set q v ++ TR) := by
          intro v
          simp only [List.cons_append, List.nil_append, List.set_cons_succ]
          rw [List.set_append_left _ _ hqX]
        have hxv : Go.bits .xor .u8 (([1, 2, 3] ++ (X ++ TR)).getD (0 + ((at_ + i) / 8).toNat) 0) (tab8.getD ((at_ + i) % 8).toNat 0) = Go.bits .xor .u8 (X.getD q 0) (tab8.getD r 0) := by rw [Nat.zero_add, hidx, hgd, hrm]
        have htl : tab8.length = 8 := rfl
        have hlt : (at_ + i) / 8 < A.length + 15 ∧ 0 ≤ (at_ + i) / 8 := by omega
        have hLl2 := hLl
        generalize hLe : [1, 2, 3] ++ (X ++ TR) = L at *
        (repeat refine ka ?_); refine kr ?_ ?_ (pops_end ?_)
        (repeat refine ka ?_); refine kct ?_
        (repeat refine ka ?_); refine ksk ?_
        (repeat refine ka ?_); refine kb ?_
        (repeat refine ka ?_); refine kr ?_ ?_ (pops_end ?_)
        (repeat refine ka ?_); refine kr ?_ ?_ (pops_end ?_)
        (repeat refine ka ?_); refine kr ?_ ?_ (pops_end ?_)
        (repeat refine ka ?_); refine kct ?_
        (repeat refine ka ?_); refine kr ?_ ?_ (pops_end ?_)
        have hpt : ∀ row ∈ ints .u8 tab8, ∀ x ∈ row, PV.Pure x := fun row hr x hx => by
          obtain ⟨b, _, rfl⟩ := List.mem_map.1 hr
          rw [List.mem_singleton] at hx
          subst hx
          exact .v _
        (repeat refine ka ?_)
        apply kds_once [0, 1, 2, 3, 4, 5, 6, 7, 8, 9, 10, 11, 12, 13, 14] [15]
        · intro Y
          simp only [List.cons_append, List.nil_append]
          refine pstl_go ?_ ?_ ?_
          refine pd_litg (rows := ints .u8 tab8) ?_ hpt
          refine pstl_go ?_ ?_ (pstl_end ?_)
          rfl
        intro hev
        refine hs_wA ?_
        refine hev_use hev [] ?_
        refine ⟨rfl, ?_⟩
        simp only [List.append_nil]
        refine ps_seti ?_
        refine pops_nil ?_
        refine hs_end ?_
        refine pstl_nil ?_
        refine ⟨rfl, ?_⟩
        clear hev
        have hs : L.set (0 + ((at_ + i) / 8).toNat) (Go.bits .xor .u8 (X.getD q 0) (tab8.getD r 0)) = [1, 2, 3] ++ (X.set q (Go.bits .xor .u8 (X.getD q 0) (tab8.getD r 0)) ++ TR) := by rw [Nat.zero_add, hidx]; exact hset _
        rw [hs]
        refine kn ?_; repeat (first | with_reducible refine blk_n ?_ | with_reducible refine beh_n ?_)
        (repeat refine ka ?_); refine kr ?_ ?_ (pops_end ?_)
        refine kn ?_; repeat (first | with_reducible refine blk_n ?_ | with_reducible refine beh_n ?_)
        exact ⟨(i + 1, X.set q (Go.bits .xor .u8 (X.getD q 0) (tab8.getD r 0))), ⟨by simp only; omega, by simp only [List.length_set]; exact hXl, hXo', hf'⟩, by simp only; omega, (holds 4 (by repeat (first | exact .nil | refine has1 ?_)))⟩
    · obtain rfl : i = 32 := by omega
      have hne := turn_end hWn hf
      have hrd := read_turned A X hXl (by omega) hne [1, 2, 3] (by simp; omega)
      rw [← hTR] at hrd
      have hro := read_ok ([1, 2, 3] ++ (X ++ TR)) (fun y hy => by
        rcases List.mem_append.1 hy with h | h
        · exact (by decide : Oct [1, 2, 3]) y h
        rcases List.mem_append.1 h with h | h
        · exact hXo y h
        · exact hTo y h) (by rw [hLl]; omega)
      unfold readP at hro
      rw [hrd] at hro
      unfold Wh.cells Wh.zero at hro
      simp only at hro
      clear hf hXo hrd
      (repeat refine ka ?_); refine kr ?_ ?_ (pops_end ?_)
      (repeat refine ka ?_); refine kcf ?_
      (repeat refine ka ?_); refine kx ?_; (repeat (first | with_reducible refine beh_x ?_ | with_reducible refine blk_up rfl ?_)); refine blk_here ?_; refine beh_n ?_
      (repeat refine ka ?_); refine kr ?_ ?_ ?_
      refine ps_freeze 3 ?_
      refine ps_rcall [3] hro (.cons (lend_ints (List.mem_singleton.2 rfl) rfl rfl hLl) .nil) ?_ (.inr (frozen_one rfl rfl))
      refine pops_go ?_ ?_ ?_
      refine ps_alloc fun g4 => ?_
      refine pops_go ?_ ?_ ?_
      refine ps_alloc fun g5 => ?_
      refine pops_go ?_ ?_ ?_
      refine ps_st_row ?_
      refine ps_st_row ?_
      refine pops_go ?_ ?_ (pops_end ?_)
      (repeat refine ka ?_); refine kr ?_ ?_ ?_
      refine ps_ug ?_
      refine ps_rcall [] c9 (.cons (.same (Img.cells_pure _)) (.cons (lend_zimg _ _) .nil)) ?_ (.inl (.v _))
      refine pops_go ?_ ?_ (pops_end ?_)
      (repeat refine ka ?_); refine kret ?_; repeat (first | with_reducible refine beh_r ?_ | with_reducible refine blk_r ?_)
      refine ends_ret ?_ retPV_one
      rfl
end Go.Proofs.Ytfjodfeoncoaoaa.Pv
