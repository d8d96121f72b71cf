-- carapaceref05.Back.
import Derived.Test.YteocmeidkdhmiaaRcL
namespace Go.Proofs.Yteocmeidkdhmiaa.Pv
set_option linter.all false
open Go.RowKit Go.Proofs
set_option maxRecDepth 100000
set_option maxHeartbeats 4000000
theorem ref_back (B : List Int) (n : Int) (hb : Oct B) (hl : B.length ≤ 1000000) : PCall Try.prog 24 [.ro 1 false (ints .u8 B), .v (.int .i64 n)] (.tup [.ro 1 false (ints .u8 (rback B n).1), .v (.int .i64 (rback B n).2)]) := by
  refine pcall_mkg Try.func24 rfl [.tmp 4, .tmp 5] Try.results24 110 rfl (tk_start ?_)
  (repeat refine ka ?_); refine kr ?_ ?_ (pops_end ?_)
  by_cases h1 : n < 0 ∨ 65536 < n
  · rw [rback, if_pos h1]
    by_cases h0 : n < 0
    · (repeat refine ka ?_); refine kr ?_ ?_ (pops_end ?_)
      (repeat refine ka ?_); refine kct ?_
      (repeat refine ka ?_); refine kr ?_ ?_ (pops_end ?_)
      (repeat refine ka ?_); refine kret ?_; repeat (first | with_reducible refine beh_r ?_ | with_reducible refine blk_r ?_)
      refine ends_ret ?_ retPV_two
      exact gives_two .nil (.same (.v _))
    · have h2 : 65536 < n := by omega
      (repeat refine ka ?_); refine kr ?_ ?_ (pops_end ?_)
      (repeat refine ka ?_); refine kct ?_
      (repeat refine ka ?_); refine kr ?_ ?_ (pops_end ?_)
      (repeat refine ka ?_); refine kret ?_; repeat (first | with_reducible refine beh_r ?_ | with_reducible refine blk_r ?_)
      refine ends_ret ?_ retPV_two
      exact gives_two .nil (.same (.v _))
  by_cases h2 : B.length < 5
  · rw [rback, if_neg h1, if_pos h2]
    (repeat refine ka ?_); refine kr ?_ ?_ (pops_end ?_)
    (repeat refine ka ?_); refine kcf ?_
    (repeat refine ka ?_); refine ksk ?_
    (repeat refine ka ?_); refine kr ?_ ?_ (pops_end ?_)
    (repeat refine ka ?_); refine kct ?_
    (repeat refine ka ?_); refine kr ?_ ?_ (pops_end ?_)
    (repeat refine ka ?_); refine kret ?_; repeat (first | with_reducible refine beh_r ?_ | with_reducible refine blk_r ?_)
    refine ends_ret ?_ retPV_two
    exact gives_two .nil (.same (.v _))
  have hg0 : B.getD (Int.toNat 0) 0 = B.getD 0 0 := rfl
  by_cases h3 : B.getD 0 0 ≠ 0
  · rw [rback, if_neg h1, if_neg h2, if_pos h3]
    (repeat refine ka ?_); refine kr ?_ ?_ (pops_end ?_)
    (repeat refine ka ?_); refine kcf ?_
    (repeat refine ka ?_); refine ksk ?_
    (repeat refine ka ?_); refine kr ?_ ?_ (pops_end ?_)
    (repeat refine ka ?_); refine kcf ?_
    (repeat refine ka ?_); refine ksk ?_
    (repeat refine ka ?_); refine kr ?_ ?_ (pops_end ?_)
    (repeat refine ka ?_); refine kct ?_
    (repeat refine ka ?_); refine kr ?_ ?_ (pops_end ?_)
    (repeat refine ka ?_); refine kret ?_; repeat (first | with_reducible refine beh_r ?_ | with_reducible refine blk_r ?_)
    refine ends_ret ?_ retPV_two
    exact gives_two .nil (.same (.v _))
  (repeat refine ka ?_); refine kr ?_ ?_ (pops_end ?_)
  (repeat refine ka ?_); refine kcf ?_
  (repeat refine ka ?_); refine ksk ?_
  (repeat refine ka ?_); refine kr ?_ ?_ (pops_end ?_)
  (repeat refine ka ?_); refine kcf ?_
  (repeat refine ka ?_); refine ksk ?_
  (repeat refine ka ?_); refine kr ?_ ?_ (pops_end ?_)
  (repeat refine ka ?_); refine kcf ?_
  (repeat refine ka ?_); refine ksk ?_
  (repeat refine ka ?_); refine kr ?_ ?_ (pops_end ?_)
  (repeat refine ka ?_); refine kr ?_ ?_ (pops_end ?_)
  (repeat refine ka ?_); refine kb ?_
  refine kw (fun k : Nat => [(0, .ro 1 false (ints .u8 B)), (1, .v (.int .i64 n)), (6, .v (.int .u32 (nuTo B k))), (7, .v (.int .i64 (k + 1 : Int)))]) (fun k => []) (fun k => k ≤ 4) (fun k => 4 - k) 0 (by omega) (holds 0 (by repeat (first | exact .nil | refine has1 ?_))) ?_
  intro k hk
  obtain ⟨hk0, hk1⟩ := nuTo_in hb k
  by_cases h4 : k < 4
  · have hc := hb.getD (((k : Nat) : Int) + 1).toNat
    have hsh : IntKind.u32.wrap (256 * nuTo B k) = nuTo B k * 256 % 4294967296 := by rw [Int.mul_comm]; exact wrap_u32m _
    have hs : nuTo B k * 256 % 4294967296 + B.getD (((k : Nat) : Int) + 1).toNat 0 = nuTo B (k + 1) := by
      rw [nuTo, nuF, show (((k : Nat) : Int) + 1).toNat = k + 1 by omega]
    (repeat refine ka ?_); refine kr ?_ ?_ (pops_end ?_)
    (repeat refine ka ?_); refine kct ?_
    (repeat refine ka ?_); refine ksk ?_
    (repeat refine ka ?_); refine kb ?_
    (repeat refine ka ?_); refine kr ?_ ?_ (pops_end ?_)
    refine kn ?_; repeat (first | with_reducible refine blk_n ?_ | with_reducible refine beh_n ?_)
    (repeat refine ka ?_); refine kr ?_ ?_ (pops_end ?_)
    refine kn ?_; repeat (first | with_reducible refine blk_n ?_ | with_reducible refine beh_n ?_)
    rw [hs]
    exact ⟨k + 1, by omega, by omega, (holds 0 (by repeat (first | exact .nil | refine has1 ?_)))⟩
  obtain rfl : k = 4 := by omega
  (repeat refine ka ?_); refine kr ?_ ?_ (pops_end ?_)
  (repeat refine ka ?_); refine kcf ?_
  (repeat refine ka ?_); refine kx ?_; (repeat (first | with_reducible refine beh_x ?_ | with_reducible refine blk_up rfl ?_)); refine blk_here ?_; refine beh_n ?_
  (repeat refine ka ?_); refine kr ?_ ?_ (pops_end ?_)
  (repeat refine ka ?_); refine kr ?_ ?_ (pops_end ?_)
  (repeat refine ka ?_); refine kr ?_ ?_ ?_
  refine ps_fcall [] ref_freshg ?_ (by rintro x S' ⟨g, rfl, rfl⟩; exact Nat.le_of_ble_eq_true rfl)
  rintro x S' ⟨g1, rfl, rfl⟩
  (intro x1 S1 hx1 hS1; simp only [List.map_cons, List.map_nil, renB, ren_ints, putB, List.set_cons_zero, List.set_cons_succ, List.cons_append, List.nil_append, List.append_nil, renL, ren, sg, List.length_cons, List.length_nil, Nat.reduceAdd, Nat.zero_add, Nat.add_zero] at hx1 hS1; subst hx1 hS1)
  refine pops_go ?_ ?_ (pops_end ?_)
  (repeat refine ka ?_); refine kr ?_ ?_ ?_
  refine ps_lit (fun g => ?_)
  refine pops_go ?_ ?_ (pops_end ?_)
  (repeat refine ka ?_); refine kr ?_ ?_ (pops_end ?_)
  have hR0 := R0_ok hb
  have hn : 0 ≤ n := by omega
  obtain ⟨n, rfl⟩ := Int.eq_ofNat_of_zero_le hn
  rw [rback, if_neg h1, if_neg h2, if_neg h3, Int.toNat_natCast]
  (repeat refine ka ?_); refine kb ?_
  refine kw (fun s : Nat × Nat × Nat => [(0, .ro 1 false (ints .u8 B)), (1, .v (.int .i64 n)), (6, .v (.int .u32 (decN (R0 B) s.1).1.nu)), (8, .v (.int .i64 s.2.2)), (9, .v (.int .u32 (decN (R0 B) s.1).1.wd)), (10, .vw 0 g1 0 256), (11, .vw 1 s.2.1 0 s.1), (12, .v (.int .i64 s.1))])
    (fun s => [⟨g1, true, 1, ints .i64 (decN (R0 B) s.1).1.l⟩, ⟨s.2.1, true, 1, ints .u8 (decN (R0 B) s.1).2⟩]) (fun s => s.1 ≤ n ∧ (decN (R0 B) s.1).1.short = false ∧ s.2.2 ≤ B.length ∧ (decN (R0 B) s.1).1.b = B.drop s.2.2) (fun s => n - s.1) (0, g, 5) ⟨by simp, rfl, by simp only; omega, rfl⟩ (holds 2 (by repeat (first | exact .nil | refine has1 ?_))) ?_
  rintro ⟨i, g, at_⟩ ⟨hi, hsi, hat, hbd⟩
  simp only at hi hsi hat hbd ⊢
  have hok := decN_ok hR0 i
  have hlen := decN_length (R0 B) i
  by_cases h5 : i < n
  · (repeat refine ka ?_); refine kr ?_ ?_ (pops_end ?_)
    (repeat refine ka ?_); refine kct ?_
    (repeat refine ka ?_); refine ksk ?_
    (repeat refine ka ?_); refine kb ?_
    (repeat refine ka ?_); refine kr ?_ ?_ (pops_end ?_)
    (repeat refine ka ?_); refine kb ?_
    have hst := decN_stop (s := R0 B) (i := i + 1)
    have e1 : decN (R0 B) (i + 1) = ((decTo (decN (R0 B) i).1 8).1, (decN (R0 B) i).2 ++ [((decTo (decN (R0 B) i).1 8).2 : Int) % 256]) := rfl
    generalize hq : decN (R0 B) i = q at *
    obtain ⟨s, out⟩ := q
    dsimp only at *
    refine kw (fun a : Nat × Nat => [(0, .ro 1 false (ints .u8 B)), (1, .v (.int .i64 n)), (6, .v (.int .u32 (decTo s a.1).1.nu)), (8, .v (.int .i64 a.2)), (9, .v (.int .u32 (decTo s a.1).1.wd)), (10, .vw 0 g1 0 256), (11, .vw 1 g 0 i), (12, .v (.int .i64 i)), (13, .v (.int .i64 ((decTo s a.1).2 : Nat)))])
      (fun a => [⟨g1, true, 1, ints .i64 (decTo s a.1).1.l⟩, ⟨g, true, 1, ints .u8 out⟩]) (fun a => a.1 ≤ 8 ∧ (decTo s a.1).1.short = false ∧ a.2 ≤ B.length ∧ (decTo s a.1).1.b = B.drop a.2) (fun a => 8 - a.1) (0, at_) ⟨by simp, hsi, hat, hbd⟩ (holds 2 (by repeat (first | exact .nil | refine has1 ?_))) ?_
    clear hat hbd at_
    rintro ⟨j, at_⟩ ⟨hj, hsj, hat, hbd⟩
    simp only at hj hsj hat hbd ⊢
    have hokj := decTo_ok hok j hj
    have hmj := decTo_m s j hsj
    have e2 : decTo s (j + 1) = if (decTo s j).1.short then decTo s j else ((decTo s j).1.bit (decTo s j).2, 2 * (decTo s j).2 + ((decTo s j).1.took (decTo s j).2).toNat) := rfl
    rw [if_neg (by rw [hsj]; decide)] at e2
    have htk := took_in (decTo s j).1 (decTo s j).2
    have e8 := decTo_stop (s := s) (j := j + 1)
    by_cases hj8 : j < 8
    · have hm := decTo_m8 hsj hj8
      generalize hq2 : decTo s j = q at *
      obtain ⟨t, m⟩ := q
      dsimp only at *
      obtain ⟨hp0, hp1⟩ := hokj.lik.2 m hm
      have hll : t.l.length = 256 := hokj.lik.1
      have w0 := hokj.w0
      have w1 := hokj.w1
      have n0 := hokj.n0
      have n1 := hokj.n1
      obtain ⟨q0, q1, q2⟩ := part_in w0 w1 hp0 hp1
      have hget : t.l.getD (0 + ((m : Nat) : Int).toNat) 0 = t.l.getD m 0 := by rw [Int.toNat_natCast, Nat.zero_add]
      have hpw : IntKind.u32.wrap (t.wd / 2048 * t.l.getD (0 + ((m : Nat) : Int).toNat) 0) = part t.l t.wd m := by
        rw [hget]; exact wrap_u32 _ q0 (by unfold part at q1; omega)
      have hpq : part t.l t.wd m ≤ t.wd := by omega
      have htb : t.took m = if t.nu < part t.l t.wd m then 0 else 1 := rfl
      have hnu : (t.turn m).nu = if t.nu < part t.l t.wd m then t.nu else t.nu - part t.l t.wd m := rfl
      have hwd : (t.turn m).wd = if t.nu < part t.l t.wd m then part t.l t.wd m else t.wd - part t.l t.wd m := rfl
      have htr : (t.turn m).b = t.b ∧ (t.turn m).short = t.short := ⟨rfl, rfl⟩
      have hbe : t.bit m = if (t.turn m).wd < 16777216 then (t.turn m).next else t.turn m := rfl
      have htl : (t.turn m).l = t.l.set m (learn (t.l.getD m 0) (t.took m)) := rfl
      rw [hbe] at e2
      (repeat refine ka ?_); refine kr ?_ ?_ (pops_end ?_)
      (repeat refine ka ?_); refine kct ?_
      (repeat refine ka ?_); refine ksk ?_
      (repeat refine ka ?_); refine kb ?_
      (repeat refine ka ?_); refine kr ?_ ?_ (pops_end ?_)
      (repeat refine ka ?_); refine kr ?_ ?_ (pops_end ?_)
      (repeat refine ka ?_); refine kr ?_ ?_ (pops_end ?_)
      (repeat refine ka ?_)
      refine kcut (fun _ : Unit => [(0, .ro 1 false (ints .u8 B)), (1, .v (.int .i64 n)), (6, .v (.int .u32 (t.turn m).nu)), (8, .v (.int .i64 at_)), (9, .v (.int .u32 (t.turn m).wd)), (10, .vw 0 g1 0 256), (11, .vw 1 g 0 i), (12, .v (.int .i64 i)), (13, .v (.int .i64 (m : Nat))), (15, .v (.int .i64 (t.took m)))])
        (fun _ => [⟨g1, true, 1, ints .i64 t.l⟩, ⟨g, true, 1, ints .u8 out⟩]) (fun _ => True) ?_ ?_ (by simp)
      · rw [htb, hnu, hwd]
        generalize part t.l t.wd m = p at *
        by_cases hb0 : t.nu < p
        · simp only [if_pos hb0]
          (repeat refine ka ?_); refine kct ?_
          (repeat refine ka ?_); refine kr ?_ ?_ (pops_end ?_)
          refine kn ?_; repeat (first | with_reducible refine blk_n ?_ | with_reducible refine beh_n ?_)
          exact ⟨(), trivial, (holds 2 (by repeat (first | exact .nil | refine has1 ?_)))⟩
        · simp only [if_neg hb0]
          (repeat refine ka ?_); refine kcf ?_
          (repeat refine ka ?_); refine kr ?_ ?_ (pops_end ?_)
          (repeat refine ka ?_); refine kr ?_ ?_ (pops_end ?_)
          (repeat refine ka ?_); refine kr ?_ ?_ (pops_end ?_)
          refine kn ?_; repeat (first | with_reducible refine blk_n ?_ | with_reducible refine beh_n ?_)
          exact ⟨(), trivial, (holds 2 (by repeat (first | exact .nil | refine has1 ?_)))⟩
      rintro - -
      have hun0 : 0 ≤ (t.turn m).nu ∧ (t.turn m).nu < 4294967296 := by rw [hnu]; split <;> omega
      have huw0 : 0 ≤ (t.turn m).wd ∧ (t.turn m).wd < 4294967296 := by rw [hwd]; split <;> omega
      have htk2 := htk
      generalize hbb : t.took m = bb at *
      (repeat refine ka ?_); refine kr ?_ ?_ ?_
      refine ps_pcall (ref_learn _ _) ?_
      refine pops_go ?_ ?_ ?_
      refine ps_seti ?_
      refine pops_nil ?_
      rw [hget, show t.l.set (0 + ((m : Nat) : Int).toNat) (learn (t.l.getD m 0) bb) = (t.turn m).l by rw [htl, Int.toNat_natCast, Nat.zero_add]]
      clear hnu hwd htb htl
      have hnx : (t.turn m).next = match (t.turn m).b with | [] => { t.turn m with short := true } | c :: r => { t.turn m with wd := (t.turn m).wd * 256, nu := nuF (t.turn m).nu c, b := r } := rfl
      rw [htr.1, hbd] at hnx
      generalize t.turn m = u at *
      have hmm : ((2 * m + bb.toNat : Nat) : Int) = 2 * (m : Int) + bb := by omega
      (repeat refine ka ?_); refine kr ?_ ?_ (pops_end ?_)
      by_cases hsh : u.wd < 16777216
      · rw [if_pos hsh] at e2
        by_cases hend : B.length ≤ at_
        · rw [List.drop_eq_nil_of_le hend] at hnx
          dsimp only at hnx
          rw [hnx] at e2
          have e9 : (decN (R0 B) n).1.short = true := hst (by rw [e1]; dsimp only; rw [e8 (by rw [e2]) 8 (by omega), e2]) n (by omega)
          rw [if_pos e9]
          (repeat refine ka ?_); refine kr ?_ ?_ (pops_end ?_)
          (repeat refine ka ?_); refine kct ?_
          (repeat refine ka ?_); refine kr ?_ ?_ (pops_end ?_)
          (repeat refine ka ?_); refine kct ?_
          (repeat refine ka ?_); refine kr ?_ ?_ (pops_end ?_)
          (repeat refine ka ?_); refine kret ?_; repeat (first | with_reducible refine beh_r ?_ | with_reducible refine blk_r ?_)
          refine ends_ret ?_ retPV_two
          exact gives_two .nil (.same (.v _))
        · have hd := drop_getD B at_ (by omega)
          rw [hd] at hnx
          dsimp only at hnx
          rw [hnx] at e2
          have hc := hb.getD at_
          have hc' : 0 ≤ B.getD ((at_ : Nat) : Int).toNat 0 ∧ B.getD ((at_ : Nat) : Int).toNat 0 < 256 := by rw [Int.toNat_natCast]; exact hc
          have hwr : IntKind.u32.wrap (256 * u.nu) = u.nu * 256 % 4294967296 := by rw [Int.mul_comm]; exact wrap_u32m _
          (repeat refine ka ?_); refine kr ?_ ?_ (pops_end ?_)
          (repeat refine ka ?_); refine kct ?_
          (repeat refine ka ?_); refine kr ?_ ?_ (pops_end ?_)
          (repeat refine ka ?_); refine kcf ?_
          (repeat refine ka ?_); refine ksk ?_
          (repeat refine ka ?_); refine kr ?_ ?_ (pops_end ?_)
          (repeat refine ka ?_); refine kr ?_ ?_ (pops_end ?_)
          (repeat refine ka ?_); refine kr ?_ ?_ (pops_end ?_)
          refine kn ?_; repeat (first | with_reducible refine blk_n ?_ | with_reducible refine beh_n ?_)
          rw [show u.nu * 256 % 4294967296 + B.getD ((at_ : Nat) : Int).toNat 0 = nuF u.nu (B.getD at_ 0) by rw [Int.toNat_natCast]; rfl]
          refine ⟨(j + 1, at_ + 1), ⟨by simp only; omega, ?_, by simp only; omega, ?_⟩, by simp only; omega, ?_⟩
          · simp only [e2]; rw [htr.2]; exact hsj
          · simp only [e2]
          · simp only [e2, hmm]
            exact (holds 2 (by repeat (first | exact .nil | refine has1 ?_)))
      · rw [if_neg hsh] at e2
        (repeat refine ka ?_); refine kr ?_ ?_ (pops_end ?_)
        (repeat refine ka ?_); refine kcf ?_
        (repeat refine ka ?_); refine ksk ?_
        refine kn ?_; repeat (first | with_reducible refine blk_n ?_ | with_reducible refine beh_n ?_)
        refine ⟨(j + 1, at_), ⟨by simp only; omega, ?_, hat, ?_⟩, by simp only; omega, ?_⟩
        · simp only [e2]; rw [htr.2]; exact hsj
        · simp only [e2]; rw [htr.1]; exact hbd
        · simp only [e2, hmm]
          exact (holds 2 (by repeat (first | exact .nil | refine has1 ?_)))
    · obtain rfl : j = 8 := by omega
      generalize hq2 : decTo s 8 = q at *
      obtain ⟨t, m⟩ := q
      dsimp only at *
      (repeat refine ka ?_); refine kr ?_ ?_ (pops_end ?_)
      (repeat refine ka ?_); refine kcf ?_
      (repeat refine ka ?_); refine kx ?_; (repeat (first | with_reducible refine beh_x ?_ | with_reducible refine blk_up rfl ?_)); refine blk_here ?_; refine beh_n ?_
      (repeat refine ka ?_); refine kr ?_ ?_ ?_
      refine ps_lit (fun g1 => ?_)
      refine pops_go ?_ ?_ ?_
      refine ps_app_vw (rows' := ints .u8 (out ++ [(m : Int) % 256])) (fun g2 => ?_) (hlen := by rw [ints_length, hlen]) (hrows := by simp [ints])
      refine pops_go ?_ ?_ (pops_end ?_)
      refine kn ?_; repeat (first | with_reducible refine blk_n ?_ | with_reducible refine beh_n ?_)
      (repeat refine ka ?_); refine kr ?_ ?_ (pops_end ?_)
      refine kn ?_; repeat (first | with_reducible refine blk_n ?_ | with_reducible refine beh_n ?_)
      refine ⟨(i + 1, g2, at_), ⟨by simp only; omega, by simp only [e1]; exact hsj, hat, by simp only [e1]; exact hbd⟩, by simp only; omega, ?_⟩
      simp only [e1]
      exact (holds 2 (by repeat (first | exact .nil | refine has1 ?_)))
  · obtain rfl : i = n := by omega
    generalize hq : decN (R0 B) i = q at *
    obtain ⟨s, out⟩ := q
    dsimp only at *
    rw [if_neg (by rw [hsi]; decide), hbd]
    by_cases h6 : at_ = B.length
    · rw [h6, List.drop_length, if_neg (by simp)]
      (repeat refine ka ?_); refine kr ?_ ?_ (pops_end ?_)
      (repeat refine ka ?_); refine kcf ?_
      (repeat refine ka ?_); refine kx ?_; (repeat (first | with_reducible refine beh_x ?_ | with_reducible refine blk_up rfl ?_)); refine blk_here ?_; refine beh_n ?_
      (repeat refine ka ?_); refine kr ?_ ?_ (pops_end ?_)
      (repeat refine ka ?_); refine kcf ?_
      (repeat refine ka ?_); refine ksk ?_
      (repeat refine ka ?_); refine kr ?_ ?_ (pops_end ?_)
      (repeat refine ka ?_); refine kret ?_; repeat (first | with_reducible refine beh_r ?_ | with_reducible refine blk_r ?_)
      refine ends_ret ?_ retPV_two
      exact gives_two (gives_ints rfl rfl hlen) (.same (.v _))
    · rw [if_pos (by
        intro h
        have := List.drop_eq_nil_iff.1 h
        omega)]
      (repeat refine ka ?_); refine kr ?_ ?_ (pops_end ?_)
      (repeat refine ka ?_); refine kcf ?_
      (repeat refine ka ?_); refine kx ?_; (repeat (first | with_reducible refine beh_x ?_ | with_reducible refine blk_up rfl ?_)); refine blk_here ?_; refine beh_n ?_
      (repeat refine ka ?_); refine kr ?_ ?_ (pops_end ?_)
      (repeat refine ka ?_); refine kct ?_
      (repeat refine ka ?_); refine kr ?_ ?_ (pops_end ?_)
      (repeat refine ka ?_); refine kret ?_; repeat (first | with_reducible refine beh_r ?_ | with_reducible refine blk_r ?_)
      refine ends_ret ?_ retPV_two
      exact gives_two .nil (.same (.v _))
end Go.Proofs.Yteocmeidkdhmiaa.Pv
