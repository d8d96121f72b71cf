-- carapaceref04.Back.
import Derived.Test.YteocmeidkdhmiaaLzL
namespace Go.Proofs.Yteocmeidkdhmiaa.Pv
set_option linter.all false
open Go.RowKit Go.Proofs
set_option maxRecDepth 100000
set_option maxHeartbeats 4000000
structure RB where
  at_ : Nat
  out : List Int
  fl : Int
  many : Nat
  g : Nat
theorem getD_drop (l : List Int) (k i : Nat) : (l.drop k).getD i 0 = l.getD (k + i) 0 := by simp [List.getD, List.getElem?_drop]
theorem rback_ok (b : List Int) (n : Int) (hb : Bytes b) (hl : b.length ≤ 1000000) : PCall Try.prog 25 [.ro 1 false (ints .u8 b), .v (.int .i64 n)] (.tup [.ro 1 false (ints .u8 (back b n).1), .v (.int .i64 (back b n).2)]) := by
  refine pcall_mkg Try.func25 rfl [.tmp 4, .tmp 5] Try.results25 122 rfl (tk_start ?_)
  (repeat refine ka ?_); refine kr ?_ ?_ (pops_end ?_)
  by_cases h1 : n < 0
  · (repeat refine ka ?_); refine kr ?_ ?_ (pops_end ?_)
    (repeat refine ka ?_); refine kct ?_
    (repeat refine ka ?_); refine kr ?_ ?_ (pops_end ?_)
    (repeat refine ka ?_); refine kret ?_; repeat (first | with_reducible refine beh_r ?_ | with_reducible refine blk_r ?_)
    refine ends_ret ?_ retPV_two
    rw [back, if_pos (.inl h1)]
    exact gives_two .nil (.same (.v _))
  by_cases h2 : 65536 < n
  · (repeat refine ka ?_); refine kr ?_ ?_ (pops_end ?_)
    (repeat refine ka ?_); refine kct ?_
    (repeat refine ka ?_); refine kr ?_ ?_ (pops_end ?_)
    (repeat refine ka ?_); refine kret ?_; repeat (first | with_reducible refine beh_r ?_ | with_reducible refine blk_r ?_)
    refine ends_ret ?_ retPV_two
    rw [back, if_pos (.inr h2)]
    exact gives_two .nil (.same (.v _))
  have hback : back b n = backF n n.toNat b [] 0 0 := by rw [back, if_neg (by omega)]
  (repeat refine ka ?_); refine kr ?_ ?_ (pops_end ?_)
  (repeat refine ka ?_); refine kcf ?_
  (repeat refine ka ?_); refine ksk ?_
  (repeat refine ka ?_); refine kr ?_ ?_ ?_
  refine ps_lit fun g0 => ?_
  refine pops_go ?_ ?_ (pops_end ?_)
  (repeat refine ka ?_); refine kr ?_ ?_ (pops_end ?_)
  (repeat refine ka ?_); refine kr ?_ ?_ (pops_end ?_)
  (repeat refine ka ?_); refine kr ?_ ?_ (pops_end ?_)
  (repeat refine ka ?_); refine kb ?_
  refine kw (fun s : RB => [(0, .ro 1 false (ints .u8 b)), (1, .v (.int .i64 n)), (6, .vw 0 s.g 0 s.out.length), (7, .v (.int .i64 s.at_)), (8, .v (.int .i64 s.fl)), (9, .v (.int .i64 ((8 - s.many % 8) % 8 : Nat)))]) (fun s => [⟨s.g, true, 1, ints .u8 s.out⟩])
    (fun s => s.at_ ≤ b.length ∧ (0 ≤ s.fl ∧ s.fl < 256) ∧ (s.out.length : Int) ≤ n ∧ ∃ q : Nat, n ≤ s.out.length + q ∧ backF n q (b.drop s.at_) s.out s.fl s.many = back b n) (fun s => n.toNat - s.out.length)
    ⟨0, [], 0, 0, g0⟩ ⟨by simp, ⟨Int.le_refl _, by show (0 : Int) < 256; decide⟩, by simp; omega, n.toNat, by simp; omega, hback.symm⟩ (by simp only [Nat.zero_mod, Nat.sub_zero, Nat.mod_self]; exact (holds 1 (by repeat (first | exact .nil | refine has1 ?_)))) ?_
  rintro ⟨a, out, fl, many, g⟩ ⟨ha, hfl, hon, q, hq, he⟩
  simp only at ha hfl hon hq he ⊢
  by_cases g1 : (out.length : Int) < n
  rotate_left
  · rw [backF_end (by omega)] at he
    (repeat refine ka ?_); refine kr ?_ ?_ (pops_end ?_)
    (repeat refine ka ?_); refine kcf ?_
    (repeat refine ka ?_); refine kx ?_; (repeat (first | with_reducible refine beh_x ?_ | with_reducible refine blk_up rfl ?_)); refine blk_here ?_; refine beh_n ?_
    by_cases g2 : (a : Int) = b.length
    · (repeat refine ka ?_); refine kr ?_ ?_ (pops_end ?_)
      (repeat refine ka ?_); refine kcf ?_
      (repeat refine ka ?_); refine ksk ?_
      (repeat refine ka ?_); refine kr ?_ ?_ (pops_end ?_)
      (repeat refine ka ?_); refine kret ?_; repeat (first | with_reducible refine beh_r ?_ | with_reducible refine blk_r ?_)
      refine ends_ret ?_ retPV_two
      rw [← he, fin, if_neg (by rw [List.length_drop]; omega)]
      exact gives_two (gives_ints rfl rfl rfl) (.same (.v _))
    · (repeat refine ka ?_); refine kr ?_ ?_ (pops_end ?_)
      (repeat refine ka ?_); refine kct ?_
      (repeat refine ka ?_); refine kr ?_ ?_ (pops_end ?_)
      (repeat refine ka ?_); refine kret ?_; repeat (first | with_reducible refine beh_r ?_ | with_reducible refine blk_r ?_)
      refine ends_ret ?_ retPV_two
      rw [← he, fin, if_pos (by rw [List.length_drop]; omega)]
      exact gives_two .nil (.same (.v _))
  obtain ⟨q, rfl⟩ : ∃ q', q = q' + 1 := ⟨q - 1, by omega⟩
  rw [backF, if_neg (by omega), List.length_drop, List.drop_drop, getD_drop] at he
  (repeat refine ka ?_); refine kr ?_ ?_ (pops_end ?_)
  (repeat refine ka ?_); refine kct ?_
  (repeat refine ka ?_); refine ksk ?_
  (repeat refine ka ?_); refine kb ?_
  (repeat refine ka ?_); refine kr ?_ ?_ (pops_end ?_)
  (repeat refine ka ?_)
  refine kcut (fun s : Nat × Int => [(0, .ro 1 false (ints .u8 b)), (1, .v (.int .i64 n)), (6, .vw 0 g 0 out.length), (7, .v (.int .i64 s.1)), (8, .v (.int .i64 s.2)), (9, .v (.int .i64 (8 - many % 8 : Nat)))]) (fun s => [⟨g, true, 1, ints .u8 out⟩])
    (fun s => s.1 ≤ b.length ∧ (0 ≤ s.2 ∧ s.2 < 256) ∧ unit1 n (backF n q) (b.drop s.1) out s.2 many = back b n) ?_ ?_ (by simp)
  · by_cases k1 : many % 8 = 0
    · rw [if_pos (show (many : Int) % 8 = 0 by omega)] at he
      have e0 : (((8 - many % 8) % 8 : Nat) : Int) = 0 := by omega
      (repeat refine ka ?_); refine kct ?_
      by_cases k2 : (b.length : Int) ≤ a
      · rw [if_pos (by omega)] at he
        (repeat refine ka ?_); refine kr ?_ ?_ (pops_end ?_)
        (repeat refine ka ?_); refine kct ?_
        (repeat refine ka ?_); refine kr ?_ ?_ (pops_end ?_)
        (repeat refine ka ?_); refine kret ?_; repeat (first | with_reducible refine beh_r ?_ | with_reducible refine blk_r ?_)
        refine ends_ret ?_ retPV_two
        rw [← he]
        exact gives_two .nil (.same (.v _))
      · rw [if_neg (by omega)] at he
        have hr := hb.getD (a : Int).toNat
        have ea : b.getD (a : Int).toNat 0 = b.getD a 0 := rfl
        (repeat refine ka ?_); refine kr ?_ ?_ (pops_end ?_)
        (repeat refine ka ?_); refine kcf ?_
        (repeat refine ka ?_); refine ksk ?_
        (repeat refine ka ?_); refine kr ?_ ?_ (pops_end ?_)
        (repeat refine ka ?_); refine kr ?_ ?_ (pops_end ?_)
        (repeat refine ka ?_); refine kr ?_ ?_ (pops_end ?_)
        refine kn ?_; repeat (first | with_reducible refine blk_n ?_ | with_reducible refine beh_n ?_)
        rw [Nat.add_zero] at he
        refine ⟨(a + 1, b.getD a 0), ⟨by simp only; omega, hr, he⟩, ?_⟩
        rw [show ((8 - many % 8 : Nat) : Int) = 8 by omega]
        exact (holds 1 (by repeat (first | exact .nil | refine has1 ?_)))
    · rw [if_neg (show ¬ (many : Int) % 8 = 0 by omega)] at he
      have e0 : ¬ (((8 - many % 8) % 8 : Nat) : Int) = 0 := by omega
      (repeat refine ka ?_); refine kcf ?_
      (repeat refine ka ?_); refine ksk ?_
      refine kn ?_; repeat (first | with_reducible refine blk_n ?_ | with_reducible refine beh_n ?_)
      refine ⟨(a, fl), ⟨ha, hfl, he⟩, ?_⟩
      rw [show (8 - many % 8 : Nat) = (8 - many % 8) % 8 by omega]
      exact (holds 1 (by repeat (first | exact .nil | refine has1 ?_)))
  rintro ⟨a', fl'⟩ ⟨ha', hf', he'⟩
  simp only at ha' hf' he' ⊢
  clear he ha hfl
  rw [unit1, List.length_drop, List.drop_drop, List.drop_drop, getD_drop, Nat.add_zero] at he'
  have hleft : ((8 - (many + 1) % 8) % 8 : Nat) = 8 - many % 8 - 1 := by omega
  have hleft' : ((8 - many % 8 : Nat) : Int) - 1 = (8 - many % 8 - 1 : Nat) := by omega
  have hr0 := hb.getD (a' : Int).toNat
  have hr1 := hb.getD ((a' : Int) + 1).toNat
  by_cases g3 : fl' % 2 = 0
  · rw [if_pos g3] at he'
    (repeat refine ka ?_); refine kr ?_ ?_ (pops_end ?_)
    (repeat refine ka ?_); refine kr ?_ ?_ (pops_end ?_)
    (repeat refine ka ?_); refine kr ?_ ?_ (pops_end ?_)
    rw [hleft', ← hleft]
    (repeat refine ka ?_); refine kr ?_ ?_ (pops_end ?_)
    (repeat refine ka ?_); refine kct ?_
    by_cases k2 : (b.length : Int) ≤ a'
    · rw [if_pos (by omega)] at he'
      (repeat refine ka ?_); refine kr ?_ ?_ (pops_end ?_)
      (repeat refine ka ?_); refine kct ?_
      (repeat refine ka ?_); refine kr ?_ ?_ (pops_end ?_)
      (repeat refine ka ?_); refine kret ?_; repeat (first | with_reducible refine beh_r ?_ | with_reducible refine blk_r ?_)
      refine ends_ret ?_ retPV_two
      rw [← he']
      exact gives_two .nil (.same (.v _))
    · rw [if_neg (by omega)] at he'
      have ea : b.getD (a' : Int).toNat 0 = b.getD a' 0 := rfl
      (repeat refine ka ?_); refine kr ?_ ?_ (pops_end ?_)
      (repeat refine ka ?_); refine kcf ?_
      (repeat refine ka ?_); refine ksk ?_
      (repeat refine ka ?_); refine kr ?_ ?_ ?_
      refine ps_lit fun w1 => ?_
      refine ps_app_vw fun w2 => ?_
      refine pops_go ?_ ?_ (pops_end ?_)
      (repeat refine ka ?_); refine kr ?_ ?_ (pops_end ?_)
      (repeat refine ka ?_); refine kx ?_; (repeat (first | with_reducible refine beh_x ?_ | with_reducible refine blk_up rfl ?_)); refine blk_here ?_; refine beh_n ?_
      refine kn ?_; repeat (first | with_reducible refine blk_n ?_ | with_reducible refine beh_n ?_)
      rw [ea]
      refine ⟨⟨a' + 1, out ++ [b.getD a' 0], fl' / 2, many + 1, w2⟩, ⟨by simp only; omega, by simp only; omega, by simp only [List.length_append, List.length_singleton]; omega, q, by simp only [List.length_append, List.length_singleton]; omega, he'⟩, by simp only [List.length_append, List.length_singleton]; omega, ?_⟩
      simp only [List.length_append, List.length_singleton]
      exact (holds 1 (by repeat (first | exact .nil | refine has1 ?_)))
  · rw [if_neg g3] at he'
    (repeat refine ka ?_); refine kr ?_ ?_ (pops_end ?_)
    (repeat refine ka ?_); refine kr ?_ ?_ (pops_end ?_)
    (repeat refine ka ?_); refine kr ?_ ?_ (pops_end ?_)
    rw [hleft', ← hleft]
    (repeat refine ka ?_); refine kr ?_ ?_ (pops_end ?_)
    (repeat refine ka ?_); refine kcf ?_
    (repeat refine ka ?_); refine ksk ?_
    by_cases k2 : (b.length : Int) ≤ a' + 1
    · rw [if_pos (by omega)] at he'
      (repeat refine ka ?_); refine kr ?_ ?_ (pops_end ?_)
      (repeat refine ka ?_); refine kct ?_
      (repeat refine ka ?_); refine kr ?_ ?_ (pops_end ?_)
      (repeat refine ka ?_); refine kret ?_; repeat (first | with_reducible refine beh_r ?_ | with_reducible refine blk_r ?_)
      refine ends_ret ?_ retPV_two
      rw [← he']
      exact gives_two .nil (.same (.v _))
    rw [if_neg (by omega)] at he'
    have ea : b.getD (a' : Int).toNat 0 = b.getD a' 0 := rfl
    have ea1 : b.getD ((a' : Int) + 1).toNat 0 = b.getD (a' + 1) 0 := rfl
    have hfar : farOf (b.drop a') = b.getD (a' : Int).toNat 0 + 256 * (b.getD ((a' : Int) + 1).toNat 0 % 16) + 1 := by rw [farOf, getD_drop, getD_drop, ea, ea1, Nat.add_zero]; omega
    have hlong : longOf (b.drop a') = b.getD ((a' : Int) + 1).toNat 0 / 16 + 3 := by rw [longOf, getD_drop, ea1]
    (repeat refine ka ?_); refine kr ?_ ?_ (pops_end ?_)
    (repeat refine ka ?_); refine kcf ?_
    (repeat refine ka ?_); refine ksk ?_
    (repeat refine ka ?_); refine kd ?_ ?_ (pstl_end ?_)
    (repeat refine ka ?_); refine kr ?_ ?_ (pops_end ?_)
    (repeat refine ka ?_); refine kr ?_ ?_ (pops_end ?_)
    rw [← hfar, ← hlong]
    have hf1 : 1 ≤ farOf (b.drop a') ∧ farOf (b.drop a') ≤ 4096 := by omega
    have hl1 : 3 ≤ longOf (b.drop a') ∧ longOf (b.drop a') ≤ 18 := by omega
    generalize hF : farOf (b.drop a') = F at *
    generalize hG : longOf (b.drop a') = G at *
    by_cases e1 : (out.length : Int) < F
    · rw [if_pos (.inl e1)] at he'
      (repeat refine ka ?_); refine kr ?_ ?_ (pops_end ?_)
      (repeat refine ka ?_); refine kct ?_
      (repeat refine ka ?_); refine kr ?_ ?_ (pops_end ?_)
      (repeat refine ka ?_); refine kret ?_; repeat (first | with_reducible refine beh_r ?_ | with_reducible refine blk_r ?_)
      refine ends_ret ?_ retPV_two
      rw [← he']
      exact gives_two .nil (.same (.v _))
    by_cases e2 : n < (out.length : Int) + G
    · rw [if_pos (.inr (by omega))] at he'
      (repeat refine ka ?_); refine kr ?_ ?_ (pops_end ?_)
      (repeat refine ka ?_); refine kct ?_
      (repeat refine ka ?_); refine kr ?_ ?_ (pops_end ?_)
      (repeat refine ka ?_); refine kret ?_; repeat (first | with_reducible refine beh_r ?_ | with_reducible refine blk_r ?_)
      refine ends_ret ?_ retPV_two
      rw [← he']
      exact gives_two .nil (.same (.v _))
    rw [if_neg (by omega)] at he'
    (repeat refine ka ?_); refine kr ?_ ?_ (pops_end ?_)
    (repeat refine ka ?_); refine kcf ?_
    (repeat refine ka ?_); refine ksk ?_
    (repeat refine ka ?_); refine kr ?_ ?_ (pops_end ?_)
    (repeat refine ka ?_); refine kb ?_
    refine kw (fun s : Nat × List Int × Nat => [(0, .ro 1 false (ints .u8 b)), (1, .v (.int .i64 n)), (6, .vw 0 s.2.2 0 s.2.1.length), (7, .v (.int .i64 (a' + 2 : Nat))), (8, .v (.int .i64 (fl' / 2))), (9, .v (.int .i64 ((8 - (many + 1) % 8) % 8 : Nat))), (11, .v (.int .i64 F)), (12, .v (.int .i64 G)), (13, .v (.int .i64 s.1))]) (fun s => [⟨s.2.2, true, 1, ints .u8 s.2.1⟩])
      (fun s => s.1 ≤ G.toNat ∧ s.2.1.length = out.length + s.1 ∧ rep F.toNat (G.toNat - s.1) s.2.1 = rep F.toNat G.toNat out) (fun s => G.toNat - s.1) (0, out, g) ⟨by simp, by simp, by simp⟩ (holds 1 (by repeat (first | exact .nil | refine has1 ?_))) ?_
    rintro ⟨i, o, w⟩ ⟨hi, ho, hr⟩
    simp only at hi ho hr ⊢
    by_cases g4 : (i : Int) < G
    · (repeat refine ka ?_); refine kr ?_ ?_ (pops_end ?_)
      (repeat refine ka ?_); refine kct ?_
      (repeat refine ka ?_); refine ksk ?_
      (repeat refine ka ?_); refine kb ?_
      (repeat refine ka ?_); refine kr ?_ ?_ ?_
      refine ps_lit fun w1 => ?_
      refine ps_app_vw fun w2 => ?_
      refine pops_go ?_ ?_ (pops_end ?_)
      refine kn ?_; repeat (first | with_reducible refine blk_n ?_ | with_reducible refine beh_n ?_)
      (repeat refine ka ?_); refine kr ?_ ?_ (pops_end ?_)
      refine kn ?_; repeat (first | with_reducible refine blk_n ?_ | with_reducible refine beh_n ?_)
      refine ⟨(i + 1, o ++ [o.getD (o.length - F.toNat) 0], w2), ⟨by simp only; omega, by simp only [List.length_append, List.length_singleton]; omega, ?_⟩, by simp only; omega, ?_⟩
      · rw [← hr, show G.toNat - i = (G.toNat - (i + 1)) + 1 by omega]; rfl
      · rw [show o.length - F.toNat = ((o.length : Int) - F).toNat by omega]
        simp only [List.length_append, List.length_singleton]
        exact (holds 1 (by repeat (first | exact .nil | refine has1 ?_)))
    · (repeat refine ka ?_); refine kr ?_ ?_ (pops_end ?_)
      (repeat refine ka ?_); refine kcf ?_
      (repeat refine ka ?_); refine kx ?_; (repeat (first | with_reducible refine beh_x ?_ | with_reducible refine blk_up rfl ?_)); refine blk_here ?_; refine beh_n ?_
      have hi2 : i = G.toNat := by omega
      subst hi2
      rw [Nat.sub_self, rep] at hr
      refine kn ?_; repeat (first | with_reducible refine blk_n ?_ | with_reducible refine beh_n ?_)
      refine ⟨⟨a' + 2, o, fl' / 2, many + 1, w⟩, ⟨by simp only; omega, by simp only; omega, by simp only; omega, q, by simp only; omega, by rw [hr]; exact he'⟩, by simp only; omega, (holds 1 (by repeat (first | exact .nil | refine has1 ?_)))⟩
end Go.Proofs.Yteocmeidkdhmiaa.Pv
