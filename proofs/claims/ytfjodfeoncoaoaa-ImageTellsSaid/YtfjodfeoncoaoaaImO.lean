-- image.find.
import Derived.Test.YtfjodfeoncoaoaaImN
import Derived.Test.YtfjodfeoncoaoaaImB
namespace Go.Proofs.Ytfjodfeoncoaoaa.Pv
set_option linter.all false
open Go.RowKit Go.Proofs
set_option maxRecDepth 100000
set_option maxHeartbeats 4000000
theorem lastUpto_range (b : List Int) : ∀ n : Nat, -1 ≤ lastUpto b n ∧ lastUpto b n ≤ (n : Int) - 1
  | 0 => by simp [lastUpto]
  | n + 1 => by
    have := lastUpto_range b n
    simp only [lastUpto]
    split <;> omega
theorem lastAt_range (b : List Int) : -1 ≤ lastAt b ∧ (lastAt b = -1 ∨ lastAt b + 4 ≤ b.length) := by
  have := lastUpto_range b (b.length - 3)
  unfold lastAt
  refine ⟨this.1, ?_⟩
  rcases Nat.lt_or_ge b.length 4 with h | h
  · left
    rw [show b.length - 3 = 0 by omega]
    rfl
  · right
    omega
def findP (b : List Int) : PV := .tup [.v (.int .i64 (findF b).1.1), .v (.int .i64 (findF b).1.2), if (findF b).2.2 = 0 then .v .nilIface else trP (findF b).2.1 (findF b).2.2]
instance findPure (b : List Int) : PureC (findP b) := ⟨.tup fun x hx => by
  simp only [List.mem_cons, List.not_mem_nil, or_false] at hx
  rcases hx with rfl | rfl | rfl
  · exact .v _
  · exact .v _
  · split
    · exact .v _
    · exact (trPure _ _).h⟩
theorem findP_err {b : List Int} {f t a e : Int} (h : findF b = ((f, t), (a, e))) (he : e ≠ 0) : findP b = .tup [.v (.int .i64 f), .v (.int .i64 t), trP a e] := by
  unfold findP
  rw [h]
  simp only [if_neg he]
theorem findP_ok {b : List Int} {f t a : Int} (h : findF b = ((f, t), (a, 0))) : findP b = .tup [.v (.int .i64 f), .v (.int .i64 t), .v .nilIface] := by
  unfold findP
  rw [h]
  rfl
theorem ifaceErr : IfaceT Try.prog 80 := ifaceT (by kernel_rfl)
instance : IfaceT Try.prog 80 := ifaceErr
theorem find_ok (b : List Int) (hb : Oct b) (hl0 : b.length ≤ 1000000000000000) : PCall Try.prog 34 [.ro 1 false (ints .u8 b)] (findP b) := by
  by_cases c1 : 1048576 < (b.length : Int)
  · have hf : findF b = ((0, 0), (0, 4)) := by unfold findF; rw [if_pos c1]
    rw [findP_err hf (by decide)]
    refine pcall_mk Try.func34 rfl [.tmp 2, .tmp 3, .tmp 4] Try.results34 66 rfl (tk_start ?_)
    (repeat refine ka ?_); refine kr ?_ ?_ (pops_end ?_)
    (repeat refine ka ?_); refine kr ?_ ?_ (pops_end ?_)
    (repeat refine ka ?_); refine kct ?_
    (repeat refine ka ?_); refine kr ?_ ?_ ?_
    refine ps_mki ?_
    refine pops_go ?_ ?_ (pops_end ?_)
    (repeat refine ka ?_); refine kret ?_; repeat (first | with_reducible refine beh_r ?_ | with_reducible refine blk_r ?_)
    refine ends_ret ?_ retPV_three
    rfl
  have hl : b.length ≤ 1000000000 := by omega
  have hla := lastAt_range b
  have hwt : IntKind.i64.wrap (lastAt b + 4 - 12) = lastAt b - 8 := by rw [wrap_i64 _ (by omega) (by omega)]; omega
  have hli := lastIndex_ok b hb hl
  have hff : findF b = if lastAt b - 8 < 0 ∨ 65536 < (b.length : Int) - (lastAt b - 8) - 12 then ((0, 0), (lastAt b - 8, 5)) else
      if num4 b (lastAt b - 8).toNat < 44 ∨ lastAt b - 8 < num4 b (lastAt b - 8).toNat then ((0, 0), (lastAt b - 8, 5)) else
      if crc ((b.drop ((lastAt b - 8) - num4 b (lastAt b - 8).toNat).toNat).take (num4 b (lastAt b - 8).toNat).toNat) = num4 b ((lastAt b - 8) + 4).toNat then (((lastAt b - 8) - num4 b (lastAt b - 8).toNat, lastAt b - 8), (0, 0))
      else ((0, 0), ((lastAt b - 8) - num4 b (lastAt b - 8).toNat, 6)) := by unfold findF; rw [if_neg c1]
  refine pcall_mk Try.func34 rfl [.tmp 2, .tmp 3, .tmp 4] Try.results34 66 rfl (tk_start ?_)
  (repeat refine ka ?_); refine kr ?_ ?_ (pops_end ?_)
  (repeat refine ka ?_); refine kr ?_ ?_ (pops_end ?_)
  (repeat refine ka ?_); refine kcf ?_
  (repeat refine ka ?_); refine ksk ?_
  (repeat refine ka ?_); refine kr ?_ ?_ ?_
  refine ps_lit (fun g => ?_)
  refine pops_go ?_ ?_ ?_
  refine ps_cvs ?_
  refine ps_rcall [0] hli (.cons (.same (ints_pure _ _ _ _)) (.cons (lend_ints (List.mem_singleton.2 rfl) rfl rfl rfl) .nil)) ?_ (.inl (.v _))
  refine pops_go ?_ ?_ (pops_end ?_)
  clear hli hwt
  generalize lastAt b = la at *
  obtain ⟨t, ht⟩ : ∃ t, t = la - 8 := ⟨_, rfl⟩
  rw [← ht] at hff ⊢
  by_cases c2 : t < 0
  · rw [if_pos (.inl c2)] at hff
    rw [findP_err hff (by decide)]
    (repeat refine ka ?_); refine kr ?_ ?_ (pops_end ?_)
    (repeat refine ka ?_); refine kct ?_
    (repeat refine ka ?_); refine kr ?_ ?_ ?_
    refine ps_mki ?_
    refine pops_go ?_ ?_ (pops_end ?_)
    (repeat refine ka ?_); refine kret ?_; repeat (first | with_reducible refine beh_r ?_ | with_reducible refine blk_r ?_)
    refine ends_ret ?_ retPV_three
    rfl
  by_cases c3 : 65536 < (b.length : Int) - t - 12
  · rw [if_pos (.inr c3)] at hff
    rw [findP_err hff (by decide)]
    (repeat refine ka ?_); refine kr ?_ ?_ (pops_end ?_)
    (repeat refine ka ?_); refine kct ?_
    (repeat refine ka ?_); refine kr ?_ ?_ ?_
    refine ps_mki ?_
    refine pops_go ?_ ?_ (pops_end ?_)
    (repeat refine ka ?_); refine kret ?_; repeat (first | with_reducible refine beh_r ?_ | with_reducible refine blk_r ?_)
    refine ends_ret ?_ retPV_three
    rfl
  rw [if_neg (by omega)] at hff
  have hn := inum_ok b hb hl t (by omega) (by omega)
  have hn2 := inum_ok b hb hl (t + 4) (by omega) (by omega)
  have hr1 := num4_range hb t.toNat
  have hr2 := num4_range hb (t + 4).toNat
  (repeat refine ka ?_); refine kr ?_ ?_ (pops_end ?_)
  (repeat refine ka ?_); refine kcf ?_
  (repeat refine ka ?_); refine ksk ?_
  (repeat refine ka ?_); refine kr ?_ ?_ ?_
  refine ps_pcall hn ?_
  refine pops_go ?_ ?_ (pops_end ?_)
  generalize num4 b t.toNat = n at *
  by_cases c4 : n < 44
  · rw [if_pos (.inl c4)] at hff
    rw [findP_err hff (by decide)]
    (repeat refine ka ?_); refine kr ?_ ?_ (pops_end ?_)
    (repeat refine ka ?_); refine kct ?_
    (repeat refine ka ?_); refine kr ?_ ?_ ?_
    refine ps_mki ?_
    refine pops_go ?_ ?_ (pops_end ?_)
    (repeat refine ka ?_); refine kret ?_; repeat (first | with_reducible refine beh_r ?_ | with_reducible refine blk_r ?_)
    refine ends_ret ?_ retPV_three
    rfl
  by_cases c5 : t < n
  · rw [if_pos (.inr c5)] at hff
    rw [findP_err hff (by decide)]
    (repeat refine ka ?_); refine kr ?_ ?_ (pops_end ?_)
    (repeat refine ka ?_); refine kct ?_
    (repeat refine ka ?_); refine kr ?_ ?_ ?_
    refine ps_mki ?_
    refine pops_go ?_ ?_ (pops_end ?_)
    (repeat refine ka ?_); refine kret ?_; repeat (first | with_reducible refine beh_r ?_ | with_reducible refine blk_r ?_)
    refine ends_ret ?_ retPV_three
    rfl
  rw [if_neg (by omega)] at hff
  have hcs := csum_ok ((b.drop (t - n).toNat).take (t.toNat - (t - n).toNat)) (fun x hx => hb x (List.mem_of_mem_drop (List.mem_of_mem_take hx))) (by rw [List.length_take, List.length_drop]; omega)
  rw [show n.toNat = t.toNat - (t - n).toNat by omega] at hff
  have hcr := crc_range ((b.drop (t - n).toNat).take (t.toNat - (t - n).toNat))
  generalize num4 b (t + 4).toNat = n2 at *
  (repeat refine ka ?_); refine kr ?_ ?_ (pops_end ?_)
  (repeat refine ka ?_); refine kcf ?_
  (repeat refine ka ?_); refine ksk ?_
  by_cases c6 : crc ((b.drop (t - n).toNat).take (t.toNat - (t - n).toNat)) = n2
  · rw [if_pos c6] at hff
    rw [findP_ok hff]
    (repeat refine ka ?_); refine kr ?_ ?_ ?_
    refine ps_pcall hcs ?_
    refine pops_go ?_ ?_ ?_
    refine ps_pcall hn2 ?_
    refine pops_go ?_ ?_ (pops_end ?_)
    (repeat refine ka ?_); refine kcf ?_
    (repeat refine ka ?_); refine ksk ?_
    (repeat refine ka ?_); refine kr ?_ ?_ (pops_end ?_)
    (repeat refine ka ?_); refine kret ?_; repeat (first | with_reducible refine beh_r ?_ | with_reducible refine blk_r ?_)
    refine ends_ret ?_ retPV_three
    rfl
  · rw [if_neg c6] at hff
    rw [findP_err hff (by decide)]
    (repeat refine ka ?_); refine kr ?_ ?_ ?_
    refine ps_pcall hcs ?_
    refine pops_go ?_ ?_ ?_
    refine ps_pcall hn2 ?_
    refine pops_go ?_ ?_ (pops_end ?_)
    (repeat refine ka ?_); refine kct ?_
    (repeat refine ka ?_); refine kr ?_ ?_ ?_
    refine ps_mki ?_
    refine pops_go ?_ ?_ (pops_end ?_)
    (repeat refine ka ?_); refine kret ?_; repeat (first | with_reducible refine beh_r ?_ | with_reducible refine blk_r ?_)
    refine ends_ret ?_ retPV_three
    rfl
end Go.Proofs.Ytfjodfeoncoaoaa.Pv
