-- bytes.LastIndex of what ends a trailer.
import Derived.Test.YtfjodfeoncoaoaaImJ
namespace Go.Proofs.Ytfjodfeoncoaoaa.Pv
set_option linter.all false
open Go.RowKit Go.Proofs
set_option maxRecDepth 100000
set_option maxHeartbeats 4000000
theorem hash_ok : PCall Try.prog 93 [.ro 1 false (ints .u8 [49, 88, 70, 83])] (.tup [.v (.int .u32 561652928), .v (.int .u32 1345077009)]) := by
  have m0 : IntKind.u32.wrap (0 * 16777619) = 0 := rfl
  have a0 : IntKind.u32.wrap (0 + 83) = 83 := rfl
  have m1 : IntKind.u32.wrap (83 * 16777619) = 1392542377 := rfl
  have a1 : IntKind.u32.wrap (1392542377 + 70) = 1392542447 := rfl
  have m2 : IntKind.u32.wrap (1392542447 * 16777619) = 2563644989 := rfl
  have a2 : IntKind.u32.wrap (2563644989 + 88) = 2563645077 := rfl
  have m3 : IntKind.u32.wrap (2563645077 * 16777619) = 561652879 := rfl
  have a3 : IntKind.u32.wrap (561652879 + 49) = 561652928 := rfl
  have q1 : IntKind.u32.wrap (16777619 * 16777619) = 637696617 := rfl
  have q2 : IntKind.u32.wrap (637696617 * 637696617) = 1345077009 := rfl
  have q3 : IntKind.u32.wrap (1345077009 * 1345077009) = 1566662433 := rfl
  have q4 : IntKind.u32.wrap (1 * 1345077009) = 1345077009 := rfl
  have b4 : Go.bits .and .i64 4 1 = 0 := by decide +kernel
  have b2 : Go.bits .and .i64 2 1 = 0 := by decide +kernel
  have b1 : Go.bits .and .i64 1 1 = 1 := by decide +kernel
  have v4 : ([49, 88, 70, 83] : List Int).length = 4 := rfl
  refine pcall_mk Try.func93 rfl [.tmp 2, .tmp 3] Try.results93 41 rfl (tk_start ?_)
  (repeat refine ka ?_); refine kr ?_ ?_ (pops_end ?_)
  (repeat refine ka ?_); refine kr ?_ ?_ (pops_end ?_)
  (repeat refine ka ?_); refine kr ?_ ?_ (pops_end ?_)
  (repeat refine ka ?_); refine kb ?_
  refine kw (fun p : Int × Int => [(0, PV.ro 1 false (ints .u8 [49, 88, 70, 83])), (4, .v (.int .u32 p.2)), (5, .v (.int .i64 p.1))]) (fun _ => []) (fun p => (p.1 = 3 ∧ p.2 = 0) ∨ (p.1 = 2 ∧ p.2 = 83) ∨ (p.1 = 1 ∧ p.2 = 1392542447) ∨ (p.1 = 0 ∧ p.2 = 2563645077) ∨ (p.1 = -1 ∧ p.2 = 561652928)) (fun p => (p.1 + 1).toNat) (3, 0) (.inl ⟨rfl, rfl⟩) (holds 0 (by repeat (first | exact .nil | refine has1 ?_))) ?_
  rintro ⟨i, v⟩ hv
  simp only at hv ⊢
  rcases hv with ⟨rfl, rfl⟩ | ⟨rfl, rfl⟩ | ⟨rfl, rfl⟩ | ⟨rfl, rfl⟩ | ⟨rfl, rfl⟩
  · have hg : ([49, 88, 70, 83] : List Int).getD (Int.toNat 3) 0 = 83 := rfl
    (repeat refine ka ?_); refine kr ?_ ?_ (pops_end ?_)
    (repeat refine ka ?_); refine kct ?_
    (repeat refine ka ?_); refine ksk ?_
    (repeat refine ka ?_); refine kb ?_
    (repeat refine ka ?_); refine kr ?_ ?_ (pops_end ?_)
    refine kn ?_; repeat (first | with_reducible refine blk_n ?_ | with_reducible refine beh_n ?_)
    (repeat refine ka ?_); refine kr ?_ ?_ (pops_end ?_)
    refine kn ?_; repeat (first | with_reducible refine blk_n ?_ | with_reducible refine beh_n ?_)
    exact ⟨(2, 83), .inr (.inl ⟨rfl, rfl⟩), by decide, (holds 0 (by repeat (first | exact .nil | refine has1 ?_)))⟩
  · have hg : ([49, 88, 70, 83] : List Int).getD (Int.toNat 2) 0 = 70 := rfl
    (repeat refine ka ?_); refine kr ?_ ?_ (pops_end ?_)
    (repeat refine ka ?_); refine kct ?_
    (repeat refine ka ?_); refine ksk ?_
    (repeat refine ka ?_); refine kb ?_
    (repeat refine ka ?_); refine kr ?_ ?_ (pops_end ?_)
    refine kn ?_; repeat (first | with_reducible refine blk_n ?_ | with_reducible refine beh_n ?_)
    (repeat refine ka ?_); refine kr ?_ ?_ (pops_end ?_)
    refine kn ?_; repeat (first | with_reducible refine blk_n ?_ | with_reducible refine beh_n ?_)
    exact ⟨(1, 1392542447), .inr (.inr (.inl ⟨rfl, rfl⟩)), by decide, (holds 0 (by repeat (first | exact .nil | refine has1 ?_)))⟩
  · have hg : ([49, 88, 70, 83] : List Int).getD (Int.toNat 1) 0 = 88 := rfl
    (repeat refine ka ?_); refine kr ?_ ?_ (pops_end ?_)
    (repeat refine ka ?_); refine kct ?_
    (repeat refine ka ?_); refine ksk ?_
    (repeat refine ka ?_); refine kb ?_
    (repeat refine ka ?_); refine kr ?_ ?_ (pops_end ?_)
    refine kn ?_; repeat (first | with_reducible refine blk_n ?_ | with_reducible refine beh_n ?_)
    (repeat refine ka ?_); refine kr ?_ ?_ (pops_end ?_)
    refine kn ?_; repeat (first | with_reducible refine blk_n ?_ | with_reducible refine beh_n ?_)
    exact ⟨(0, 2563645077), .inr (.inr (.inr (.inl ⟨rfl, rfl⟩))), by decide, (holds 0 (by repeat (first | exact .nil | refine has1 ?_)))⟩
  · have hg : ([49, 88, 70, 83] : List Int).getD (Int.toNat 0) 0 = 49 := rfl
    (repeat refine ka ?_); refine kr ?_ ?_ (pops_end ?_)
    (repeat refine ka ?_); refine kct ?_
    (repeat refine ka ?_); refine ksk ?_
    (repeat refine ka ?_); refine kb ?_
    (repeat refine ka ?_); refine kr ?_ ?_ (pops_end ?_)
    refine kn ?_; repeat (first | with_reducible refine blk_n ?_ | with_reducible refine beh_n ?_)
    (repeat refine ka ?_); refine kr ?_ ?_ (pops_end ?_)
    refine kn ?_; repeat (first | with_reducible refine blk_n ?_ | with_reducible refine beh_n ?_)
    exact ⟨(-1, 561652928), .inr (.inr (.inr (.inr ⟨rfl, rfl⟩))), by decide, (holds 0 (by repeat (first | exact .nil | refine has1 ?_)))⟩
  · (repeat refine ka ?_); refine kr ?_ ?_ (pops_end ?_)
    (repeat refine ka ?_); refine kcf ?_
    (repeat refine ka ?_); refine kx ?_; (repeat (first | with_reducible refine beh_x ?_ | with_reducible refine blk_up rfl ?_)); refine blk_here ?_; refine beh_n ?_
    (repeat refine ka ?_); refine kr ?_ ?_ (pops_end ?_)
    (repeat refine ka ?_); refine kr ?_ ?_ (pops_end ?_)
    (repeat refine ka ?_); refine kb ?_
    refine kw (fun p : Int × Int × Int => [(0, PV.ro 1 false (ints .u8 [49, 88, 70, 83])), (4, .v (.int .u32 561652928)), (6, .v (.int .u32 p.2.1)), (7, .v (.int .u32 p.2.2)), (8, .v (.int .i64 p.1))]) (fun _ => []) (fun p => p = (4, 1, 16777619) ∨ p = (2, 1, 637696617) ∨ p = (1, 1, 1345077009) ∨ p = (0, 1345077009, 1566662433)) (fun p => p.1.toNat) (4, 1, 16777619) (.inl rfl) (holds 0 (by repeat (first | exact .nil | refine has1 ?_))) ?_
    rintro p hv
    rcases hv with rfl | rfl | rfl | rfl <;> simp only
    · (repeat refine ka ?_); refine kr ?_ ?_ (pops_end ?_)
      (repeat refine ka ?_); refine kct ?_
      (repeat refine ka ?_); refine ksk ?_
      (repeat refine ka ?_); refine kb ?_
      (repeat refine ka ?_); refine kr ?_ ?_ (pops_end ?_)
      (repeat refine ka ?_); refine kcf ?_
      (repeat refine ka ?_); refine ksk ?_
      (repeat refine ka ?_); refine kr ?_ ?_ (pops_end ?_)
      refine kn ?_; repeat (first | with_reducible refine blk_n ?_ | with_reducible refine beh_n ?_)
      (repeat refine ka ?_); refine kr ?_ ?_ (pops_end ?_)
      refine kn ?_; repeat (first | with_reducible refine blk_n ?_ | with_reducible refine beh_n ?_)
      exact ⟨(2, 1, 637696617), .inr (.inl rfl), by decide, (holds 0 (by repeat (first | exact .nil | refine has1 ?_)))⟩
    · (repeat refine ka ?_); refine kr ?_ ?_ (pops_end ?_)
      (repeat refine ka ?_); refine kct ?_
      (repeat refine ka ?_); refine ksk ?_
      (repeat refine ka ?_); refine kb ?_
      (repeat refine ka ?_); refine kr ?_ ?_ (pops_end ?_)
      (repeat refine ka ?_); refine kcf ?_
      (repeat refine ka ?_); refine ksk ?_
      (repeat refine ka ?_); refine kr ?_ ?_ (pops_end ?_)
      refine kn ?_; repeat (first | with_reducible refine blk_n ?_ | with_reducible refine beh_n ?_)
      (repeat refine ka ?_); refine kr ?_ ?_ (pops_end ?_)
      refine kn ?_; repeat (first | with_reducible refine blk_n ?_ | with_reducible refine beh_n ?_)
      exact ⟨(1, 1, 1345077009), .inr (.inr (.inl rfl)), by decide, (holds 0 (by repeat (first | exact .nil | refine has1 ?_)))⟩
    · (repeat refine ka ?_); refine kr ?_ ?_ (pops_end ?_)
      (repeat refine ka ?_); refine kct ?_
      (repeat refine ka ?_); refine ksk ?_
      (repeat refine ka ?_); refine kb ?_
      (repeat refine ka ?_); refine kr ?_ ?_ (pops_end ?_)
      (repeat refine ka ?_); refine kct ?_
      (repeat refine ka ?_); refine kr ?_ ?_ (pops_end ?_)
      (repeat refine ka ?_); refine kr ?_ ?_ (pops_end ?_)
      refine kn ?_; repeat (first | with_reducible refine blk_n ?_ | with_reducible refine beh_n ?_)
      (repeat refine ka ?_); refine kr ?_ ?_ (pops_end ?_)
      refine kn ?_; repeat (first | with_reducible refine blk_n ?_ | with_reducible refine beh_n ?_)
      exact ⟨(0, 1345077009, 1566662433), .inr (.inr (.inr rfl)), by decide, (holds 0 (by repeat (first | exact .nil | refine has1 ?_)))⟩
    · (repeat refine ka ?_); refine kr ?_ ?_ (pops_end ?_)
      (repeat refine ka ?_); refine kcf ?_
      (repeat refine ka ?_); refine kx ?_; (repeat (first | with_reducible refine beh_x ?_ | with_reducible refine blk_up rfl ?_)); refine blk_here ?_; refine beh_n ?_
      (repeat refine ka ?_); refine kr ?_ ?_ (pops_end ?_)
      (repeat refine ka ?_); refine kret ?_; repeat (first | with_reducible refine beh_r ?_ | with_reducible refine blk_r ?_)
      refine ends_ret ?_ retPV_two
      rfl
end Go.Proofs.Ytfjodfeoncoaoaa.Pv
