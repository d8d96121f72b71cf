-- bytes.LastIndex.
import Derived.Test.YtfjodfeoncoaoaaImK
namespace Go.Proofs.Ytfjodfeoncoaoaa.Pv
set_option linter.all false
open Go.RowKit Go.Proofs
set_option maxRecDepth 100000
set_option maxHeartbeats 4000000
def rk (h c : Int) : Int := ((h * 16777619) % 4294967296 + c) % 4294967296
def hs4 (b : List Int) (i : Nat) : Int := rk (rk (rk (rk 0 (b.getD (i + 3) 0)) (b.getD (i + 2) 0)) (b.getD (i + 1) 0)) (b.getD i 0)
def roll (b : List Int) (h : Int) (i : Nat) : Int := (((h * 16777619) % 4294967296 + b.getD i 0) % 4294967296 - (1345077009 * b.getD (i + 4) 0) % 4294967296) % 4294967296
theorem roll_hs (b : List Int) (i : Nat) : roll b (hs4 b (i + 1)) i = hs4 b i := by
  unfold roll hs4 rk
  rw [show i + 1 + 3 = i + 4 by omega, show i + 1 + 2 = i + 3 by omega, show i + 1 + 1 = i + 2 by omega]
  generalize b.getD (i + 4) 0 = d4
  generalize b.getD (i + 3) 0 = d3
  generalize b.getD (i + 2) 0 = d2
  generalize b.getD (i + 1) 0 = d1
  generalize b.getD i 0 = d0
  omega
theorem rk_range (h c : Int) : 0 ≤ rk h c ∧ rk h c < 4294967296 := by unfold rk; omega
theorem hs4_of {b : List Int} {i : Nat} (h : at4 b i = true) : hs4 b i = 561652928 := by
  simp only [at4, decide_eq_true_eq] at h
  unfold hs4
  rw [h.1, h.2.1, h.2.2.1, h.2.2.2]
  rfl
theorem win_iff {b : List Int} {i : Nat} (h : i + 4 ≤ b.length) : (b.drop i).take 4 = [49, 88, 70, 83] ↔ at4 b i = true := by
  have e : (b.drop i).take 4 = [b.getD i 0, b.getD (i + 1) 0, b.getD (i + 2) 0, b.getD (i + 3) 0] := by
    apply List.ext_getElem
    · simp; omega
    · intro j h1 h2
      have hj : j < 4 := by simp at h2; omega
      have hh : ∀ k, k < 4 → (b.drop i)[k]? = some (b.getD (i + k) 0) := by
        intro k hk
        rw [List.getElem?_drop, List.getElem?_eq_getElem (by omega)]
        simp [List.getD_eq_getElem?_getD, List.getElem?_eq_getElem (show i + k < b.length by omega)]
      have h4 : ((b.drop i).take 4)[j]? = some (b.getD (i + j) 0) := by rw [List.getElem?_take, if_pos hj, hh j hj]
      rw [List.getElem?_eq_getElem h1] at h4
      have h5 := Option.some.inj h4
      rw [h5]
      have hc : j = 0 ∨ j = 1 ∨ j = 2 ∨ j = 3 := by omega
      rcases hc with rfl | rfl | rfl | rfl <;> rfl
  rw [e, at4, decide_eq_true_eq]
  simp
theorem rabin_ok (b : List Int) (hb : Oct b) (hl : b.length ≤ 1000000000) (h4 : 4 < b.length) : PCall Try.prog 74 [.ro 1 false (ints .u8 b), .ro 1 false (ints .u8 [49, 88, 70, 83])] (.v (.int .i64 (lastAt b))) := by
  obtain ⟨m, hm⟩ : ∃ m, b.length = m + 4 := ⟨b.length - 4, by omega⟩
  have hla : lastAt b = lastUpto b (m + 1) := by unfold lastAt; rw [hm]; rfl
  have hos : Oct [49, 88, 70, 83] := by decide
  have v4 : ([49, 88, 70, 83] : List Int).length = 4 := rfl
  have hls : IntKind.i64.wrap ((b.length : Int) - (([49, 88, 70, 83] : List Int).length : Int)) = (m : Int) := by
    rw [v4, hm, wrap_i64 _ (by omega) (by omega)]
    omega
  have hm' : (b.length : Int) = m + 4 := by omega
  refine pcall_mk Try.func74 rfl [.tmp 4] Try.results74 94 rfl (tk_start ?_)
  (repeat refine ka ?_); refine kr ?_ ?_ (pops_end ?_)
  (repeat refine ka ?_); refine kr ?_ ?_ ?_
  refine ps_pcall hash_ok ?_
  refine pops_go ?_ ?_ (pops_end ?_)
  (repeat refine ka ?_); refine kr ?_ ?_ (pops_end ?_)
  (repeat refine ka ?_); refine kr ?_ ?_ (pops_end ?_)
  (repeat refine ka ?_); refine kr ?_ ?_ (pops_end ?_)
  (repeat refine ka ?_); refine kr ?_ ?_ (pops_end ?_)
  (repeat refine ka ?_); refine kb ?_
  refine kw (fun p : Int × Int => [(0, PV.ro 1 false (ints .u8 b)), (1, .ro 1 false (ints .u8 [49, 88, 70, 83])), (5, .v (.int .u32 561652928)), (6, .v (.int .u32 1345077009)), (7, .v (.int .i64 (([49, 88, 70, 83] : List Int).length : Int))), (8, .v (.int .i64 (m : Int))), (9, .v (.int .u32 p.2)), (10, .v (.int .i64 p.1))]) (fun _ => [])
    (fun p => (p.1 = (m : Int) + 3 ∧ p.2 = 0) ∨ (p.1 = (m : Int) + 2 ∧ p.2 = rk 0 (b.getD (m + 3) 0)) ∨ (p.1 = (m : Int) + 1 ∧ p.2 = rk (rk 0 (b.getD (m + 3) 0)) (b.getD (m + 2) 0)) ∨ (p.1 = (m : Int) ∧ p.2 = rk (rk (rk 0 (b.getD (m + 3) 0)) (b.getD (m + 2) 0)) (b.getD (m + 1) 0)) ∨ (p.1 = (m : Int) - 1 ∧ p.2 = hs4 b m))
    (fun p => (p.1 - m + 1).toNat) ((b.length : Int) - 1, 0) (.inl ⟨by simp only; omega, rfl⟩) (holds 0 (by repeat (first | exact .nil | refine has1 ?_))) ?_
  rintro ⟨i, h⟩ hv
  simp only at hv ⊢
  by_cases g : i = (m : Int) - 1
  · obtain rfl : h = hs4 b m := by
      rcases hv with h | h | h | h | h
      · exfalso; omega
      · exfalso; omega
      · exfalso; omega
      · exfalso; omega
      · exact h.2
    have hwo : Oct (b.drop (m : Int).toNat) := fun x hx => hb x (List.mem_of_mem_drop hx)
    have hwi : b.drop (m : Int).toNat = [49, 88, 70, 83] ↔ at4 b m = true := by
      rw [← win_iff (by omega), Int.toNat_natCast, List.take_of_length_le (by rw [List.length_drop]; omega)]
    (repeat refine ka ?_); refine kr ?_ ?_ (pops_end ?_)
    (repeat refine ka ?_); refine kcf ?_
    (repeat refine ka ?_); refine kx ?_; (repeat (first | with_reducible refine beh_x ?_ | with_reducible refine blk_up rfl ?_)); refine blk_here ?_; refine beh_n ?_
    (repeat refine ka ?_)
    refine kcut (fun _ : Unit => [(0, PV.ro 1 false (ints .u8 b)), (1, .ro 1 false (ints .u8 [49, 88, 70, 83])), (5, .v (.int .u32 561652928)), (6, .v (.int .u32 1345077009)), (7, .v (.int .i64 (([49, 88, 70, 83] : List Int).length : Int))), (8, .v (.int .i64 (m : Int))), (9, .v (.int .u32 (hs4 b m))), (50, .v (.bool (at4 b m)))]) (fun _ => []) (fun _ => True) ?_ ?_ (by simp)
    · by_cases e : hs4 b m = 561652928
      · by_cases ha : at4 b m = true
        · have hw := hwi.2 ha
          rw [ha]
          (repeat refine ka ?_); refine kd ?_ ?_ ?_
          refine pd_cst_g ?_
          refine pstl_go ?_ ?_ ?_
          refine pd_cst_g ?_
          refine pstl_go ?_ ?_ (pstl_end ?_)
          refine kn ?_; repeat (first | with_reducible refine blk_n ?_ | with_reducible refine beh_n ?_)
          exact ⟨(), trivial, (holds 0 (by repeat (first | exact .nil | refine has1 ?_)))⟩
        · have hw : ¬ b.drop (m : Int).toNat = [49, 88, 70, 83] := fun h => ha (hwi.1 h)
          rw [Bool.not_eq_true] at ha
          rw [ha]
          (repeat refine ka ?_); refine kd ?_ ?_ ?_
          refine pd_cst_g ?_
          refine pstl_go ?_ ?_ ?_
          refine pd_cst_g ?_
          refine pstl_go ?_ ?_ (pstl_end ?_)
          refine kn ?_; repeat (first | with_reducible refine blk_n ?_ | with_reducible refine beh_n ?_)
          exact ⟨(), trivial, (holds 0 (by repeat (first | exact .nil | refine has1 ?_)))⟩
      · have ha : at4 b m = false := by
          cases hh : at4 b m with
          | false => rfl
          | true => exact absurd (hs4_of hh) e
        rw [ha]
        (repeat refine ka ?_); refine kd ?_ ?_ (pstl_end ?_)
        refine kn ?_; repeat (first | with_reducible refine blk_n ?_ | with_reducible refine beh_n ?_)
        exact ⟨(), trivial, (holds 0 (by repeat (first | exact .nil | refine has1 ?_)))⟩
    intro _ _
    clear hwi hwo
    cases ha : at4 b m with
    | true =>
      (repeat refine ka ?_); refine kct ?_
      (repeat refine ka ?_); refine kr ?_ ?_ (pops_end ?_)
      (repeat refine ka ?_); refine kret ?_; repeat (first | with_reducible refine beh_r ?_ | with_reducible refine blk_r ?_)
      refine ends_ret ?_ retPV_one
      rw [hla]
      simp only [lastUpto, ha, if_true]
    | false =>
      (repeat refine ka ?_); refine kcf ?_
      (repeat refine ka ?_); refine ksk ?_
      (repeat refine ka ?_); refine kr ?_ ?_ (pops_end ?_)
      (repeat refine ka ?_); refine kb ?_
      refine kw (fun k : Nat => [(0, PV.ro 1 false (ints .u8 b)), (1, .ro 1 false (ints .u8 [49, 88, 70, 83])), (5, .v (.int .u32 561652928)), (6, .v (.int .u32 1345077009)), (7, .v (.int .i64 (([49, 88, 70, 83] : List Int).length : Int))), (9, .v (.int .u32 (hs4 b k))), (11, .v (.int .i64 ((k : Int) - 1)))]) (fun _ => []) (fun k => k ≤ m ∧ lastAt b = lastUpto b k) (fun k => k) m ⟨Nat.le_refl _, by rw [hla]; simp only [lastUpto, ha]; rfl⟩ (holds 0 (by repeat (first | exact .nil | refine has1 ?_))) ?_
      rintro k ⟨hk, hlk⟩
      cases k with
      | zero =>
        (repeat refine ka ?_); refine kr ?_ ?_ (pops_end ?_)
        (repeat refine ka ?_); refine kcf ?_
        (repeat refine ka ?_); refine kx ?_; (repeat (first | with_reducible refine beh_x ?_ | with_reducible refine blk_up rfl ?_)); refine blk_here ?_; refine beh_n ?_
        (repeat refine ka ?_); refine kr ?_ ?_ (pops_end ?_)
        (repeat refine ka ?_); refine kret ?_; repeat (first | with_reducible refine beh_r ?_ | with_reducible refine blk_r ?_)
        refine ends_ret ?_ retPV_one
        rw [hlk]
        rfl
      | succ k =>
        have hkk : (((k + 1 : Nat) : Int) - 1) = (k : Int) := by omega
        rw [hkk]
        have hc0 := getD_oct hb (k : Int).toNat
        have hc4 := getD_oct hb ((k : Int) + (([49, 88, 70, 83] : List Int).length : Int)).toNat
        have hk4 : ((k : Int) + (([49, 88, 70, 83] : List Int).length : Int)).toNat = k + 4 := by rw [v4]; omega
        have hro := roll_hs b k
        have w1 : IntKind.u32.wrap (hs4 b (k + 1) * 16777619) = (hs4 b (k + 1) * 16777619) % 4294967296 := by rw [IntKind.wrap_u32]
        have w2 : IntKind.u32.wrap ((hs4 b (k + 1) * 16777619) % 4294967296 + b.getD (k : Int).toNat 0) = ((hs4 b (k + 1) * 16777619) % 4294967296 + b.getD (k : Int).toNat 0) % 4294967296 := by rw [IntKind.wrap_u32]
        have w3 : IntKind.u32.wrap (1345077009 * b.getD ((k : Int) + (([49, 88, 70, 83] : List Int).length : Int)).toNat 0) = (1345077009 * b.getD ((k : Int) + (([49, 88, 70, 83] : List Int).length : Int)).toNat 0) % 4294967296 := by rw [IntKind.wrap_u32]
        have w4 : IntKind.u32.wrap (((hs4 b (k + 1) * 16777619) % 4294967296 + b.getD (k : Int).toNat 0) % 4294967296 - (1345077009 * b.getD ((k : Int) + (([49, 88, 70, 83] : List Int).length : Int)).toNat 0) % 4294967296) = hs4 b k := by
          rw [IntKind.wrap_u32, ← hro, hk4, Int.toNat_natCast]
          rfl
        have hwo : Oct ((b.drop (k : Int).toNat).take (((k : Int) + (([49, 88, 70, 83] : List Int).length : Int)).toNat - (k : Int).toNat)) := fun x hx => hb x (List.mem_of_mem_drop (List.mem_of_mem_take hx))
        have hwi : (b.drop (k : Int).toNat).take (((k : Int) + (([49, 88, 70, 83] : List Int).length : Int)).toNat - (k : Int).toNat) = [49, 88, 70, 83] ↔ at4 b k = true := by
          rw [← win_iff (by omega), hk4, Int.toNat_natCast, show k + 4 - k = 4 by omega]
        (repeat refine ka ?_); refine kr ?_ ?_ (pops_end ?_)
        (repeat refine ka ?_); refine kct ?_
        (repeat refine ka ?_); refine ksk ?_
        (repeat refine ka ?_); refine kb ?_
        (repeat refine ka ?_); refine kr ?_ ?_ (pops_end ?_)
        (repeat refine ka ?_); refine kr ?_ ?_ (pops_end ?_)
        (repeat refine ka ?_); refine kr ?_ ?_ (pops_end ?_)
        clear w1 w2 w3 w4 hro
        by_cases e : hs4 b k = 561652928
        · by_cases ha : at4 b k = true
          · have hw := hwi.2 ha
            (repeat refine ka ?_); refine kd ?_ ?_ ?_
            refine pd_cst_g ?_
            refine pstl_go ?_ ?_ ?_
            refine pd_cst_g ?_
            refine pstl_go ?_ ?_ (pstl_end ?_)
            (repeat refine ka ?_); refine kct ?_
            (repeat refine ka ?_); refine kr ?_ ?_ (pops_end ?_)
            (repeat refine ka ?_); refine kret ?_; repeat (first | with_reducible refine beh_r ?_ | with_reducible refine blk_r ?_)
            refine ends_ret ?_ retPV_one
            rw [hlk]
            simp only [lastUpto, ha, if_true]
          · have hw : ¬ (b.drop (k : Int).toNat).take (((k : Int) + (([49, 88, 70, 83] : List Int).length : Int)).toNat - (k : Int).toNat) = [49, 88, 70, 83] := fun h => ha (hwi.1 h)
            rw [Bool.not_eq_true] at ha
            (repeat refine ka ?_); refine kd ?_ ?_ ?_
            refine pd_cst_g ?_
            refine pstl_go ?_ ?_ ?_
            refine pd_cst_g ?_
            refine pstl_go ?_ ?_ (pstl_end ?_)
            (repeat refine ka ?_); refine kcf ?_
            (repeat refine ka ?_); refine ksk ?_
            refine kn ?_; repeat (first | with_reducible refine blk_n ?_ | with_reducible refine beh_n ?_)
            (repeat refine ka ?_); refine kr ?_ ?_ (pops_end ?_)
            refine kn ?_; repeat (first | with_reducible refine blk_n ?_ | with_reducible refine beh_n ?_)
            exact ⟨k, ⟨by omega, by rw [hlk]; simp only [lastUpto, ha]; rfl⟩, by omega, (holds 0 (by repeat (first | exact .nil | refine has1 ?_)))⟩
        · have ha : at4 b k = false := by
            cases hh : at4 b k with
            | false => rfl
            | true => exact absurd (hs4_of hh) e
          (repeat refine ka ?_); refine kd ?_ ?_ (pstl_end ?_)
          (repeat refine ka ?_); refine kcf ?_
          (repeat refine ka ?_); refine ksk ?_
          refine kn ?_; repeat (first | with_reducible refine blk_n ?_ | with_reducible refine beh_n ?_)
          (repeat refine ka ?_); refine kr ?_ ?_ (pops_end ?_)
          refine kn ?_; repeat (first | with_reducible refine blk_n ?_ | with_reducible refine beh_n ?_)
          exact ⟨k, ⟨by omega, by rw [hlk]; simp only [lastUpto, ha]; rfl⟩, by omega, (holds 0 (by repeat (first | exact .nil | refine has1 ?_)))⟩
  · have h0 : (m : Int) ≤ i ∧ i ≤ m + 3 := by omega
    have hc := getD_oct hb i.toNat
    have w1 : IntKind.u32.wrap (h * 16777619) = (h * 16777619) % 4294967296 := by rw [IntKind.wrap_u32]
    have w2 : IntKind.u32.wrap ((h * 16777619) % 4294967296 + b.getD i.toNat 0) = rk h (b.getD i.toNat 0) := by rw [IntKind.wrap_u32]; rfl
    (repeat refine ka ?_); refine kr ?_ ?_ (pops_end ?_)
    (repeat refine ka ?_); refine kct ?_
    (repeat refine ka ?_); refine ksk ?_
    (repeat refine ka ?_); refine kb ?_
    (repeat refine ka ?_); refine kr ?_ ?_ (pops_end ?_)
    refine kn ?_; repeat (first | with_reducible refine blk_n ?_ | with_reducible refine beh_n ?_)
    (repeat refine ka ?_); refine kr ?_ ?_ (pops_end ?_)
    refine kn ?_; repeat (first | with_reducible refine blk_n ?_ | with_reducible refine beh_n ?_)
    refine ⟨(i - 1, rk h (b.getD i.toNat 0)), ?_, by simp only; omega, (holds 0 (by repeat (first | exact .nil | refine has1 ?_)))⟩
    simp only
    rcases hv with ⟨rfl, rfl⟩ | ⟨rfl, rfl⟩ | ⟨rfl, rfl⟩ | ⟨rfl, rfl⟩ | ⟨rfl, rfl⟩
    · exact .inr (.inl ⟨by omega, by rw [show ((m : Int) + 3).toNat = m + 3 by omega]⟩)
    · exact .inr (.inr (.inl ⟨by omega, by rw [show ((m : Int) + 2).toNat = m + 2 by omega]⟩))
    · exact .inr (.inr (.inr (.inl ⟨by omega, by rw [show ((m : Int) + 1).toNat = m + 1 by omega]⟩)))
    · exact .inr (.inr (.inr (.inr ⟨rfl, by rw [Int.toNat_natCast]; rfl⟩)))
    · exfalso; omega
end Go.Proofs.Ytfjodfeoncoaoaa.Pv
