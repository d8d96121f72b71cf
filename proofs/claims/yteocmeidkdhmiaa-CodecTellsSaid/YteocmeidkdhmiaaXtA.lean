-- xtea: From.
import Derived.Test.YteocmeidkdhmiaaSameB
namespace Go.Proofs.Yteocmeidkdhmiaa.Pv
set_option linter.all false
open Go.RowKit Go.Proofs
set_option maxRecDepth 100000
set_option maxHeartbeats 4000000
def U32 (x : Int) : Prop := 0 ≤ x ∧ x < 4294967296
/-- A byte of the stream. -/
def sb (B : Int → Int → Int × Int) (n0 n1 blk : Int) (i : Nat) : Int := (if i / 4 % 2 = 0 then (B ((n0 + blk + (i / 8 : Nat)) % 4294967296) n1).1 else (B ((n0 + blk + (i / 8 : Nat)) % 4294967296) n1).2) / 256 ^ (i % 4) % 256
def xb (B : Int → Int → Int × Int) (n0 n1 blk : Int) (l : List Int) (i : Nat) : Int := Go.bits .xor .u8 (l.getD i 0) (sb B n0 n1 blk i)
def pre (x : Nat → Int) (n : Nat) : List Int := (List.range n).map x
theorem pre_length (x : Nat → Int) (n : Nat) : (pre x n).length = n := by simp [pre]
theorem pre_succ (x : Nat → Int) (n : Nat) : pre x (n + 1) = pre x n ++ [x n] := by simp [pre, List.range_succ]
/-- The first m done, the others as they were. -/
def xpart (l : List Int) (x : Nat → Int) (m : Nat) : List Int := (List.range l.length).map fun i => if i < m then x i else l.getD i 0
theorem xpart_length (l : List Int) (x : Nat → Int) (m : Nat) : (xpart l x m).length = l.length := by simp [xpart]
theorem xpart_zero (l : List Int) (x : Nat → Int) : xpart l x 0 = l := by
  apply List.ext_getElem
  · simp [xpart]
  · intro i h1 h2
    simp [xpart, h2]
theorem xpart_all (l : List Int) (x : Nat → Int) (m : Nat) (h : l.length ≤ m) : xpart l x m = pre x l.length := by
  unfold xpart pre
  apply List.map_congr_left
  intro i hi
  rw [if_pos (by have := List.mem_range.1 hi; omega)]
theorem xpart_get (l : List Int) (x : Nat → Int) (m : Nat) (h : m < l.length) : (xpart l x m).getD m 0 = l.getD m 0 := by
  simp [xpart, h, List.getD]
theorem xpart_step (l : List Int) (x : Nat → Int) (m : Nat) (h : m < l.length) : (xpart l x m).set m (x m) = xpart l x (m + 1) := by
  apply List.ext_getElem
  · simp [xpart]
  · intro i h1 h2
    rw [List.getElem_set]
    simp only [xpart, List.getElem_map, List.getElem_range]
    split
    · rename_i e; subst e; rw [if_pos (by omega)]
    · rename_i e
      by_cases k : i < m
      · rw [if_pos k, if_pos (by omega)]
      · rw [if_neg k, if_neg (by omega)]
def BlockIs (f : Nat) (k0 k1 k2 k3 k4 k5 k6 k7 k8 k9 k10 k11 k12 k13 k14 k15 : Int) (B : Int → Int → Int × Int) : Prop := ∀ v0 v1 : Int, U32 v0 → U32 v1 → U32 (B v0 v1).1 ∧ U32 (B v0 v1).2 ∧ PCall Try.prog f [.agg [.v (.int .u8 k0), .v (.int .u8 k1), .v (.int .u8 k2), .v (.int .u8 k3), .v (.int .u8 k4), .v (.int .u8 k5), .v (.int .u8 k6), .v (.int .u8 k7), .v (.int .u8 k8), .v (.int .u8 k9), .v (.int .u8 k10), .v (.int .u8 k11), .v (.int .u8 k12), .v (.int .u8 k13), .v (.int .u8 k14), .v (.int .u8 k15)], .agg [.v (.int .u32 v0), .v (.int .u32 v1)]] (.agg [.v (.int .u32 (B v0 v1).1), .v (.int .u32 (B v0 v1).2)])
theorem rfrom_ok (k0 k1 k2 k3 k4 k5 k6 k7 k8 k9 k10 k11 k12 k13 k14 k15 n0 n1 blk : Int) (B : Int → Int → Int × Int) (hB : BlockIs 63 k0 k1 k2 k3 k4 k5 k6 k7 k8 k9 k10 k11 k12 k13 k14 k15 B) (h0 : U32 n0) (h1 : U32 n1) (h2 : U32 blk) (l : List Int) (hl : l.length ≤ 1000000) :
    PCall Try.prog 45 [.agg [.v (.int .u8 k0), .v (.int .u8 k1), .v (.int .u8 k2), .v (.int .u8 k3), .v (.int .u8 k4), .v (.int .u8 k5), .v (.int .u8 k6), .v (.int .u8 k7), .v (.int .u8 k8), .v (.int .u8 k9), .v (.int .u8 k10), .v (.int .u8 k11), .v (.int .u8 k12), .v (.int .u8 k13), .v (.int .u8 k14), .v (.int .u8 k15)], .agg [.v (.int .u32 n0), .v (.int .u32 n1)], .v (.int .u32 blk), .ro 1 false (ints .u8 l)] (.ro 1 false (ints .u8 (pre (xb B n0 n1 blk l) l.length))) := by
  refine pcall_mkg Try.func45 rfl [.tmp 8] Try.results45 59 rfl (tk_start ?_)
  (repeat refine ka ?_); refine kr ?_ ?_ ?_
  refine ps_box fun g0 => ?_
  refine ps_box fun g1 => ?_
  refine pops_go ?_ ?_ (pops_end ?_)
  (repeat refine ka ?_); refine kr ?_ ?_ ?_
  refine ps_lit fun g2 => ?_
  refine pops_go ?_ ?_ (pops_end ?_)
  (repeat refine ka ?_); refine kr ?_ ?_ (pops_end ?_)
  (repeat refine ka ?_); refine kb ?_
  refine kw (fun s : Nat × Nat => [(2, .v (.int .u32 blk)), (3, .ro 1 false (ints .u8 l)), (4, .ptr 0 g0 0 0), (5, .ptr 1 g1 0 0), (9, .vw 2 s.2 0 (pre (xb B n0 n1 blk l) s.1).length), (10, .v (.int .i64 s.1))]) (fun s => [⟨g0, true, 16, [[.v (.int .u8 k0), .v (.int .u8 k1), .v (.int .u8 k2), .v (.int .u8 k3), .v (.int .u8 k4), .v (.int .u8 k5), .v (.int .u8 k6), .v (.int .u8 k7), .v (.int .u8 k8), .v (.int .u8 k9), .v (.int .u8 k10), .v (.int .u8 k11), .v (.int .u8 k12), .v (.int .u8 k13), .v (.int .u8 k14), .v (.int .u8 k15)]]⟩, ⟨g1, true, 2, [[.v (.int .u32 n0), .v (.int .u32 n1)]]⟩, ⟨s.2, true, 1, ints .u8 (pre (xb B n0 n1 blk l) s.1)⟩]) (fun s => s.1 ≤ l.length) (fun s => l.length - s.1) (0, g2) (by simp) (by have e : pre (xb B n0 n1 blk l) 0 = [] := rfl; simp only [e]; exact (holds 3 (by repeat (first | exact .nil | refine has1 ?_)))) ?_
  rintro ⟨i, g⟩ hi
  simp only at hi ⊢
  by_cases hg : (i : Int) < l.length
  rotate_left
  · have : i = l.length := by omega
    subst this
    (repeat refine ka ?_); refine kr ?_ ?_ (pops_end ?_)
    (repeat refine ka ?_); refine kcf ?_
    (repeat refine ka ?_); refine kx ?_; (repeat (first | with_reducible refine beh_x ?_ | with_reducible refine blk_up rfl ?_)); refine blk_here ?_; refine beh_n ?_
    (repeat refine ka ?_); refine kr ?_ ?_ (pops_end ?_)
    (repeat refine ka ?_); refine kret ?_; repeat (first | with_reducible refine beh_r ?_ | with_reducible refine blk_r ?_)
    refine ends_ret ?_ retPV_one
    exact gives_ints rfl rfl rfl
  have hU : U32 (((n0 + blk) % 4294967296 + (i : Int) / 8) % 4294967296) := ⟨by omega, by omega⟩
  have ev : ((n0 + blk) % 4294967296 + (i : Int) / 8) % 4294967296 = (n0 + blk + (i / 8 : Nat)) % 4294967296 := by omega
  obtain ⟨q1, q2, q3⟩ := hB _ n1 hU h1
  have e0 : B (((n0 + blk) % 4294967296 + (i : Int) / 8) % 4294967296) n1 = B ((n0 + blk + (i / 8 : Nat)) % 4294967296) n1 := by rw [ev]
  rw [e0] at q1 q2 q3
  clear ev
  obtain ⟨y, hy⟩ : ∃ y, y = if i / 4 % 2 = 0 then (B ((n0 + blk + (i / 8 : Nat)) % 4294967296) n1).1 else (B ((n0 + blk + (i / 8 : Nat)) % 4294967296) n1).2 := ⟨_, rfl⟩
  have hx : xb B n0 n1 blk l i = Go.bits .xor .u8 (l.getD i 0) (y / 256 ^ (i % 4) % 256) := by rw [hy]; rfl
  have hyU : U32 y := by rw [hy]; split <;> assumption
  have hps : pre (xb B n0 n1 blk l) (i + 1) = pre (xb B n0 n1 blk l) i ++ [Go.bits .xor .u8 (l.getD i 0) (y / 256 ^ (i % 4) % 256)] := by rw [pre_succ, hx]
  generalize B ((n0 + blk + (i / 8 : Nat)) % 4294967296) n1 = W at *
  generalize hP : pre (xb B n0 n1 blk l) i = P at *
  clear hB e0 hx
  have hPl : P.length = i := by rw [← hP, pre_length]
  have ei : ((i : Int)).toNat = i := by simp
  (repeat refine ka ?_); refine kr ?_ ?_ (pops_end ?_)
  (repeat refine ka ?_); refine kct ?_
  (repeat refine ka ?_); refine ksk ?_
  (repeat refine ka ?_); refine kb ?_
  (repeat refine ka ?_); refine kr ?_ ?_ ?_
  refine ps_pcall q3 ?_
  refine pops_go ?_ ?_ ?_
  refine ps_alloc fun g3 => ?_
  refine ps_store ?_
  refine pops_nil ?_
  (repeat refine ka ?_)
  refine kcut (fun _ : Unit => [(2, .v (.int .u32 blk)), (3, .ro 1 false (ints .u8 l)), (4, .ptr 0 g0 0 0), (5, .ptr 1 g1 0 0), (9, .vw 2 g 0 P.length), (10, .v (.int .i64 i)), (12, .v (.int .u32 y))]) (fun _ => [⟨g0, true, 16, [[.v (.int .u8 k0), .v (.int .u8 k1), .v (.int .u8 k2), .v (.int .u8 k3), .v (.int .u8 k4), .v (.int .u8 k5), .v (.int .u8 k6), .v (.int .u8 k7), .v (.int .u8 k8), .v (.int .u8 k9), .v (.int .u8 k10), .v (.int .u8 k11), .v (.int .u8 k12), .v (.int .u8 k13), .v (.int .u8 k14), .v (.int .u8 k15)]]⟩, ⟨g1, true, 2, [[.v (.int .u32 n0), .v (.int .u32 n1)]]⟩, ⟨g, true, 1, ints .u8 P⟩]) (fun _ => True) ?_ ?_ (by simp)
  · by_cases hp : i / 4 % 2 = 0
    · have hp' : (i : Int) / 4 % 2 = 0 := by omega
      rw [if_pos hp] at hy
      (repeat refine ka ?_); refine kr ?_ ?_ ?_
      rw [hp']
      refine pops_go ?_ ?_ (pops_end ?_)
      refine kn ?_; repeat (first | with_reducible refine blk_n ?_ | with_reducible refine beh_n ?_)
      refine ⟨(), trivial, ?_⟩
      rw [hy]
      exact (holds 3 (by repeat (first | exact .nil | refine has1 ?_)))
    · have hp' : (i : Int) / 4 % 2 = 1 := by omega
      rw [if_neg hp] at hy
      (repeat refine ka ?_); refine kr ?_ ?_ ?_
      rw [hp']
      refine pops_go ?_ ?_ (pops_end ?_)
      refine kn ?_; repeat (first | with_reducible refine blk_n ?_ | with_reducible refine beh_n ?_)
      refine ⟨(), trivial, ?_⟩
      rw [hy]
      exact (holds 3 (by repeat (first | exact .nil | refine has1 ?_)))
  rintro - -
  clear hy q1 q2 q3
  (repeat refine ka ?_); refine kr ?_ ?_ (pops_end ?_)
  (repeat refine ka ?_)
  refine kcut (fun _ : Unit => [(2, .v (.int .u32 blk)), (3, .ro 1 false (ints .u8 l)), (4, .ptr 0 g0 0 0), (5, .ptr 1 g1 0 0), (9, .vw 2 g 0 P.length), (10, .v (.int .i64 i)), (12, .v (.int .u32 (y / 256 ^ (i % 4))))]) (fun _ => [⟨g0, true, 16, [[.v (.int .u8 k0), .v (.int .u8 k1), .v (.int .u8 k2), .v (.int .u8 k3), .v (.int .u8 k4), .v (.int .u8 k5), .v (.int .u8 k6), .v (.int .u8 k7), .v (.int .u8 k8), .v (.int .u8 k9), .v (.int .u8 k10), .v (.int .u8 k11), .v (.int .u8 k12), .v (.int .u8 k13), .v (.int .u8 k14), .v (.int .u8 k15)]]⟩, ⟨g1, true, 2, [[.v (.int .u32 n0), .v (.int .u32 n1)]]⟩, ⟨g, true, 1, ints .u8 P⟩]) (fun _ => True) ?_ ?_ (by simp)
  · (repeat refine ka ?_); refine kb ?_
    refine kw (fun k : Nat => [(2, .v (.int .u32 blk)), (3, .ro 1 false (ints .u8 l)), (4, .ptr 0 g0 0 0), (5, .ptr 1 g1 0 0), (9, .vw 2 g 0 P.length), (10, .v (.int .i64 i)), (12, .v (.int .u32 (y / 256 ^ k))), (13, .v (.int .i64 k))]) (fun _ => [⟨g0, true, 16, [[.v (.int .u8 k0), .v (.int .u8 k1), .v (.int .u8 k2), .v (.int .u8 k3), .v (.int .u8 k4), .v (.int .u8 k5), .v (.int .u8 k6), .v (.int .u8 k7), .v (.int .u8 k8), .v (.int .u8 k9), .v (.int .u8 k10), .v (.int .u8 k11), .v (.int .u8 k12), .v (.int .u8 k13), .v (.int .u8 k14), .v (.int .u8 k15)]]⟩, ⟨g1, true, 2, [[.v (.int .u32 n0), .v (.int .u32 n1)]]⟩, ⟨g, true, 1, ints .u8 P⟩]) (fun k => k ≤ i % 4) (fun k => i % 4 - k) 0 (by omega) (by simp only [Int.pow_zero, Int.ediv_one]; exact (holds 3 (by repeat (first | exact .nil | refine has1 ?_)))) ?_
    intro k hk
    have hq0 : 0 ≤ y / 256 ^ k := Int.ediv_nonneg hyU.1 (Int.le_of_lt (Int.pow_pos (by decide)))
    have hq1 : y / 256 ^ k ≤ y := Int.ediv_le_self _ hyU.1
    have hq2 : y / 256 ^ k / 256 = y / 256 ^ (k + 1) := by rw [Int.pow_succ, Int.ediv_ediv_of_nonneg (Int.le_of_lt (Int.pow_pos (by decide)))]
    have hyU2 := hyU.2
    by_cases gk : (k : Int) < (i : Int) % 4
    · generalize y / 256 ^ k = q at *
      (repeat refine ka ?_); refine kr ?_ ?_ (pops_end ?_)
      (repeat refine ka ?_); refine kct ?_
      (repeat refine ka ?_); refine ksk ?_
      (repeat refine ka ?_); refine kb ?_
      (repeat refine ka ?_); refine kr ?_ ?_ (pops_end ?_)
      refine kn ?_; repeat (first | with_reducible refine blk_n ?_ | with_reducible refine beh_n ?_)
      (repeat refine ka ?_); refine kr ?_ ?_ (pops_end ?_)
      refine kn ?_; repeat (first | with_reducible refine blk_n ?_ | with_reducible refine beh_n ?_)
      refine ⟨k + 1, by omega, by omega, ?_⟩
      rw [← hq2]
      exact (holds 3 (by repeat (first | exact .nil | refine has1 ?_)))
    · (repeat refine ka ?_); refine kr ?_ ?_ (pops_end ?_)
      (repeat refine ka ?_); refine kcf ?_
      (repeat refine ka ?_); refine kx ?_; (repeat (first | with_reducible refine beh_x ?_ | with_reducible refine blk_up rfl ?_)); refine blk_here ?_; refine beh_n ?_
      have : k = i % 4 := by omega
      subst this
      refine kn ?_; repeat (first | with_reducible refine blk_n ?_ | with_reducible refine beh_n ?_)
      exact ⟨(), trivial, (holds 3 (by repeat (first | exact .nil | refine has1 ?_)))⟩
  rintro - -
  have hq0 : 0 ≤ y / 256 ^ (i % 4) := Int.ediv_nonneg hyU.1 (Int.le_of_lt (Int.pow_pos (by decide)))
  have hq1 : y / 256 ^ (i % 4) ≤ y := Int.ediv_le_self _ hyU.1
  have hyU2 := hyU.2
  generalize y / 256 ^ (i % 4) = q at *
  (repeat refine ka ?_); refine kr ?_ ?_ ?_
  refine ps_lit fun w1 => ?_
  refine ps_app_vw fun w2 => ?_
  refine pops_go ?_ ?_ (pops_end ?_)
  refine kn ?_; repeat (first | with_reducible refine blk_n ?_ | with_reducible refine beh_n ?_)
  (repeat refine ka ?_); refine kr ?_ ?_ (pops_end ?_)
  refine kn ?_; repeat (first | with_reducible refine blk_n ?_ | with_reducible refine beh_n ?_)
  refine ⟨(i + 1, w2), by simp only; omega, by simp only; omega, ?_⟩
  simp only
  rw [hps, List.length_append, List.length_singleton]
  exact (holds 3 (by repeat (first | exact .nil | refine has1 ?_)))
end Go.Proofs.Yteocmeidkdhmiaa.Pv
