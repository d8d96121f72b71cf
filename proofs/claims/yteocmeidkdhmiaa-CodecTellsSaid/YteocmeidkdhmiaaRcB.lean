-- rc: the writer's move.
import Derived.Test.YteocmeidkdhmiaaRcA
import Derived.Test.YteocmeidkdhmiaaBt
namespace Go.Proofs.Yteocmeidkdhmiaa.Pv
set_option linter.all false
open Go.RowKit Go.Proofs
set_option maxRecDepth 100000
set_option maxHeartbeats 4000000
/-- What was held back, laid. -/
def flush (ca carry : Int) : Nat → List Int
  | 0 => []
  | n + 1 => (ca + carry) % 256 :: List.replicate n ((255 + carry) % 256)
theorem flush_length (ca carry : Int) (n : Nat) : (flush ca carry n).length = n := by cases n <;> simp [flush]
theorem flush_snoc (ca carry : Int) (n : Nat) : flush ca carry (n + 1) = flush ca carry n ++ [((if n = 0 then ca else 255) + carry) % 256] := by
  cases n with
  | zero => simp [flush]
  | succ n => simp [flush, List.replicate_succ']
/-- A writer. -/
structure WS where
  l : List Int
  wd : Int
  lo : Int
  ca : Int
  be : Nat
  out : List Int
def wS (gw g : Nat) (s : WS) : List Blk := [⟨gw, true, 261, [ci .i64 s.l ++ [.v (.int .u32 s.wd), .v (.int .u64 s.lo), .v (.int .u8 s.ca), .v (.int .i64 s.be), .vw 1 g 0 s.out.length]]⟩, ⟨g, true, 1, ints .u8 s.out⟩]
def WS.move (s : WS) : WS :=
  if s.lo % 4294967296 < 4278190080 ∨ s.lo / 4294967296 ≠ 0 then { s with out := s.out ++ flush s.ca (s.lo / 4294967296) s.be, ca := s.lo / 16777216 % 256, be := 1, lo := s.lo % 16777216 * 256 }
  else { s with be := s.be + 1, lo := s.lo % 16777216 * 256 }
theorem rc_move {gw g : Nat} {l out : List Int} {wd lo ca : Int} {be : Nat} (hl : l.length = 256) (h0 : 0 ≤ lo) (h1 : lo < 8589934592) (hc0 : 0 ≤ ca) (hc1 : ca < 256) (hn : out.length + be ≤ 100000000) :
    GCall Try.prog 60 [.ptr 0 gw 0 0] (wS gw g ⟨l, wd, lo, ca, be, out⟩) fun x S' => ∃ g', S' = wS gw g' (WS.move ⟨l, wd, lo, ca, be, out⟩) := by
  have hb := and24_u64 lo
  unfold wS WS.move
  dsimp only
  refine gcall_of_tr Try.func60 rfl [] Try.results60 77 rfl (tk_start ?_)
  by_cases hc : lo % 4294967296 < 4278190080 ∨ lo / 4294967296 ≠ 0
  · rw [if_pos hc]
    by_cases hq : lo % 4294967296 < 4278190080
    · (repeat refine ka ?_); refine kr ?_ ?_ (pops_end ?_)
      (repeat refine ka ?_); refine kct ?_
      (repeat refine ka ?_); refine kr ?_ ?_ (pops_end ?_)
      (repeat refine ka ?_); refine kr ?_ ?_ (pops_end ?_)
      (repeat refine ka ?_); refine kb ?_
      refine kw (fun s : Nat × Nat => [(0, .ptr 0 gw 0 0), (2, .v (.int .u8 (lo / 4294967296))), (3, .v (.int .u8 (if s.1 = 0 then ca else 255)))]) (fun s => [⟨gw, true, 261, [ci .i64 l ++ [.v (.int .u32 wd), .v (.int .u64 lo), .v (.int .u8 ca), .v (.int .i64 ((be - s.1 : Nat) : Int)), .vw 1 s.2 0 (out ++ flush ca (lo / 4294967296) s.1).length]]⟩, ⟨s.2, true, 1, ints .u8 (out ++ flush ca (lo / 4294967296) s.1)⟩]) (fun s => s.1 ≤ be) (fun s => be - s.1) (0, g) (by simp) (by simp only [flush, List.append_nil]; exact (holds 2 (by repeat (first | exact .nil | refine has1 ?_)))) ?_
      rintro ⟨k, g⟩ hk
      simp only at hk ⊢
      have hfl := flush_length ca (lo / 4294967296) k
      have hol : (out ++ flush ca (lo / 4294967296) k).length = out.length + k := by rw [List.length_append, hfl]
      by_cases h : k < be
      · have hsn := flush_snoc ca (lo / 4294967296) k
        have e1 : be - k - 1 = be - (k + 1) := by omega
        (repeat refine ka ?_); refine kr ?_ ?_ (pops_end ?_)
        (repeat refine ka ?_); refine kct ?_
        (repeat refine ka ?_); refine ksk ?_
        (repeat refine ka ?_); refine kb ?_
        (repeat refine ka ?_); refine kr ?_ ?_ ?_
        refine ps_lit (fun g1 => ?_)
        refine pops_go ?_ ?_ ?_
        refine ps_app_vw (rows' := ints .u8 (out ++ flush ca (lo / 4294967296) (k + 1))) (m := (out ++ flush ca (lo / 4294967296) (k + 1)).length) (fun g2 => ?_) (hrows := by rw [hsn, ← List.append_assoc]; simp [ints]) (hm := by rw [hsn]; simp; omega) (h63 := by simp [maxLen, flush_length]; omega) (hbt := by simp [flush_length]; omega)
        refine pops_go ?_ ?_ ?_
        refine ps_st_ct ?_
        refine pops_nil ?_
        (repeat refine ka ?_); refine kr ?_ ?_ (pops_end ?_)
        refine kn ?_; repeat (first | with_reducible refine blk_n ?_ | with_reducible refine beh_n ?_)
        (repeat refine ka ?_); refine kr ?_ ?_ ?_
        refine ps_st_ct ?_
        refine pops_nil ?_
        refine kn ?_; repeat (first | with_reducible refine blk_n ?_ | with_reducible refine beh_n ?_)
        refine ⟨(k + 1, g2), by simp only; omega, by simp only; omega, ?_⟩
        rw [show (((be - k : Nat) : Int) - 1) = ((be - (k + 1) : Nat) : Int) by omega]
        exact (holds 2 (by repeat (first | exact .nil | refine has1 ?_)))
      · obtain rfl : k = be := by omega
        (repeat refine ka ?_); refine kr ?_ ?_ (pops_end ?_)
        (repeat refine ka ?_); refine kcf ?_
        (repeat refine ka ?_); refine kx ?_; (repeat (first | with_reducible refine beh_x ?_ | with_reducible refine blk_up rfl ?_)); refine blk_here ?_; refine beh_n ?_
        (repeat refine ka ?_); refine kr ?_ ?_ ?_
        refine ps_st_ct ?_
        refine pops_nil ?_
        (repeat refine ka ?_); refine kr ?_ ?_ ?_
        refine ps_st_ct ?_
        refine pops_nil ?_
        (repeat refine ka ?_); refine kr ?_ ?_ ?_
        refine ps_st_ct ?_
        refine pops_nil ?_
        refine kn ?_; repeat (first | with_reducible refine blk_n ?_ | with_reducible refine beh_n ?_)
        refine ends_normal ?_ rfl
        refine ⟨g, ?_⟩
        rw [show (((k - k : Nat) : Int) + 1) = ((1 : Nat) : Int) by omega]
    · have hq2 : lo / 4294967296 ≠ 0 := by omega
      (repeat refine ka ?_); refine kr ?_ ?_ (pops_end ?_)
      (repeat refine ka ?_); refine kct ?_
      (repeat refine ka ?_); refine kr ?_ ?_ (pops_end ?_)
      (repeat refine ka ?_); refine kr ?_ ?_ (pops_end ?_)
      (repeat refine ka ?_); refine kb ?_
      refine kw (fun s : Nat × Nat => [(0, .ptr 0 gw 0 0), (2, .v (.int .u8 (lo / 4294967296))), (3, .v (.int .u8 (if s.1 = 0 then ca else 255)))]) (fun s => [⟨gw, true, 261, [ci .i64 l ++ [.v (.int .u32 wd), .v (.int .u64 lo), .v (.int .u8 ca), .v (.int .i64 ((be - s.1 : Nat) : Int)), .vw 1 s.2 0 (out ++ flush ca (lo / 4294967296) s.1).length]]⟩, ⟨s.2, true, 1, ints .u8 (out ++ flush ca (lo / 4294967296) s.1)⟩]) (fun s => s.1 ≤ be) (fun s => be - s.1) (0, g) (by simp) (by simp only [flush, List.append_nil]; exact (holds 2 (by repeat (first | exact .nil | refine has1 ?_)))) ?_
      rintro ⟨k, g⟩ hk
      simp only at hk ⊢
      have hfl := flush_length ca (lo / 4294967296) k
      have hol : (out ++ flush ca (lo / 4294967296) k).length = out.length + k := by rw [List.length_append, hfl]
      by_cases h : k < be
      · have hsn := flush_snoc ca (lo / 4294967296) k
        have e1 : be - k - 1 = be - (k + 1) := by omega
        (repeat refine ka ?_); refine kr ?_ ?_ (pops_end ?_)
        (repeat refine ka ?_); refine kct ?_
        (repeat refine ka ?_); refine ksk ?_
        (repeat refine ka ?_); refine kb ?_
        (repeat refine ka ?_); refine kr ?_ ?_ ?_
        refine ps_lit (fun g1 => ?_)
        refine pops_go ?_ ?_ ?_
        refine ps_app_vw (rows' := ints .u8 (out ++ flush ca (lo / 4294967296) (k + 1))) (m := (out ++ flush ca (lo / 4294967296) (k + 1)).length) (fun g2 => ?_) (hrows := by rw [hsn, ← List.append_assoc]; simp [ints]) (hm := by rw [hsn]; simp; omega) (h63 := by simp [maxLen, flush_length]; omega) (hbt := by simp [flush_length]; omega)
        refine pops_go ?_ ?_ ?_
        refine ps_st_ct ?_
        refine pops_nil ?_
        (repeat refine ka ?_); refine kr ?_ ?_ (pops_end ?_)
        refine kn ?_; repeat (first | with_reducible refine blk_n ?_ | with_reducible refine beh_n ?_)
        (repeat refine ka ?_); refine kr ?_ ?_ ?_
        refine ps_st_ct ?_
        refine pops_nil ?_
        refine kn ?_; repeat (first | with_reducible refine blk_n ?_ | with_reducible refine beh_n ?_)
        refine ⟨(k + 1, g2), by simp only; omega, by simp only; omega, ?_⟩
        rw [show (((be - k : Nat) : Int) - 1) = ((be - (k + 1) : Nat) : Int) by omega]
        exact (holds 2 (by repeat (first | exact .nil | refine has1 ?_)))
      · obtain rfl : k = be := by omega
        (repeat refine ka ?_); refine kr ?_ ?_ (pops_end ?_)
        (repeat refine ka ?_); refine kcf ?_
        (repeat refine ka ?_); refine kx ?_; (repeat (first | with_reducible refine beh_x ?_ | with_reducible refine blk_up rfl ?_)); refine blk_here ?_; refine beh_n ?_
        (repeat refine ka ?_); refine kr ?_ ?_ ?_
        refine ps_st_ct ?_
        refine pops_nil ?_
        (repeat refine ka ?_); refine kr ?_ ?_ ?_
        refine ps_st_ct ?_
        refine pops_nil ?_
        (repeat refine ka ?_); refine kr ?_ ?_ ?_
        refine ps_st_ct ?_
        refine pops_nil ?_
        refine kn ?_; repeat (first | with_reducible refine blk_n ?_ | with_reducible refine beh_n ?_)
        refine ends_normal ?_ rfl
        refine ⟨g, ?_⟩
        rw [show (((k - k : Nat) : Int) + 1) = ((1 : Nat) : Int) by omega]
  · (repeat refine ka ?_); refine kr ?_ ?_ (pops_end ?_)
    (repeat refine ka ?_); refine kcf ?_
    (repeat refine ka ?_); refine ksk ?_
    (repeat refine ka ?_); refine kr ?_ ?_ ?_
    refine ps_st_ct ?_
    refine pops_nil ?_
    (repeat refine ka ?_); refine kr ?_ ?_ ?_
    refine ps_st_ct ?_
    refine pops_nil ?_
    refine kn ?_; repeat (first | with_reducible refine blk_n ?_ | with_reducible refine beh_n ?_)
    rw [if_neg hc]
    refine ends_normal ?_ rfl
    exact ⟨g, rfl⟩
end Go.Proofs.Yteocmeidkdhmiaa.Pv
