-- rc: the reader's bit.
import Derived.Test.YteocmeidkdhmiaaRcD
namespace Go.Proofs.Yteocmeidkdhmiaa.Pv
set_option linter.all false
open Go.RowKit Go.Proofs
set_option maxRecDepth 100000
set_option maxHeartbeats 4000000
/-- A reader. -/
structure RS where
  l : List Int
  wd : Int
  nu : Int
  b : List Int
  short : Bool
def rB (gr : Nat) (f : Bool) (s : RS) : Blk := ⟨gr, true, 260, [ci .i64 s.l ++ [.v (.int .u32 s.wd), .v (.int .u32 s.nu), .ro 1 f (ints .u8 s.b), .v (.bool s.short)]]⟩
def nuF (n c : Int) : Int := n * 256 % 4294967296 + c
def RS.took (s : RS) (a : Nat) : Int := if s.nu < part s.l s.wd a then 0 else 1
def RS.turn (s : RS) (a : Nat) : RS := { s with l := s.l.set a (learn (s.l.getD a 0) (s.took a)), nu := if s.nu < part s.l s.wd a then s.nu else s.nu - part s.l s.wd a, wd := if s.nu < part s.l s.wd a then part s.l s.wd a else s.wd - part s.l s.wd a }
def RS.next (s : RS) : RS := match s.b with
  | [] => { s with short := true }
  | c :: r => { s with wd := s.wd * 256, nu := nuF s.nu c, b := r }
def RS.bit (s : RS) (a : Nat) : RS := if (s.turn a).wd < 16777216 then (s.turn a).next else s.turn a
theorem nu_or {n c : Int} (h0 : 0 ≤ n) (hc0 : 0 ≤ c) (hc1 : c < 256) : Go.bits .or .u32 (n * 256 % 4294967296) c = nuF n c := by
  have h := or_add_u32 8 (n % 16777216) c (by omega) (by omega) hc0 (by omega)
  rw [show ((2 : Int) ^ 8) = 256 from rfl] at h
  have e : n * 256 % 4294967296 = n % 16777216 * 256 := by omega
  rw [nuF, e, h]
theorem rc_take {gr a : Nat} {X : List Blk} {f : Bool} {l b : List Int} {wd nu : Int} {sh : Bool} (hl : Lik l) (ha : a < 256) (hw0 : 0 ≤ wd) (hw1 : wd < 4294967296) (h0 : 0 ≤ nu) (h1 : nu < 4294967296) (ho : Oct b) (hn : b.length ≤ 100000000) :
    GCall Try.prog 61 [.ptr 0 gr 0 0, .v (.int .i64 a)] (rB gr f ⟨l, wd, nu, b, sh⟩ :: X) fun x S' => x = .v (.int .i64 (RS.took ⟨l, wd, nu, b, sh⟩ a)) ∧ S' = rB gr f (RS.bit ⟨l, wd, nu, b, sh⟩ a) :: X := by
  obtain ⟨hl, hp⟩ := hl
  obtain ⟨hp0, hp1⟩ := hp a ha
  have hpart := rc_part (S := rB gr f ⟨l, wd, nu, b, sh⟩ :: X) (τ := 0) (g := gr) (sz := 260) (l := l) (wd := wd) rfl hl a ha hw0 hw1 hp0 hp1
  obtain ⟨q0, q1, q2⟩ := part_in hw0 hw1 hp0 hp1
  have hq : part l wd a ≤ wd := by omega
  unfold RS.bit RS.turn RS.took RS.next
  dsimp only
  generalize part l wd a = p at *
  unfold rB at hpart ⊢
  dsimp only at hpart ⊢
  refine gcall_of_tr Try.func61 rfl [.tmp 4] Try.results61 106 rfl (tk_start ?_)
  by_cases hb : nu < p
  · simp only [if_pos hb]
    generalize hnl : l.set a (learn (l.getD a 0) 0) = nl
    have hnl1 : nl.length = 256 := by rw [← hnl, List.length_set]; exact hl
    (repeat refine ka ?_); refine kr ?_ ?_ (pops_end ?_)
    (repeat refine ka ?_); refine kr ?_ ?_ ?_
    refine ps_gcall hpart ?_
    rintro x S' ⟨rfl, rfl⟩
    refine pops_go ?_ ?_ (pops_end ?_)
    (repeat refine ka ?_); refine kr ?_ ?_ (pops_end ?_)
    (repeat refine ka ?_); refine kr ?_ ?_ (pops_end ?_)
    (repeat refine ka ?_); refine kct ?_
    (repeat refine ka ?_); refine kr ?_ ?_ ?_
    refine ps_st_ct ?_
    refine pops_nil ?_
    (repeat refine ka ?_); refine kdt 15 ?_
    refine pstl_go ?_ ?_ ?_
    refine pd_pcall (rc_learn _ _) ?_
    refine pstl_go ?_ ?_ (pstl_end ?_)
    refine ps_st_ca a ?_
    refine pops_nil ?_
    rw [hnl]
    by_cases hs : p < 16777216
    · simp only [if_pos hs]
      cases b with
      | nil =>
        have h00 : (([] : List Int).length : Int) = 0 := rfl
        (repeat refine ka ?_); refine kr ?_ ?_ (pops_end ?_)
        (repeat refine ka ?_); refine kct ?_
        (repeat refine ka ?_); refine kr ?_ ?_ (pops_end ?_)
        (repeat refine ka ?_); refine kct ?_
        (repeat refine ka ?_); refine kr ?_ ?_ ?_
        refine ps_st_ct ?_
        refine pops_nil ?_
        (repeat refine ka ?_); refine kr ?_ ?_ (pops_end ?_)
        (repeat refine ka ?_); refine kret ?_; repeat (first | with_reducible refine beh_r ?_ | with_reducible refine blk_r ?_)
        refine ends_ret ?_ retPV_one
        exact ⟨rfl, rfl⟩
      | cons c r =>
        obtain ⟨hc0, hc1⟩ := ho c (by simp)
        have hlen : (c :: r).length = r.length + 1 := rfl
        have hsh : IntKind.u32.wrap ((nu) * 256) = (nu) * 256 % 4294967296 := wrap_u32m _
        have hor := nu_or (n := nu) (c := c) (by omega) hc0 hc1
        have hor' : Go.bits .or .u32 (nu * 256 % 4294967296) ((c :: r).getD (Int.toNat 0) 0) = nuF (nu) c := hor
        have hc0' : 0 ≤ (c :: r).getD (Int.toNat 0) 0 := hc0
        have hc1' : (c :: r).getD (Int.toNat 0) 0 < 256 := hc1
        have hdr : (c :: r).drop (Int.toNat 1) = r := rfl
        (repeat refine ka ?_); refine kr ?_ ?_ (pops_end ?_)
        (repeat refine ka ?_); refine kct ?_
        (repeat refine ka ?_); refine kr ?_ ?_ (pops_end ?_)
        (repeat refine ka ?_); refine kcf ?_
        (repeat refine ka ?_); refine ksk ?_
        (repeat refine ka ?_); refine kr ?_ ?_ ?_
        refine ps_st_ct ?_
        refine pops_nil ?_
        (repeat refine ka ?_); refine kdt 16 ?_
        refine pstl_go ?_ ?_ (pstl_end ?_)
        refine ps_st_ct ?_
        refine pops_nil ?_
        (repeat refine ka ?_); refine kr ?_ ?_ ?_
        refine ps_st_ct ?_
        refine pops_nil ?_
        (repeat refine ka ?_); refine kr ?_ ?_ (pops_end ?_)
        (repeat refine ka ?_); refine kret ?_; repeat (first | with_reducible refine beh_r ?_ | with_reducible refine blk_r ?_)
        refine ends_ret ?_ retPV_one
        exact ⟨rfl, rfl⟩
    · simp only [if_neg hs]
      (repeat refine ka ?_); refine kr ?_ ?_ (pops_end ?_)
      (repeat refine ka ?_); refine kcf ?_
      (repeat refine ka ?_); refine ksk ?_
      (repeat refine ka ?_); refine kr ?_ ?_ (pops_end ?_)
      (repeat refine ka ?_); refine kret ?_; repeat (first | with_reducible refine beh_r ?_ | with_reducible refine blk_r ?_)
      refine ends_ret ?_ retPV_one
      exact ⟨rfl, rfl⟩
  · simp only [if_neg hb]
    generalize hnl : l.set a (learn (l.getD a 0) 1) = nl
    have hnl1 : nl.length = 256 := by rw [← hnl, List.length_set]; exact hl
    (repeat refine ka ?_); refine kr ?_ ?_ (pops_end ?_)
    (repeat refine ka ?_); refine kr ?_ ?_ ?_
    refine ps_gcall hpart ?_
    rintro x S' ⟨rfl, rfl⟩
    refine pops_go ?_ ?_ (pops_end ?_)
    (repeat refine ka ?_); refine kr ?_ ?_ (pops_end ?_)
    (repeat refine ka ?_); refine kr ?_ ?_ (pops_end ?_)
    (repeat refine ka ?_); refine kcf ?_
    (repeat refine ka ?_); refine kr ?_ ?_ (pops_end ?_)
    (repeat refine ka ?_); refine kr ?_ ?_ ?_
    refine ps_st_ct ?_
    refine pops_nil ?_
    (repeat refine ka ?_); refine kr ?_ ?_ ?_
    refine ps_st_ct ?_
    refine pops_nil ?_
    (repeat refine ka ?_); refine kdt 15 ?_
    refine pstl_go ?_ ?_ ?_
    refine pd_pcall (rc_learn _ _) ?_
    refine pstl_go ?_ ?_ (pstl_end ?_)
    refine ps_st_ca a ?_
    refine pops_nil ?_
    rw [hnl]
    by_cases hs : wd - p < 16777216
    · simp only [if_pos hs]
      cases b with
      | nil =>
        have h00 : (([] : List Int).length : Int) = 0 := rfl
        (repeat refine ka ?_); refine kr ?_ ?_ (pops_end ?_)
        (repeat refine ka ?_); refine kct ?_
        (repeat refine ka ?_); refine kr ?_ ?_ (pops_end ?_)
        (repeat refine ka ?_); refine kct ?_
        (repeat refine ka ?_); refine kr ?_ ?_ ?_
        refine ps_st_ct ?_
        refine pops_nil ?_
        (repeat refine ka ?_); refine kr ?_ ?_ (pops_end ?_)
        (repeat refine ka ?_); refine kret ?_; repeat (first | with_reducible refine beh_r ?_ | with_reducible refine blk_r ?_)
        refine ends_ret ?_ retPV_one
        exact ⟨rfl, rfl⟩
      | cons c r =>
        obtain ⟨hc0, hc1⟩ := ho c (by simp)
        have hlen : (c :: r).length = r.length + 1 := rfl
        have hsh : IntKind.u32.wrap ((nu - p) * 256) = (nu - p) * 256 % 4294967296 := wrap_u32m _
        have hor := nu_or (n := nu - p) (c := c) (by omega) hc0 hc1
        have hor' : Go.bits .or .u32 ((nu - p) * 256 % 4294967296) ((c :: r).getD (Int.toNat 0) 0) = nuF (nu - p) c := hor
        have hc0' : 0 ≤ (c :: r).getD (Int.toNat 0) 0 := hc0
        have hc1' : (c :: r).getD (Int.toNat 0) 0 < 256 := hc1
        have hdr : (c :: r).drop (Int.toNat 1) = r := rfl
        (repeat refine ka ?_); refine kr ?_ ?_ (pops_end ?_)
        (repeat refine ka ?_); refine kct ?_
        (repeat refine ka ?_); refine kr ?_ ?_ (pops_end ?_)
        (repeat refine ka ?_); refine kcf ?_
        (repeat refine ka ?_); refine ksk ?_
        (repeat refine ka ?_); refine kr ?_ ?_ ?_
        refine ps_st_ct ?_
        refine pops_nil ?_
        (repeat refine ka ?_); refine kdt 16 ?_
        refine pstl_go ?_ ?_ (pstl_end ?_)
        refine ps_st_ct ?_
        refine pops_nil ?_
        (repeat refine ka ?_); refine kr ?_ ?_ ?_
        refine ps_st_ct ?_
        refine pops_nil ?_
        (repeat refine ka ?_); refine kr ?_ ?_ (pops_end ?_)
        (repeat refine ka ?_); refine kret ?_; repeat (first | with_reducible refine beh_r ?_ | with_reducible refine blk_r ?_)
        refine ends_ret ?_ retPV_one
        exact ⟨rfl, rfl⟩
    · simp only [if_neg hs]
      (repeat refine ka ?_); refine kr ?_ ?_ (pops_end ?_)
      (repeat refine ka ?_); refine kcf ?_
      (repeat refine ka ?_); refine ksk ?_
      (repeat refine ka ?_); refine kr ?_ ?_ (pops_end ?_)
      (repeat refine ka ?_); refine kret ?_; repeat (first | with_reducible refine beh_r ?_ | with_reducible refine blk_r ?_)
      refine ends_ret ?_ retPV_one
      exact ⟨rfl, rfl⟩
end Go.Proofs.Yteocmeidkdhmiaa.Pv
