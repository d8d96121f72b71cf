-- image.Bytes, its memory the caller's.
import Derived.Test.YtfjodfeoncoaoaaImH
namespace Go.Proofs.Ytfjodfeoncoaoaa.Pv
set_option linter.all false
open Go.RowKit Go.Proofs
set_option maxRecDepth 100000
set_option maxHeartbeats 4000000
theorem bytes_own (p : List Int) (x : Img) (hx : x.Ok) (hrr : x.right = true) (hlen : ¬ 1048576 < (p.length : Int) + x.stub.length + x.pay.length + x.dir.length + 56) (hpl : p.length ≤ 1000000000) (hs : x.stub.length ≤ 1000000000) (hp : x.pay.length ≤ 1000000000) (hd : x.dir.length ≤ 1000000000) : GCall Try.prog 9 [.ro 1 false (ints .u8 p), .agg x.cells] [] (fun y S' => ∃ gx gA g, y = .tup [.vw 2 g 0 (x.bytes p).length, .v (.int .i64 0)] ∧ S' = [⟨gx, true, 14, [x.cells]⟩, ⟨gA, false, 1, ints .u8 x.all⟩, ⟨g, true, 1, ints .u8 (x.bytes p)⟩]) := by
  have hrt := iright_ok x hs hp
  have hhd := header_ok x hx hs hp hd
  have hoc := x.all_oct hx
  have hal := x.all_length
  have hhl := x.hdr_length
  have hall : [x.hdr, x.stub, x.pay, x.dir].flatten = x.all := by simp [Img.all]
  have hbb : x.bytes p = (((p ++ x.all) ++ le4 (x.all.length : Int)) ++ le4 (crc x.all)) ++ [49, 88, 70, 83] := by simp [Img.bytes]
  have hcr := crc_range x.all
  have hbl : (x.bytes p).length = (p ++ x.all).length + 4 + 4 + 4 := by rw [hbb]; simp [le4_length]; omega
  rw [hbl, hbb]
  clear hbb hbl
  rw [hrr] at hrt
  generalize x.hdr = H at *
  obtain ⟨⟨bcj, del, lz, rng, cry⟩, count, mid, raw, sum, n0, n1, stub, pay, dir⟩ := x
  unfold Img.cells at *
  simp only at hrt hhd hs hp hd hall hal hlen ⊢
  generalize Img.all ⟨⟨bcj, del, lz, rng, cry⟩, count, mid, raw, sum, n0, n1, stub, pay, dir⟩ = A at *
  refine gcall_of_tr Try.func9 rfl [.tmp 4, .tmp 5] Try.results9 55 rfl (tk_start ?_)
  (repeat refine ka ?_); refine kr ?_ ?_ ?_
  refine ps_box (fun gx => ?_)
  refine pops_go ?_ ?_ (pops_end ?_)
  (repeat refine ka ?_); refine kb ?_
  (repeat refine ka ?_); refine kr ?_ ?_ ?_
  refine ps_pcall hrt ?_
  refine pops_go ?_ ?_ (pops_end ?_)
  (repeat refine ka ?_); refine kcf ?_
  (repeat refine ka ?_); refine kr ?_ ?_ (pops_end ?_)
  (repeat refine ka ?_); refine kcf ?_
  (repeat refine ka ?_); refine ksk ?_
  refine kn ?_; repeat (first | with_reducible refine blk_n ?_ | with_reducible refine beh_n ?_)
  (repeat refine ka ?_); refine kdt 8 ?_
  refine pstl_go ?_ ?_ ?_
  refine pd_pcall hhd ?_
  refine pstl_go ?_ ?_ (pstl_end ?_)
  refine ps_litg (rows := catRows [H, stub, pay, dir]) ?_ (catPure _)
  have hc := concat_own false [H, stub, pay, dir] (by rw [hall]; omega) (by rw [hall]; omega) (by simp)
  rw [hall] at hc
  refine ps_fcall [] hc ?_ (by rintro x S' ⟨g', rfl, rfl⟩; exact Nat.le_of_ble_eq_true rfl)
  rintro x S' ⟨g4, rfl, rfl⟩
  (intro x1 S1 hx1 hS1; simp only [List.map_cons, List.map_nil, renB, ren_ints, putB, List.set_cons_zero, List.set_cons_succ, List.cons_append, List.nil_append, List.append_nil, renL, ren, sg, List.length_cons, List.length_nil, Nat.reduceAdd, Nat.zero_add, Nat.add_zero] at hx1 hS1; subst hx1 hS1)
  refine pops_go ?_ ?_ (pops_end ?_)
  refine kfreeze 1 ?_
  refine kfzT 6 [1] (y := .ro 1 false (ints .u8 A)) ?_ (lend_ints (List.mem_singleton.2 rfl) rfl rfl rfl) (by simp)
  clear hc
  (repeat refine ka ?_); refine kr ?_ ?_ ?_
  refine ps_litg (rows := catRows [p, A]) ?_ (catPure _)
  refine pops_go ?_ ?_ ?_
  have hc := concat_own false [p, A] (by simp; omega) (by simp; omega) (by simp)
  rw [show [p, A].flatten = p ++ A by simp] at hc
  refine ps_fcall [] hc ?_ (by rintro x S' ⟨g', rfl, rfl⟩; exact Nat.le_of_ble_eq_true rfl)
  rintro x S' ⟨g5, rfl, rfl⟩
  (intro x1 S1 hx1 hS1; simp only [List.map_cons, List.map_nil, renB, ren_ints, putB, List.set_cons_zero, List.set_cons_succ, List.cons_append, List.nil_append, List.append_nil, renL, ren, sg, List.length_cons, List.length_nil, Nat.reduceAdd, Nat.zero_add, Nat.add_zero] at hx1 hS1; subst hx1 hS1)
  refine pops_go ?_ ?_ (pops_end ?_)
  clear hc
  (repeat refine ka ?_); refine kr ?_ ?_ ?_
  have hc := laid_ok g5 (p ++ A) (A.length : Int) (by omega) (by omega) (by rw [List.length_append]; omega)
  refine ps_fcall [2] hc ?_ (by rintro x S' ⟨g', rfl, rfl⟩; exact Nat.le_of_ble_eq_true rfl)
  clear hc
  rintro x S' ⟨g6, rfl, rfl⟩
  (intro x1 S1 hx1 hS1; simp only [List.map_cons, List.map_nil, renB, ren_ints, putB, List.set_cons_zero, List.set_cons_succ, List.cons_append, List.nil_append, List.append_nil, renL, ren, sg, List.length_cons, List.length_nil, Nat.reduceAdd, Nat.zero_add, Nat.add_zero] at hx1 hS1; subst hx1 hS1)
  refine pops_go ?_ ?_ ?_
  refine ps_litg (rows := [[.ro 1 false (ints .u8 A)]]) ?_ (catPure [A])
  refine pops_go ?_ ?_ ?_
  refine ps_pcall (call_ok false A hoc (by omega)) ?_
  refine pops_go ?_ ?_ ?_
  have hc := laid_ok g6 ((p ++ A) ++ le4 (A.length : Int)) (crc A) hcr.1 hcr.2 (by rw [List.length_append, List.length_append, le4_length]; omega)
  rw [show ((p ++ A) ++ le4 (A.length : Int)).length = (p ++ A).length + 4 from by rw [List.length_append, le4_length]] at hc
  refine ps_fcall [2] hc ?_ (by rintro x S' ⟨g', rfl, rfl⟩; exact Nat.le_of_ble_eq_true rfl)
  clear hc
  rintro x S' ⟨g7, rfl, rfl⟩
  (intro x1 S1 hx1 hS1; simp only [List.map_cons, List.map_nil, renB, ren_ints, putB, List.set_cons_zero, List.set_cons_succ, List.cons_append, List.nil_append, List.append_nil, renL, ren, sg, List.length_cons, List.length_nil, Nat.reduceAdd, Nat.zero_add, Nat.add_zero] at hx1 hS1; subst hx1 hS1)
  refine pops_go ?_ ?_ (pops_end ?_)
  (repeat refine ka ?_); refine kr ?_ ?_ ?_
  refine ps_app_vw (rows' := ints .u8 ((((p ++ A) ++ le4 (A.length : Int)) ++ le4 (crc A)) ++ [49, 88, 70, 83])) (m := (p ++ A).length + 4 + 4 + 4) (fun g8 => ?_) (hsrc := rfl) (hrows := by simp only [ints, List.map_append]; rfl) (h63 := by simp [maxLen]; omega) (hbt := by simp; omega) (hlen := by rw [ints_length]; simp [le4_length]; omega)
  refine pops_go ?_ ?_ (pops_end ?_)
  (repeat refine ka ?_); refine kret ?_; repeat (first | with_reducible refine beh_r ?_ | with_reducible refine blk_r ?_)
  refine ends_ret ?_ retPV_two
  exact ⟨_, _, _, rfl, rfl⟩
end Go.Proofs.Ytfjodfeoncoaoaa.Pv
