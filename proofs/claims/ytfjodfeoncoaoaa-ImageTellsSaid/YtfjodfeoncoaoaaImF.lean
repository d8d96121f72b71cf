-- image.header; carapaceref17.head.
import Derived.Test.YtfjodfeoncoaoaaImD
namespace Go.Proofs.Ytfjodfeoncoaoaa.Pv
set_option linter.all false
open Go.RowKit Go.Proofs
set_option maxRecDepth 100000
set_option maxHeartbeats 4000000
theorem getD_u32 {W : List Int} (h : ∀ x ∈ W, 0 ≤ x ∧ x < 4294967296) (i : Nat) : 0 ≤ W.getD i 0 ∧ W.getD i 0 < 4294967296 := by
  rcases Nat.lt_or_ge i W.length with hi | hi
  · have := h (W[i]) (List.getElem_mem hi)
    simpa [List.getD_eq_getElem?_getD, List.getElem?_eq_getElem hi] using this
  · simp [List.getD_eq_getElem?_getD, List.getElem?_eq_none hi]
theorem flatMap_one (W : List Int) {i : Nat} (h : i < W.length) : (W.take (i + 1)).flatMap le4 = (W.take i).flatMap le4 ++ le4 (W.getD (i : Int).toNat 0) := by
  rw [take_one h, List.flatMap_append, List.flatMap_cons, List.flatMap_nil, List.append_nil]
theorem flatMap_len : ∀ (W : List Int), (W.flatMap le4).length = 4 * W.length
  | [] => rfl
  | a :: W => by rw [List.flatMap_cons, List.length_append, flatMap_len W, le4_length, List.length_cons]; omega
theorem Img.words_ok (x : Img) (hx : x.Ok) : ∀ y ∈ x.words, 0 ≤ y ∧ y < 4294967296 := by
  intro y hy
  have := hx.sum
  have := hx.n0
  have := hx.n1
  simp only [Img.words, List.mem_cons, List.not_mem_nil, or_false] at hy
  omega
theorem header_ok (x : Img) (hx : x.Ok) (hs : x.stub.length ≤ 1000000000) (hp : x.pay.length ≤ 1000000000) (hd : x.dir.length ≤ 1000000000) : PCall Try.prog 28 [.agg x.cells] (.ro 1 false (ints .u8 x.hdr)) := by
  have hW := x.words_ok hx
  have hb := byte_ok x.o
  have hbr := byteTo_oct x.o
  have hh : x.hdr = [83, 70, 88, 49, byteTo x.o 4, x.o.del % 256, 0, 0] ++ ((x.words.take 9).flatMap le4) := rfl
  obtain ⟨⟨bcj, del, lz, rng, cry⟩, count, mid, raw, sum, n0, n1, stub, pay, dir⟩ := x
  rw [hh]
  clear hh
  unfold Img.cells
  unfold Op5.cells at hb
  simp only at hs hp hd hb hbr ⊢
  have hwd : IntKind.u8.wrap del = del % 256 := by rw [IntKind.wrap_u8]
  have hw1 : IntKind.u32.wrap count = count % 4294967296 := by rw [IntKind.wrap_u32]
  have hw2 : IntKind.u32.wrap mid = mid % 4294967296 := by rw [IntKind.wrap_u32]
  have hw3 : IntKind.u32.wrap raw = raw % 4294967296 := by rw [IntKind.wrap_u32]
  have hw4 : IntKind.u32.wrap (pay.length : Int) = (pay.length : Int) % 4294967296 := by rw [IntKind.wrap_u32]
  have hw5 : IntKind.u32.wrap (stub.length : Int) = (stub.length : Int) % 4294967296 := by rw [IntKind.wrap_u32]
  have hw6 : IntKind.u32.wrap (dir.length : Int) = (dir.length : Int) % 4294967296 := by rw [IntKind.wrap_u32]
  generalize byteTo ⟨bcj, del, lz, rng, cry⟩ 4 = B at *
  have hpp : ∀ row ∈ ints .u8 [B, del % 256, 0, 0], ∀ x ∈ row, PV.Pure x := fun row hr x hx => by obtain ⟨b, _, rfl⟩ := List.mem_map.1 hr; rw [List.mem_singleton] at hx; subst hx; exact .v _
  refine pcall_mkg Try.func28 rfl [.tmp 2] Try.results28 55 rfl (tk_start ?_)
  (repeat refine ka ?_); refine kr ?_ ?_ ?_
  refine ps_box (fun gx => ?_)
  refine pops_go ?_ ?_ (pops_end ?_)
  (repeat refine ka ?_); refine kds [2, 3, 4, 5, 6, 7, 8, 9] [0, 1, 10, 11] ?_
  refine pstl_go ?_ ?_ ?_; refine pd_pcall hb ?_; refine pstl_go ?_ ?_ ?_; refine pd_litg (rows := ints .u8 [B, del % 256, 0, 0]) ?_ hpp; refine pstl_nil ?_
  refine hs_w [] [2, 3, 4, 5, 6, 7, 8, 9] ?_ (by refine pstl_go ?_ ?_ ?_; refine pd_pcall hb ?_; refine pstl_go ?_ ?_ ?_; refine pd_litg (rows := ints .u8 [B, del % 256, 0, 0]) ?_ hpp; refine pstl_nil ?_; exact rfl); refine pstl_nil ?_; refine ⟨rfl, ?_⟩
  refine ps_lit (fun g => ?_)
  refine pops_nil ?_
  refine hs_w [] [2, 3, 4, 5, 6, 7, 8, 9] ?_ (by refine pstl_go ?_ ?_ ?_; refine pd_pcall hb ?_; refine pstl_go ?_ ?_ ?_; refine pd_litg (rows := ints .u8 [B, del % 256, 0, 0]) ?_ hpp; refine pstl_nil ?_; exact rfl); refine pstl_nil ?_; refine ⟨rfl, ?_⟩
  refine ps_cvs ?_
  refine pops_nil ?_
  refine hs_w [2, 3, 4, 5, 6, 7, 8, 9] [] ?_ (by refine pstl_go ?_ ?_ ?_; refine pd_pcall hb ?_; refine pstl_go ?_ ?_ ?_; refine pd_litg (rows := ints .u8 [B, del % 256, 0, 0]) ?_ hpp; refine pstl_nil ?_; exact rfl); refine pstl_go ?_ ?_ ?_; refine pd_pcall hb ?_; refine pstl_go ?_ ?_ ?_; refine pd_litg (rows := ints .u8 [B, del % 256, 0, 0]) ?_ hpp; refine pstl_nil ?_; refine ⟨rfl, ?_⟩
  refine ps_app_vw (rows' := ints .u8 ([83, 70, 88, 49] ++ [B, del % 256, 0, 0])) (m := 8) (fun g2 => ?_)
  refine pops_nil ?_
  refine hs_w [] [] ?_ (by refine pstl_nil ?_; exact rfl); refine pstl_nil ?_; refine ⟨rfl, ?_⟩
  refine ps_ev (p := .vw 1 g2 0 8) ?_ rfl
  refine pops_nil ?_
  refine hs_end ?_; refine pstl_nil ?_; refine ⟨rfl, ?_⟩
  (repeat refine ka ?_); refine kr ?_ ?_ (pops_end ?_)
  (repeat refine ka ?_); refine kb ?_
  have hlw : (Img.words ⟨⟨bcj, del, lz, rng, cry⟩, count, mid, raw, sum, n0, n1, stub, pay, dir⟩).length = 9 := rfl
  have hww : ci .u32 (Img.words ⟨⟨bcj, del, lz, rng, cry⟩, count, mid, raw, sum, n0, n1, stub, pay, dir⟩) = [.v (.int .u32 (count % 4294967296)), .v (.int .u32 ((pay.length : Int) % 4294967296)), .v (.int .u32 (mid % 4294967296)), .v (.int .u32 (raw % 4294967296)), .v (.int .u32 sum), .v (.int .u32 n0), .v (.int .u32 n1), .v (.int .u32 ((stub.length : Int) % 4294967296)), .v (.int .u32 ((dir.length : Int) % 4294967296))] := rfl
  generalize Img.words ⟨⟨bcj, del, lz, rng, cry⟩, count, mid, raw, sum, n0, n1, stub, pay, dir⟩ = W at *
  rw [← hww]
  clear hww hw1 hw2 hw3 hw4 hw5 hw6 hwd
  refine kw (fun p : Nat × Nat => [(3, PV.vw 1 p.2 0 (8 + 4 * p.1)), (46, .agg (ci .u32 W)), (47, .v (.int .i64 p.1))]) (fun p => [⟨gx, true, 14, [[.v (.bool bcj), .v (.int .i64 del), .v (.bool lz), .v (.bool rng), .v (.bool cry), .v (.int .i64 count), .v (.int .i64 mid), .v (.int .i64 raw), .v (.int .u32 sum), .v (.int .u32 n0), .v (.int .u32 n1), .ro 1 false (ints .u8 stub), .ro 1 false (ints .u8 pay), .ro 1 false (ints .u8 dir)]]⟩, ⟨p.2, true, 1, ints .u8 ([83, 70, 88, 49, B, del % 256, 0, 0] ++ (W.take p.1).flatMap le4)⟩]) (fun p => p.1 ≤ 9) (fun p => 9 - p.1) (0, g2) (by simp only; omega) (by simp only [List.take_zero, List.flatMap_nil, List.append_nil, Nat.mul_zero, Nat.add_zero]; exact (holds 2 (by repeat (first | exact .nil | refine has1 ?_)))) ?_
  rintro ⟨i, g3⟩ hi
  simp only at hi ⊢
  by_cases g : (i : Int) < 9
  · have hf := flatMap_one W (show i < W.length by omega)
    have hlen : ([83, 70, 88, 49, B, del % 256, 0, 0] ++ (W.take i).flatMap le4).length = 8 + 4 * i := by rw [List.length_append, flatMap_len, List.length_take]; simp; omega
    have hb2 := getD_u32 hW (i : Int).toNat
    (repeat refine ka ?_); refine kr ?_ ?_ (pops_end ?_)
    (repeat refine ka ?_); refine kct ?_
    (repeat refine ka ?_); refine ksk ?_
    (repeat refine ka ?_); refine kb ?_
    (repeat refine ka ?_); refine kr ?_ ?_ (pops_end ?_)
    (repeat refine ka ?_); refine kr ?_ ?_ ?_
    have hc := laid_ok g3 ([83, 70, 88, 49, B, del % 256, 0, 0] ++ (W.take i).flatMap le4) _ hb2.1 hb2.2 (by rw [hlen]; omega)
    rw [hlen] at hc
    refine ps_fcall [1] hc ?_ (by rintro x S' ⟨g', rfl, rfl⟩; exact Nat.le_of_ble_eq_true rfl)
    rintro x S' ⟨g4, rfl, rfl⟩
    (intro x1 S1 hx1 hS1; simp only [List.map_cons, List.map_nil, renB, ren_ints, putB, List.set_cons_zero, List.set_cons_succ, List.cons_append, List.nil_append, List.append_nil, renL, ren, sg, List.length_cons, List.length_nil, Nat.reduceAdd, Nat.zero_add, Nat.add_zero] at hx1 hS1; subst hx1 hS1)
    refine pops_go ?_ ?_ (pops_end ?_)
    refine kn ?_; repeat (first | with_reducible refine blk_n ?_ | with_reducible refine beh_n ?_)
    (repeat refine ka ?_); refine kr ?_ ?_ (pops_end ?_)
    refine kn ?_; repeat (first | with_reducible refine blk_n ?_ | with_reducible refine beh_n ?_)
    refine ⟨(i + 1, g4), by simp only; omega, by simp only; omega, ?_⟩
    simp only
    rw [hf, ← List.append_assoc]
    exact (holds 2 (by repeat (first | exact .nil | refine has1 ?_)))
  · obtain rfl : i = 9 := by omega
    (repeat refine ka ?_); refine kr ?_ ?_ (pops_end ?_)
    (repeat refine ka ?_); refine kcf ?_
    (repeat refine ka ?_); refine kx ?_; (repeat (first | with_reducible refine beh_x ?_ | with_reducible refine blk_up rfl ?_)); refine blk_here ?_; refine beh_n ?_
    (repeat refine ka ?_); refine kr ?_ ?_ (pops_end ?_)
    (repeat refine ka ?_); refine kret ?_; repeat (first | with_reducible refine beh_r ?_ | with_reducible refine blk_r ?_)
    refine ends_ret ?_ retPV_one
    exact gives_ints rfl rfl (by rw [List.length_append, flatMap_len, List.length_take, hlw]; rfl)
end Go.Proofs.Ytfjodfeoncoaoaa.Pv
