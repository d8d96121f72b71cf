-- carapaceref17.head.
import Derived.Test.YtfjodfeoncoaoaaImF
namespace Go.Proofs.Ytfjodfeoncoaoaa.Pv
set_option linter.all false
open Go.RowKit Go.Proofs
set_option maxRecDepth 100000
set_option maxHeartbeats 4000000
section
variable {P : Program} {ops : List Oper} {Q : PS → Prop} {rest : List Oper} {n : Nat} {tm : List (Nat × PV)} {S S' : List Blk} {d : Tmp} {ty : TypeId} {pos : String} {af : Array Edge} {t t' e : TypeId}
theorem ps_litg {len sz : Nat} {parts : Array (Nat × Operand)} {ps : List (Nat × PV)} {zr : List PV} {bb : Bool} {rows : List (List PV)} [ht : Und P t (.slice e)] [hz : Zer P e zr] [hk : AggT P e bb] [hc : Cel P e sz] (k : Pops P ops Q rest ⟨n, (d, .ro sz false rows) :: tm, S⟩)
    (hpure : ∀ row ∈ rows, ∀ x ∈ row, PV.Pure x) (hsz : sz = zr.length := by rfl) (hpos : 0 < zr.length := by decide) (hb : len * zr.length ≤ 16777216 := by decide) (hl : rows.length = len := by rfl) (hp : (parts.toList.map fun p => (p.1, PS.get ⟨n, tm, S⟩ p.2)) = ps := by first | (simp only [List.map_cons, List.map_nil, PS.get, look, ofValue, ↓reduceIte, Nat.reduceEqDiff, reduceCtorEq]; exact rfl) | rfl) (hf : fillRows sz (List.replicate len zr) ps = some rows := by first | (simp only [List.replicate_succ, List.replicate_zero, fillRows, cellsPV, Value.oneCell', List.length_cons, List.length_nil, List.set_cons_zero, List.set_cons_succ, Nat.reduceAdd, Nat.zero_add, Nat.reduceLT, Nat.reduceSub, Bool.and_self, decide_true, if_true, ↓reduceIte]; exact rfl) | rfl) :
    Pops P ops Q (⟨some d, .buildSlice t len parts, ty, pos, af, none⟩ :: rest) ⟨n, tm, S⟩ := by
  subst hp hsz
  exact pops_one rfl (pop_litg (pop_lit rfl ht.h hz.h hk.h.2 hc.h hpos hb hf fun g => ⟨g, rfl, rfl⟩) hl hpure k)
end
theorem rhead_ok (x : Img) (hx : x.Ok) (hs : x.stub.length ≤ 1000000000) (hp : x.pay.length ≤ 1000000000) (hd : x.dir.length ≤ 1000000000) : GCall Try.prog 31 [.agg x.cells] [] (fun y S' => ∃ gx g, y = .vw 1 g 0 44 ∧ S' = [⟨gx, true, 14, [x.cells]⟩, ⟨g, true, 1, ints .u8 x.hdr⟩]) := by
  have hW := x.words_ok hx
  have hb := rbyte_ok x.o
  have hbr := byteTo_oct x.o
  have hh : x.hdr = [83, 70, 88, 49, byteTo x.o 4, x.o.del % 256, 0, 0] ++ ((x.words.take 9).flatMap le4) := rfl
  obtain ⟨⟨bcj, del, lz, rng, cry⟩, count, mid, raw, sum, n0, n1, stub, pay, dir⟩ := x
  rw [hh]
  clear hh
  unfold Img.cells
  unfold Op5.cells at hb
  simp only at hs hp hd hb hbr ⊢
  have hwd : IntKind.u8.wrap del = del % 256 := by rw [IntKind.wrap_u8]
  have hw1 : IntKind.u32.wrap count = count % 4294967296 := by rw [IntKind.wrap_u32]
  have hw2 : IntKind.u32.wrap mid = mid % 4294967296 := by rw [IntKind.wrap_u32]
  have hw3 : IntKind.u32.wrap raw = raw % 4294967296 := by rw [IntKind.wrap_u32]
  have hw4 : IntKind.u32.wrap (pay.length : Int) = (pay.length : Int) % 4294967296 := by rw [IntKind.wrap_u32]
  have hw5 : IntKind.u32.wrap (stub.length : Int) = (stub.length : Int) % 4294967296 := by rw [IntKind.wrap_u32]
  have hw6 : IntKind.u32.wrap (dir.length : Int) = (dir.length : Int) % 4294967296 := by rw [IntKind.wrap_u32]
  generalize byteTo ⟨bcj, del, lz, rng, cry⟩ 4 = B at *
  have hpp : ∀ row ∈ ints .u8 [B, del % 256, 0, 0], ∀ x ∈ row, PV.Pure x := fun row hr x hx => by obtain ⟨b, _, rfl⟩ := List.mem_map.1 hr; rw [List.mem_singleton] at hx; subst hx; exact .v _
  refine gcall_of_tr Try.func31 rfl [.tmp 2] Try.results31 61 rfl (tk_start ?_)
  (repeat refine ka ?_); refine kr ?_ ?_ ?_
  refine ps_box (fun gx => ?_)
  refine pops_go ?_ ?_ (pops_end ?_)
  (repeat refine ka ?_); refine kds [2, 3, 4, 5, 6, 7, 8, 9] [0, 1, 10, 11] ?_
  refine pstl_go ?_ ?_ ?_; refine pd_pcall hb ?_; refine pstl_go ?_ ?_ ?_; refine pd_litg (rows := ints .u8 [B, del % 256, 0, 0]) ?_ hpp; refine pstl_nil ?_
  refine hs_w [] [2, 3, 4, 5, 6, 7, 8, 9] ?_ (by refine pstl_go ?_ ?_ ?_; refine pd_pcall hb ?_; refine pstl_go ?_ ?_ ?_; refine pd_litg (rows := ints .u8 [B, del % 256, 0, 0]) ?_ hpp; refine pstl_nil ?_; exact rfl); refine pstl_nil ?_; refine ⟨rfl, ?_⟩
  refine ps_lit (fun g => ?_)
  refine pops_nil ?_
  refine hs_w [] [2, 3, 4, 5, 6, 7, 8, 9] ?_ (by refine pstl_go ?_ ?_ ?_; refine pd_pcall hb ?_; refine pstl_go ?_ ?_ ?_; refine pd_litg (rows := ints .u8 [B, del % 256, 0, 0]) ?_ hpp; refine pstl_nil ?_; exact rfl); refine pstl_nil ?_; refine ⟨rfl, ?_⟩
  refine ps_cvs ?_
  refine pops_nil ?_
  refine hs_w [2, 3, 4, 5, 6, 7, 8, 9] [] ?_ (by refine pstl_go ?_ ?_ ?_; refine pd_pcall hb ?_; refine pstl_go ?_ ?_ ?_; refine pd_litg (rows := ints .u8 [B, del % 256, 0, 0]) ?_ hpp; refine pstl_nil ?_; exact rfl); refine pstl_go ?_ ?_ ?_; refine pd_pcall hb ?_; refine pstl_go ?_ ?_ ?_; refine pd_litg (rows := ints .u8 [B, del % 256, 0, 0]) ?_ hpp; refine pstl_nil ?_; refine ⟨rfl, ?_⟩
  refine ps_app_vw (rows' := ints .u8 ([83, 70, 88, 49] ++ [B, del % 256, 0, 0])) (m := 8) (fun g2 => ?_)
  refine pops_nil ?_
  refine hs_w [] [] ?_ (by refine pstl_nil ?_; exact rfl); refine pstl_nil ?_; refine ⟨rfl, ?_⟩
  refine ps_ev (p := .vw 1 g2 0 8) ?_ rfl
  refine pops_nil ?_
  refine hs_end ?_; refine pstl_nil ?_; refine ⟨rfl, ?_⟩
  (repeat refine ka ?_); refine kr ?_ ?_ ?_
  refine ps_litg (rows := [[.v (.int .u32 (count % 4294967296))], [.v (.int .u32 ((pay.length : Int) % 4294967296))], [.v (.int .u32 (mid % 4294967296))], [.v (.int .u32 (raw % 4294967296))], [.v (.int .u32 sum)], [.v (.int .u32 n0)], [.v (.int .u32 n1)], [.v (.int .u32 ((stub.length : Int) % 4294967296))], [.v (.int .u32 ((dir.length : Int) % 4294967296))]]) ?_ (fun row hr x hx => by simp only [List.mem_cons, List.not_mem_nil, or_false] at hr; rcases hr with rfl | rfl | rfl | rfl | rfl | rfl | rfl | rfl | rfl <;> (rw [List.mem_singleton] at hx; subst hx; exact .v _))
  refine pops_go ?_ ?_ (pops_end ?_)
  (repeat refine ka ?_); refine kr ?_ ?_ (pops_end ?_)
  (repeat refine ka ?_); refine kb ?_
  have hlw : (Img.words ⟨⟨bcj, del, lz, rng, cry⟩, count, mid, raw, sum, n0, n1, stub, pay, dir⟩).length = 9 := rfl
  have hww : ints .u32 (Img.words ⟨⟨bcj, del, lz, rng, cry⟩, count, mid, raw, sum, n0, n1, stub, pay, dir⟩) = [[.v (.int .u32 (count % 4294967296))], [.v (.int .u32 ((pay.length : Int) % 4294967296))], [.v (.int .u32 (mid % 4294967296))], [.v (.int .u32 (raw % 4294967296))], [.v (.int .u32 sum)], [.v (.int .u32 n0)], [.v (.int .u32 n1)], [.v (.int .u32 ((stub.length : Int) % 4294967296))], [.v (.int .u32 ((dir.length : Int) % 4294967296))]] := rfl
  generalize Img.words ⟨⟨bcj, del, lz, rng, cry⟩, count, mid, raw, sum, n0, n1, stub, pay, dir⟩ = W at *
  rw [← hww]
  clear hww hw1 hw2 hw3 hw4 hw5 hw6 hwd
  refine kw (fun p : Nat × Nat => [(3, PV.vw 1 p.2 0 (8 + 4 * p.1)), (4, .ro 1 false (ints .u32 W)), (5, .v (.int .i64 p.1))]) (fun p => [⟨gx, true, 14, [[.v (.bool bcj), .v (.int .i64 del), .v (.bool lz), .v (.bool rng), .v (.bool cry), .v (.int .i64 count), .v (.int .i64 mid), .v (.int .i64 raw), .v (.int .u32 sum), .v (.int .u32 n0), .v (.int .u32 n1), .ro 1 false (ints .u8 stub), .ro 1 false (ints .u8 pay), .ro 1 false (ints .u8 dir)]]⟩, ⟨p.2, true, 1, ints .u8 ([83, 70, 88, 49, B, del % 256, 0, 0] ++ (W.take p.1).flatMap le4)⟩]) (fun p => p.1 ≤ 9) (fun p => 9 - p.1) (0, g2) (by simp only; omega) (by simp only [List.take_zero, List.flatMap_nil, List.append_nil, Nat.mul_zero, Nat.add_zero]; exact (holds 2 (by repeat (first | exact .nil | refine has1 ?_)))) ?_
  rintro ⟨i, g3⟩ hi
  simp only at hi ⊢
  by_cases g : (i : Int) < 9
  · have hf := flatMap_one W (show i < W.length by omega)
    have hlen : ([83, 70, 88, 49, B, del % 256, 0, 0] ++ (W.take i).flatMap le4).length = 8 + 4 * i := by rw [List.length_append, flatMap_len, List.length_take]; simp; omega
    have hb2 := getD_u32 hW (i : Int).toNat
    (repeat refine ka ?_); refine kr ?_ ?_ (pops_end ?_)
    (repeat refine ka ?_); refine kct ?_
    (repeat refine ka ?_); refine ksk ?_
    (repeat refine ka ?_); refine kb ?_
    (repeat refine ka ?_); refine kr ?_ ?_ ?_
    refine ps_pcall (rnum_ok _ hb2.1 hb2.2) ?_
    refine pops_go ?_ ?_ ?_
    refine ps_app_vw (rows' := ints .u8 (([83, 70, 88, 49, B, del % 256, 0, 0] ++ (W.take i).flatMap le4) ++ le4 (W.getD (i : Int).toNat 0))) (m := 8 + 4 * (i + 1)) (fun g4 => ?_) (hsrc := rfl) (hrows := ints_append _ _ _) (hm := by rw [ints_length, le4_length]; omega) (hlen := by rw [ints_length, hlen])
    refine pops_go ?_ ?_ (pops_end ?_)
    refine kn ?_; repeat (first | with_reducible refine blk_n ?_ | with_reducible refine beh_n ?_)
    (repeat refine ka ?_); refine kr ?_ ?_ (pops_end ?_)
    refine kn ?_; repeat (first | with_reducible refine blk_n ?_ | with_reducible refine beh_n ?_)
    refine ⟨(i + 1, g4), by simp only; omega, by simp only; omega, ?_⟩
    simp only
    rw [hf, ← List.append_assoc]
    exact (holds 2 (by repeat (first | exact .nil | refine has1 ?_)))
  · obtain rfl : i = 9 := by omega
    (repeat refine ka ?_); refine kr ?_ ?_ (pops_end ?_)
    (repeat refine ka ?_); refine kcf ?_
    (repeat refine ka ?_); refine kx ?_; (repeat (first | with_reducible refine beh_x ?_ | with_reducible refine blk_up rfl ?_)); refine blk_here ?_; refine beh_n ?_
    (repeat refine ka ?_); refine kr ?_ ?_ (pops_end ?_)
    (repeat refine ka ?_); refine kret ?_; repeat (first | with_reducible refine beh_r ?_ | with_reducible refine blk_r ?_)
    refine ends_ret ?_ retPV_one
    exact ⟨_, _, rfl, rfl⟩
end Go.Proofs.Ytfjodfeoncoaoaa.Pv
