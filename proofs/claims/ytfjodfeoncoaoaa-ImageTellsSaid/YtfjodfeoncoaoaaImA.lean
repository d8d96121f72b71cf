-- crc.More, Sum, All; carapaceref01.step, More, Sum.
import Derived.Test.YtfjodfeoncoaoaaImP
import Derived.Test.YtfjodfeoncoaoaaBt
import Derived.Test.YtfjodfeoncoaoaaIfc
namespace Go.Proofs.Ytfjodfeoncoaoaa.Pv
set_option linter.all false
open Go.RowKit Go.Proofs
set_option maxRecDepth 100000
set_option maxHeartbeats 4000000
theorem cr_step (s : Cr.B32) : Go.bits .xor .u32 (Cr.U s / 2) (Go.bits .and .u32 3988292384 (IntKind.u32.wrap (0 - Go.bits .and .u32 (Cr.U s) 1))) = Cr.U (Cr.cstep s) := by
  rw [IntKind.wrap_u32, Cr.half32, Cr.and32 (Cr.U s), Cr.ofInt_U, Int.zero_sub, Cr.neg32, Cr.and32, Cr.ofInt_U, Cr.xor32, Cr.ofInt_U, Cr.ofInt_U]
  rfl
theorem cr_not (x : Int) : Go.bits .xor .u32 4294967295 x = Cr.U (~~~ BitVec.ofInt 32 x) := by
  rw [Cr.xor32]
  congr 1
theorem cr_sub (x : Int) : IntKind.u32.wrap (4294967295 - x) = Cr.U (~~~ BitVec.ofInt 32 x) := by
  rw [IntKind.wrap_u32]
  have h := Cr.U_ofInt32 x
  have := (BitVec.ofInt 32 x).isLt
  simp only [Cr.U, BitVec.toNat_not] at *
  omega
theorem steps_succ : ∀ (k : Nat) (s : Cr.B32), Cr.steps (k + 1) s = Cr.cstep (Cr.steps k s)
  | 0, s => rfl
  | k + 1, s => steps_succ k (Cr.cstep s)
theorem take_one {l : List Int} {i : Nat} (h : i < l.length) : l.take (i + 1) = l.take i ++ [l.getD (i : Int).toNat 0] := by
  rw [List.take_succ, List.getElem?_eq_getElem h]
  simp [List.getD_eq_getElem?_getD, List.getElem?_eq_getElem h]
theorem more_ok (a : Int) (l : List Int) (hb : Oct l) (hl : l.length ≤ 1000000000) : PCall Try.prog 52 [.v (.int .u32 a), .ro 1 false (ints .u8 l)] (.v (.int .u32 (Cr.sum a l))) := by
  have hn := cr_not a
  refine pcall_mk Try.func52 rfl [.tmp 4] Try.results52 35 rfl (tk_start ?_)
  (repeat refine ka ?_); refine kr ?_ ?_ (pops_end ?_)
  (repeat refine ka ?_); refine kr ?_ ?_ ?_
  refine ps_cpl ?_
  refine pops_go ?_ ?_ (pops_end ?_)
  (repeat refine ka ?_); refine kr ?_ ?_ (pops_end ?_)
  (repeat refine ka ?_); refine kb ?_
  refine kw (fun i : Nat => [(5, PV.v (.int .u32 (Cr.U (Cr.fold (~~~ BitVec.ofInt 32 a) (l.take i))))), (11, .ro 1 false (ints .u8 l)), (12, .v (.int .i64 l.length)), (13, .v (.int .i64 i))]) (fun _ => []) (fun i => i ≤ l.length) (fun i => l.length - i) 0 (Nat.zero_le _) (holds 0 (by repeat (first | exact .nil | refine has1 ?_))) ?_
  clear hn
  intro i hi
  by_cases g : (i : Int) < l.length
  · have ht := take_one (show i < l.length by omega)
    have hf := Cr.fold_append (~~~ BitVec.ofInt 32 a) (l.take i) [l.getD (i : Int).toNat 0]
    rw [← ht] at hf
    simp only [Cr.fold] at hf
    clear ht
    generalize Cr.fold (~~~ BitVec.ofInt 32 a) (l.take i) = s at hf ⊢
    have hc := getD_oct hb (i : Int).toNat
    have hx : Go.bits .xor .u32 (Cr.U s) (l.getD (i : Int).toNat 0) = Cr.U (s ^^^ BitVec.ofInt 32 (l.getD (i : Int).toNat 0)) := by rw [Cr.xor32, Cr.ofInt_U]
    (repeat refine ka ?_); refine kr ?_ ?_ (pops_end ?_)
    (repeat refine ka ?_); refine kct ?_
    (repeat refine ka ?_); refine ksk ?_
    (repeat refine ka ?_); refine kb ?_
    (repeat refine ka ?_); refine kr ?_ ?_ (pops_end ?_)
    (repeat refine ka ?_); refine kr ?_ ?_ (pops_end ?_)
    (repeat refine ka ?_); refine kr ?_ ?_ (pops_end ?_)
    (repeat refine ka ?_); refine kb ?_
    clear hx
    generalize s ^^^ BitVec.ofInt 32 (l.getD (i : Int).toNat 0) = s0 at hf ⊢
    refine kw (fun k : Nat => [(5, PV.v (.int .u32 (Cr.U (Cr.steps k s0)))), (11, .ro 1 false (ints .u8 l)), (12, .v (.int .i64 l.length)), (13, .v (.int .i64 i)), (21, .v (.int .i64 k))]) (fun _ => []) (fun k => k ≤ 8) (fun k => 8 - k) 0 (by omega) (holds 0 (by repeat (first | exact .nil | refine has1 ?_))) ?_
    intro k hk
    by_cases g2 : (k : Int) < 8
    · have hs := cr_step (Cr.steps k s0)
      rw [← steps_succ] at hs
      (repeat refine ka ?_); refine kr ?_ ?_ (pops_end ?_)
      (repeat refine ka ?_); refine kct ?_
      (repeat refine ka ?_); refine ksk ?_
      (repeat refine ka ?_); refine kb ?_
      (repeat refine ka ?_); refine kr ?_ ?_ (pops_end ?_)
      (repeat refine ka ?_); refine kr ?_ ?_ (pops_end ?_)
      refine kn ?_; repeat (first | with_reducible refine blk_n ?_ | with_reducible refine beh_n ?_)
      (repeat refine ka ?_); refine kr ?_ ?_ (pops_end ?_)
      refine kn ?_; repeat (first | with_reducible refine blk_n ?_ | with_reducible refine beh_n ?_)
      exact ⟨k + 1, by omega, by omega, (holds 0 (by repeat (first | exact .nil | refine has1 ?_)))⟩
    · obtain rfl : k = 8 := by omega
      (repeat refine ka ?_); refine kr ?_ ?_ (pops_end ?_)
      (repeat refine ka ?_); refine kcf ?_
      (repeat refine ka ?_); refine kx ?_; (repeat (first | with_reducible refine beh_x ?_ | with_reducible refine blk_up rfl ?_)); refine blk_here ?_; refine beh_n ?_
      (repeat refine ka ?_); refine kr ?_ ?_ (pops_end ?_)
      refine kn ?_; repeat (first | with_reducible refine blk_n ?_ | with_reducible refine beh_n ?_)
      refine ⟨i + 1, by omega, by omega, ?_⟩
      rw [hf]
      exact (holds 0 (by repeat (first | exact .nil | refine has1 ?_)))
  · obtain rfl : i = l.length := by omega
    rw [List.take_length]
    have hn2 := cr_not (Cr.U (Cr.fold (~~~ BitVec.ofInt 32 a) l))
    rw [Cr.ofInt_U] at hn2
    (repeat refine ka ?_); refine kr ?_ ?_ (pops_end ?_)
    (repeat refine ka ?_); refine kcf ?_
    (repeat refine ka ?_); refine kx ?_; (repeat (first | with_reducible refine beh_x ?_ | with_reducible refine blk_up rfl ?_)); refine blk_here ?_; refine beh_n ?_
    (repeat refine ka ?_); refine kr ?_ ?_ ?_
    refine ps_cpl ?_
    refine pops_go ?_ ?_ (pops_end ?_)
    (repeat refine ka ?_); refine kret ?_; repeat (first | with_reducible refine beh_r ?_ | with_reducible refine blk_r ?_)
    refine ends_ret ?_ retPV_one
    rfl
end Go.Proofs.Ytfjodfeoncoaoaa.Pv
