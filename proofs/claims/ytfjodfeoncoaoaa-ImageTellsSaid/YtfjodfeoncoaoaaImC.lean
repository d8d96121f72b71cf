-- image.number; carapaceref17.at, number; image.opened.
import Derived.Test.YtfjodfeoncoaoaaImB
namespace Go.Proofs.Ytfjodfeoncoaoaa.Pv
set_option linter.all false
open Go.RowKit Go.Proofs
set_option maxRecDepth 100000
set_option maxHeartbeats 4000000
theorem or_lo_i64 (k : Nat) (y X : Int) (hX : 0 ≤ X) (hk : X * 2 ^ k < 4611686018427387904) (h0 : 0 ≤ y) (hy : y < 2 ^ k) (hk2 : k ≤ 40) : Go.bits .or .i64 y (X * 2 ^ k) = y + X * 2 ^ k := by
  have := or_hi k X y hX hk h0 hy hk2
  rw [Int.add_comm, ← this]
  show IntKind.i64.wrap (((BitVec.ofInt 64 y ||| BitVec.ofInt 64 (X * 2 ^ k)).toNat : Nat) : Int) = IntKind.i64.wrap (((BitVec.ofInt 64 (X * 2 ^ k) ||| BitVec.ofInt 64 y).toNat : Nat) : Int)
  rw [BitVec.or_comm]
theorem inum_ok (b : List Int) (hb : Oct b) (hl : b.length ≤ 1000000000) (at_ : Int) (h0 : 0 ≤ at_) (h1 : at_ + 4 ≤ b.length) : PCall Try.prog 56 [.ro 1 false (ints .u8 b), .v (.int .i64 at_)] (.v (.int .i64 (num4 b at_.toNat))) := by
  obtain ⟨l, hl'⟩ : ∃ l, l = (b.drop at_.toNat).take ((at_ + 4).toNat - at_.toNat) := ⟨_, rfl⟩
  have h4 : l.length = 4 := by rw [hl', List.length_take, List.length_drop]; omega
  have hg : ∀ k, k < 4 → l.getD k 0 = b.getD (at_.toNat + k) 0 := by
    intro k hk
    rw [hl']
    rw [show (at_ + 4).toNat - at_.toNat = 4 by omega]
    simp [List.getD_eq_getElem?_getD, List.getElem?_take, hk]
  have e0 := hg 0 (by omega)
  have e1 := hg 1 (by omega)
  have e2 := hg 2 (by omega)
  have e3 := hg 3 (by omega)
  have d0 := getD_oct hb at_.toNat
  have d1 := getD_oct hb (at_.toNat + 1)
  have d2 := getD_oct hb (at_.toNat + 2)
  have d3 := getD_oct hb (at_.toNat + 3)
  rw [Nat.add_zero] at e0
  unfold num4
  rw [← e0, ← e1, ← e2, ← e3]
  rw [← e0] at d0
  rw [← e1] at d1
  rw [← e2] at d2
  rw [← e3] at d3
  clear e0 e1 e2 e3 hg
  have o0 := or_lo_i64 0 0 (l.getD (Int.toNat 0) 0) d0.1 (by rw [show ((2 : Int) ^ 0) = 1 from rfl]; show l.getD 0 0 * 1 < _; omega) (by omega) (by decide) (by decide)
  have o1 := or_lo_i64 8 (l.getD 0 0) (l.getD (Int.toNat 1) 0) d1.1 (by rw [show ((2 : Int) ^ 8) = 256 from rfl]; show l.getD 1 0 * 256 < _; omega) d0.1 (by rw [show ((2 : Int) ^ 8) = 256 from rfl]; exact d0.2) (by decide)
  have o2 := or_lo_i64 16 (l.getD 0 0 + 256 * l.getD 1 0) (l.getD (Int.toNat 2) 0) d2.1 (by rw [show ((2 : Int) ^ 16) = 65536 from rfl]; show l.getD 2 0 * 65536 < _; omega) (by omega) (by rw [show ((2 : Int) ^ 16) = 65536 from rfl]; omega) (by decide)
  have o3 := or_lo_i64 24 (l.getD 0 0 + 256 * l.getD 1 0 + 65536 * l.getD 2 0) (l.getD (Int.toNat 3) 0) d3.1 (by rw [show ((2 : Int) ^ 24) = 16777216 from rfl]; show l.getD 3 0 * 16777216 < _; omega) (by omega) (by rw [show ((2 : Int) ^ 24) = 16777216 from rfl]; omega) (by decide)
  rw [show ((2 : Int) ^ 0) = 1 from rfl, show (0 : Int) + l.getD (Int.toNat 0) 0 * 1 = l.getD 0 0 by show (0 : Int) + l.getD 0 0 * 1 = _; omega] at o0
  rw [show ((2 : Int) ^ 8) = 256 from rfl, show l.getD 0 0 + l.getD (Int.toNat 1) 0 * 256 = l.getD 0 0 + 256 * l.getD 1 0 by show l.getD 0 0 + l.getD 1 0 * 256 = _; omega] at o1
  rw [show ((2 : Int) ^ 16) = 65536 from rfl, show l.getD 0 0 + 256 * l.getD 1 0 + l.getD (Int.toNat 2) 0 * 65536 = l.getD 0 0 + 256 * l.getD 1 0 + 65536 * l.getD 2 0 by show l.getD 0 0 + 256 * l.getD 1 0 + l.getD 2 0 * 65536 = _; omega] at o2
  rw [show ((2 : Int) ^ 24) = 16777216 from rfl, show l.getD 0 0 + 256 * l.getD 1 0 + 65536 * l.getD 2 0 + l.getD (Int.toNat 3) 0 * 16777216 = l.getD 0 0 + 256 * l.getD 1 0 + 65536 * l.getD 2 0 + 16777216 * l.getD 3 0 by show l.getD 0 0 + 256 * l.getD 1 0 + 65536 * l.getD 2 0 + l.getD 3 0 * 16777216 = _; omega] at o3
  have m0 : (2 : Int) ^ min (Int.toNat (8 * 0)) IntKind.i64.bits = 1 := rfl
  have m1 : (2 : Int) ^ min (Int.toNat (8 * 1)) IntKind.i64.bits = 256 := rfl
  have m2 : (2 : Int) ^ min (Int.toNat (8 * 2)) IntKind.i64.bits = 65536 := rfl
  have m3 : (2 : Int) ^ min (Int.toNat (8 * 3)) IntKind.i64.bits = 16777216 := rfl
  have c0 : 0 ≤ l.getD (Int.toNat 0) 0 ∧ l.getD (Int.toNat 0) 0 < 256 := d0
  have c1 : 0 ≤ l.getD (Int.toNat 1) 0 ∧ l.getD (Int.toNat 1) 0 < 256 := d1
  have c2 : 0 ≤ l.getD (Int.toNat 2) 0 ∧ l.getD (Int.toNat 2) 0 < 256 := d2
  have c3 : 0 ≤ l.getD (Int.toNat 3) 0 ∧ l.getD (Int.toNat 3) 0 < 256 := d3
  refine pcall_mk Try.func56 rfl [.tmp 4] Try.results56 28 rfl (tk_start ?_)
  (repeat refine ka ?_); refine kr ?_ ?_ (pops_end ?_)
  (repeat refine ka ?_); refine kr ?_ ?_ (pops_end ?_)
  (repeat refine ka ?_); refine kr ?_ ?_ (pops_end ?_)
  rw [← hl']
  clear hl'
  (repeat refine ka ?_); refine kb ?_
  refine kw (fun p : Nat × Int => [(5, PV.v (.int .i64 p.2)), (12, .ro 1 false (ints .u8 l)), (13, .v (.int .i64 l.length)), (14, .v (.int .i64 p.1))]) (fun _ => []) (fun p => (p.1 = 0 ∧ p.2 = 0) ∨ (p.1 = 1 ∧ p.2 = l.getD 0 0) ∨ (p.1 = 2 ∧ p.2 = l.getD 0 0 + 256 * l.getD 1 0) ∨ (p.1 = 3 ∧ p.2 = l.getD 0 0 + 256 * l.getD 1 0 + 65536 * l.getD 2 0) ∨ (p.1 = 4 ∧ p.2 = l.getD 0 0 + 256 * l.getD 1 0 + 65536 * l.getD 2 0 + 16777216 * l.getD 3 0)) (fun p => 4 - p.1) (0, 0) (.inl ⟨rfl, rfl⟩) (holds 0 (by repeat (first | exact .nil | refine has1 ?_))) ?_
  rintro ⟨i, v⟩ hv
  simp only at hv ⊢
  rcases hv with ⟨rfl, rfl⟩ | ⟨rfl, rfl⟩ | ⟨rfl, rfl⟩ | ⟨rfl, rfl⟩ | ⟨rfl, rfl⟩ <;> simp only [Int.cast_ofNat_Int]
  · (repeat refine ka ?_); refine kr ?_ ?_ (pops_end ?_)
    (repeat refine ka ?_); refine kct ?_
    (repeat refine ka ?_); refine ksk ?_
    (repeat refine ka ?_); refine kb ?_
    (repeat refine ka ?_); refine kr ?_ ?_ (pops_end ?_)
    (repeat refine ka ?_); refine kr ?_ ?_ (pops_end ?_)
    refine kn ?_; repeat (first | with_reducible refine blk_n ?_ | with_reducible refine beh_n ?_)
    (repeat refine ka ?_); refine kr ?_ ?_ (pops_end ?_)
    refine kn ?_; repeat (first | with_reducible refine blk_n ?_ | with_reducible refine beh_n ?_)
    exact ⟨(1, l.getD 0 0), .inr (.inl ⟨rfl, rfl⟩), by simp only; omega, (holds 0 (by repeat (first | exact .nil | refine has1 ?_)))⟩
  · (repeat refine ka ?_); refine kr ?_ ?_ (pops_end ?_)
    (repeat refine ka ?_); refine kct ?_
    (repeat refine ka ?_); refine ksk ?_
    (repeat refine ka ?_); refine kb ?_
    (repeat refine ka ?_); refine kr ?_ ?_ (pops_end ?_)
    (repeat refine ka ?_); refine kr ?_ ?_ (pops_end ?_)
    refine kn ?_; repeat (first | with_reducible refine blk_n ?_ | with_reducible refine beh_n ?_)
    (repeat refine ka ?_); refine kr ?_ ?_ (pops_end ?_)
    refine kn ?_; repeat (first | with_reducible refine blk_n ?_ | with_reducible refine beh_n ?_)
    exact ⟨(2, l.getD 0 0 + 256 * l.getD 1 0), .inr (.inr (.inl ⟨rfl, rfl⟩)), by simp only; omega, (holds 0 (by repeat (first | exact .nil | refine has1 ?_)))⟩
  · (repeat refine ka ?_); refine kr ?_ ?_ (pops_end ?_)
    (repeat refine ka ?_); refine kct ?_
    (repeat refine ka ?_); refine ksk ?_
    (repeat refine ka ?_); refine kb ?_
    (repeat refine ka ?_); refine kr ?_ ?_ (pops_end ?_)
    (repeat refine ka ?_); refine kr ?_ ?_ (pops_end ?_)
    refine kn ?_; repeat (first | with_reducible refine blk_n ?_ | with_reducible refine beh_n ?_)
    (repeat refine ka ?_); refine kr ?_ ?_ (pops_end ?_)
    refine kn ?_; repeat (first | with_reducible refine blk_n ?_ | with_reducible refine beh_n ?_)
    exact ⟨(3, l.getD 0 0 + 256 * l.getD 1 0 + 65536 * l.getD 2 0), .inr (.inr (.inr (.inl ⟨rfl, rfl⟩))), by simp only; omega, (holds 0 (by repeat (first | exact .nil | refine has1 ?_)))⟩
  · (repeat refine ka ?_); refine kr ?_ ?_ (pops_end ?_)
    (repeat refine ka ?_); refine kct ?_
    (repeat refine ka ?_); refine ksk ?_
    (repeat refine ka ?_); refine kb ?_
    (repeat refine ka ?_); refine kr ?_ ?_ (pops_end ?_)
    (repeat refine ka ?_); refine kr ?_ ?_ (pops_end ?_)
    refine kn ?_; repeat (first | with_reducible refine blk_n ?_ | with_reducible refine beh_n ?_)
    (repeat refine ka ?_); refine kr ?_ ?_ (pops_end ?_)
    refine kn ?_; repeat (first | with_reducible refine blk_n ?_ | with_reducible refine beh_n ?_)
    exact ⟨(4, l.getD 0 0 + 256 * l.getD 1 0 + 65536 * l.getD 2 0 + 16777216 * l.getD 3 0), .inr (.inr (.inr (.inr ⟨rfl, rfl⟩))), by simp only; omega, (holds 0 (by repeat (first | exact .nil | refine has1 ?_)))⟩
  · (repeat refine ka ?_); refine kr ?_ ?_ (pops_end ?_)
    (repeat refine ka ?_); refine kcf ?_
    (repeat refine ka ?_); refine kx ?_; (repeat (first | with_reducible refine beh_x ?_ | with_reducible refine blk_up rfl ?_)); refine blk_here ?_; refine beh_n ?_
    (repeat refine ka ?_); refine kr ?_ ?_ (pops_end ?_)
    (repeat refine ka ?_); refine kret ?_; repeat (first | with_reducible refine beh_r ?_ | with_reducible refine blk_r ?_)
    refine ends_ret ?_ retPV_one
    rfl
end Go.Proofs.Ytfjodfeoncoaoaa.Pv
