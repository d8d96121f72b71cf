-- carapaceref04: long, Find, Put.
import Derived.Test.YteocmeidkdhmiaaLzJ
namespace Go.Proofs.Yteocmeidkdhmiaa.Pv
set_option linter.all false
open Go.RowKit Go.Proofs
set_option maxRecDepth 100000
set_option maxHeartbeats 4000000
theorem rlong_ok (l : List Int) (f a : Nat) {x y : Int} (hx : x = a) (hy : y = f) (h1 : 1 ≤ f) (h2 : f ≤ a) (h3 : a < l.length) (hl : l.length ≤ 1000000) : PCall Try.prog 62 [.ro 1 false (ints .u8 l), .v (.int .i64 x), .v (.int .i64 y)] (.v (.int .i64 (same l (a - f) a))) := by
  subst hx hy
  refine pcall_mk Try.func62 rfl [.tmp 6] Try.results62 38 rfl (tk_start ?_)
  (repeat refine ka ?_); refine kr ?_ ?_ (pops_end ?_)
  (repeat refine ka ?_); refine kr ?_ ?_ (pops_end ?_)
  (repeat refine ka ?_); refine kb ?_
  refine kw (fun m : Nat => [(0, .ro 1 false (ints .u8 l)), (1, .v (.int .i64 a)), (2, .v (.int .i64 f)), (7, .v (.int .i64 m))]) (fun _ => []) (fun m => m ≤ 18 ∧ sameN l (a - f) a (18 - m) m = same l (a - f) a) (fun m => 18 - m) 0 ⟨by omega, rfl⟩ (holds 0 (by repeat (first | exact .nil | refine has1 ?_))) ?_
  rintro m ⟨hm, he⟩
  have e1 : ((a : Int) + m).toNat = a + m := by omega
  have e2 : ((a : Int) + m - f).toNat = a - f + m := by omega
  by_cases g1 : (m : Int) < 18
  · by_cases g2 : (a : Int) + m < l.length
    · by_cases g3 : l.getD ((a : Int) + m).toNat 0 = l.getD ((a : Int) + m - f).toNat 0
      · (repeat refine ka ?_); refine kd ?_ ?_ (pstl_end ?_)
        (repeat refine ka ?_); refine kct ?_
        (repeat refine ka ?_); refine ksk ?_
        (repeat refine ka ?_); refine kb ?_
        (repeat refine ka ?_); refine kr ?_ ?_ (pops_end ?_)
        refine kn ?_; repeat (first | with_reducible refine blk_n ?_ | with_reducible refine beh_n ?_)
        refine ⟨m + 1, ⟨by omega, ?_⟩, by omega, (holds 0 (by repeat (first | exact .nil | refine has1 ?_)))⟩
        rw [← he, show 18 - m = (18 - (m + 1)) + 1 by omega, sameN_go (by omega) (by rw [e1, e2] at g3; exact g3.symm)]
      · (repeat refine ka ?_); refine kd ?_ ?_ (pstl_end ?_)
        (repeat refine ka ?_); refine kcf ?_
        (repeat refine ka ?_); refine kx ?_; (repeat (first | with_reducible refine beh_x ?_ | with_reducible refine blk_up rfl ?_)); refine blk_here ?_; refine beh_n ?_
        (repeat refine ka ?_); refine kr ?_ ?_ (pops_end ?_)
        (repeat refine ka ?_); refine kret ?_; repeat (first | with_reducible refine beh_r ?_ | with_reducible refine blk_r ?_)
        refine ends_ret ?_ retPV_one
        rw [← he, sameN_stop (by rw [e1, e2] at g3; intro h; exact g3 h.2.2.symm)]
    · (repeat refine ka ?_); refine kd ?_ ?_ (pstl_end ?_)
      (repeat refine ka ?_); refine kcf ?_
      (repeat refine ka ?_); refine kx ?_; (repeat (first | with_reducible refine beh_x ?_ | with_reducible refine blk_up rfl ?_)); refine blk_here ?_; refine beh_n ?_
      (repeat refine ka ?_); refine kr ?_ ?_ (pops_end ?_)
      (repeat refine ka ?_); refine kret ?_; repeat (first | with_reducible refine beh_r ?_ | with_reducible refine blk_r ?_)
      refine ends_ret ?_ retPV_one
      rw [← he, sameN_stop (by omega)]
  · (repeat refine ka ?_); refine kd ?_ ?_ (pstl_end ?_)
    (repeat refine ka ?_); refine kcf ?_
    (repeat refine ka ?_); refine kx ?_; (repeat (first | with_reducible refine beh_x ?_ | with_reducible refine blk_up rfl ?_)); refine blk_here ?_; refine beh_n ?_
    (repeat refine ka ?_); refine kr ?_ ?_ (pops_end ?_)
    (repeat refine ka ?_); refine kret ?_; repeat (first | with_reducible refine beh_r ?_ | with_reducible refine blk_r ?_)
    refine ends_ret ?_ retPV_one
    rw [← he, sameN_stop (by omega)]

theorem rfind_ok (l : List Int) (a : Int) (hl : l.length ≤ 1000000) : PCall Try.prog 42 [.ro 1 false (ints .u8 l), .v (.int .i64 a)] (.tup [.v (.int .i64 (find l a).1), .v (.int .i64 (find l a).2)]) := by
  refine pcall_mk Try.func42 rfl [.tmp 4, .tmp 5] Try.results42 40 rfl (tk_start ?_)
  (repeat refine ka ?_); refine kr ?_ ?_ (pops_end ?_)
  by_cases h1 : a < 0
  · (repeat refine ka ?_); refine kr ?_ ?_ (pops_end ?_)
    (repeat refine ka ?_); refine kct ?_
    (repeat refine ka ?_); refine kr ?_ ?_ (pops_end ?_)
    (repeat refine ka ?_); refine kret ?_; repeat (first | with_reducible refine beh_r ?_ | with_reducible refine blk_r ?_)
    refine ends_ret ?_ retPV_two
    rw [find, if_pos (.inl h1)]; rfl
  by_cases h2 : (l.length : Int) ≤ a
  · (repeat refine ka ?_); refine kr ?_ ?_ (pops_end ?_)
    (repeat refine ka ?_); refine kct ?_
    (repeat refine ka ?_); refine kr ?_ ?_ (pops_end ?_)
    (repeat refine ka ?_); refine kret ?_; repeat (first | with_reducible refine beh_r ?_ | with_reducible refine blk_r ?_)
    refine ends_ret ?_ retPV_two
    rw [find, if_pos (.inr h2)]; rfl
  obtain ⟨a, rfl⟩ := Int.eq_ofNat_of_zero_le (show 0 ≤ a by omega)
  have hfind : find l (a : Int) = if (findTo l a (min a 4096)).1 = 0 then (0, 0) else findTo l a (min a 4096) := by
    rw [find, if_neg (by omega), Int.toNat_natCast]
  (repeat refine ka ?_); refine kr ?_ ?_ (pops_end ?_)
  (repeat refine ka ?_); refine kcf ?_
  (repeat refine ka ?_); refine ksk ?_
  (repeat refine ka ?_); refine kr ?_ ?_ (pops_end ?_)
  (repeat refine ka ?_); refine kr ?_ ?_ (pops_end ?_)
  (repeat refine ka ?_); refine kr ?_ ?_ (pops_end ?_)
  (repeat refine ka ?_); refine kb ?_
  refine kw (fun k : Nat => [(0, PV.ro 1 false (ints .u8 l)), (1, .v (.int .i64 a)), (6, .v (.int .i64 (findTo l a k).1)), (7, .v (.int .i64 (findTo l a k).2)), (8, .v (.int .i64 (k + 1 : Int)))]) (fun _ => []) (fun k => k ≤ min a 4096) (fun k => min a 4096 - k) 0 (by omega) (holds 0 (by repeat (first | exact .nil | refine has1 ?_))) ?_
  intro k hk
  have hb := findTo_le l a k
  by_cases g0 : (k + 1 : Int) ≤ 4096
  · by_cases g1 : (k + 1 : Int) ≤ (a : Int)
    · by_cases g2 : ((findTo l a k).2 : Int) < same l (a - (k + 1)) a
      · (repeat refine ka ?_); refine kr ?_ ?_ (pops_end ?_)
        (repeat refine ka ?_); refine kct ?_
        (repeat refine ka ?_); refine ksk ?_
        (repeat refine ka ?_); refine kb ?_
        (repeat refine ka ?_); refine kr ?_ ?_ ?_
        refine ps_pcall (rlong_ok l (k + 1) a ?_ ?_ ?_ ?_ ?_ hl) ?_
        iterate 5 omega
        refine pops_go ?_ ?_ (pops_end ?_)
        (repeat refine ka ?_); refine kr ?_ ?_ (pops_end ?_)
        (repeat refine ka ?_); refine kct ?_
        (repeat refine ka ?_); refine kr ?_ ?_ (pops_end ?_)
        (repeat refine ka ?_); refine kr ?_ ?_ (pops_end ?_)
        refine kn ?_; repeat (first | with_reducible refine blk_n ?_ | with_reducible refine beh_n ?_)
        (repeat refine ka ?_); refine kr ?_ ?_ (pops_end ?_)
        refine kn ?_; repeat (first | with_reducible refine blk_n ?_ | with_reducible refine beh_n ?_)
        have e2 : findTo l a (k + 1) = (k + 1, same l (a - (k + 1)) a) := by rw [findTo, if_pos (by omega)]
        refine ⟨k + 1, by omega, by omega, ?_⟩
        rw [e2]
        exact (holds 0 (by repeat (first | exact .nil | refine has1 ?_)))
      · (repeat refine ka ?_); refine kr ?_ ?_ (pops_end ?_)
        (repeat refine ka ?_); refine kct ?_
        (repeat refine ka ?_); refine ksk ?_
        (repeat refine ka ?_); refine kb ?_
        (repeat refine ka ?_); refine kr ?_ ?_ ?_
        refine ps_pcall (rlong_ok l (k + 1) a ?_ ?_ ?_ ?_ ?_ hl) ?_
        iterate 5 omega
        refine pops_go ?_ ?_ (pops_end ?_)
        (repeat refine ka ?_); refine kr ?_ ?_ (pops_end ?_)
        (repeat refine ka ?_); refine kcf ?_
        (repeat refine ka ?_); refine ksk ?_
        refine kn ?_; repeat (first | with_reducible refine blk_n ?_ | with_reducible refine beh_n ?_)
        (repeat refine ka ?_); refine kr ?_ ?_ (pops_end ?_)
        refine kn ?_; repeat (first | with_reducible refine blk_n ?_ | with_reducible refine beh_n ?_)
        have e2 : findTo l a (k + 1) = findTo l a k := by rw [findTo, if_neg (by omega)]
        refine ⟨k + 1, by omega, by omega, ?_⟩
        rw [e2]
        exact (holds 0 (by repeat (first | exact .nil | refine has1 ?_)))
    · (repeat refine ka ?_); refine kr ?_ ?_ (pops_end ?_)
      (repeat refine ka ?_); refine kcf ?_
      (repeat refine ka ?_); refine kx ?_; (repeat (first | with_reducible refine beh_x ?_ | with_reducible refine blk_up rfl ?_)); refine blk_here ?_; refine beh_n ?_
      have e : k = min a 4096 := by omega
      rw [← e] at hfind
      by_cases g3 : ((findTo l a k).1 : Int) = 0
      · (repeat refine ka ?_); refine kr ?_ ?_ (pops_end ?_)
        (repeat refine ka ?_); refine kct ?_
        (repeat refine ka ?_); refine kr ?_ ?_ (pops_end ?_)
        (repeat refine ka ?_); refine kret ?_; repeat (first | with_reducible refine beh_r ?_ | with_reducible refine blk_r ?_)
        refine ends_ret ?_ retPV_two
        rw [hfind, if_pos (by omega)]; rfl
      · (repeat refine ka ?_); refine kr ?_ ?_ (pops_end ?_)
        (repeat refine ka ?_); refine kcf ?_
        (repeat refine ka ?_); refine ksk ?_
        (repeat refine ka ?_); refine kr ?_ ?_ (pops_end ?_)
        (repeat refine ka ?_); refine kret ?_; repeat (first | with_reducible refine beh_r ?_ | with_reducible refine blk_r ?_)
        refine ends_ret ?_ retPV_two
        rw [hfind, if_neg (by omega)]
  · (repeat refine ka ?_); refine kr ?_ ?_ (pops_end ?_)
    (repeat refine ka ?_); refine kcf ?_
    (repeat refine ka ?_); refine kx ?_; (repeat (first | with_reducible refine beh_x ?_ | with_reducible refine blk_up rfl ?_)); refine blk_here ?_; refine beh_n ?_
    have e : k = min a 4096 := by omega
    rw [← e] at hfind
    by_cases g3 : ((findTo l a k).1 : Int) = 0
    · (repeat refine ka ?_); refine kr ?_ ?_ (pops_end ?_)
      (repeat refine ka ?_); refine kct ?_
      (repeat refine ka ?_); refine kr ?_ ?_ (pops_end ?_)
      (repeat refine ka ?_); refine kret ?_; repeat (first | with_reducible refine beh_r ?_ | with_reducible refine blk_r ?_)
      refine ends_ret ?_ retPV_two
      rw [hfind, if_pos (by omega)]; rfl
    · (repeat refine ka ?_); refine kr ?_ ?_ (pops_end ?_)
      (repeat refine ka ?_); refine kcf ?_
      (repeat refine ka ?_); refine ksk ?_
      (repeat refine ka ?_); refine kr ?_ ?_ (pops_end ?_)
      (repeat refine ka ?_); refine kret ?_; repeat (first | with_reducible refine beh_r ?_ | with_reducible refine blk_r ?_)
      refine ends_ret ?_ retPV_two
      rw [hfind, if_neg (by omega)]

/-- The bit of the document's own. -/
def refBit (many : Nat) : Int := if many % 8 = 0 then 256 else 2 ^ (many % 8)
def refBase (many : Nat) : Int := if many % 8 = 0 then 1 else 2 ^ (many % 8)
theorem refBit_next (many : Nat) : 2 * refBase many = refBit (many + 1) := by
  have key : ∀ m : Nat, m < 8 → 2 * (if m = 0 then (1 : Int) else 2 ^ m) = if (m + 1) % 8 = 0 then 256 else 2 ^ ((m + 1) % 8) := by decide
  have := key (many % 8) (Nat.mod_lt _ (by decide))
  unfold refBit refBase
  rw [this, show (many % 8 + 1) % 8 = (many + 1) % 8 by omega]
theorem refBase_le (many : Nat) : 1 ≤ refBase many ∧ refBase many ≤ 128 := by
  have key : ∀ m : Nat, m < 8 → 1 ≤ (if m = 0 then (1 : Int) else 2 ^ m) ∧ (if m = 0 then (1 : Int) else 2 ^ m) ≤ 128 := by decide
  exact key (many % 8) (Nat.mod_lt _ (by decide))
theorem refBit_le (many : Nat) : 1 ≤ refBit many ∧ refBit many ≤ 256 ∧ (¬ many % 8 = 0 → refBit many = refBase many ∧ refBit many ≠ 256) := by
  have := refBase_le many
  unfold refBit refBase at *
  split <;> rename_i h
  · exact ⟨by decide, by decide, fun h2 => absurd h h2⟩
  · rw [if_neg h] at this
    exact ⟨this.1, by omega, fun _ => ⟨rfl, by omega⟩⟩
theorem base_ok (out : List Int) (flag many : Nat) (hf : FlagOk out flag many) : stepFlag out flag many < (stepBase out many).length ∧ 0 ≤ (stepBase out many).getD (stepFlag out flag many) 0 ∧ (stepBase out many).getD (stepFlag out flag many) 0 + refBase many < 256 := by
  unfold stepFlag stepBase refBase
  by_cases h : many % 8 = 0
  · have h' : (many : Int) % 8 = 0 := by omega
    rw [if_pos h', if_pos h', if_pos h]
    simp
  · have h' : ¬ (many : Int) % 8 = 0 := by omega
    rw [if_neg h', if_neg h', if_neg h]
    obtain ⟨f1, f2, f3⟩ := hf h
    refine ⟨f1, f2, ?_⟩
    have key : ∀ m : Nat, m < 8 → 2 * (2 : Int) ^ m ≤ 256 := by decide
    have := key (many % 8) (Nat.mod_lt _ (by decide))
    omega
theorem pair_step (f n : Nat) (out : List Int) (flag many : Nat) (hf : FlagOk out flag many) :
    (stepBase out many).set (stepFlag out flag many) ((stepBase out many).getD (stepFlag out flag many) 0 + refBase many) ++ pairOf f n = stepOut true (pairOf f n) out flag many := by
  have hb := base_ok out flag many hf
  by_cases h : many % 8 = 0
  · have := (stepOut_new (.pair f n) out flag many h).1
    have h' : (many : Int) % 8 = 0 := by omega
    simp only [Tok.bit, Tok.body] at this
    rw [show ((1 : Int) == 1) = true from rfl] at this
    rw [this]
    unfold stepFlag stepBase refBase
    rw [if_pos h', if_pos h', if_pos h]
    simp
  · obtain ⟨f1, f2, f3⟩ := hf h
    have := (stepOut_old (.pair f n) out flag many h f2 f3 f1).1
    have h' : ¬ (many : Int) % 8 = 0 := by omega
    simp only [Tok.bit, Tok.body, Int.mul_one] at this
    rw [show ((1 : Int) == 1) = true from rfl] at this
    rw [this]
    unfold stepFlag stepBase refBase
    rw [if_neg h', if_neg h', if_neg h]
structure RPx where
  a : Nat
  out : List Int
  flag : Nat
  many : Nat
  g : Nat
theorem rput_ok (l : List Int) (hb : Bytes l) (hl : l.length ≤ 900000) : PCall Try.prog 20 [.ro 1 false (ints .u8 l)] (.ro 1 false (ints .u8 (put l))) := by
  refine pcall_mkg Try.func20 rfl [.tmp 2] Try.results20 69 rfl (tk_start ?_)
  (repeat refine ka ?_); refine kr ?_ ?_ (pops_end ?_)
  (repeat refine ka ?_); refine kr ?_ ?_ ?_
  refine ps_lit fun g0 => ?_
  refine pops_go ?_ ?_ (pops_end ?_)
  (repeat refine ka ?_); refine kr ?_ ?_ (pops_end ?_)
  (repeat refine ka ?_); refine kr ?_ ?_ (pops_end ?_)
  (repeat refine ka ?_); refine kr ?_ ?_ (pops_end ?_)
  (repeat refine ka ?_); refine kb ?_
  refine kw (fun s : RPx => [(0, .ro 1 false (ints .u8 l)), (3, .vw 0 s.g 0 s.out.length), (4, .v (.int .i64 s.flag)), (5, .v (.int .i64 (refBit s.many))), (6, .v (.int .i64 s.a))]) (fun s => [⟨s.g, true, 1, ints .u8 s.out⟩])
    (fun s => FlagOk s.out s.flag s.many ∧ s.a ≤ l.length ∧ s.out.length ≤ 3 * s.a ∧ ∃ q : Nat, l.length ≤ s.a + q ∧ putF l q s.a s.out s.flag s.many = put l) (fun s => l.length - s.a)
    ⟨0, [], 0, 0, g0⟩ ⟨fun h => absurd rfl h, by simp, by simp, l.length, by simp, rfl⟩ (holds 1 (by repeat (first | exact .nil | refine has1 ?_))) ?_
  rintro ⟨a, out, flag, many, g⟩ ⟨hv, ha, ho, q, hq, he⟩
  simp only at hv ha ho hq he ⊢
  by_cases h1 : (a : Int) < l.length
  rotate_left
  · rw [putF_end (by omega)] at he
    (repeat refine ka ?_); refine kr ?_ ?_ (pops_end ?_)
    (repeat refine ka ?_); refine kcf ?_
    (repeat refine ka ?_); refine kx ?_; (repeat (first | with_reducible refine beh_x ?_ | with_reducible refine blk_up rfl ?_)); refine blk_here ?_; refine beh_n ?_
    (repeat refine ka ?_); refine kr ?_ ?_ (pops_end ?_)
    (repeat refine ka ?_); refine kret ?_; repeat (first | with_reducible refine beh_r ?_ | with_reducible refine blk_r ?_)
    refine ends_ret ?_ retPV_one
    rw [← he]
    exact gives_ints rfl rfl rfl
  obtain ⟨q, rfl⟩ : ∃ q', q = q' + 1 := ⟨q - 1, by omega⟩
  rw [putF, if_neg (by omega)] at he
  have hf := find_nat l a (by omega)
  have hbl := refBit_le many
  have hbase := stepBase_length out many
  (repeat refine ka ?_); refine kr ?_ ?_ (pops_end ?_)
  (repeat refine ka ?_); refine kct ?_
  (repeat refine ka ?_); refine ksk ?_
  (repeat refine ka ?_); refine kb ?_
  (repeat refine ka ?_); refine kr ?_ ?_ (pops_end ?_)
  (repeat refine ka ?_)
  refine kcut (fun g : Nat => [(0, .ro 1 false (ints .u8 l)), (3, .vw 0 g 0 (stepBase out many).length), (4, .v (.int .i64 (stepFlag out flag many))), (5, .v (.int .i64 (refBase many))), (6, .v (.int .i64 a))]) (fun g => [⟨g, true, 1, ints .u8 (stepBase out many)⟩]) (fun _ => True) ?_ ?_ (by simp)
  · by_cases h : many % 8 = 0
    · have h' : (many : Int) % 8 = 0 := by omega
      have e1 : stepBase out many = out ++ [0] := by rw [stepBase, if_pos h']
      have e2 : stepFlag out flag many = out.length := by rw [stepFlag, if_pos h']
      have e3 : refBase many = 1 := by rw [refBase, if_pos h]
      have e4 : refBit many = 256 := by rw [refBit, if_pos h]
      (repeat refine ka ?_); refine kct ?_
      (repeat refine ka ?_); refine kr ?_ ?_ (pops_end ?_)
      (repeat refine ka ?_); refine kr ?_ ?_ ?_
      refine ps_lit fun w1 => ?_
      refine ps_app_vw fun w2 => ?_
      refine pops_go ?_ ?_ (pops_end ?_)
      (repeat refine ka ?_); refine kr ?_ ?_ (pops_end ?_)
      refine kn ?_; repeat (first | with_reducible refine blk_n ?_ | with_reducible refine beh_n ?_)
      refine ⟨w2, trivial, ?_⟩
      rw [e1, e2, e3]
      exact (holds 1 (by repeat (first | exact .nil | refine has1 ?_)))
    · have h' : ¬ (many : Int) % 8 = 0 := by omega
      have e1 : stepBase out many = out := by rw [stepBase, if_neg h']
      have e2 : stepFlag out flag many = flag := by rw [stepFlag, if_neg h']
      have e4 := (hbl.2.2 h).2
      (repeat refine ka ?_); refine kcf ?_
      (repeat refine ka ?_); refine ksk ?_
      refine kn ?_; repeat (first | with_reducible refine blk_n ?_ | with_reducible refine beh_n ?_)
      refine ⟨g, trivial, ?_⟩
      rw [e1, e2, ← (hbl.2.2 h).1]
      exact (holds 1 (by repeat (first | exact .nil | refine has1 ?_)))
  rintro g' -
  have hbo := base_ok out flag many hv
  have hrb := refBase_le many
  have hnx := refBit_next many
  (repeat refine ka ?_); refine kr ?_ ?_ ?_
  refine ps_pcall (rfind_ok l a (by omega)) ?_
  refine pops_go ?_ ?_ (pops_end ?_)
  have hs1 := enc_step (.lit (l.getD a 0)) [] out flag many hv
  have hs2 := fun f n => enc_step (.pair f n) [] out flag many hv
  have hl1 := stepOut_length false [l.getD a 0] out flag many
  have hl2 := fun f n => stepOut_length true (pairOf f n) out flag many
  have hpr := fun f n => pair_step f n out flag many hv
  have hli : stepBase out many ++ [l.getD a 0] = stepOut false [l.getD a 0] out flag many := rfl
  generalize stepBase out many = B at *
  generalize stepFlag out flag many = F at *
  rcases hf with hf | hf
  · have hf1 : (find l (a : Int)).1 = 0 := by rw [hf]
    rw [if_pos hf1] at he
    simp only [Tok.bit, Tok.body, List.length_singleton, Int.toNat_natCast] at hs1 hl1
    have ea : l.getD (Int.toNat (a : Int)) 0 = l.getD a 0 := rfl
    (repeat refine ka ?_); refine kr ?_ ?_ (pops_end ?_)
    (repeat refine ka ?_); refine kct ?_
    (repeat refine ka ?_); refine kr ?_ ?_ ?_
    refine ps_lit fun w1 => ?_
    refine ps_app_vw fun w2 => ?_
    refine pops_go ?_ ?_ (pops_end ?_)
    (repeat refine ka ?_); refine kr ?_ ?_ (pops_end ?_)
    (repeat refine ka ?_); refine kr ?_ ?_ (pops_end ?_)
    refine kn ?_; repeat (first | with_reducible refine blk_n ?_ | with_reducible refine beh_n ?_)
    refine ⟨⟨a + 1, stepOut false [l.getD a 0] out flag many, F, many + 1, w2⟩, ⟨hs1.1, by simp only; omega, by simp only; omega, q, by simp only; omega, he⟩, by simp only; omega, ?_⟩
    simp only
    rw [← hli, ← hnx, List.length_append, List.length_singleton]
    exact (holds 1 (by repeat (first | exact .nil | refine has1 ?_)))
  · have hf1 : ¬ (find l (a : Int)).1 = 0 := by omega
    rw [if_neg hf1] at he
    generalize (find l (a : Int)).1 = far at *
    generalize (find l (a : Int)).2 = n at *
    have hs2 := hs2 far n
    have hl2 := hl2 far n
    have hpr := hpr far n
    simp only [Tok.bit, Tok.body, show (pairOf far n).length = 2 from rfl] at hs2 hl2
    obtain ⟨C, hC⟩ : ∃ C, C = B ++ pairOf far n := ⟨_, rfl⟩
    have hCl : C.length = B.length + 2 := by rw [hC, List.length_append]; rfl
    have hrow : ints .u8 B ++ [[PV.v (.int .u8 (((far : Int) - 1) % 256))], [PV.v (.int .u8 (((far : Int) - 1) / 256 + 16 * ((n : Int) - 3)))]] = ints .u8 C := by
      rw [hC, pairOf, Int.mul_comm 16, ← ints_append]; rfl
    have hq0 : C.getD (0 + (F : Int).toNat) 0 = B.getD F 0 := by rw [hC, Int.toNat_natCast, Nat.zero_add, getD_app_left hbo.1]
    have hset : C.set F (B.getD F 0 + refBase many) = stepOut true (pairOf far n) out flag many := by
      rw [hC, set_app_left hbo.1, hpr]
    (repeat refine ka ?_); refine kr ?_ ?_ (pops_end ?_)
    (repeat refine ka ?_); refine kcf ?_
    (repeat refine ka ?_); refine kr ?_ ?_ ?_
    refine ps_lit fun w1 => ?_
    refine ps_app_vw (rows' := ints .u8 C) (hrows := ?h) fun w2 => ?_
    case h => exact hrow
    refine pops_go ?_ ?_ (pops_end ?_)
    (repeat refine ka ?_); refine kr ?_ ?_ ?_
    refine ps_seti (k0 := .u8) (l := C) (hi := by rw [Nat.zero_add]; omega) ?_
    refine pops_nil ?_
    rw [hq0]
    simp only [Nat.zero_add, Int.toNat_natCast, hset]
    (repeat refine ka ?_); refine kr ?_ ?_ (pops_end ?_)
    (repeat refine ka ?_); refine kr ?_ ?_ (pops_end ?_)
    refine kn ?_; repeat (first | with_reducible refine blk_n ?_ | with_reducible refine beh_n ?_)
    refine ⟨⟨a + n, stepOut true (pairOf far n) out flag many, F, many + 1, w2⟩, ⟨hs2.1, by simp only; omega, by simp only; omega, q, by simp only; omega, he⟩, by simp only; omega, ?_⟩
    simp only
    rw [hl2, ← hnx]
    exact (holds 1 (by repeat (first | exact .nil | refine has1 ?_)))
end Go.Proofs.Yteocmeidkdhmiaa.Pv
