-- lz.Put.
import Derived.Test.YteocmeidkdhmiaaLzE
import Derived.Test.YteocmeidkdhmiaaLzB
import Derived.Test.YteocmeidkdhmiaaLzD
namespace Go.Proofs.Yteocmeidkdhmiaa.Pv
set_option linter.all false
open Go.RowKit Go.Proofs
set_option maxRecDepth 100000
set_option maxHeartbeats 4000000
def pairOf (far n : Nat) : List Int := [((far : Int) - 1) % 256, ((far : Int) - 1) / 256 + ((n : Int) - 3) * 16]
def putF (l : List Int) : Nat → Nat → List Int → Nat → Nat → List Int
  | 0, _, out, _, _ => out
  | q + 1, a, out, flag, many =>
    if l.length ≤ a then out
    else if (find l (a : Int)).1 = 0 then putF l q (a + 1) (stepOut false [l.getD a 0] out flag many) (stepFlag out flag many) (many + 1)
    else putF l q (a + (find l (a : Int)).2) (stepOut true (pairOf (find l (a : Int)).1 (find l (a : Int)).2) out flag many) (stepFlag out flag many) (many + 1)
def put (l : List Int) : List Int := putF l l.length 0 [] 0 0
theorem putF_end {l : List Int} {q a : Nat} {out : List Int} {flag many : Nat} (h : l.length ≤ a) : putF l q a out flag many = out := by
  cases q with
  | zero => rfl
  | succ q => rw [putF, if_pos h]
theorem stepOut_length (is : Bool) (l out : List Int) (flag many : Nat) : (stepOut is l out flag many).length = (stepBase out many).length + l.length := by
  unfold stepOut stepBit
  split <;> simp
theorem stepBase_length (out : List Int) (many : Nat) : out.length ≤ (stepBase out many).length ∧ (stepBase out many).length ≤ out.length + 1 ∧ (out = [] → many = 0 → (stepBase out many).length = 1) := by
  unfold stepBase
  split
  · simp only [List.length_append, List.length_singleton]
    exact ⟨by omega, by omega, fun h _ => by rw [h]; rfl⟩
  · rename_i h
    exact ⟨Nat.le_refl _, by omega, fun _ h2 => by subst h2; exact absurd rfl h⟩
theorem stepFlag_lt (is : Bool) (l out : List Int) (flag many : Nat) (hl : 0 < l.length) (hf : flag < out.length ∨ many = 0) : stepFlag out flag many < (stepOut is l out flag many).length := by
  rw [stepOut_length]
  unfold stepFlag stepBase
  split
  · simp only [List.length_append, List.length_singleton]; omega
  · rename_i h
    rcases hf with hf | hf
    · omega
    · subst hf; exact absurd rfl h
/-- What a repetition found is. -/
theorem findTo_ok (l : List Int) (a k : Nat) : ((findTo l a k).1 = 0 ∧ (findTo l a k).2 = 2) ∨ (1 ≤ (findTo l a k).1 ∧ (findTo l a k).1 ≤ k ∧ (findTo l a k).2 = same l (a - (findTo l a k).1) a ∧ 3 ≤ (findTo l a k).2) := by
  induction k with
  | zero => exact .inl ⟨rfl, rfl⟩
  | succ k ih =>
    unfold findTo
    split
    · rename_i h
      refine .inr ⟨by simp only; omega, Nat.le_refl _, rfl, ?_⟩
      rcases ih with ih | ih <;> (simp only; omega)
    · rcases ih with ih | ih
      · exact .inl ih
      · exact .inr ⟨ih.1, by omega, ih.2.2⟩
theorem same_end (l : List Int) (f a : Nat) (h : a ≤ l.length) : a + same l f a ≤ l.length := by
  have : ∀ n k, a + k ≤ l.length → a + sameN l f a n k ≤ l.length := by
    intro n
    induction n with
    | zero => intro k hk; exact hk
    | succ n ih =>
      intro k hk
      unfold sameN
      split
      · exact ih (k + 1) (by omega)
      · exact hk
  exact this 18 0 (by omega)
theorem find_nat (l : List Int) (a : Nat) (ha : a < l.length) : (find l (a : Int) = (0, 0)) ∨ (1 ≤ (find l (a : Int)).1 ∧ (find l (a : Int)).1 ≤ 4096 ∧ (find l (a : Int)).1 ≤ a ∧ 3 ≤ (find l (a : Int)).2 ∧ (find l (a : Int)).2 ≤ 18 ∧ a + (find l (a : Int)).2 ≤ l.length ∧ (find l (a : Int)).2 = same l (a - (find l (a : Int)).1) a) := by
  unfold find
  rw [if_neg (by omega), Int.toNat_natCast]
  have h1 := findTo_ok l a (min a 4096)
  have h2 := findTo_le l a (min a 4096)
  split
  · exact .inl rfl
  · rcases h1 with h1 | h1
    · omega
    · have := same_end l (a - (findTo l a (min a 4096)).1) a (by omega)
      exact .inr ⟨h1.1, by omega, by omega, h1.2.2.2, h2.2, by omega, h1.2.2.1⟩

structure PSx where
  a : Nat
  out : List Int
  flag : Nat
  many : Nat
  SS : List Blk
def PutV (g0 g1 g2 : Nat) (s : PSx) : Prop :=
  (s.a = 0 ∧ s.out = [] ∧ s.flag = 0 ∧ s.many = 0 ∧ s.SS = [⟨g0, true, 1, [[.v (.slice none 0 0)]]⟩, ⟨g1, true, 1, [[.v (.int .i64 (0 : Nat))]]⟩, ⟨g2, true, 1, [[.v (.int .i64 (0 : Nat))]]⟩]) ∨
  (∃ g L3 L4, s.SS = [⟨g0, true, 1, [[.vw 5 g 0 s.out.length]]⟩, ⟨g1, true, 1, [[.v (.int .i64 s.flag)]]⟩, ⟨g2, true, 1, [[.v (.int .i64 s.many)]]⟩, L3, L4, ⟨g, true, 1, ints .u8 s.out⟩] ∧ s.flag < s.out.length)

theorem put_ok (l : List Int) (hb : Bytes l) (hl : l.length ≤ 900000) : PCall Try.prog 37 [.ro 1 false (ints .u8 l)] (.ro 1 false (ints .u8 (put l))) := by
  refine pcall_mkg Try.func37 rfl [.tmp 2] Try.results37 50 rfl (tk_start ?_)
  (repeat refine ka ?_); refine kr ?_ ?_ (pops_end ?_)
  (repeat refine ka ?_); refine kr ?_ ?_ ?_
  refine ps_alloc fun g0 => ?_
  refine pops_nil ?_
  (repeat refine ka ?_); refine kr ?_ ?_ ?_
  refine ps_alloc fun g1 => ?_
  refine ps_alloc fun g2 => ?_
  refine ps_store ?_
  refine ps_store ?_
  refine pops_nil ?_
  (repeat refine ka ?_); refine kr ?_ ?_ (pops_end ?_)
  (repeat refine ka ?_); refine kr ?_ ?_ (pops_end ?_)
  (repeat refine ka ?_); refine kb ?_
  refine kw (fun s : PSx => [(0, .ro 1 false (ints .u8 l)), (3, .ptr 0 g0 0 0), (6, .fn (.func 55) [] [.ptr 2 g2 0 0, .ptr 0 g0 0 0, .ptr 1 g1 0 0]), (7, .v (.int .i64 s.a))]) (fun s => s.SS)
    (fun s => PutV g0 g1 g2 s ∧ s.a ≤ l.length ∧ s.out.length ≤ 3 * s.a ∧ s.many ≤ s.a ∧ ∃ q : Nat, l.length ≤ s.a + q ∧ putF l q s.a s.out s.flag s.many = put l) (fun s => l.length - s.a)
    ⟨0, [], 0, 0, _⟩ ⟨.inl ⟨rfl, rfl, rfl, rfl, rfl⟩, by simp, by simp, by simp, l.length, by simp, rfl⟩ (holds 3 (by repeat (first | exact .nil | refine has1 ?_))) ?_
  rintro ⟨a, out, flag, many, SS⟩ ⟨hv, ha, ho, hm, q, hq, he⟩
  simp only at hv ha ho hm hq he ⊢
  by_cases h1 : (a : Int) < l.length
  rotate_left
  · rw [putF_end (by omega)] at he
    (repeat refine ka ?_); refine kr ?_ ?_ (pops_end ?_)
    (repeat refine ka ?_); refine kcf ?_
    (repeat refine ka ?_); refine kx ?_; (repeat (first | with_reducible refine beh_x ?_ | with_reducible refine blk_up rfl ?_)); refine blk_here ?_; refine beh_n ?_
    rcases hv with ⟨h2, h3, h4, h5, h6⟩ | ⟨g, L3, L4, h2, h3⟩
    · simp only at h2 h3 h4 h5 h6
      subst h6
      (repeat refine ka ?_); refine kr ?_ ?_ (pops_end ?_)
      (repeat refine ka ?_); refine kret ?_; repeat (first | with_reducible refine beh_r ?_ | with_reducible refine blk_r ?_)
      refine ends_ret ?_ retPV_one
      rw [← he, h3]
      exact .nil
    · simp only at h2 h3
      subst h2
      (repeat refine ka ?_); refine kr ?_ ?_ (pops_end ?_)
      (repeat refine ka ?_); refine kret ?_; repeat (first | with_reducible refine beh_r ?_ | with_reducible refine blk_r ?_)
      refine ends_ret ?_ retPV_one
      rw [← he]
      exact gives_ints rfl rfl rfl
  obtain ⟨q, rfl⟩ : ∃ q', q = q' + 1 := ⟨q - 1, by omega⟩
  rw [putF, if_neg (by omega)] at he
  have hf := find_nat l a (by omega)
  (repeat refine ka ?_); refine kr ?_ ?_ (pops_end ?_)
  (repeat refine ka ?_); refine kct ?_
  (repeat refine ka ?_); refine ksk ?_
  (repeat refine ka ?_); refine kb ?_
  (repeat refine ka ?_); refine kr ?_ ?_ ?_
  refine ps_pcall (find_ok l a (by omega)) ?_
  refine pops_go ?_ ?_ (pops_end ?_)
  have hlen := fun is x => stepOut_length is x out flag many
  have hbase := stepBase_length out many
  rcases hf with hf | hf
  · have hf1 : (find l (a : Int)).1 = 0 := by rw [hf]
    rw [if_pos hf1] at he
    have hlen := hlen false [l.getD a 0]
    have hflag := fun hh => stepFlag_lt false [l.getD a 0] out flag many (by simp) hh
    simp only [List.length_singleton] at hlen
    (repeat refine ka ?_); refine kr ?_ ?_ (pops_end ?_)
    (repeat refine ka ?_); refine kct ?_
    (repeat refine ka ?_); refine kr ?_ ?_ ?_
    refine ps_lit fun g3 => ?_
    rcases hv with ⟨h2, h3, h4, h5, h6⟩ | ⟨g, L3, L4, h2, h3⟩
    · simp only at h2 h3 h4 h5 h6
      subst h2 h3 h4 h5 h6
      refine ps_vcall (first := []) (us := [.v (.bool false), .vw 3 g3 0 1]) (captured := [.ptr 2 g2 0 0, .ptr 0 g0 0 0, .ptr 1 g1 0 0]) (stepA_ok false [l.getD 0 0] g0 g1 g2 g3 0 (by simp)) ?_
      rintro x S' ⟨L3, L4, g, hS⟩
      refine pops_go ?_ ?_ (pops_end ?_)
      (repeat refine ka ?_); refine kr ?_ ?_ (pops_end ?_)
      (repeat refine ka ?_); refine kx ?_; (repeat (first | with_reducible refine beh_x ?_ | with_reducible refine blk_up rfl ?_)); refine blk_here ?_; refine beh_n ?_
      refine kn ?_; repeat (first | with_reducible refine blk_n ?_ | with_reducible refine beh_n ?_)
      exact ⟨⟨0 + 1, stepOut false [l.getD 0 0] [] 0 0, stepFlag [] 0 0, 0 + 1, _⟩, ⟨.inr ⟨g, L3, L4, rfl, hflag (.inr rfl)⟩, by simp only; omega, by simp only; omega, by simp only; omega, q, by simp only; omega, he⟩, by simp only; omega, rfl, (by repeat (first | exact .nil | refine has1 ?_)), 6, hS⟩
    · simp only at h2 h3
      subst h2
      refine ps_vcall (first := []) (us := [.v (.bool false), .vw 6 g3 0 1]) (captured := [.ptr 2 g2 0 0, .ptr 0 g0 0 0, .ptr 1 g1 0 0]) (stepB_ok false [l.getD a 0] out g0 g1 g2 g g3 flag many L3 L4 (by simp) (by omega) h3 (by omega)) ?_
      rintro x S' ⟨g', hS⟩
      refine pops_go ?_ ?_ (pops_end ?_)
      (repeat refine ka ?_); refine kr ?_ ?_ (pops_end ?_)
      (repeat refine ka ?_); refine kx ?_; (repeat (first | with_reducible refine beh_x ?_ | with_reducible refine blk_up rfl ?_)); refine blk_here ?_; refine beh_n ?_
      refine kn ?_; repeat (first | with_reducible refine blk_n ?_ | with_reducible refine beh_n ?_)
      exact ⟨⟨a + 1, stepOut false [l.getD a 0] out flag many, stepFlag out flag many, many + 1, _⟩, ⟨.inr ⟨g', L3, L4, rfl, hflag (.inl h3)⟩, by simp only; omega, by simp only; omega, by simp only; omega, q, by simp only; omega, he⟩, by simp only; omega, rfl, (by repeat (first | exact .nil | refine has1 ?_)), 6, hS⟩
  · have hf1 : ¬ (find l (a : Int)).1 = 0 := by omega
    rw [if_neg hf1] at he
    generalize find l (a : Int) = F at *
    obtain ⟨far, n⟩ := F
    simp only at hf hf1 he
    have hlen := hlen true (pairOf far n)
    have hflag := fun hh => stepFlag_lt true (pairOf far n) out flag many (by simp [pairOf]) hh
    rw [show (pairOf far n).length = 2 from rfl] at hlen
    have hO := or_add_16 (((far : Int) - 1) / 256) ((n : Int) - 3) (by omega) (by omega) (by omega) (by omega)
    have hp : pairOf far n = [((far : Int) - 1) % 256, ((far : Int) - 1) / 256 + ((n : Int) - 3) * 16] := rfl
    (repeat refine ka ?_); refine kr ?_ ?_ (pops_end ?_)
    (repeat refine ka ?_); refine kcf ?_
    (repeat refine ka ?_); refine ksk ?_
    (repeat refine ka ?_); refine kr ?_ ?_ ?_
    refine ps_lit fun g3 => ?_
    rcases hv with ⟨h2, h3, h4, h5, h6⟩ | ⟨g, L3, L4, h2, h3⟩
    · simp only at h2
      omega
    · simp only at h2 h3
      subst h2
      have hst := stepB_ok true (pairOf far n) out g0 g1 g2 g g3 flag many L3 L4 (by simp [pairOf]) (by omega) h3 (by omega)
      rw [show (pairOf far n).length = 2 from rfl] at hst
      conv at hst => enter [4]; rw [hp]
      refine ps_vcall (first := []) (us := [.v (.bool true), .vw 6 g3 0 2]) (captured := [.ptr 2 g2 0 0, .ptr 0 g0 0 0, .ptr 1 g1 0 0]) hst ?_
      rintro x S' ⟨g', hS⟩
      refine pops_go ?_ ?_ (pops_end ?_)
      (repeat refine ka ?_); refine kr ?_ ?_ (pops_end ?_)
      refine kn ?_; repeat (first | with_reducible refine blk_n ?_ | with_reducible refine beh_n ?_)
      exact ⟨⟨a + n, stepOut true (pairOf far n) out flag many, stepFlag out flag many, many + 1, _⟩, ⟨.inr ⟨g', L3, L4, rfl, hflag (.inl h3)⟩, by simp only; omega, by simp only; omega, by simp only; omega, q, by simp only; omega, he⟩, by simp only; omega, rfl, (by repeat (first | exact .nil | refine has1 ?_)), 6, hS⟩
end Go.Proofs.Yteocmeidkdhmiaa.Pv
