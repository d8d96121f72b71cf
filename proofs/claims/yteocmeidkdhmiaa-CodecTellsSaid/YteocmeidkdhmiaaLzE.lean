-- lz.Put's inner function.
import Derived.Test.YteocmeidkdhmiaaPvT
namespace Go.Proofs.Yteocmeidkdhmiaa.Pv
set_option linter.all false
open Go.RowKit Go.Proofs
set_option maxRecDepth 100000
set_option maxHeartbeats 4000000
/-- A bit of a flags' byte, set. -/
def orBit (x : Int) (many : Nat) : Int := Go.bits .or .u8 x (1 * 2 ^ min ((many : Int) % 8).toNat 8 % 256)
def stepFlag (out : List Int) (flag many : Nat) : Nat := if (many : Int) % 8 = 0 then out.length else flag
def stepBase (out : List Int) (many : Nat) : List Int := if (many : Int) % 8 = 0 then out ++ [0] else out
def stepBit (is : Bool) (o : List Int) (f many : Nat) : List Int := if is = true then o.set f (orBit (o.getD f 0) many) else o
def stepOut (is : Bool) (l out : List Int) (flag many : Nat) : List Int := stepBit is (stepBase out many) (stepFlag out flag many) many ++ l

theorem stepA_ok (is : Bool) (l : List Int) (g0 g1 g2 g3 flag : Nat) (hl : l.length ≤ 2) : GCall Try.prog 55 [.v (.bool is), .vw 3 g3 0 l.length, .ptr 2 g2 0 0, .ptr 0 g0 0 0, .ptr 1 g1 0 0]
    [⟨g0, true, 1, [[.v (.slice none 0 0)]]⟩, ⟨g1, true, 1, [[.v (.int .i64 flag)]]⟩, ⟨g2, true, 1, [[.v (.int .i64 (0 : Nat))]]⟩, ⟨g3, true, 1, ints .u8 l⟩]
    (fun _ S' => ∃ L3 L4 g, S'.take 6 = [⟨g0, true, 1, [[.vw 5 g 0 (stepOut is l [] flag 0).length]]⟩, ⟨g1, true, 1, [[.v (.int .i64 (stepFlag [] flag 0 : Nat))]]⟩, ⟨g2, true, 1, [[.v (.int .i64 (0 + 1 : Nat))]]⟩, L3, L4, ⟨g, true, 1, ints .u8 (stepOut is l [] flag 0)⟩]) := by
  refine gcall_of_tr Try.func55 rfl [] Try.results55 30 rfl (tk_start ?_)
  (repeat refine ka ?_); refine kr ?_ ?_ (pops_end ?_)
  (repeat refine ka ?_); refine kct ?_
  (repeat refine ka ?_); refine kr ?_ ?_ ?_
  refine ps_store ?_
  refine pops_nil ?_
  (repeat refine ka ?_); refine kr ?_ ?_ ?_
  refine ps_lit fun w1 => ?_
  refine ps_app_nil fun w2 => ?_
  refine pops_go ?_ ?_ ?_
  refine ps_store ?_
  refine pops_nil ?_
  (repeat refine ka ?_); refine kr ?_ ?_ (pops_end ?_)
  cases is with
  | true =>
    (repeat refine ka ?_); refine kct ?_
    (repeat refine ka ?_); refine kdw ?_ ?_
    refine ps_seti (k0 := .u8) (l := [0]) (hi := by decide) ?_
    refine pops_nil ?_
    (repeat refine ka ?_); refine kr ?_ ?_ ?_
    refine ps_app_vw (hsrc := srcRows_ints rfl rfl) fun w3 => ?_
    refine pops_go ?_ ?_ ?_
    refine ps_store ?_
    refine pops_nil ?_
    (repeat refine ka ?_); refine kr ?_ ?_ ?_
    refine ps_store ?_
    refine pops_nil ?_
    refine kn ?_; repeat (first | with_reducible refine blk_n ?_ | with_reducible refine beh_n ?_)
    refine ends_normal ?_ rfl
    have e : (stepOut true l [] flag 0).length = 1 + l.length := by simp [stepOut, stepBit, stepBase] <;> omega
    refine ⟨⟨g3, true, 1, ints .u8 l⟩, ⟨w1, true, 1, [[.v (.int .u8 0)]]⟩, w3, ?_⟩
    rw [e]
    exact rfl
  | false =>
    (repeat refine ka ?_); refine kcf ?_
    (repeat refine ka ?_); refine ksk ?_
    (repeat refine ka ?_); refine kr ?_ ?_ ?_
    refine ps_app_vw (rows0 := ints .u8 [0]) (hsrc := srcRows_ints rfl rfl) fun w3 => ?_
    refine pops_go ?_ ?_ ?_
    refine ps_store ?_
    refine pops_nil ?_
    (repeat refine ka ?_); refine kr ?_ ?_ ?_
    refine ps_store ?_
    refine pops_nil ?_
    refine kn ?_; repeat (first | with_reducible refine blk_n ?_ | with_reducible refine beh_n ?_)
    refine ends_normal ?_ rfl
    have e : (stepOut false l [] flag 0).length = 1 + l.length := by simp [stepOut, stepBit, stepBase] <;> omega
    refine ⟨⟨g3, true, 1, ints .u8 l⟩, ⟨w1, true, 1, [[.v (.int .u8 0)]]⟩, w3, ?_⟩
    rw [e]
    exact rfl
theorem stepB_ok (is : Bool) (l out : List Int) (g0 g1 g2 g g3 flag many : Nat) (L3 L4 : Blk) (hl : l.length ≤ 2) (ho : out.length ≤ 3000000) (hf : flag < out.length) (hm : many ≤ 3000000) : GCall Try.prog 55 [.v (.bool is), .vw 6 g3 0 l.length, .ptr 2 g2 0 0, .ptr 0 g0 0 0, .ptr 1 g1 0 0]
    [⟨g0, true, 1, [[.vw 5 g 0 out.length]]⟩, ⟨g1, true, 1, [[.v (.int .i64 flag)]]⟩, ⟨g2, true, 1, [[.v (.int .i64 many)]]⟩, L3, L4, ⟨g, true, 1, ints .u8 out⟩, ⟨g3, true, 1, ints .u8 l⟩]
    (fun _ S' => ∃ g', S'.take 6 = [⟨g0, true, 1, [[.vw 5 g' 0 (stepOut is l out flag many).length]]⟩, ⟨g1, true, 1, [[.v (.int .i64 (stepFlag out flag many : Nat))]]⟩, ⟨g2, true, 1, [[.v (.int .i64 (many + 1 : Nat))]]⟩, L3, L4, ⟨g', true, 1, ints .u8 (stepOut is l out flag many)⟩]) := by
  refine gcall_of_tr Try.func55 rfl [] Try.results55 30 rfl (tk_start ?_)
  by_cases h : (many : Int) % 8 = 0
  · (repeat refine ka ?_); refine kr ?_ ?_ (pops_end ?_)
    (repeat refine ka ?_); refine kct ?_
    (repeat refine ka ?_); refine kr ?_ ?_ ?_
    refine ps_store ?_
    refine pops_nil ?_
    (repeat refine ka ?_); refine kr ?_ ?_ ?_
    refine ps_lit fun w1 => ?_
    refine ps_app_vw (rows' := ints .u8 (out ++ [0])) fun w2 => ?_
    refine pops_go ?_ ?_ ?_
    refine ps_store ?_
    refine pops_nil ?_
    (repeat refine ka ?_); refine kr ?_ ?_ (pops_end ?_)
    have e0 : (out ++ [(0 : Int)]).length = out.length + 1 := by simp
    cases is with
    | true =>
      (repeat refine ka ?_); refine kct ?_
      (repeat refine ka ?_); refine kdw ?_ ?_
      refine ps_seti (k0 := .u8) (l := out ++ [0]) ?_
      refine pops_nil ?_
      (repeat refine ka ?_); refine kr ?_ ?_ ?_
      refine ps_app_vw (hsrc := srcRows_ints rfl rfl) fun w3 => ?_
      refine pops_go ?_ ?_ ?_
      refine ps_store ?_
      refine pops_nil ?_
      (repeat refine ka ?_); refine kr ?_ ?_ ?_
      refine ps_store ?_
      refine pops_nil ?_
      refine kn ?_; repeat (first | with_reducible refine blk_n ?_ | with_reducible refine beh_n ?_)
      refine ends_normal ?_ rfl
      refine ⟨w3, ?_⟩
      have e : (stepOut true l out flag many).length = out.length + 1 + l.length := by simp [stepOut, stepBit, stepBase, h]
      have e2 : (0 + (out.length : Int).toNat) = out.length := by omega
      rw [e]
      simp only [stepOut, stepBit, stepBase, stepFlag, if_pos h, if_true, orBit]
      rw [e2]
      exact rfl
    | false =>
      (repeat refine ka ?_); refine kcf ?_
      (repeat refine ka ?_); refine ksk ?_
      (repeat refine ka ?_); refine kr ?_ ?_ ?_
      refine ps_app_vw (hsrc := srcRows_ints rfl rfl) fun w3 => ?_
      refine pops_go ?_ ?_ ?_
      refine ps_store ?_
      refine pops_nil ?_
      (repeat refine ka ?_); refine kr ?_ ?_ ?_
      refine ps_store ?_
      refine pops_nil ?_
      refine kn ?_; repeat (first | with_reducible refine blk_n ?_ | with_reducible refine beh_n ?_)
      refine ends_normal ?_ rfl
      refine ⟨w3, ?_⟩
      have e : (stepOut false l out flag many).length = out.length + 1 + l.length := by simp [stepOut, stepBit, stepBase, h] <;> omega
      rw [e]
      simp only [stepOut, stepBit, stepBase, stepFlag, if_pos h]
      exact rfl
  · (repeat refine ka ?_); refine kr ?_ ?_ (pops_end ?_)
    (repeat refine ka ?_); refine kcf ?_
    (repeat refine ka ?_); refine ksk ?_
    (repeat refine ka ?_); refine kr ?_ ?_ (pops_end ?_)
    cases is with
    | true =>
      (repeat refine ka ?_); refine kct ?_
      (repeat refine ka ?_); refine kdw ?_ ?_
      refine ps_seti (k0 := .u8) (l := out) ?_
      refine pops_nil ?_
      (repeat refine ka ?_); refine kr ?_ ?_ ?_
      refine ps_app_vw (hsrc := srcRows_ints rfl rfl) fun w3 => ?_
      refine pops_go ?_ ?_ ?_
      refine ps_store ?_
      refine pops_nil ?_
      (repeat refine ka ?_); refine kr ?_ ?_ ?_
      refine ps_store ?_
      refine pops_nil ?_
      refine kn ?_; repeat (first | with_reducible refine blk_n ?_ | with_reducible refine beh_n ?_)
      refine ends_normal ?_ rfl
      refine ⟨w3, ?_⟩
      have e : (stepOut true l out flag many).length = out.length + l.length := by simp [stepOut, stepBit, stepBase, h]
      have e2 : (0 + (flag : Int).toNat) = flag := by omega
      rw [e]
      simp only [stepOut, stepBit, stepBase, stepFlag, if_neg h, if_true, orBit]
      rw [e2]
      exact rfl
    | false =>
      (repeat refine ka ?_); refine kcf ?_
      (repeat refine ka ?_); refine ksk ?_
      (repeat refine ka ?_); refine kr ?_ ?_ ?_
      refine ps_app_vw (hsrc := srcRows_ints rfl rfl) fun w3 => ?_
      refine pops_go ?_ ?_ ?_
      refine ps_store ?_
      refine pops_nil ?_
      (repeat refine ka ?_); refine kr ?_ ?_ ?_
      refine ps_store ?_
      refine pops_nil ?_
      refine kn ?_; repeat (first | with_reducible refine blk_n ?_ | with_reducible refine beh_n ?_)
      refine ends_normal ?_ rfl
      refine ⟨w3, ?_⟩
      have e : (stepOut false l out flag many).length = out.length + l.length := by simp [stepOut, stepBit, stepBase, h]
      rw [e]
      simp only [stepOut, stepBit, stepBase, stepFlag, if_neg h]
      exact rfl
end Go.Proofs.Yteocmeidkdhmiaa.Pv
