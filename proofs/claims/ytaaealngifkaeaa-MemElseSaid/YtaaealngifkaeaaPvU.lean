-- Twentieth text: loops by what they change; what is pure, found by itself.
import Derived.Test.YtaaealngifkaeaaPvS
namespace Go.Proofs.Ytaaealngifkaeaa.Pv
set_option linter.all false
open Go.RowKit
set_option linter.unusedVariables false

class PureC (x : PV) : Prop where
  h : x.Pure
class PureL (xs : List PV) : Prop where
  h : ∀ x ∈ xs, x.Pure
instance (x : Value) : PureC (.v x) := ⟨.v x⟩
instance (k : IntKind) (l : List Int) (sz : Nat) (f : Bool) : PureC (.ro sz f (ints k l)) := ⟨ints_pure k l sz f⟩
instance : PureL [] := ⟨fun x h => by cases h⟩
instance (x : PV) (xs : List PV) [a : PureC x] [b : PureL xs] : PureL (x :: xs) := ⟨fun y h => by
  rcases List.mem_cons.1 h with rfl | h
  · exact a.h
  · exact b.h y h⟩
instance (cs : List PV) [a : PureL cs] : PureC (.agg cs) := ⟨.agg a.h⟩
instance (cs : List PV) [a : PureL cs] : PureC (.tup cs) := ⟨.tup a.h⟩

theorem pcall_mk {P : Program} {f : FuncId} {fn : Func} {code : Code} {args : List PV} {r : PV} [hp : PureL args] [hr' : PureC r] (hf : P.funcs[f]? = some fn) (hb : fn.body = some code) (rs : List ResultVar) (hr : fn.results = rs.toArray) (n : Nat) (hn : args.length + (fn.ntmps - args.length) = n)
    (h : Tr P code ⟨n, argTm 0 args, []⟩ (Ends P rs fun x _ => x = r)) : PCall P f args r := pcall_of_tr hf hb rs hr n hn hp.h hr'.h h

/-- What a walk must know of slots. -/
inductive Has (tm : List (Nat × PV)) : List (Nat × PV) → Prop
  | nil : Has tm []
  | cons {t : Nat} {x : PV} {l : List (Nat × PV)} (h : look t tm = x) (k : Has tm l) : Has tm ((t, x) :: l)
theorem Has.all {tm l : List (Nat × PV)} (h : Has tm l) : ∀ p ∈ l, look p.1 tm = p.2 := by
  induction h with
  | nil => intro p hp; cases hp
  | cons h k ih =>
    intro p hp
    rcases List.mem_cons.1 hp with rfl | hp
    · exact h
    · exact ih p hp
theorem int_eq {k : IntKind} {a b : Int} (h : a = b) : PV.v (.int k a) = PV.v (.int k b) := by rw [h]
theorem vw_eq {τ g o a b : Nat} (h : a = b) : PV.vw τ g o a = PV.vw τ g o b := by rw [h]
theorem has1 {tm l : List (Nat × PV)} {t : Nat} {x : PV} (k : Has tm l) (h : look t tm = x := by ((conv => lhs; whnf) <;> first | exact int_eq (by omega) | exact vw_eq (by omega) | exact vw_eq (by (simp only [List.length_append, List.length_singleton, List.length_cons, List.length_nil]) <;> omega) | rfl | fail "no")) : Has tm ((t, x) :: l) := .cons h k

def Holds (σ : PS) (n : Nat) (T : List (Nat × PV)) (S : List Blk) : Prop := σ.n = n ∧ Has σ.tm T ∧ ∃ k, σ.S.take k = S
theorem holds {n : Nat} {tm T : List (Nat × PV)} {S S' : List Blk} (k : Nat) (h : Has tm T) (hS : S.take k = S' := by rfl) : Holds ⟨n, tm, S⟩ n T S' := ⟨rfl, h, k, hS⟩

/-- A loop: what it changes is told by a. -/
theorem tr_while {P : Program} {body : Code} {n : Nat} {tm : List (Nat × PV)} {S0 : List Blk} {Q : Exit → PS → Prop} {α : Type} (T : α → List (Nat × PV)) (S : α → List Blk) (V : α → Prop) (μ : α → Nat) (a0 : α) (h0 : V a0) (hh : Holds ⟨n, tm, S0⟩ n (T a0) (S a0))
    (round : ∀ a, V a → Tr P body ⟨n, T a, S a⟩ (behind (fun σ' => ∃ a', V a' ∧ μ a' < μ a ∧ Holds σ' n (T a') (S a')) Q)) : Tr P (.loop body) ⟨n, tm, S0⟩ Q := by
  refine tr_loop (fun m σ => ∃ a, V a ∧ μ a = m ∧ Holds σ n (T a) (S a)) (μ a0) ⟨a0, h0, rfl, hh⟩ ?_
  rintro m ⟨n', tm', S'⟩ ⟨a, hv, rfl, h1, h2, k, h3⟩
  simp only at h1 h2 h3
  subst h1
  refine forget (T a) k h2.all h3 ((round a hv).mono ?_)
  intro e σ' h
  cases e with
  | normal => obtain ⟨a', g1, g2, g3⟩ := h; exact ⟨μ a', g2, a', g1, rfl, g3⟩
  | exit id => exact h
  | goto l => exact h
  | ret => exact h
  | panic ch => exact h
  | outgrown => exact h

/-- Where ways meet again: what is known behind. -/
theorem tr_cut {P : Program} {x y : Code} {n : Nat} {tm : List (Nat × PV)} {S : List Blk} {Q : Exit → PS → Prop} (T : List (Nat × PV)) (S' : List Blk) (hx : Tr P x ⟨n, tm, S⟩ (behind (fun σ' => Holds σ' n T S') Q)) (hy : Tr P y ⟨n, T, S'⟩ Q) : Tr P (.seq x y) ⟨n, tm, S⟩ Q := by
  refine tr_seq fun K hK => hx.mono ?_
  intro e σ' h
  cases e with
  | normal =>
    obtain ⟨n', tm', S2⟩ := σ'
    obtain ⟨h1, h2, k, h3⟩ := h
    simp only at h1 h2 h3
    subst h1
    exact hK _ (forget T k h2.all h3 hy)
  | exit id => exact h
  | goto l => exact h
  | ret => exact h
  | panic ch => exact h
  | outgrown => exact h
end Go.Proofs.Ytaaealngifkaeaa.Pv
