-- Second text: what an operation that only reads answers, as a function of what the slots hold; that Go answers so.
import Derived.Test.YtaaealngifkaeaaPvA
import Derived.Laws.Small
import Derived.Laws.Strings
import Derived.ChangeKeysEq
namespace Go.Proofs.Ytaaealngifkaeaa.Pv
set_option linter.all false
open Go.RowKit
set_option linter.unusedVariables false

/-- What a walk knows: how many slots there are, what stands in some of them, the blocks of one's own. -/
structure PS where
  n : Nat
  tm : List (Nat × PV)
  S : List Blk

def look (t : Nat) : List (Nat × PV) → PV
  | [] => .undef
  | (s, x) :: r => if t = s then x else look t r

def ofValue : Value → PV
  | .agg vs => if vs.all (·.oneCell') then .agg (vs.toList.map .v) else .undef
  | x => .v x

def PS.get (σ : PS) : Operand → PV
  | .tmp t => look t σ.tm
  | .const v => ofValue v
  | .func f => .fn (.func f) [] []
  | .global _ => .undef

def PS.put (σ : PS) (d : Option Tmp) (x : PV) (S : List Blk) : PS :=
  match d with
  | some d => { σ with tm := (d, x) :: σ.tm, S := S }
  | none => { σ with S := S }

/-- A walk's knowledge holds of slots and world. -/
structure Rel (c : Cx) (σ : PS) (a : Act) : Prop where
  S : c.S = σ.S
  inv : Inv c
  n : a.tmps.size = σ.n
  defers : a.defers = []
  tm : ∀ t, RelV c (look t σ.tm) (a.tmps.getD t Go.undef)

theorem ofValue_rel (c : Cx) (v : Value) : RelV c (ofValue v) v := by
  cases v <;> simp only [ofValue] <;> (try exact .v _)
  rename_i vs
  split
  · rename_i h
    refine .agg _ _ (by simp) (fun i v hv => ?_) (fun i x v hx hv => ?_)
    · exact (Array.all_eq_true'.1 h) v (Array.mem_of_getElem? hv)
    · simp only [List.getElem?_map, Array.getElem?_toList, hv, Option.map_some, Option.some.injEq] at hx
      subst hx
      exact .v _
  · exact .undef _

theorem Rel.get {c : Cx} {σ : PS} {a : Act} (r : Rel c σ a) (x : Operand) : RelV c (σ.get x) (a.eval x) := by
  cases x with
  | tmp t => exact r.tm t
  | const v => exact ofValue_rel c v
  | global g => exact .undef _
  | func f => exact .fn _ _ _ _ _ rfl rfl (fun i x v h _ => by simp at h) (fun i x v h _ => by simp at h)

theorem Rel.put {c c' : Cx} {σ : PS} {a : Act} {d : Option Tmp} {x : PV} {v : Value} (r : Rel c σ a) (hs : Step c c') (hi : Inv c') (hv : RelV c' x v) (hd : ∀ t, d = some t → t < σ.n) :
    Rel c' (σ.put d x c'.S) (a.put d v) := by
  cases d with
  | none => exact ⟨rfl, hi, r.n, r.defers, fun t => (r.tm t).step hs⟩
  | some t =>
    refine ⟨rfl, hi, by simp [Act.put, PS.put, r.n], by simp [Act.put, r.defers], fun s => ?_⟩
    simp only [PS.put, look, Act.put]
    have ht := hd t rfl
    split
    · rename_i h
      subst h
      rw [Array.getD_eq_getD_getElem?, Array.getElem?_setIfInBounds_self_of_lt (by rw [r.n]; exact ht)]
      exact hv
    · rename_i h
      have : (a.tmps.setIfInBounds t v).getD s Go.undef = a.tmps.getD s Go.undef := by
        simp only [Array.getD_eq_getD_getElem?]
        rw [Array.getElem?_setIfInBounds_ne (fun e => h e.symm)]
      rw [this]
      exact (r.tm s).step hs

def intBin (op : BinOp) (k : IntKind) (a b : Int) : Option Value :=
  match op with
  | .add => some (.int k (k.wrap (a + b)))
  | .sub => some (.int k (k.wrap (a - b)))
  | .mul => some (.int k (k.wrap (a * b)))
  | .quo => if b = 0 then none else some (.int k (k.wrap (a.tdiv b)))
  | .rem => if b = 0 then none else some (.int k (a.tmod b))
  | .and => some (.int k (Go.bits .and k a b))
  | .or => some (.int k (Go.bits .or k a b))
  | .xor => some (.int k (Go.bits .xor k a b))
  | .andNot => some (.int k (Go.bits .andNot k a b))
  | .eql => some (.bool (decide (a = b)))
  | .neq => some (.bool (!decide (a = b)))
  | .lss => some (.bool (decide (a < b)))
  | .leq => some (.bool (decide (a ≤ b)))
  | .gtr => some (.bool (decide (a > b)))
  | .geq => some (.bool (decide (a ≥ b)))
  | _ => none

def strBin (op : BinOp) (x y : ByteArray) : Option Value :=
  match op with
  | .add => if ((x.size + y.size : Nat) : Int) > 9223372036854775807 then none else some (.string (x ++ y))
  | .eql => some (.bool (x.toList == y.toList))
  | .neq => some (.bool (!(x.toList == y.toList)))
  | .lss => some (.bool (Op.bytesLess x.toList y.toList))
  | .leq => some (.bool (Op.bytesLess x.toList y.toList || x.toList == y.toList))
  | .gtr => some (.bool (!(Op.bytesLess x.toList y.toList || x.toList == y.toList)))
  | .geq => some (.bool (!Op.bytesLess x.toList y.toList))
  | _ => none

def shiftBin (op : BinOp) (k : IntKind) (a b : Int) : Option Value :=
  if b < 0 then none else
  match op with
  | .shl => some (.int k (k.wrap (a * 2 ^ min b.toNat k.bits)))
  | .shr => some (.int k (a.fdiv (2 ^ min b.toNat k.bits)))
  | _ => none

def boolBin (op : BinOp) (a b : Bool) : Option Value :=
  match op with
  | .eql => some (.bool (a == b))
  | .neq => some (.bool (!(a == b)))
  | _ => none

/-- Is the view's block still there? -/
def alive (S : List Blk) (τ g : Nat) : Bool :=
  match S[τ]? with
  | some blk => blk.gen == g
  | none => false

def nilBin (op : BinOp) (isNil : Bool) : Option Value :=
  match op with
  | .eql => some (.bool isNil)
  | .neq => some (.bool (!isNil))
  | _ => none

def scalarBin (P : Program) (op : BinOp) (t : TypeId) (x y : Value) : Option Value :=
  match x, y with
  | .int k a, .int k' b => match op with
    | .shl | .shr => shiftBin op k a b
    | _ => if k = k' then intBin op k a b else none
  | .string a, .string b => strBin op a b
  | .bool a, .bool b => match P.underlying t with
    | some .bool => boolBin op a b
    | _ => none
  | .pointer none, .pointer none => match P.underlying t with
    | some (.pointer _) => nilBin op true
    | _ => none
  | .slice none _ _, .slice none _ _ => match P.underlying t with
    | some (.slice _) => nilBin op true
    | _ => none
  | .nilFunc, .nilFunc => match P.underlying t with
    | some (.func _ _ _) => nilBin op true
    | _ => none
  | _, _ => none

theorem shiftBin_run {P : Program} {op : BinOp} {k yk : IntKind} {a b : Int} {v : Value} (h : shiftBin op k a b = some v) (t : TypeId) (w : World) (ho : op = .shl ∨ op = .shr) :
    (binOp op t (.int k a) (.int yk b)).run P w = .ok v w := by
  unfold shiftBin at h
  split at h
  · cases h
  · rename_i hb
    rcases ho with rfl | rfl <;> (simp only [Option.some.injEq] at h; subst h; simp [binOp, Op.shift, hb])

theorem intBin_run {P : Program} {op : BinOp} {k : IntKind} {a b : Int} {v : Value} (h : intBin op k a b = some v) (t : TypeId) (w : World) :
    (binOp op t (.int k a) (.int k b)).run P w = .ok v w := by
  cases op <;> simp only [intBin] at h <;> (try cases h) <;> (try (simp [binOp, Op.intArith, Op.intCmp, Op.intBits, Go.bits]; done)) <;> (try (simp [binOp, Op.intCmp, bne, BEq.beq]; done))
  all_goals
    split at h
    · cases h
    · rename_i hb
      simp only [Option.some.injEq] at h
      subst h
      simp [binOp, Op.intDiv, hb]

theorem strBin_run {P : Program} {op : BinOp} {a b : ByteArray} {v : Value} (h : strBin op a b = some v) (t : TypeId) (w : World) :
    (binOp op t (.string a) (.string b)).run P w = .ok v w := by
  cases op <;> simp only [strBin] at h <;> (try cases h) <;> (try (simp [binOp, Op.stringOp]; done))
  split at h
  · cases h
  · rename_i hb
    simp only [Option.some.injEq] at h
    subst h
    have : ¬ (IntKind.i64.max < ((a.size + b.size : Nat) : Int)) := by simpa [IntKind.max, IntKind.signed, IntKind.bits] using hb
    simp only [binOp, Op.stringOp]
    rw [if_neg this]
    rfl
end Go.Proofs.Ytaaealngifkaeaa.Pv
