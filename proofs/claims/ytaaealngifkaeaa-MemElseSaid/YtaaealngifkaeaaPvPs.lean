-- Texts, told by lists of numbers; structs compared.
import Derived.Test.YtaaealngifkaeaaPvP
namespace Go.Proofs.Ytaaealngifkaeaa.Pv
set_option linter.all false
open Go.RowKit
set_option linter.unusedVariables false

def Oct (l : List Int) : Prop := ∀ x ∈ l, 0 ≤ x ∧ x < 256
instance (l : List Int) : Decidable (Oct l) := by unfold Oct; infer_instance
def str (l : List Int) : ByteArray := ⟨(l.map fun n => UInt8.ofNat n.toNat).toArray⟩
def ofB (b : ByteArray) : List Int := b.data.toList.map fun c => (c.toNat : Int)
theorem oct_ofB (b : ByteArray) : Oct (ofB b) := by
  intro x hx
  simp only [ofB, List.mem_map] at hx
  obtain ⟨c, _, rfl⟩ := hx
  have := c.toNat_lt
  omega
theorem str_ofB (b : ByteArray) : str (ofB b) = b := by
  unfold str ofB
  rw [List.map_map]
  have : ((fun n : Int => UInt8.ofNat n.toNat) ∘ fun c : UInt8 => (c.toNat : Int)) = id := by
    funext c
    simp
  rw [this, List.map_id]
theorem str_ofB' {b : ByteArray} {l : List Int} (h : ofB b = l) : str l = b := by rw [← h, str_ofB]
theorem strlit {v : PV} {b : ByteArray} {l : List Int} (h : v = .v (.string b)) (hl : str l = b) : v = .v (.string (str l)) := by rw [h, hl]
theorem Oct.getD {l : List Int} (h : Oct l) (i : Nat) : 0 ≤ l.getD i 0 ∧ l.getD i 0 < 256 := by
  rcases Nat.lt_or_ge i l.length with hi | hi
  · have : l.getD i 0 = l[i] := by simp [hi]
    rw [this]; exact h _ (List.getElem_mem hi)
  · have : l.getD i 0 = 0 := by simp [hi]
    rw [this]; decide
theorem oct_take {l : List Int} (h : Oct l) (n : Nat) : Oct (l.take n) := fun x hx => h x (List.mem_of_mem_take hx)
theorem oct_drop {l : List Int} (h : Oct l) (n : Nat) : Oct (l.drop n) := fun x hx => h x (List.mem_of_mem_drop hx)
theorem oct_append {a b : List Int} (h : Oct a) (k : Oct b) : Oct (a ++ b) := fun x hx => by
  rcases List.mem_append.1 hx with hx | hx
  · exact h x hx
  · exact k x hx
theorem str_size (l : List Int) : (str l).size = l.length := by simp [str, ByteArray.size]
theorem str_toList (l : List Int) : (str l).toList = l.map fun n => UInt8.ofNat n.toNat := by rw [ByteArray.toList_eq]; simp [str]
theorem str_eq {a b : List Int} (ha : Oct a) (hb : Oct b) : ((str a).toList == (str b).toList) = decide (a = b) := by
  rw [str_toList, str_toList]
  by_cases h : a = b
  · rw [h]; simp
  · rw [decide_eq_false h]
    have : ¬ (a.map fun n => UInt8.ofNat n.toNat) = (b.map fun n => UInt8.ofNat n.toNat) := by
      intro e
      apply h
      apply List.ext_getElem
      · simpa using congrArg List.length e
      · intro i h1 h2
        have e2 := congrArg (fun l => l[i]?) e
        simp only [List.getElem?_map, List.getElem?_eq_getElem h1, List.getElem?_eq_getElem h2, Option.map_some, Option.some.injEq] at e2
        have e3 := congrArg UInt8.toNat e2
        simp only [UInt8.toNat_ofNat'] at e3
        have k1 := ha _ (List.getElem_mem h1)
        have k2 := hb _ (List.getElem_mem h2)
        omega
    simp [this]
theorem str_append (a b : List Int) : str a ++ str b = str (a ++ b) := by
  apply ByteArray.ext
  simp [str]
theorem str_extract (l : List Int) (i j : Nat) : (str l).extract i j = str ((l.drop i).take (j - i)) := by
  apply ByteArray.ext
  simp [str, List.map_take, List.map_drop, List.extract_eq_take_drop]
theorem str_get (l : List Int) (i : Nat) (h : i < l.length) (hb : Oct l) : ((str l).data.toList[i]?).map (fun b => PV.v (.int .u8 b.toNat)) = some (.v (.int .u8 (l.getD i 0))) := by
  have k := hb _ (List.getElem_mem h)
  simp only [str, List.getElem?_map, List.getElem?_eq_getElem h, Option.map_some, Option.some.injEq, PV.v.injEq, Value.int.injEq, true_and, UInt8.toNat_ofNat', List.getD, Option.getD_some]
  omega
/-- Where the parts of a struct or an array lie. -/
def layOf (P : Program) (t : TypeId) : Option (List (Nat × Nat)) :=
  match P.underlying t with
  | some (.struct fs) => if fs.all (fun f => known P f.type) then some (fs.toList.map fun f => (f.offset, P.cellsOf f.type)) else none
  | some (.array n e) => if known P e then some ((List.range n).map fun i => (i * P.cellsOf e, P.cellsOf e)) else none
  | _ => none
class Lay (P : Program) (t : TypeId) (l : outParam (List (Nat × Nat))) : Prop where
  h : layOf P t = some l
theorem fillPV_le {p q : Nat → Option (Nat × Nat)} (h : ∀ i x, p i = some x → q i = some x) : ∀ (ps : List (Nat × PV)) (z out : List PV), fillPV p z ps = some out → fillPV q z ps = some out
  | [], z, out, k => k
  | (i, x) :: ps, z, out, k => by
    unfold fillPV at k ⊢
    split at k
    · rename_i off size cs h1 h2
      rw [h i _ h1, h2]
      simp only
      split at k
      · rename_i hc
        rw [if_pos hc]
        exact fillPV_le h ps _ _ k
      · cases k
    · cases k
theorem build_lay {P : Program} {t : TypeId} {l : List (Nat × Nat)} {z cs : List PV} {ps : List (Nat × PV)} (hl : layOf P t = some l) (hz : zeroRow P t = some z) (h : fillPV (fun i => l[i]?) z ps = some cs) : buildPV P t ps = some (.agg cs) := by
  unfold layOf at hl
  unfold buildPV
  rw [hz]
  split at hl
  · rename_i fs hu
    rw [hu]
    split at hl
    · rename_i ha
      cases hl
      simp only
      rw [if_pos ha, fillPV_le (fun i x hx => ?_) ps z cs h]
      · rfl
      · rw [List.getElem?_map, Array.getElem?_toList] at hx
        exact hx
    · cases hl
  · rename_i n e hu
    rw [hu]
    split at hl
    · rename_i ha
      cases hl
      simp only
      rw [if_pos ha, fillPV_le (fun i x hx => ?_) ps z cs h]
      · rfl
      · rw [List.getElem?_map] at hx
        obtain ⟨j, hj, rfl⟩ := Option.map_eq_some_iff.1 hx
        have := List.getElem?_eq_some_iff.1 hj
        obtain ⟨h1, h2⟩ := this
        simp at h2
        rw [h2]
    · cases hl
  · cases hl
theorem bne_self (a : Bool) : (!(a == a)) = false := by simp
class EqS (P : Program) (t : TypeId) (l : outParam (List (Nat × SK))) : Prop where
  h : flatOf P t = some l

section
variable {P : Program} {op : Op} {d : Tmp} {rest : List Pr} {n : Nat} {tm : List (Nat × PV)} {S : List Blk} {σ' : PS} {n' : Nat} {x y z : Operand}
theorem es_slen {t : TypeId} [hu : Und P t .string] {l : List Int} {m : Nat} (k : EvR P rest ⟨n, (d, .v (.int .i64 m)) :: tm, S⟩ σ' n') (hx : PS.get ⟨n, tm, S⟩ x = .v (.string (str l)) := by first | ((conv => lhs; whnf) <;> fail "no") | exact strlit (by ((conv => lhs; whnf) <;> fail "no")) (str_ofB' (by simp only [ofB, List.map_cons, List.map_nil, UInt8.reduceToNat, Int.cast_ofNat_Int]; exact rfl))) (hm : l.length = m := by first | (simp only [List.length_cons, List.length_nil, Nat.reduceAdd, Nat.zero_add, List.length_append]; exact rfl) | exact rfl) : EvR P (⟨.call ⟨.builtin .len, #[x], #[t]⟩, some d, none⟩ :: rest) ⟨n, tm, S⟩ σ' n' := by
  refine er_step ?_ k
  simp only [ev, callPV, hx, lenPV, hu.h, str_size, hm]
theorem es_six {t : TypeId} [hu : Und P t .string] {l : List Int} {k0 : IntKind} {i c : Int} (k : EvR P rest ⟨n, (d, .v (.int .u8 c)) :: tm, S⟩ σ' n') (hx : PS.get ⟨n, tm, S⟩ x = .v (.string (str l)) := by first | ((conv => lhs; whnf) <;> fail "no") | exact strlit (by ((conv => lhs; whnf) <;> fail "no")) (str_ofB' (by simp only [ofB, List.map_cons, List.map_nil, UInt8.reduceToNat, Int.cast_ofNat_Int]; exact rfl))) (hy : PS.get ⟨n, tm, S⟩ y = .v (.int k0 i) := by ((conv => lhs; whnf) <;> fail "no")) (h0 : 0 ≤ i := by omega) (h1 : i < (l.length : Int) := by first | omega | (simp only [List.length_cons, List.length_nil]; omega)) (hb : Oct l := by first | assumption | decide | exact oct_take (by assumption) _ | exact oct_drop (by assumption) _) (hc : l.getD i.toNat 0 = c := by exact rfl) : EvR P (⟨.index t x y, some d, none⟩ :: rest) ⟨n, tm, S⟩ σ' n' := by
  refine er_step ?_ k
  have hn : ¬ i < 0 := by omega
  have := str_get l i.toNat (by omega) hb
  rw [hc] at this
  simp only [ev, indexPV, hx, hy, intPV, if_neg hn, hu.h, this]
theorem es_seq_t {t t' : TypeId} {a b : List Int} (k : EvR P rest ⟨n, (d, .v (.bool true)) :: tm, S⟩ σ' n') (hx : PS.get ⟨n, tm, S⟩ x = .v (.string (str a)) := by first | ((conv => lhs; whnf) <;> fail "no") | exact strlit (by ((conv => lhs; whnf) <;> fail "no")) (str_ofB' (by simp only [ofB, List.map_cons, List.map_nil, UInt8.reduceToNat, Int.cast_ofNat_Int]; exact rfl))) (hy : PS.get ⟨n, tm, S⟩ y = .v (.string (str b)) := by first | ((conv => lhs; whnf) <;> fail "no") | exact strlit (by ((conv => lhs; whnf) <;> fail "no")) (str_ofB' (by simp only [ofB, List.map_cons, List.map_nil, UInt8.reduceToNat, Int.cast_ofNat_Int]; exact rfl))) (ha : Oct a := by first | assumption | decide | exact oct_take (by assumption) _ | exact oct_drop (by assumption) _) (hb : Oct b := by first | assumption | decide | exact oct_take (by assumption) _ | exact oct_drop (by assumption) _) (h : a = b := by first | assumption | rfl) : EvR P (⟨.binOp .eql t x y t', some d, none⟩ :: rest) ⟨n, tm, S⟩ σ' n' := by
  refine er_step ?_ k
  simp only [ev, binPV, hx, hy, scalarBin, strBin, str_eq ha hb, decide_eq_true h, Option.map_some, Bool.not_true]
theorem es_seq_f {t t' : TypeId} {a b : List Int} (k : EvR P rest ⟨n, (d, .v (.bool false)) :: tm, S⟩ σ' n') (hx : PS.get ⟨n, tm, S⟩ x = .v (.string (str a)) := by first | ((conv => lhs; whnf) <;> fail "no") | exact strlit (by ((conv => lhs; whnf) <;> fail "no")) (str_ofB' (by simp only [ofB, List.map_cons, List.map_nil, UInt8.reduceToNat, Int.cast_ofNat_Int]; exact rfl))) (hy : PS.get ⟨n, tm, S⟩ y = .v (.string (str b)) := by first | ((conv => lhs; whnf) <;> fail "no") | exact strlit (by ((conv => lhs; whnf) <;> fail "no")) (str_ofB' (by simp only [ofB, List.map_cons, List.map_nil, UInt8.reduceToNat, Int.cast_ofNat_Int]; exact rfl))) (ha : Oct a := by first | assumption | decide | exact oct_take (by assumption) _ | exact oct_drop (by assumption) _) (hb : Oct b := by first | assumption | decide | exact oct_take (by assumption) _ | exact oct_drop (by assumption) _) (h : ¬ a = b := by first | assumption | decide) : EvR P (⟨.binOp .eql t x y t', some d, none⟩ :: rest) ⟨n, tm, S⟩ σ' n' := by
  refine er_step ?_ k
  simp only [ev, binPV, hx, hy, scalarBin, strBin, str_eq ha hb, decide_eq_false h, Option.map_some, Bool.not_false]
theorem es_seq {t t' : TypeId} {a b : List Int} (k : EvR P rest ⟨n, (d, .v (.bool (decide (a = b)))) :: tm, S⟩ σ' n') (hx : PS.get ⟨n, tm, S⟩ x = .v (.string (str a)) := by first | ((conv => lhs; whnf) <;> fail "no") | exact strlit (by ((conv => lhs; whnf) <;> fail "no")) (str_ofB' (by simp only [ofB, List.map_cons, List.map_nil, UInt8.reduceToNat, Int.cast_ofNat_Int]; exact rfl))) (hy : PS.get ⟨n, tm, S⟩ y = .v (.string (str b)) := by first | ((conv => lhs; whnf) <;> fail "no") | exact strlit (by ((conv => lhs; whnf) <;> fail "no")) (str_ofB' (by simp only [ofB, List.map_cons, List.map_nil, UInt8.reduceToNat, Int.cast_ofNat_Int]; exact rfl))) (ha : Oct a := by first | assumption | decide | exact oct_take (by assumption) _ | exact oct_drop (by assumption) _) (hb : Oct b := by first | assumption | decide | exact oct_take (by assumption) _ | exact oct_drop (by assumption) _) : EvR P (⟨.binOp .eql t x y t', some d, none⟩ :: rest) ⟨n, tm, S⟩ σ' n' := by
  refine er_step ?_ k
  simp only [ev, binPV, hx, hy, scalarBin, strBin, str_eq ha hb, Option.map_some]
theorem es_sne_t {t t' : TypeId} {a b : List Int} (k : EvR P rest ⟨n, (d, .v (.bool false)) :: tm, S⟩ σ' n') (hx : PS.get ⟨n, tm, S⟩ x = .v (.string (str a)) := by first | ((conv => lhs; whnf) <;> fail "no") | exact strlit (by ((conv => lhs; whnf) <;> fail "no")) (str_ofB' (by simp only [ofB, List.map_cons, List.map_nil, UInt8.reduceToNat, Int.cast_ofNat_Int]; exact rfl))) (hy : PS.get ⟨n, tm, S⟩ y = .v (.string (str b)) := by first | ((conv => lhs; whnf) <;> fail "no") | exact strlit (by ((conv => lhs; whnf) <;> fail "no")) (str_ofB' (by simp only [ofB, List.map_cons, List.map_nil, UInt8.reduceToNat, Int.cast_ofNat_Int]; exact rfl))) (ha : Oct a := by first | assumption | decide | exact oct_take (by assumption) _ | exact oct_drop (by assumption) _) (hb : Oct b := by first | assumption | decide | exact oct_take (by assumption) _ | exact oct_drop (by assumption) _) (h : a = b := by first | assumption | rfl) : EvR P (⟨.binOp .neq t x y t', some d, none⟩ :: rest) ⟨n, tm, S⟩ σ' n' := by
  refine er_step ?_ k
  simp only [ev, binPV, hx, hy, scalarBin, strBin, str_eq ha hb, decide_eq_true h, Option.map_some, Bool.not_true]
theorem es_sne_f {t t' : TypeId} {a b : List Int} (k : EvR P rest ⟨n, (d, .v (.bool true)) :: tm, S⟩ σ' n') (hx : PS.get ⟨n, tm, S⟩ x = .v (.string (str a)) := by first | ((conv => lhs; whnf) <;> fail "no") | exact strlit (by ((conv => lhs; whnf) <;> fail "no")) (str_ofB' (by simp only [ofB, List.map_cons, List.map_nil, UInt8.reduceToNat, Int.cast_ofNat_Int]; exact rfl))) (hy : PS.get ⟨n, tm, S⟩ y = .v (.string (str b)) := by first | ((conv => lhs; whnf) <;> fail "no") | exact strlit (by ((conv => lhs; whnf) <;> fail "no")) (str_ofB' (by simp only [ofB, List.map_cons, List.map_nil, UInt8.reduceToNat, Int.cast_ofNat_Int]; exact rfl))) (ha : Oct a := by first | assumption | decide | exact oct_take (by assumption) _ | exact oct_drop (by assumption) _) (hb : Oct b := by first | assumption | decide | exact oct_take (by assumption) _ | exact oct_drop (by assumption) _) (h : ¬ a = b := by first | assumption | decide) : EvR P (⟨.binOp .neq t x y t', some d, none⟩ :: rest) ⟨n, tm, S⟩ σ' n' := by
  refine er_step ?_ k
  simp only [ev, binPV, hx, hy, scalarBin, strBin, str_eq ha hb, decide_eq_false h, Option.map_some, Bool.not_false]
theorem es_sne {t t' : TypeId} {a b : List Int} (k : EvR P rest ⟨n, (d, .v (.bool (!decide (a = b)))) :: tm, S⟩ σ' n') (hx : PS.get ⟨n, tm, S⟩ x = .v (.string (str a)) := by first | ((conv => lhs; whnf) <;> fail "no") | exact strlit (by ((conv => lhs; whnf) <;> fail "no")) (str_ofB' (by simp only [ofB, List.map_cons, List.map_nil, UInt8.reduceToNat, Int.cast_ofNat_Int]; exact rfl))) (hy : PS.get ⟨n, tm, S⟩ y = .v (.string (str b)) := by first | ((conv => lhs; whnf) <;> fail "no") | exact strlit (by ((conv => lhs; whnf) <;> fail "no")) (str_ofB' (by simp only [ofB, List.map_cons, List.map_nil, UInt8.reduceToNat, Int.cast_ofNat_Int]; exact rfl))) (ha : Oct a := by first | assumption | decide | exact oct_take (by assumption) _ | exact oct_drop (by assumption) _) (hb : Oct b := by first | assumption | decide | exact oct_take (by assumption) _ | exact oct_drop (by assumption) _) : EvR P (⟨.binOp .neq t x y t', some d, none⟩ :: rest) ⟨n, tm, S⟩ σ' n' := by
  refine er_step ?_ k
  simp only [ev, binPV, hx, hy, scalarBin, strBin, str_eq ha hb, Option.map_some]
theorem es_sadd {t t' : TypeId} {a b c : List Int} (k : EvR P rest ⟨n, (d, .v (.string (str c))) :: tm, S⟩ σ' n') (hx : PS.get ⟨n, tm, S⟩ x = .v (.string (str a)) := by first | ((conv => lhs; whnf) <;> fail "no") | exact strlit (by ((conv => lhs; whnf) <;> fail "no")) (str_ofB' (by simp only [ofB, List.map_cons, List.map_nil, UInt8.reduceToNat, Int.cast_ofNat_Int]; exact rfl))) (hy : PS.get ⟨n, tm, S⟩ y = .v (.string (str b)) := by first | ((conv => lhs; whnf) <;> fail "no") | exact strlit (by ((conv => lhs; whnf) <;> fail "no")) (str_ofB' (by simp only [ofB, List.map_cons, List.map_nil, UInt8.reduceToNat, Int.cast_ofNat_Int]; exact rfl))) (hl : ((a.length + b.length : Nat) : Int) ≤ 9223372036854775807 := by first | omega | (simp only [List.length_cons, List.length_nil, List.length_append]; omega)) (hc : a ++ b = c := by first | (simp only [List.nil_append, List.cons_append, List.append_nil]; exact rfl) | exact rfl) : EvR P (⟨.binOp .add t x y t', some d, none⟩ :: rest) ⟨n, tm, S⟩ σ' n' := by
  refine er_step ?_ k
  have hl' : ¬ (((str a).size + (str b).size : Nat) : Int) > 9223372036854775807 := by rw [str_size, str_size]; omega
  simp only [ev, binPV, hx, hy, scalarBin, strBin, if_neg hl', str_append, hc, Option.map_some]
theorem es_ssl_h {t : TypeId} [hu : Und P t .string] {l l' : List Int} {k0 : IntKind} {i : Int} (k : EvR P rest ⟨n, (d, .v (.string (str l'))) :: tm, S⟩ σ' n') (hx : PS.get ⟨n, tm, S⟩ x = .v (.string (str l)) := by first | ((conv => lhs; whnf) <;> fail "no") | exact strlit (by ((conv => lhs; whnf) <;> fail "no")) (str_ofB' (by simp only [ofB, List.map_cons, List.map_nil, UInt8.reduceToNat, Int.cast_ofNat_Int]; exact rfl))) (hy : PS.get ⟨n, tm, S⟩ y = .v (.int k0 i) := by ((conv => lhs; whnf) <;> fail "no")) (h0 : 0 ≤ i := by omega) (h1 : i ≤ (l.length : Int) := by first | omega | (simp only [List.length_cons, List.length_nil]; omega)) (hl : l.take i.toNat = l' := by first | (simp only [Int.reduceToNat, List.take_succ_cons, List.take_zero]; exact rfl) | exact rfl) : EvR P (⟨.slice t x none (some y) none, some d, none⟩ :: rest) ⟨n, tm, S⟩ σ' n' := by
  refine er_step ?_ k
  have hn : ¬ i < 0 := by omega
  have h2 : i.toNat ≤ l.length := by omega
  simp [ev, slicePV, hu.h, hx, hy, boundPV, intPV, hn, str_size, h2, str_extract, hl]
theorem es_ssl_l {t : TypeId} [hu : Und P t .string] {l l' : List Int} {k0 : IntKind} {i : Int} (k : EvR P rest ⟨n, (d, .v (.string (str l'))) :: tm, S⟩ σ' n') (hx : PS.get ⟨n, tm, S⟩ x = .v (.string (str l)) := by first | ((conv => lhs; whnf) <;> fail "no") | exact strlit (by ((conv => lhs; whnf) <;> fail "no")) (str_ofB' (by simp only [ofB, List.map_cons, List.map_nil, UInt8.reduceToNat, Int.cast_ofNat_Int]; exact rfl))) (hy : PS.get ⟨n, tm, S⟩ y = .v (.int k0 i) := by ((conv => lhs; whnf) <;> fail "no")) (h0 : 0 ≤ i := by omega) (h1 : i ≤ (l.length : Int) := by first | omega | (simp only [List.length_cons, List.length_nil]; omega)) (hl : l.drop i.toNat = l' := by first | (simp only [Int.reduceToNat, List.drop_succ_cons, List.drop_zero]; exact rfl) | exact rfl) : EvR P (⟨.slice t x (some y) none none, some d, none⟩ :: rest) ⟨n, tm, S⟩ σ' n' := by
  refine er_step ?_ k
  subst hl
  have hn : ¬ i < 0 := by omega
  have h2 : i.toNat ≤ l.length := by omega
  have h3 : (l.drop i.toNat).take (l.length - i.toNat) = l.drop i.toNat := List.take_of_length_le (by simp)
  simp [ev, slicePV, hu.h, hx, hy, boundPV, intPV, hn, str_size, h2, str_extract, h3]
theorem es_ssl_b {t : TypeId} [hu : Und P t .string] {l l' : List Int} {k0 k1 : IntKind} {i j : Int} (k : EvR P rest ⟨n, (d, .v (.string (str l'))) :: tm, S⟩ σ' n') (hx : PS.get ⟨n, tm, S⟩ x = .v (.string (str l)) := by first | ((conv => lhs; whnf) <;> fail "no") | exact strlit (by ((conv => lhs; whnf) <;> fail "no")) (str_ofB' (by simp only [ofB, List.map_cons, List.map_nil, UInt8.reduceToNat, Int.cast_ofNat_Int]; exact rfl))) (hy : PS.get ⟨n, tm, S⟩ y = .v (.int k0 i) := by ((conv => lhs; whnf) <;> fail "no")) (hz : PS.get ⟨n, tm, S⟩ z = .v (.int k1 j) := by ((conv => lhs; whnf) <;> fail "no")) (h0 : 0 ≤ i := by omega) (h1 : i ≤ j := by omega) (h2 : j ≤ (l.length : Int) := by first | omega | (simp only [List.length_cons, List.length_nil]; omega)) (hl : (l.drop i.toNat).take (j.toNat - i.toNat) = l' := by first | (simp only [Int.reduceToNat, Nat.reduceSub, List.drop_succ_cons, List.drop_zero, List.take_succ_cons, List.take_zero]; exact rfl) | exact rfl) : EvR P (⟨.slice t x (some y) (some z) none, some d, none⟩ :: rest) ⟨n, tm, S⟩ σ' n' := by
  refine er_step ?_ k
  have hn : ¬ i < 0 := by omega
  have hm : ¬ j < 0 := by omega
  have h3 : j.toNat ≤ l.length := by omega
  have h4 : i.toNat ≤ j.toNat := by omega
  simp [ev, slicePV, hu.h, hx, hy, hz, boundPV, intPV, hn, hm, str_size, h3, h4, str_extract, hl]
theorem es_aeq_t {t t' : TypeId} {fs : List (Nat × SK)} [hq : EqS P t fs] {xs ys : List PV} (k : EvR P rest ⟨n, (d, .v (.bool true)) :: tm, S⟩ σ' n') (hx : PS.get ⟨n, tm, S⟩ x = .agg xs := by ((conv => lhs; whnf) <;> fail "no")) (hy : PS.get ⟨n, tm, S⟩ y = .agg ys := by ((conv => lhs; whnf) <;> fail "no")) (hr : eqCells xs ys fs = some true := by ((simp only [eqCells, skEq, List.getElem?_cons_zero, List.getElem?_cons_succ, if_true, decide_true, Bool.and_self, beq_self_eq_true]) <;> fail "no")) : EvR P (⟨.binOp .eql t x y t', some d, none⟩ :: rest) ⟨n, tm, S⟩ σ' n' := by
  refine er_step ?_ k
  simp only [ev, binPV, hx, hy, aggBin, hq.h, hr, Bool.not_true]
theorem es_ane_f {t t' : TypeId} {fs : List (Nat × SK)} [hq : EqS P t fs] {xs ys : List PV} (k : EvR P rest ⟨n, (d, .v (.bool false)) :: tm, S⟩ σ' n') (hx : PS.get ⟨n, tm, S⟩ x = .agg xs := by ((conv => lhs; whnf) <;> fail "no")) (hy : PS.get ⟨n, tm, S⟩ y = .agg ys := by ((conv => lhs; whnf) <;> fail "no")) (hr : eqCells xs ys fs = some true := by ((simp only [eqCells, skEq, List.getElem?_cons_zero, List.getElem?_cons_succ, if_true, decide_true, Bool.and_self, beq_self_eq_true]) <;> fail "no")) : EvR P (⟨.binOp .neq t x y t', some d, none⟩ :: rest) ⟨n, tm, S⟩ σ' n' := by
  refine er_step ?_ k
  simp only [ev, binPV, hx, hy, aggBin, hq.h, hr, Bool.not_true]
theorem es_aeq {t t' : TypeId} {fs : List (Nat × SK)} [hq : EqS P t fs] {xs ys : List PV} {r : Bool} (k : EvR P rest ⟨n, (d, .v (.bool (r))) :: tm, S⟩ σ' n') (hx : PS.get ⟨n, tm, S⟩ x = .agg xs := by ((conv => lhs; whnf) <;> fail "no")) (hy : PS.get ⟨n, tm, S⟩ y = .agg ys := by ((conv => lhs; whnf) <;> fail "no")) (hr : eqCells xs ys fs = some r := by (simp only [eqCells, skEq, List.getElem?_cons_zero, List.getElem?_cons_succ, if_true, Bool.and_true]; exact rfl)) : EvR P (⟨.binOp .eql t x y t', some d, none⟩ :: rest) ⟨n, tm, S⟩ σ' n' := by
  refine er_step ?_ k
  simp only [ev, binPV, hx, hy, aggBin, hq.h, hr]
theorem es_ane {t t' : TypeId} {fs : List (Nat × SK)} [hq : EqS P t fs] {xs ys : List PV} {r : Bool} (k : EvR P rest ⟨n, (d, .v (.bool (!r))) :: tm, S⟩ σ' n') (hx : PS.get ⟨n, tm, S⟩ x = .agg xs := by ((conv => lhs; whnf) <;> fail "no")) (hy : PS.get ⟨n, tm, S⟩ y = .agg ys := by ((conv => lhs; whnf) <;> fail "no")) (hr : eqCells xs ys fs = some r := by (simp only [eqCells, skEq, List.getElem?_cons_zero, List.getElem?_cons_succ, if_true, Bool.and_true]; exact rfl)) : EvR P (⟨.binOp .neq t x y t', some d, none⟩ :: rest) ⟨n, tm, S⟩ σ' n' := by
  refine er_step ?_ k
  simp only [ev, binPV, hx, hy, aggBin, hq.h, hr]
theorem es_beq {t t' : TypeId} [hu : Und P t .bool] {a b : Bool} {c : Bool} (k : EvR P rest ⟨n, (d, .v (.bool c)) :: tm, S⟩ σ' n') (hx : PS.get ⟨n, tm, S⟩ x = .v (.bool a) := by ((conv => lhs; whnf) <;> fail "no")) (hy : PS.get ⟨n, tm, S⟩ y = .v (.bool b) := by ((conv => lhs; whnf) <;> fail "no")) (hc : (a == b) = c := by first | exact beq_self_eq_true _ | (simp only [beq_self_eq_true, Bool.beq_true, Bool.true_beq, Bool.beq_false, Bool.false_beq]; exact rfl) | exact rfl) : EvR P (⟨.binOp .eql t x y t', some d, none⟩ :: rest) ⟨n, tm, S⟩ σ' n' := by
  refine er_step ?_ k
  simp only [ev, binPV, hx, hy, scalarBin, hu.h, boolBin, hc, Option.map_some]
theorem es_bne {t t' : TypeId} [hu : Und P t .bool] {a b : Bool} {c : Bool} (k : EvR P rest ⟨n, (d, .v (.bool c)) :: tm, S⟩ σ' n') (hx : PS.get ⟨n, tm, S⟩ x = .v (.bool a) := by ((conv => lhs; whnf) <;> fail "no")) (hy : PS.get ⟨n, tm, S⟩ y = .v (.bool b) := by ((conv => lhs; whnf) <;> fail "no")) (hc : (!(a == b)) = c := by first | exact bne_self _ | (simp only [beq_self_eq_true, Bool.beq_true, Bool.true_beq, Bool.beq_false, Bool.false_beq]; exact rfl) | exact rfl) : EvR P (⟨.binOp .neq t x y t', some d, none⟩ :: rest) ⟨n, tm, S⟩ σ' n' := by
  refine er_step ?_ k
  simp only [ev, binPV, hx, hy, scalarBin, hu.h, boolBin, hc, Option.map_some]
theorem es_bld {t : TypeId} {l : List (Nat × Nat)} {zr cs0 cs : List PV} {parts : Array (Nat × Operand)} {ps : List (Nat × PV)} [hl : Lay P t l] [hz : Zer P t zr] (k : EvR P rest ⟨n, (d, .agg cs) :: tm, S⟩ σ' n') (hp : (parts.toList.map fun p => (p.1, PS.get ⟨n, tm, S⟩ p.2)) = ps := by first | (simp only [List.map_cons, List.map_nil, PS.get, look, ofValue, ↓reduceIte, Nat.reduceEqDiff, reduceCtorEq]; exact rfl) | rfl) (hb : fillPV (fun i => l[i]?) zr ps = some cs0 := by rfl) (hn : cs0 = cs := by first | (simp only [List.take_succ_cons, List.take_zero, List.drop_succ_cons, List.drop_zero, List.cons_append, List.nil_append, List.append_nil, Nat.reduceAdd, Nat.zero_add, List.length_cons, List.length_nil, List.drop_nil, List.take_nil]; exact rfl) | exact rfl) : EvR P (⟨.build t parts, some d, none⟩ :: rest) ⟨n, tm, S⟩ σ' n' := by
  refine er_step ?_ k
  subst hn
  simp only [ev, hp]
  exact build_lay hl.h hz.h hb
theorem es_aix {t e : TypeId} {m c : Nat} [hu : Und P t (.array m e)] [ha : AggT P e false] [hc : Cel P e c] {cs : List PV} {p : PV} {k0 : IntKind} {i : Int} (k : EvR P rest ⟨n, (d, p) :: tm, S⟩ σ' n') (hx : PS.get ⟨n, tm, S⟩ x = .agg cs := by ((conv => lhs; whnf) <;> fail "no")) (hy : PS.get ⟨n, tm, S⟩ y = .v (.int k0 i) := by ((conv => lhs; whnf) <;> fail "no")) (h0 : 0 ≤ i := by omega) (h1 : i < (m : Int) := by omega) (hp : cs[i.toNat * c]? = some p := by ((conv => lhs; whnf) <;> fail "no")) : EvR P (⟨.index t x y, some d, none⟩ :: rest) ⟨n, tm, S⟩ σ' n' := by
  refine er_step ?_ k
  have hn : ¬ i < 0 := by omega
  simp only [ev, indexPV, hx, hy, intPV, if_neg hn, hu.h, ha.h.2, h1, decide_true, Bool.and_self, if_true, partPV, ha.h.1, Bool.false_eq_true, if_false, hc.h, hp]
theorem es_eqp_nil {t t' e : TypeId} [ht : Und P t (.pointer e)] (k : EvR P rest ⟨n, (d, .v (.bool true)) :: tm, S⟩ σ' n') (hx : PS.get ⟨n, tm, S⟩ x = .v (.pointer none) := by ((conv => lhs; whnf) <;> fail "no")) (hy : PS.get ⟨n, tm, S⟩ y = .v (.pointer none) := by ((conv => lhs; whnf) <;> fail "no")) : EvR P (⟨.binOp .eql t x y t', some d, none⟩ :: rest) ⟨n, tm, S⟩ σ' n' := by
  refine er_step ?_ k
  simp only [ev, binPV, hx, hy, scalarBin, ht.h, nilBin, Option.map_some, Bool.not_true]
theorem es_eqp_ptr {t t' e : TypeId} {τ g i off : Nat} {blk : Blk} [ht : Und P t (.pointer e)] (k : EvR P rest ⟨n, (d, .v (.bool false)) :: tm, S⟩ σ' n') (hx : PS.get ⟨n, tm, S⟩ x = .ptr τ g i off := by ((conv => lhs; whnf) <;> fail "no")) (hy : PS.get ⟨n, tm, S⟩ y = .v (.pointer none) := by ((conv => lhs; whnf) <;> fail "no")) (hb : S[τ]? = some blk := by first | ((conv => lhs; whnf) <;> fail "no") | exact rfl | assumption) (hg : blk.gen = g := by rfl) : EvR P (⟨.binOp .eql t x y t', some d, none⟩ :: rest) ⟨n, tm, S⟩ σ' n' := by
  refine er_step ?_ k
  have hal : alive S τ g = true := by simp [alive, hb, hg]
  simp only [ev, binPV, hx, hy, nilOf, notNil, hal, Bool.and_self, if_true, ht.h, nilBin, Option.map_some, Bool.not_false]
theorem es_nep_nil {t t' e : TypeId} [ht : Und P t (.pointer e)] (k : EvR P rest ⟨n, (d, .v (.bool false)) :: tm, S⟩ σ' n') (hx : PS.get ⟨n, tm, S⟩ x = .v (.pointer none) := by ((conv => lhs; whnf) <;> fail "no")) (hy : PS.get ⟨n, tm, S⟩ y = .v (.pointer none) := by ((conv => lhs; whnf) <;> fail "no")) : EvR P (⟨.binOp .neq t x y t', some d, none⟩ :: rest) ⟨n, tm, S⟩ σ' n' := by
  refine er_step ?_ k
  simp only [ev, binPV, hx, hy, scalarBin, ht.h, nilBin, Option.map_some, Bool.not_true]
theorem es_nep_ptr {t t' e : TypeId} {τ g i off : Nat} {blk : Blk} [ht : Und P t (.pointer e)] (k : EvR P rest ⟨n, (d, .v (.bool true)) :: tm, S⟩ σ' n') (hx : PS.get ⟨n, tm, S⟩ x = .ptr τ g i off := by ((conv => lhs; whnf) <;> fail "no")) (hy : PS.get ⟨n, tm, S⟩ y = .v (.pointer none) := by ((conv => lhs; whnf) <;> fail "no")) (hb : S[τ]? = some blk := by first | ((conv => lhs; whnf) <;> fail "no") | exact rfl | assumption) (hg : blk.gen = g := by rfl) : EvR P (⟨.binOp .neq t x y t', some d, none⟩ :: rest) ⟨n, tm, S⟩ σ' n' := by
  refine er_step ?_ k
  have hal : alive S τ g = true := by simp [alive, hb, hg]
  simp only [ev, binPV, hx, hy, nilOf, notNil, hal, Bool.and_self, if_true, ht.h, nilBin, Option.map_some, Bool.not_false]
theorem es_vsl_h {t e : TypeId} {de : TypeDesc} {sz : Nat} {τ g off len o' ln : Nat} {blk : Blk} [ht : Und P t (.slice e)] [hd : Und P e de] [hc : Cel P e sz] {k0 : IntKind} {i : Int} (k : EvR P rest ⟨n, (d, .vw τ g o' ln) :: tm, S⟩ σ' n') (hx : PS.get ⟨n, tm, S⟩ x = .vw τ g off len := by ((conv => lhs; whnf) <;> fail "no")) (hy : PS.get ⟨n, tm, S⟩ y = .v (.int k0 i) := by ((conv => lhs; whnf) <;> fail "no")) (h0 : 0 ≤ i := by omega) (h1 : i ≤ (len : Int) := by omega) (hb : S[τ]? = some blk := by first | ((conv => lhs; whnf) <;> fail "no") | exact rfl | assumption) (hg : blk.gen = g := by rfl) (hsz : blk.sz = sz := by rfl) (ho : off + 0 = o' := by first | (simp only [Nat.zero_add, Nat.add_zero]; exact rfl) | exact rfl) (hln : i.toNat - 0 = ln := by first | (simp only [Nat.sub_zero]; exact rfl) | exact rfl) : EvR P (⟨.slice t x none (some y) none, some d, none⟩ :: rest) ⟨n, tm, S⟩ σ' n' := by
  refine er_step ?_ k
  have hk : known P e = true := by simp [known, hd.h]
  have hal : alive S τ g = true := by simp [alive, hb, hg]
  have hmap : S[τ]?.map (·.sz) = some sz := by rw [hb, ← hsz]; rfl
  subst ho hln
  have hn : ¬ i < 0 := by omega
  have h2 : i.toNat ≤ len := by omega
  simp [ev, slicePV, ht.h, hx, hy, boundPV, intPV, hn, hk, hc.h, hal, hmap, h2]
theorem es_vsl_l {t e : TypeId} {de : TypeDesc} {sz : Nat} {τ g off len o' ln : Nat} {blk : Blk} [ht : Und P t (.slice e)] [hd : Und P e de] [hc : Cel P e sz] {k0 : IntKind} {i : Int} (k : EvR P rest ⟨n, (d, .vw τ g o' ln) :: tm, S⟩ σ' n') (hx : PS.get ⟨n, tm, S⟩ x = .vw τ g off len := by ((conv => lhs; whnf) <;> fail "no")) (hy : PS.get ⟨n, tm, S⟩ y = .v (.int k0 i) := by ((conv => lhs; whnf) <;> fail "no")) (h0 : 0 ≤ i := by omega) (h1 : i ≤ (len : Int) := by omega) (hb : S[τ]? = some blk := by first | ((conv => lhs; whnf) <;> fail "no") | exact rfl | assumption) (hg : blk.gen = g := by rfl) (hsz : blk.sz = sz := by rfl) (ho : off + i.toNat = o' := by first | (simp only [Nat.zero_add, Nat.add_zero]; exact rfl) | exact rfl) (hln : len - i.toNat = ln := by first | (simp only [Nat.sub_zero]; exact rfl) | exact rfl) : EvR P (⟨.slice t x (some y) none none, some d, none⟩ :: rest) ⟨n, tm, S⟩ σ' n' := by
  refine er_step ?_ k
  have hk : known P e = true := by simp [known, hd.h]
  have hal : alive S τ g = true := by simp [alive, hb, hg]
  have hmap : S[τ]?.map (·.sz) = some sz := by rw [hb, ← hsz]; rfl
  subst ho hln
  have hn : ¬ i < 0 := by omega
  have h2 : i.toNat ≤ len := by omega
  simp [ev, slicePV, ht.h, hx, hy, boundPV, intPV, hn, hk, hc.h, hal, hmap, h2]
theorem es_vsl_b {t e : TypeId} {de : TypeDesc} {sz : Nat} {τ g off len o' ln : Nat} {blk : Blk} [ht : Und P t (.slice e)] [hd : Und P e de] [hc : Cel P e sz] {k0 k1 : IntKind} {i j : Int} (k : EvR P rest ⟨n, (d, .vw τ g o' ln) :: tm, S⟩ σ' n') (hx : PS.get ⟨n, tm, S⟩ x = .vw τ g off len := by ((conv => lhs; whnf) <;> fail "no")) (hy : PS.get ⟨n, tm, S⟩ y = .v (.int k0 i) := by ((conv => lhs; whnf) <;> fail "no")) (hz : PS.get ⟨n, tm, S⟩ z = .v (.int k1 j) := by ((conv => lhs; whnf) <;> fail "no")) (h0 : 0 ≤ i := by omega) (h1 : i ≤ j := by omega) (h2 : j ≤ (len : Int) := by omega) (hb : S[τ]? = some blk := by first | ((conv => lhs; whnf) <;> fail "no") | exact rfl | assumption) (hg : blk.gen = g := by rfl) (hsz : blk.sz = sz := by rfl) (ho : off + i.toNat = o' := by first | (simp only [Nat.zero_add, Nat.add_zero]; exact rfl) | exact rfl) (hln : j.toNat - i.toNat = ln := by first | (simp only [Nat.sub_zero]; exact rfl) | exact rfl) : EvR P (⟨.slice t x (some y) (some z) none, some d, none⟩ :: rest) ⟨n, tm, S⟩ σ' n' := by
  refine er_step ?_ k
  have hk : known P e = true := by simp [known, hd.h]
  have hal : alive S τ g = true := by simp [alive, hb, hg]
  have hmap : S[τ]?.map (·.sz) = some sz := by rw [hb, ← hsz]; rfl
  subst ho hln
  have hn : ¬ i < 0 := by omega
  have hm : ¬ j < 0 := by omega
  have h3 : j.toNat ≤ len := by omega
  have h4 : i.toNat ≤ j.toNat := by omega
  simp [ev, slicePV, ht.h, hx, hy, hz, boundPV, intPV, hn, hm, hk, hc.h, hal, hmap, h3, h4]
theorem es_vsl_3 {t e : TypeId} {de : TypeDesc} {sz : Nat} {τ g off len o' ln : Nat} {blk : Blk} [ht : Und P t (.slice e)] [hd : Und P e de] [hc : Cel P e sz] {u : Operand} {k0 k1 k2 : IntKind} {i j k' : Int} (k : EvR P rest ⟨n, (d, .vw τ g o' ln) :: tm, S⟩ σ' n') (hx : PS.get ⟨n, tm, S⟩ x = .vw τ g off len := by ((conv => lhs; whnf) <;> fail "no")) (hy : PS.get ⟨n, tm, S⟩ y = .v (.int k0 i) := by ((conv => lhs; whnf) <;> fail "no")) (hz : PS.get ⟨n, tm, S⟩ z = .v (.int k1 j) := by ((conv => lhs; whnf) <;> fail "no")) (hu : PS.get ⟨n, tm, S⟩ u = .v (.int k2 k') := by ((conv => lhs; whnf) <;> fail "no")) (h0 : 0 ≤ i := by omega) (h1 : i ≤ j := by omega) (h2 : j ≤ k' := by omega) (h5 : k' ≤ (len : Int) := by omega) (hb : S[τ]? = some blk := by first | ((conv => lhs; whnf) <;> fail "no") | exact rfl | assumption) (hg : blk.gen = g := by rfl) (hsz : blk.sz = sz := by rfl) (ho : off + i.toNat = o' := by first | (simp only [Nat.zero_add, Nat.add_zero]; exact rfl) | exact rfl) (hln : j.toNat - i.toNat = ln := by first | (simp only [Nat.sub_zero]; exact rfl) | exact rfl) : EvR P (⟨.slice t x (some y) (some z) (some u), some d, none⟩ :: rest) ⟨n, tm, S⟩ σ' n' := by
  refine er_step ?_ k
  have hk : known P e = true := by simp [known, hd.h]
  have hal : alive S τ g = true := by simp [alive, hb, hg]
  have hmap : S[τ]?.map (·.sz) = some sz := by rw [hb, ← hsz]; rfl
  subst ho hln
  have hn : ¬ i < 0 := by omega
  have hm : ¬ j < 0 := by omega
  have hq : ¬ k' < 0 := by omega
  have h3 : j.toNat ≤ k'.toNat := by omega
  have h4 : i.toNat ≤ j.toNat := by omega
  have h6 : k'.toNat ≤ len := by omega
  simp [ev, slicePV, ht.h, hx, hy, hz, hu, boundPV, intPV, hn, hm, hq, hk, hc.h, hal, hmap, h3, h4, h6]
/-- What an operation is: looked at once, ahead of its laws. -/
theorem is_c {d : Option Tmp} {g : Option (Tmp × Bool)} {σ : PS} (h : EvR P (⟨op, d, g⟩ :: rest) σ σ' n') : EvR P (⟨op, d, g⟩ :: rest) σ σ' n' := h
theorem is_u {d : Option Tmp} {σ : PS} (h : EvR P (⟨op, d, none⟩ :: rest) σ σ' n') : EvR P (⟨op, d, none⟩ :: rest) σ σ' n' := h
theorem is_mv  {d : Option Tmp} {σ : PS} (h : EvR P (⟨.move x, d, none⟩ :: rest) σ σ' n') : EvR P (⟨.move x, d, none⟩ :: rest) σ σ' n' := h
theorem is_as  {d : Option Tmp} {σ : PS} (h : EvR P (⟨.assign x, d, none⟩ :: rest) σ σ' n') : EvR P (⟨.assign x, d, none⟩ :: rest) σ σ' n' := h
theorem is_pick  {d : Option Tmp} {σ : PS} (h : EvR P (⟨.pick x y z, d, none⟩ :: rest) σ σ' n') : EvR P (⟨.pick x y z, d, none⟩ :: rest) σ σ' n' := h
theorem is_bin {bo : BinOp} {t t' : TypeId} {d : Option Tmp} {σ : PS} (h : EvR P (⟨.binOp bo t x y t', d, none⟩ :: rest) σ σ' n') : EvR P (⟨.binOp bo t x y t', d, none⟩ :: rest) σ σ' n' := h
theorem is_un {u : UnOp} {t : TypeId} {d : Option Tmp} {σ : PS} (h : EvR P (⟨.unOp u t x, d, none⟩ :: rest) σ σ' n') : EvR P (⟨.unOp u t x, d, none⟩ :: rest) σ σ' n' := h
theorem is_conv {s t : TypeId} {d : Option Tmp} {σ : PS} (h : EvR P (⟨.convert s t x, d, none⟩ :: rest) σ σ' n') : EvR P (⟨.convert s t x, d, none⟩ :: rest) σ σ' n' := h
theorem is_call {c : Call} {d : Option Tmp} {σ : PS} (h : EvR P (⟨.call c, d, none⟩ :: rest) σ σ' n') : EvR P (⟨.call c, d, none⟩ :: rest) σ σ' n' := h
theorem is_ix {t : TypeId} {d : Option Tmp} {σ : PS} (h : EvR P (⟨.index t x y, d, none⟩ :: rest) σ σ' n') : EvR P (⟨.index t x y, d, none⟩ :: rest) σ σ' n' := h
theorem is_ixa {t : TypeId} {d : Option Tmp} {σ : PS} (h : EvR P (⟨.indexAddr t x y, d, none⟩ :: rest) σ σ' n') : EvR P (⟨.indexAddr t x y, d, none⟩ :: rest) σ σ' n' := h
theorem is_ld {t : TypeId} {d : Option Tmp} {σ : PS} (h : EvR P (⟨.load t x, d, none⟩ :: rest) σ σ' n') : EvR P (⟨.load t x, d, none⟩ :: rest) σ σ' n' := h
theorem is_ext {i : Nat} {d : Option Tmp} {σ : PS} (h : EvR P (⟨.extract x i, d, none⟩ :: rest) σ σ' n') : EvR P (⟨.extract x i, d, none⟩ :: rest) σ σ' n' := h
theorem is_fa {t : TypeId} {i : Nat} {d : Option Tmp} {σ : PS} (h : EvR P (⟨.fieldAddr t x i, d, none⟩ :: rest) σ σ' n') : EvR P (⟨.fieldAddr t x i, d, none⟩ :: rest) σ σ' n' := h
theorem is_fv {t : TypeId} {i : Nat} {d : Option Tmp} {σ : PS} (h : EvR P (⟨.field t x i, d, none⟩ :: rest) σ σ' n') : EvR P (⟨.field t x i, d, none⟩ :: rest) σ σ' n' := h
theorem is_nil  {d : Option Tmp} {σ : PS} (h : EvR P (⟨.nilCheck x, d, none⟩ :: rest) σ σ' n') : EvR P (⟨.nilCheck x, d, none⟩ :: rest) σ σ' n' := h
theorem is_mf {fn : Fn} {a b : Array Operand} {d : Option Tmp} {σ : PS} (h : EvR P (⟨.makeFunc fn a b, d, none⟩ :: rest) σ σ' n') : EvR P (⟨.makeFunc fn a b, d, none⟩ :: rest) σ σ' n' := h
theorem is_sl {t : TypeId} {a b c : Option Operand} {d : Option Tmp} {σ : PS} (h : EvR P (⟨.slice t x a b c, d, none⟩ :: rest) σ σ' n') : EvR P (⟨.slice t x a b c, d, none⟩ :: rest) σ σ' n' := h
theorem is_bld {t : TypeId} {p : Array (Nat × Operand)} {d : Option Tmp} {σ : PS} (h : EvR P (⟨.build t p, d, none⟩ :: rest) σ σ' n') : EvR P (⟨.build t p, d, none⟩ :: rest) σ σ' n' := h
theorem is_b_add {t t' : TypeId} {d : Option Tmp} {σ : PS} (h : EvR P (⟨.binOp .add t x y t', d, none⟩ :: rest) σ σ' n') : EvR P (⟨.binOp .add t x y t', d, none⟩ :: rest) σ σ' n' := h
theorem is_b_sub {t t' : TypeId} {d : Option Tmp} {σ : PS} (h : EvR P (⟨.binOp .sub t x y t', d, none⟩ :: rest) σ σ' n') : EvR P (⟨.binOp .sub t x y t', d, none⟩ :: rest) σ σ' n' := h
theorem is_b_mul {t t' : TypeId} {d : Option Tmp} {σ : PS} (h : EvR P (⟨.binOp .mul t x y t', d, none⟩ :: rest) σ σ' n') : EvR P (⟨.binOp .mul t x y t', d, none⟩ :: rest) σ σ' n' := h
theorem is_b_quo {t t' : TypeId} {d : Option Tmp} {σ : PS} (h : EvR P (⟨.binOp .quo t x y t', d, none⟩ :: rest) σ σ' n') : EvR P (⟨.binOp .quo t x y t', d, none⟩ :: rest) σ σ' n' := h
theorem is_b_rem {t t' : TypeId} {d : Option Tmp} {σ : PS} (h : EvR P (⟨.binOp .rem t x y t', d, none⟩ :: rest) σ σ' n') : EvR P (⟨.binOp .rem t x y t', d, none⟩ :: rest) σ σ' n' := h
theorem is_b_and {t t' : TypeId} {d : Option Tmp} {σ : PS} (h : EvR P (⟨.binOp .and t x y t', d, none⟩ :: rest) σ σ' n') : EvR P (⟨.binOp .and t x y t', d, none⟩ :: rest) σ σ' n' := h
theorem is_b_or {t t' : TypeId} {d : Option Tmp} {σ : PS} (h : EvR P (⟨.binOp .or t x y t', d, none⟩ :: rest) σ σ' n') : EvR P (⟨.binOp .or t x y t', d, none⟩ :: rest) σ σ' n' := h
theorem is_b_xor {t t' : TypeId} {d : Option Tmp} {σ : PS} (h : EvR P (⟨.binOp .xor t x y t', d, none⟩ :: rest) σ σ' n') : EvR P (⟨.binOp .xor t x y t', d, none⟩ :: rest) σ σ' n' := h
theorem is_b_andNot {t t' : TypeId} {d : Option Tmp} {σ : PS} (h : EvR P (⟨.binOp .andNot t x y t', d, none⟩ :: rest) σ σ' n') : EvR P (⟨.binOp .andNot t x y t', d, none⟩ :: rest) σ σ' n' := h
theorem is_b_shl {t t' : TypeId} {d : Option Tmp} {σ : PS} (h : EvR P (⟨.binOp .shl t x y t', d, none⟩ :: rest) σ σ' n') : EvR P (⟨.binOp .shl t x y t', d, none⟩ :: rest) σ σ' n' := h
theorem is_b_shr {t t' : TypeId} {d : Option Tmp} {σ : PS} (h : EvR P (⟨.binOp .shr t x y t', d, none⟩ :: rest) σ σ' n') : EvR P (⟨.binOp .shr t x y t', d, none⟩ :: rest) σ σ' n' := h
theorem is_b_eql {t t' : TypeId} {d : Option Tmp} {σ : PS} (h : EvR P (⟨.binOp .eql t x y t', d, none⟩ :: rest) σ σ' n') : EvR P (⟨.binOp .eql t x y t', d, none⟩ :: rest) σ σ' n' := h
theorem is_b_neq {t t' : TypeId} {d : Option Tmp} {σ : PS} (h : EvR P (⟨.binOp .neq t x y t', d, none⟩ :: rest) σ σ' n') : EvR P (⟨.binOp .neq t x y t', d, none⟩ :: rest) σ σ' n' := h
theorem is_b_lss {t t' : TypeId} {d : Option Tmp} {σ : PS} (h : EvR P (⟨.binOp .lss t x y t', d, none⟩ :: rest) σ σ' n') : EvR P (⟨.binOp .lss t x y t', d, none⟩ :: rest) σ σ' n' := h
theorem is_b_leq {t t' : TypeId} {d : Option Tmp} {σ : PS} (h : EvR P (⟨.binOp .leq t x y t', d, none⟩ :: rest) σ σ' n') : EvR P (⟨.binOp .leq t x y t', d, none⟩ :: rest) σ σ' n' := h
theorem is_b_gtr {t t' : TypeId} {d : Option Tmp} {σ : PS} (h : EvR P (⟨.binOp .gtr t x y t', d, none⟩ :: rest) σ σ' n') : EvR P (⟨.binOp .gtr t x y t', d, none⟩ :: rest) σ σ' n' := h
theorem is_b_geq {t t' : TypeId} {d : Option Tmp} {σ : PS} (h : EvR P (⟨.binOp .geq t x y t', d, none⟩ :: rest) σ σ' n') : EvR P (⟨.binOp .geq t x y t', d, none⟩ :: rest) σ σ' n' := h
theorem is_c_len {a : Array Operand} {ts : Array TypeId} {d : Option Tmp} {σ : PS} (h : EvR P (⟨.call ⟨.builtin .len, a, ts⟩, d, none⟩ :: rest) σ σ' n') : EvR P (⟨.call ⟨.builtin .len, a, ts⟩, d, none⟩ :: rest) σ σ' n' := h
theorem is_c_min {a : Array Operand} {ts : Array TypeId} {d : Option Tmp} {σ : PS} (h : EvR P (⟨.call ⟨.builtin .min, a, ts⟩, d, none⟩ :: rest) σ σ' n') : EvR P (⟨.call ⟨.builtin .min, a, ts⟩, d, none⟩ :: rest) σ σ' n' := h
theorem is_c_max {a : Array Operand} {ts : Array TypeId} {d : Option Tmp} {σ : PS} (h : EvR P (⟨.call ⟨.builtin .max, a, ts⟩, d, none⟩ :: rest) σ σ' n') : EvR P (⟨.call ⟨.builtin .max, a, ts⟩, d, none⟩ :: rest) σ σ' n' := h
theorem is_u_not {t : TypeId} {d : Option Tmp} {σ : PS} (h : EvR P (⟨.unOp .not t x, d, none⟩ :: rest) σ σ' n') : EvR P (⟨.unOp .not t x, d, none⟩ :: rest) σ σ' n' := h
theorem is_u_neg {t : TypeId} {d : Option Tmp} {σ : PS} (h : EvR P (⟨.unOp .neg t x, d, none⟩ :: rest) σ σ' n') : EvR P (⟨.unOp .neg t x, d, none⟩ :: rest) σ σ' n' := h
theorem is_u_xor {t : TypeId} {d : Option Tmp} {σ : PS} (h : EvR P (⟨.unOp .xor t x, d, none⟩ :: rest) σ σ' n') : EvR P (⟨.unOp .xor t x, d, none⟩ :: rest) σ σ' n' := h
end
end Go.Proofs.Ytaaealngifkaeaa.Pv
