-- Small lemmas of this session's own, on slices of constants, arrays and boxes.
import Derived.Test.YtmibdlapjddfoaaProg
import Derived.Test.YtmibdlapjddfoaaWMore
import Derived.Lib.SlBytesConst
import Derived.Lib.Hide
import Derived.Lib.SliceRun
import Derived.StillTailTactics
namespace Go.Proofs.Ytmibdlapjddfoaa.Base
open Go.RowKit Go.Proofs.YtmibdlapjddfoaaW.PrintWords Go.Proofs.YtmibdlapjddfoaaW.PrintLast Go.Proofs.YtmibdlapjddfoaaW.PrintMore

/-- A new block of whole numbers, read. -/
theorem reads_new {k : IntKind} (W : World) (C : Array Value) (e : TypeId) (fr : Nat × Nat) (xs : List Int) (h : C.toList = xs.map (Value.int k)) (hm : xs.length ≤ 9223372036854775807) :
    ReadsInt (W.alloc (.cells C e fr)) k (some ⟨W.heap.size, 0, none⟩) xs.length xs := by
  refine ⟨rfl, hm, fun _ => ⟨_, rfl, fun j hj => ?_⟩⟩
  rw [add_plain]
  have hh : (W.alloc (.cells C e fr)).heap[W.heap.size]? = some (.cells C e fr) := by
    show (W.heap.push (.cells C e fr))[W.heap.size]? = _
    simp
  unfold World.cell?
  rw [hh]
  have : C[j]? = some (Value.int k (xs.getD j 0)) := by
    rw [← Array.getElem?_toList, h]
    simp [List.getD_eq_getElem?_getD, List.getElem?_eq_getElem hj]
  simpa using this
theorem C_new {k : IntKind} (W : World) (C : Array Value) (e : TypeId) (fr : Nat × Nat) (xs : List Int) (h : C.toList = xs.map (Value.int k)) (hm : xs.length ≤ 9223372036854775807) :
    (Kd.int k).C (W.alloc (.cells C e fr)) (some ⟨W.heap.size, 0, none⟩) xs.length xs :=
  Kd.C_of_reads (d := (0 : Int)) (h1 := fun _ => rfl) (reads_new W C e fr xs h hm)

/-- A new block of values of one cell each, read by a kind. -/
theorem C_newK {α : Type} (d : Kd α) (hs : d.sz = 1) (W : World) (C : Array Value) (e : TypeId) (fr : Nat × Nat) (xs : List α) (hm : xs.length ≤ 9223372036854775807)
    (hp : ∀ (j : Nat) (x : α), xs[j]? = some x → ∃ u : Value, C[j]? = some u ∧ d.K (W.alloc (.cells C e fr)) x [u]) :
    d.C (W.alloc (.cells C e fr)) (some ⟨W.heap.size, 0, none⟩) xs.length xs := by
  refine ⟨rfl, hm, fun _ => ⟨_, rfl, fun j x hx => ?_⟩⟩
  obtain ⟨u, hu, hk⟩ := hp j x hx
  refine ⟨[u], by simp [hs], hk, fun i v hv => ?_⟩
  have hi : i = 0 := by
    rcases Nat.eq_zero_or_pos i with h | h
    · exact h
    · rw [List.getElem?_eq_none (by simp; omega)] at hv
      cases hv
  subst hi
  have hv' : u = v := by simpa using hv
  subst hv'
  rw [add_plain, hs, Nat.mul_one, Nat.add_zero]
  have hh : (W.alloc (.cells C e fr)).heap[W.heap.size]? = some (.cells C e fr) := by
    show (W.heap.push (.cells C e fr))[W.heap.size]? = _
    simp
  unfold World.cell?
  rw [hh]
  simpa using hu
/-- An element that is a slice. -/
theorem K_slice {α : Type} {d : Kd α} {e : Nat} {w : World} {A : Option Addr} {n c : Nat} {xs : List α} (hn : n = xs.length) (hc : n ≤ c) (h : d.C w A n xs) : (Kd.slice e d).K w xs [.slice A n c] := by
  subst hn
  exact ⟨A, c, rfl, hc, h⟩
theorem C_up {α : Type} {d : Kd α} {w : World} {A : Option Addr} {n : Nat} {xs : List α} (h : d.C w A n xs) (o : Obj) : d.C (w.alloc o) A n xs := Kd.C_below h ((Below.refl _ _).alloc (Nat.le_refl _) o)
/-- A constant text as bytes: the conversion of a new row to its own type. -/
theorem conv_lit (P : Program) (t e : TypeId) (ht : P.underlying t = some (.slice e)) (he : P.underlying e = some (.int .u8)) (W : World) (b : Nat) (C : Array Value) (n c : Nat) (hb : b = W.heap.size) :
    (convert t t (.slice (some ⟨b, 0, none⟩) n c)).run P (W.alloc (.cells C e)) = .ok (.slice (some ⟨b, 0, none⟩) n c) (W.alloc (.cells C e (C.size, C.size + 1))) := by
  subst hb
  exact Lib.run_convert_bytes_const W t e C n c ht he
/-- Elements and their values, one by one. -/
def Each {α : Type} (K : α → Value → Prop) : List α → List Value → Prop
  | [], [] => True
  | x :: xs, c :: cs => K x c ∧ Each K xs cs
  | _, _ => False
theorem Each.get {α : Type} {K : α → Value → Prop} : ∀ {xs : List α} {cs : List Value}, Each K xs cs → ∀ (j : Nat) (x : α), xs[j]? = some x → ∃ u : Value, cs[j]? = some u ∧ K x u
  | [], [], _, j, x, hx => by simp at hx
  | y :: ys, c :: cs, h, 0, x, hx => by
    have : y = x := by simpa using hx
    subst this
    exact ⟨c, by simp, h.1⟩
  | y :: ys, c :: cs, h, j + 1, x, hx => by
    obtain ⟨u, hu, hk⟩ := Each.get h.2 j x (by simpa using hx)
    exact ⟨u, by simpa using hu, hk⟩
  | [], _ :: _, h, _, _, _ => h.elim
  | _ :: _, [], h, _, _, _ => h.elim
theorem C_news {α : Type} (d : Kd α) (hs : d.sz = 1) (W : World) (b : Nat) (hb : b = W.heap.size) (C : Array Value) (e : TypeId) (fr : Nat × Nat) (xs : List α) (hm : xs.length ≤ 9223372036854775807)
    (hp : Each (fun x u => d.K (W.alloc (.cells C e fr)) x [u]) xs C.toList) :
    d.C (W.alloc (.cells C e fr)) (some ⟨b, 0, none⟩) xs.length xs := by
  subst hb
  refine C_newK d hs W C e fr xs hm fun j x hx => ?_
  obtain ⟨u, hu, hk⟩ := hp.get j x hx
  exact ⟨u, by rw [← Array.getElem?_toList]; exact hu, hk⟩
theorem C_nums {k : IntKind} (W : World) (b : Nat) (hb : b = W.heap.size) (C : Array Value) (e : TypeId) (fr : Nat × Nat) (xs : List Int) (h : C.toList = xs.map (Value.int k)) (hm : xs.length ≤ 9223372036854775807) :
    (Kd.int k).C (W.alloc (.cells C e fr)) (some ⟨b, 0, none⟩) xs.length xs := by
  subst hb
  exact C_new W C e fr xs h hm
/-- A cell of a row of one's own, at a place that is a natural number. -/
theorem R_cellN {k : IntKind} {e : Nat} {W : World} {base : Nat} {ok : Nat → Prop} {g n cap : Nat} {xs : List Int} (h : (Kd.int k).R e W base ok (.slice (some ⟨g, 0, none⟩) n cap) xs) (j : Nat) (hj : j < n) :
    W.cell? ⟨g, j, none⟩ = some (.int k (xs.getD j 0)) ∧ W.frozen? ⟨g, j, none⟩ = false := by
  have := Kd.R_celln 0 h (j : Int) (by omega) (by omega)
  simpa [rdOf] using this
theorem R_putN {k : IntKind} {e : Nat} {W : World} {base : Nat} {ok : Nat → Prop} {g n cap : Nat} {xs : List Int} (h : (Kd.int k).R e W base ok (.slice (some ⟨g, 0, none⟩) n cap) xs) (j : Nat) (x : Int) :
    (Kd.int k).R e (W.setCell ⟨g, j, none⟩ (.int k x)) base ok (.slice (some ⟨g, 0, none⟩) n cap) (xs.set j x) := by
  have := Kd.R_putn h (j : Int) x
  rw [Int.toNat_natCast] at this
  exact this
/-- The cells of a row that is read, at places that are natural numbers. -/
theorem cellsN {k : IntKind} {w : World} {A : Option Addr} {n : Nat} {xs : List Int} (h : (Kd.int k).C w A n xs) (hn : 0 < n) : ∃ a, A = some a ∧ ∀ j, j < n → w.cell? (a.add j) = some (.int k (xs.getD j 0)) := by
  obtain ⟨a, e, _⟩ := Kd.at_int h 0 (by omega) (by omega)
  refine ⟨a, e, fun j hj => ?_⟩
  obtain ⟨a', e', hc⟩ := Kd.at_int h (j : Int) (by omega) (by omega)
  rw [e] at e'
  injection e' with e'
  subst e'
  simpa [rd] using hc
end Go.Proofs.Ytmibdlapjddfoaa.Base
