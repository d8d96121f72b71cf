/- DeltaAhead: what stands ahead of a byte that is changed stays. For every input; no condition. -/
import Derived.Test.YtmibdlapjddfoaaDeltaF
import Derived.Test.YtmibdlapjddfoaaQDeltax4
namespace Go.Proofs.Ytmibdlapjddfoaa.DeltaAheadW
open Go.RowKit Go.Proofs.YtmibdlapjddfoaaW.PrintWords Go.Proofs.Ytmibdlapjddfoaa.Bv Go.Proofs.Ytmibdlapjddfoaa.DeltaF Go.Proofs.Ytmibdlapjddfoaa.QDelta
section
variable (l : List Int) (c : Int) (N : Nat) (a : Int)
theorem d_at (j : Nat) (hj : j ≠ N) : (l.set N c).getD j 0 = l.getD j 0 := by rw [getD_set, if_neg (fun h => hj h.1.symm)]
theorem d_N (hN : N < l.length) : (l.set N c).getD N 0 = c := by rw [getD_set, if_pos ⟨rfl, hN⟩]
theorem put_ahead (hN : N < l.length) (j : Nat) (hj : j < N) : (put (l.set N c) a).getD j 0 = (put l a).getD j 0 := by
  rw [put_at _ _ _ (by rw [List.length_set]; omega), put_at _ _ _ (by omega), d_at l c N j (by omega), d_at l c N (j - a.toNat) (by omega)]
theorem back_ahead (hN : N < l.length) : ∀ j, j < N → (back (l.set N c) a).getD j 0 = (back l a).getD j 0 := by
  intro j
  induction j using Nat.strongRecOn with
  | ind j ih =>
    intro hj
    rw [back_at (l.set N c) a j (by rw [List.length_set]; omega), back_at l a j (by omega), d_at l c N j (by omega)]
    by_cases h : 1 ≤ a ∧ a ≤ 255 ∧ a.toNat ≤ j
    · rw [if_pos h, if_pos h, ih (j - a.toNat) (by omega) (by omega)]
    · rw [if_neg h, if_neg h]
theorem take_same {x y : List Int} (hl : x.length = y.length) (h : ∀ j, j < N → x.getD j 0 = y.getD j 0) : x.take N = y.take N := by
  refine ext_getD (by simp [hl]) fun j hj => ?_
  simp only [List.length_take] at hj
  have := h j (by omega)
  simp only [List.getD_eq_getElem?_getD, List.getElem?_take] at *
  rw [if_pos (by omega), if_pos (by omega)]
  exact this
theorem put_N (hl : Bytes l) (hc : 0 ≤ c ∧ c < 256) (hN : N < l.length) : ((put l a).getD N 0 == (put (l.set N c) a).getD N 0) = (l.getD N 0 == c) := by
  rw [put_at _ _ _ hN, put_at _ _ _ (by rw [List.length_set]; exact hN), d_N l c N hN]
  have h1 := hl.at N
  have h2 := hl.at (N - a.toNat)
  by_cases h : 1 ≤ a ∧ a ≤ 255 ∧ a.toNat ≤ N
  · rw [if_pos h, if_pos h, d_at l c N (N - a.toNat) (by omega)]
    rw [Bool.eq_iff_iff, beq_iff_eq, beq_iff_eq]
    omega
  · rw [if_neg h, if_neg h]
theorem back_N (hl : Bytes l) (hc : 0 ≤ c ∧ c < 256) (hN : N < l.length) : ((back l a).getD N 0 == (back (l.set N c) a).getD N 0) = (l.getD N 0 == c) := by
  rw [back_at l a N hN, back_at (l.set N c) a N (by rw [List.length_set]; exact hN), d_N l c N hN]
  have h1 := hl.at N
  by_cases h : 1 ≤ a ∧ a ≤ 255 ∧ a.toNat ≤ N
  · rw [if_pos h, if_pos h, back_ahead l c N a hN (N - a.toNat) (by omega)]
    rw [Bool.eq_iff_iff, beq_iff_eq, beq_iff_eq]
    omega
  · rw [if_neg h, if_neg h]
end
theorem ahead_ev (l : List Int) (hl : Bytes l) (hn : l.length ≤ 140737488351232) (a m c : Int) (hm : -9223372036854775808 ≤ m ∧ m < 9223372036854775808) (hc : 0 ≤ c ∧ c < 256) : Ev (fun k => carapacelaw03_DeltaAhead.f k l a m c) true := by
  have hyes : Ev (fun k => carapacelaw03_DeltaAhead.j0 k l c true true a m) true := Ev.step (f := fun _ => some true) (fun k => by simp only [carapacelaw03_DeltaAhead.j0]; rw [if_pos trivial]) (Ev.now _)
  by_cases h1 : (l.length : Int) > 2000
  · refine Ev.congr (fun k => ?_) hyes
    unfold carapacelaw03_DeltaAhead.f
    rw [awake, Option.bind_some, if_pos h1]
  by_cases h2 : m < 0
  · refine Ev.congr (fun k => ?_) hyes
    unfold carapacelaw03_DeltaAhead.f
    rw [awake, Option.bind_some, if_neg h1, if_pos h2]
  by_cases h3 : m ≥ (l.length : Int)
  · refine Ev.congr (fun k => ?_) hyes
    unfold carapacelaw03_DeltaAhead.f
    rw [awake, Option.bind_some, if_neg h1, if_neg h2, decide_eq_true h3]
  obtain ⟨N, rfl⟩ := Int.eq_ofNat_of_zero_le (Int.not_lt.1 h2)
  have hN : N < l.length := by omega
  have hp := put_length l a
  have hq : (put (l.set N c) a).length = l.length := by rw [put_length, List.length_set]
  have hr := back_length l a
  have hs : (back (l.set N c) a).length = l.length := by rw [back_length, List.length_set]
  have t1 : (put (l.set N c) a).take N = (put l a).take N := take_same N (by omega) (put_ahead l c N a hN)
  have t2 : (back (l.set N c) a).take N = (back l a).take N := take_same N (by omega) (back_ahead l c N a hN)
  have e2 : Ev (fun k => (carapaceref01_Same.f k ((back l a).take N) ((back l a).take N)).bind fun t210 => (if t210 = true then some true else some false)) true := Ev.bind (same_ev _ (by simp; omega)) (by simpa using Ev.now _)
  have e1 : Ev (fun k => (carapaceref01_Same.f k ((put l a).take N) ((put l a).take N)).bind fun t201 => ((carapaceref01_Same.f k ((back l a).take N) ((back l a).take N)).bind fun t210 => (if t201 = true then (if t210 = true then some true else some false) else some false))) true := Ev.bind (same_ev _ (by simp; omega)) (by simpa using e2)
  have e : Ev (fun k => carapacelaw03_DeltaAhead.j0 k l c true false a (N : Int)) true := by
    have ej : Ev (fun k => carapacelaw03_DeltaAhead.j1 k l c true (put l a) (put (l.set N c) a) (back l a) (back (l.set N c) a) false a (N : Int)) true := by
      refine Ev.step (fun k => ?_) e1
      simp only [carapacelaw03_DeltaAhead.j1]
      rw [if_neg (by simp), if_pos (by omega), if_pos (by omega), if_pos (by omega), Int.toNat_natCast, t1, t2]
      congr 1
      funext t201
      rw [if_pos (by omega), if_pos (by omega)]
      congr 1
      funext t210
      cases t201
      · simp
      cases t210
      · simp
      rw [if_pos trivial, if_pos rfl, if_pos rfl, if_pos rfl, if_pos rfl, if_pos (by omega), if_pos (by omega), if_pos (by omega), rdN, rdN, rdN, rdN, rdN, put_N l c N a hl hc hN, back_N l c N a hl hc hN, beq_self_eq_true, if_pos rfl, if_pos (by omega), if_pos (by omega)]
    refine Ev.step (fun k => ?_) ej
    simp only [carapacelaw03_DeltaAhead.j0]
    rw [if_neg (by simp), Option.bind_some, if_pos (by simp; omega), Option.bind_some, List.nil_append, if_pos (by omega), if_pos (by omega), Option.bind_some, Int.toNat_natCast, Put_f l a (by omega), Option.bind_some, Put_f (l.set N c) a (by simp; omega), Option.bind_some, Back_f l a (by omega), Option.bind_some, Back_f (l.set N c) a (by simp; omega), Option.bind_some, if_pos (by omega), if_pos (by omega), if_pos (by omega)]
    have : ((((back (l.set N c) a).length : Int) != (l.length : Int))) = false := by simp [hs]
    rw [this]
  refine Ev.congr (fun k => ?_) e
  unfold carapacelaw03_DeltaAhead.f
  rw [awake, Option.bind_some, if_neg h1, if_neg h2, decide_eq_false h3]
theorem walk (w : World) (A0 : Option Addr) (c0 : Nat) (l0 : List Int) (hr0 : Kd.C (Kd.int .u8) w A0 l0.length l0) (hc0 : l0.length ≤ c0) (ok0 : l0.length * 1 ≤ 140737488351232 ∧ l0.length ≤ maxLen ∧ ∀ x ∈ l0, (Lit.int .u8 x).wf = true)
    (l1 : List Int) (hl1 : l1.length = 2) (w1 : ∀ x ∈ l1, (Lit.int .i64 x).wf = true) (a2 : Int) (w2 : (Lit.int .u8 a2).wf = true) :
    Calls Try.prog 11 #[.slice A0 l0.length c0, .agg (l1.map (Value.int .i64)).toArray, .int .u8 a2] w fun e w' => e = .returned (.bool true) ∧ Below w.heap.size w w' := by
  match l1, hl1 with
  | [n0, n1], _ =>
    obtain ⟨k, h⟩ := (ahead_ev l0 (fun x hx => wf_u8 (ok0.2.2 x hx)) (by omega) n0 n1 a2 (wf_i64 (w1 n1 (by simp))) (wf_u8 w2)).rounds
    exact carapacelaw03_DeltaAhead.calls k A0 c0 l0 n0 n1 a2 true w hr0 hc0 h
end Go.Proofs.Ytmibdlapjddfoaa.DeltaAheadW
