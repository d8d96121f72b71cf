-- rc: what is put is a number's bytes (plain).
import Derived.Test.YteocmeidkdhmiaaRcG
namespace Go.Proofs.Yteocmeidkdhmiaa.Pv
set_option linter.all false
open Go.RowKit Go.Proofs
structure WA (s : WS) (t : AS) : Prop where
  l : s.l = t.l
  wd : s.wd = t.wd
  n : s.out.length + s.be = t.n
  V : s.V = t.V
  wv : WV s t.wd
theorem move_sh (s : WS) : ∀ wd, WS.move { s with wd := wd } = { s.move with wd := wd } := by intro wd; unfold WS.move; dsimp only; split <;> rfl
theorem WA.bit {s : WS} {t : AS} {n : Nat} (h : WA s t) (ho : WOk s n) (ht : AOk t) {a : Nat} (ha : a < 256) (b : Int) : WA (s.bit a b) (t.bit a b) := by
  obtain ⟨q0, q1⟩ := part_b a ht.lik ha ht.w0 ht.w1
  have hT := ht.turn ha b
  have o1 := ho.l0
  have o2 := ho.l1
  have e1 : WA (s.turn a b) (t.turn a b) ∧ 0 ≤ (s.turn a b).lo ∧ (s.turn a b).lo + (s.turn a b).wd < 8589934592 := by
    obtain ⟨h1, h2, h3, h4, h5⟩ := h
    obtain ⟨g1, g2, g3, g4, g5, g6⟩ := h5
    unfold WS.V at h4 g6
    unfold WS.turn AS.turn
    rw [h1, h2]
    rw [h2] at o2
    generalize part t.l t.wd a = p at *
    refine ⟨⟨rfl, rfl, h3, ?_, ⟨g1, g2, g3, g4, ?_, ?_⟩⟩, ?_, ?_⟩
    · unfold WS.V; dsimp only; split <;> omega
    · dsimp only; split <;> omega
    · unfold WS.V; dsimp only; split <;> omega
    · dsimp only; split <;> omega
    · dsimp only; split <;> omega
  obtain ⟨⟨h1, h2, h3, h4, h5⟩, h6, h7⟩ := e1
  have hw0 := hT.w0
  unfold WS.bit AS.bit
  generalize s.turn a b = u at *
  generalize t.turn a b = v at *
  rw [h2]
  split
  · rename_i hw
    obtain ⟨m1, m2⟩ := h5.move (by omega) (by omega) (by omega)
    rw [move_sh]
    refine ⟨by dsimp only; rw [move_l, h1], rfl, by dsimp only; rw [move_n, h3], ?_, ?_⟩
    · unfold WS.V at m2 ⊢; dsimp only; unfold WS.V at h4; rw [m2, h4]
    · obtain ⟨k1, k2, k3, k4, k5, k6⟩ := m1
      exact ⟨k1, k2, k3, k4, k5, k6⟩
  · exact ⟨h1, h2, h3, h4, h5⟩
theorem encTo_aTo_m (c : Int) (s : WS) (t : AS) : ∀ j, (encTo c s j).2 = (aTo c t j).2
  | 0 => rfl
  | j + 1 => by rw [encTo, aTo]; dsimp only; rw [encTo_aTo_m c s t j]
theorem encTo_aTo (c : Int) {s : WS} {t : AS} {n : Nat} (h : WA s t) (ho : WOk s n) (ht : AOk t) : ∀ j, j ≤ 8 → WA (encTo c s j).1 (aTo c t j).1
  | 0, _ => h
  | j + 1, hj => by
    obtain ⟨n', _, _, ho'⟩ := encTo_ok c ho j (by omega)
    rw [encTo, aTo]
    dsimp only
    rw [encTo_aTo_m c s t j]
    exact (encTo_aTo c h ho ht j (by omega)).bit ho' (aTo_ok c ht j (by omega)) (aTo_m8 c t (by omega)) _
theorem W0_A0 : WA W0 A0 := ⟨rfl, rfl, rfl, by decide, ⟨by decide, fun x hx => (by cases hx), by decide, by decide, by decide, by decide⟩⟩
theorem encAll_aAll (b : List Int) : ∀ i, WA (encAll b i) (aAll b i)
  | 0 => W0_A0
  | i + 1 => by
    obtain ⟨n', _, _, ho'⟩ := encAll_ok b i
    exact encTo_aTo _ (encAll_aAll b i) ho' (aAll_ok b i) 8 (by omega)
theorem moves_V {s : WS} (h : WV s 1) (hl : s.lo + 1 < 8589934592) : ∀ i, WV (moves s i) 1 ∧ (moves s i).lo + 1 < 8589934592 ∧ (moves s i).V = s.V * 256 ^ i
  | 0 => ⟨h, hl, by simp [moves]⟩
  | i + 1 => by
    obtain ⟨h1, h2, h3⟩ := moves_V h hl i
    obtain ⟨m1, m2⟩ := h1.move (by decide) (by decide) h2
    rw [moves]
    obtain ⟨k1, k2, k3, k4, k5, k6⟩ := m1
    exact ⟨⟨k1, k2, k3, k4, k5, by omega⟩, by rw [move_lo]; omega, by rw [m2, h3, Int.pow_succ, Int.mul_assoc]⟩
theorem rput_spec (b : List Int) : Oct (rput b) ∧ (rput b).length = (aAll b b.length).n + 4 ∧ val (rput b) = (aAll b b.length).V := by
  have hA := encAll_aAll b b.length
  have ht := aAll_ok b b.length
  obtain ⟨n, _, _, ho⟩ := encAll_ok b b.length
  unfold rput
  generalize encAll b b.length = s at *
  generalize aAll b b.length = t at *
  obtain ⟨h1, h2, h3, h4, h5⟩ := hA
  have o1 := ho.l0
  have o2 := ho.l1
  have o3 := ho.w0
  have w0 := ht.w0
  have hv1 : WV s 1 := by
    obtain ⟨g1, g2, g3, g4, g5, g6⟩ := h5
    exact ⟨g1, g2, g3, g4, g5, by omega⟩
  obtain ⟨m1, m2, m3⟩ := moves_V hv1 (by omega) 4
  have hM := (moves_ok ho.m 4).n
  have hlo : (moves s 4).lo = 0 := by
    simp only [moves, move_lo]
    omega
  rw [show moves s 5 = (moves s 4).move from rfl]
  generalize moves s 4 = q at *
  obtain ⟨k1, k2⟩ := m1.move (by decide) (by decide) m2
  have hn := move_n q
  have hq : q.move.be = 1 ∧ q.move.ca = 0 ∧ q.move.lo = 0 := by
    unfold WS.move
    rw [if_pos (.inl (by rw [hlo]; decide))]
    dsimp only
    rw [hlo]
    decide
  obtain ⟨e1, e2, e3⟩ := hq
  refine ⟨k1.o, by have := ho.n; omega, ?_⟩
  rw [m3, h4] at k2
  unfold WS.V at k2
  rw [e1, e2, e3] at k2
  simp only [Nat.sub_self, Int.pow_zero, Int.mul_one] at k2
  have : (256 : Int) ^ 4 = 4294967296 := rfl
  omega
end Go.Proofs.Yteocmeidkdhmiaa.Pv
