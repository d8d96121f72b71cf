/- BcjSame: jumps to one place, from any, become the same. For every input; no condition. -/
import Derived.Test.YtmibdlapjddfoaaBcjF
import Derived.Test.YtmibdlapjddfoaaQBcjx3
namespace Go.Proofs.Ytmibdlapjddfoaa.Pure
open Go.RowKit Go.Proofs.YtmibdlapjddfoaaW.PrintWords Go.Proofs.Ytmibdlapjddfoaa.Bv Go.Proofs.Ytmibdlapjddfoaa.BcjF Go.Proofs.Ytmibdlapjddfoaa.QBcj
theorem rdN (x : List Int) (i : Nat) : rd x (i : Int) = x.getD i 0 := by unfold rd; rw [Int.toNat_natCast]
/-- The first m places' jumps stand in b. -/
def Jumps (tgt : Int) (places : List Int) (b : List Int) (m : Nat) : Prop :=
  b.length = 800 ∧ Bytes b ∧ ∀ k, k < m → ∃ q : Nat, places.getD k 0 = (q : Int) ∧ q < 200 ∧ b.getD (4 * q + 3) 0 = 20 ∧ (b.getD (4 * q) 0 + 256 * b.getD (4 * q + 1) 0 + (q : Int)) % 65536 = tgt
theorem set_bytes {l : List Int} (h : Bytes l) (i : Nat) (x : Int) (h0 : 0 ≤ x) (h1 : x < 256) : Bytes (l.set i x) := by
  intro z hz
  rcases List.mem_or_eq_of_mem_set hz with h' | h'
  · exact h z h'
  · subst h'
    exact ⟨h0, h1⟩
theorem Jumps.step {tgt : Int} {places b : List Int} {m : Nat} (h : Jumps tgt places b m) (h0 : 0 ≤ tgt) (h1 : tgt < 65536) (q : Nat) (hq : places.getD m 0 = (q : Int)) (hq2 : q < 200) :
    Jumps tgt places (((b.set (4 * q) ((tgt - (q : Int) + 65536) % 256)).set (4 * q + 1) ((tgt - (q : Int) + 65536) / 256 % 256)).set (4 * q + 3) 20) (m + 1) := by
  obtain ⟨hl, hb, hk⟩ := h
  refine ⟨by simp [hl], set_bytes (set_bytes (set_bytes hb _ _ (by omega) (by omega)) _ _ (by omega) (by omega)) _ _ (by omega) (by omega), fun k hkm => ?_⟩
  have g : ∀ j, (((b.set (4 * q) ((tgt - (q : Int) + 65536) % 256)).set (4 * q + 1) ((tgt - (q : Int) + 65536) / 256 % 256)).set (4 * q + 3) 20).getD j 0 = if j = 4 * q + 3 then 20 else if j = 4 * q + 1 then (tgt - (q : Int) + 65536) / 256 % 256 else if j = 4 * q then (tgt - (q : Int) + 65536) % 256 else b.getD j 0 := by
    intro j
    rw [getD_set, getD_set, getD_set]
    simp only [List.length_set, hl]
    by_cases h3 : j = 4 * q + 3
    · rw [if_pos ⟨h3.symm, by omega⟩, if_pos h3]
    · rw [if_neg (fun h => h3 h.1.symm), if_neg h3]
      by_cases h1' : j = 4 * q + 1
      · rw [if_pos ⟨h1'.symm, by omega⟩, if_pos h1']
      · rw [if_neg (fun h => h1' h.1.symm), if_neg h1']
        by_cases h0' : j = 4 * q
        · rw [if_pos ⟨h0'.symm, by omega⟩, if_pos h0']
        · rw [if_neg (fun h => h0' h.1.symm), if_neg h0']
  rcases Nat.lt_or_ge k m with hlt | hge
  · obtain ⟨p, hp, hp2, h20, hs⟩ := hk k hlt
    refine ⟨p, hp, hp2, ?_, ?_⟩
    · rw [g]
      by_cases e : p = q
      · rw [if_pos (by omega)]
      · rw [if_neg (by omega), if_neg (by omega), if_neg (by omega)]
        exact h20
    · rw [g, g]
      by_cases e : p = q
      · subst e
        rw [if_neg (by omega), if_neg (by omega), if_pos rfl, if_neg (by omega), if_pos rfl]
        omega
      · rw [if_neg (by omega), if_neg (by omega), if_neg (by omega), if_neg (by omega), if_neg (by omega), if_neg (by omega)]
        exact hs
  · obtain rfl : k = m := by omega
    refine ⟨q, hq, hq2, by rw [g, if_pos rfl], ?_⟩
    rw [g, g, if_neg (by omega), if_neg (by omega), if_pos rfl, if_neg (by omega), if_pos rfl]
    omega
theorem put_jump {tgt : Int} {b : List Int} (hl : b.length = 800) (hb : Bytes b) (q : Nat) (hq : q < 200) (h20 : b.getD (4 * q + 3) 0 = 20) (hs : (b.getD (4 * q) 0 + 256 * b.getD (4 * q + 1) 0 + (q : Int)) % 65536 = tgt) :
    (put b).getD (4 * q) 0 = tgt % 256 ∧ (put b).getD (4 * q + 1) 0 = tgt / 256 ∧ (put b).getD (4 * q + 3) 0 = 20 := by
  have g := st_get (num 1) b (b.length / 4) (by omega)
  unfold put
  refine ⟨?_, ?_, ?_⟩
  · rw [g, show 4 * q / 4 = q by omega, if_pos ⟨by omega, h20, by omega⟩, if_pos (by omega)]
    unfold num
    omega
  · rw [g, show (4 * q + 1) / 4 = q by omega, if_pos ⟨by omega, h20, by omega⟩, if_neg (by omega)]
    unfold num
    omega
  · rw [g, if_neg (by omega)]
    exact h20
theorem BcjSame.l1_ev (tgt : Int) (h0 : 0 ≤ tgt) (h1 : tgt < 65536) (places b : List Int) (hn : places.length ≤ 140737488351232) (m : Nat) (hJ : Jumps tgt places b m) (hm : m = min places.length 50) (d : Nat) :
    ∀ i : Nat, i + d = m → Ev (fun k => carapacelaw08_BcjSame.l1 k tgt places true (put b) (i : Int)) true := by
  induction d with
  | zero =>
    intro i h
    have e : Ev (fun k => carapacelaw08_BcjSame.j3 k tgt places true (put b) (i : Int) false) true :=
      Ev.step (f := fun _ => some true) (fun k => by simp only [carapacelaw08_BcjSame.j3]; rw [if_neg (by simp)]) (Ev.now _)
    refine Ev.step (fun k => ?_) e
    simp only [carapacelaw08_BcjSame.l1]
    by_cases hc : (i : Int) < (places.length : Int)
    · rw [if_pos hc, decide_eq_false (by omega)]
    · rw [if_neg hc]
  | succ d ih =>
    intro i h
    obtain ⟨q, hq, hq2, h20, hs⟩ := hJ.2.2 i (by omega)
    obtain ⟨p0, p1, p3⟩ := put_jump hJ.1 hJ.2.1 q hq2 h20 hs
    have hpl := put_length b
    have hbl := hJ.1
    have e : Ev (fun k => carapacelaw08_BcjSame.j3 k tgt places true (put b) (i : Int) true) true := by
      refine Ev.step (fun k => ?_) (ih (i + 1) (by omega))
      have w0 : wrap64 (4 * (q : Int)) = ((4 * q : Nat) : Int) := by rw [w64 (by omega) (by omega)]; omega
      have w1 : wrap64 (((4 * q : Nat) : Int) + 1) = ((4 * q + 1 : Nat) : Int) := by rw [w64 (by omega) (by omega)]; omega
      have w3 : wrap64 (((4 * q : Nat) : Int) + 3) = ((4 * q + 3 : Nat) : Int) := by rw [w64 (by omega) (by omega)]; omega
      have t0 : Int.tmod tgt 256 % 256 = tgt % 256 := by rw [Int.tmod_eq_emod_of_nonneg h0]; omega
      have t1 : IntKind.u16.wrap (Int.tdiv tgt 256) % 256 = tgt / 256 := by
        rw [Int.tdiv_eq_ediv_of_nonneg h0]
        have : IntKind.u16.wrap (tgt / 256) = (tgt / 256) % 65536 := by simp [IntKind.wrap, IntKind.bits, IntKind.signed]
        rw [this]
        omega
      simp only [carapacelaw08_BcjSame.j3]
      rw [if_pos trivial, if_pos (by omega), if_pos (by omega), rdN places i, hq, w0, w1, w3, rdN, rdN, rdN, p0, p1, p3, t0, t1, if_pos (by omega), if_pos (by omega), if_pos rfl, if_pos (by omega), if_pos (by omega), if_pos rfl, if_pos (by omega), if_pos (by omega), if_pos rfl, w64 (by omega) (by omega)]
      rfl
    refine Ev.step (fun k => ?_) e
    simp only [carapacelaw08_BcjSame.l1]
    rw [if_pos (by omega), decide_eq_true (by omega)]
theorem BcjSame.l0_ev (tgt : Int) (h0 : 0 ≤ tgt) (h1 : tgt < 65536) (places : List Int) (hn : places.length ≤ 140737488351232) (d : Nat) :
    ∀ (i : Nat) (b : List Int), i + d = min places.length 50 → Jumps tgt places b i → Ev (fun k => carapacelaw08_BcjSame.l0 k tgt places true b (i : Int)) true := by
  induction d with
  | zero =>
    intro i b h hJ
    have hbl := hJ.1
    have hpl := put_length b
    have e : Ev (fun k => carapacelaw08_BcjSame.j1 k tgt places true b (i : Int) false) true := by
      have h2 := BcjSame.l1_ev tgt h0 h1 places b hn i hJ (by omega) i 0 (by omega)
      refine Ev.step (fun k => ?_) h2
      simp only [carapacelaw08_BcjSame.j1]
      rw [if_neg (by simp), Put_f b hJ.2.1 (by omega), Option.bind_some, if_pos (by omega)]
      rfl
    refine Ev.step (fun k => ?_) e
    simp only [carapacelaw08_BcjSame.l0]
    by_cases hc : (i : Int) < (places.length : Int)
    · rw [if_pos hc, decide_eq_false (by omega)]
    · rw [if_neg hc]
  | succ d ih =>
    intro i b h hJ
    have hbl := hJ.1
    have e : Ev (fun k => carapacelaw08_BcjSame.j1 k tgt places true b (i : Int) true) true := by
      by_cases hneg : places.getD i 0 < 0
      · refine Ev.step (f := fun _ => some true) (fun k => ?_) (Ev.now _)
        simp only [carapacelaw08_BcjSame.j1]
        rw [if_pos trivial, if_pos (by omega), if_pos (by omega), rdN, if_pos hneg]
      by_cases hbig : places.getD i 0 ≥ 200
      · refine Ev.step (f := fun _ => some true) (fun k => ?_) (Ev.now _)
        simp only [carapacelaw08_BcjSame.j1]
        rw [if_pos trivial, if_pos (by omega), if_pos (by omega), rdN, if_neg hneg, if_pos hbig]
      obtain ⟨q, hq⟩ := Int.eq_ofNat_of_zero_le (Int.not_lt.1 hneg)
      have hq2 : q < 200 := by omega
      refine Ev.step (fun k => ?_) (ih (i + 1) _ (by omega) (hJ.step h0 h1 q hq hq2))
      have w0 : wrap64 (4 * (q : Int)) = ((4 * q : Nat) : Int) := by rw [w64 (by omega) (by omega)]; omega
      have w1 : wrap64 (((4 * q : Nat) : Int) + 1) = ((4 * q + 1 : Nat) : Int) := by rw [w64 (by omega) (by omega)]; omega
      have w3 : wrap64 (((4 * q : Nat) : Int) + 3) = ((4 * q + 3 : Nat) : Int) := by rw [w64 (by omega) (by omega)]; omega
      have wf : wrap64 (wrap64 (wrap64 tgt - (q : Int)) + 65536) = tgt - (q : Int) + 65536 := by unfold wrap64; omega
      have t0 : Int.tmod (tgt - (q : Int) + 65536) 256 % 256 = (tgt - (q : Int) + 65536) % 256 := by rw [Int.tmod_eq_emod_of_nonneg (by omega)]; omega
      have t1 : Int.tmod (wrap64 (Int.tdiv (tgt - (q : Int) + 65536) 256)) 256 % 256 = (tgt - (q : Int) + 65536) / 256 % 256 := by
        rw [Int.tdiv_eq_ediv_of_nonneg (by omega), w64 (by omega) (by omega), Int.tmod_eq_emod_of_nonneg (by omega)]
        omega
      have hr : rd places (i : Int) = (q : Int) := by rw [rdN, hq]
      simp only [carapacelaw08_BcjSame.j1]
      rw [if_pos trivial, if_pos (by omega), if_pos (by omega), hr, if_neg (by omega), if_neg (by omega), w0, w1, w3, wf, t0, t1, if_pos (by omega), if_pos (by omega), if_pos (by omega), if_pos (by omega), if_pos (by omega), if_pos (by omega), w64 (by omega) (by omega), Int.toNat_natCast, Int.toNat_natCast, Int.toNat_natCast]
      rfl
    refine Ev.step (fun k => ?_) e
    simp only [carapacelaw08_BcjSame.l0]
    rw [if_pos (by omega), decide_eq_true (by omega)]
theorem BcjSame : carapacelaw08_BcjSame.Pure := by
  intro tgt places ht hm hl hw
  have ht' : 0 ≤ tgt ∧ tgt < 65536 := by
    have h1 : IntKind.u16.min = 0 := rfl
    have h2 : IntKind.u16.max = 65535 := rfl
    simp [Lit.wf] at ht
    omega
  suffices h : Ev (fun k => carapacelaw08_BcjSame.f k tgt places) true from h.rounds
  have h := BcjSame.l0_ev tgt ht'.1 ht'.2 places (by omega) (min places.length 50) 0 (List.replicate 800 0) (by omega) ⟨List.length_replicate, fun x hx => by rw [List.eq_of_mem_replicate hx]; decide, fun k hk => absurd hk (Nat.not_lt_zero _)⟩
  refine Ev.congr (fun k => ?_) h
  unfold carapacelaw08_BcjSame.f
  rw [awake, Option.bind_some, if_pos (by decide)]
  rfl
end Go.Proofs.Ytmibdlapjddfoaa.Pure
