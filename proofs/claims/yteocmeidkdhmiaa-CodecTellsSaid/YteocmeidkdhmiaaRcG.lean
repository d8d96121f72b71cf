-- rc: what a number that is laid tells (plain).
import Derived.Test.YteocmeidkdhmiaaRcF
namespace Go.Proofs.Yteocmeidkdhmiaa.Pv
set_option linter.all false
open Go.RowKit Go.Proofs
/-- A number, of bytes, the highest one first. -/
def val : List Int → Int
  | [] => 0
  | x :: l => x * 256 ^ l.length + val l
theorem val_append (a b : List Int) : val (a ++ b) = val a * 256 ^ b.length + val b := by
  induction a with
  | nil => simp [val]
  | cons x a ih =>
    simp only [List.cons_append, val, ih, List.length_append]
    rw [Int.pow_add, Int.add_mul, Int.mul_assoc, Int.add_assoc]
theorem val_one (x : Int) : val [x] = x := by simp [val]
theorem val_snoc (a : List Int) (x : Int) : val (a ++ [x]) = val a * 256 + x := by rw [val_append, val_one]; simp
theorem p256 (n : Nat) : (0 : Int) < 256 ^ n := Int.pow_pos (by decide)
theorem val_in {l : List Int} (h : Oct l) : 0 ≤ val l ∧ val l < 256 ^ l.length := by
  induction l with
  | nil => simp [val]
  | cons x l ih =>
    have hx := h x (by simp)
    obtain ⟨h0, h1⟩ := ih fun y hy => h y (by simp [hy])
    have hp := p256 l.length
    have hm := Int.mul_nonneg hx.1 (Int.le_of_lt hp)
    have hm2 : x * 256 ^ l.length ≤ 255 * 256 ^ l.length := Int.mul_le_mul_of_nonneg_right (by omega) (Int.le_of_lt hp)
    simp only [val, List.length_cons, Int.pow_succ]
    omega
theorem val_inj : ∀ {a b : List Int}, Oct a → Oct b → a.length = b.length → val a = val b → a = b
  | [], [], _, _, _, _ => rfl
  | [], _ :: _, _, _, h, _ => by simp at h
  | _ :: _, [], _, _, h, _ => by simp at h
  | x :: a, y :: b, ha, hb, hl, hv => by
    have hl' : a.length = b.length := by simpa using hl
    have hx := ha x (by simp)
    have hy := hb y (by simp)
    obtain ⟨a0, a1⟩ := val_in fun z hz => ha z (List.mem_cons_of_mem x hz)
    obtain ⟨b0, b1⟩ := val_in fun z hz => hb z (List.mem_cons_of_mem y hz)
    simp only [val, hl'] at hv
    rw [hl'] at a1
    have hp := p256 b.length
    have hxy : x = y := by
      rcases Int.lt_trichotomy x y with h | h | h
      · have := Int.mul_le_mul_of_nonneg_right (show x + 1 ≤ y by omega) (Int.le_of_lt hp)
        rw [Int.add_mul, Int.one_mul] at this
        omega
      · exact h
      · have := Int.mul_le_mul_of_nonneg_right (show y + 1 ≤ x by omega) (Int.le_of_lt hp)
        rw [Int.add_mul, Int.one_mul] at this
        omega
    subst hxy
    rw [val_inj (fun z hz => ha z (by simp [hz])) (fun z hz => hb z (by simp [hz])) hl' (by omega)]
theorem val_rep (n : Nat) : val (List.replicate n 255) = 256 ^ n - 1 := by
  induction n with
  | zero => simp [val]
  | succ n ih => rw [List.replicate_succ, val, ih, List.length_replicate, Int.pow_succ]; omega
theorem val_rep0 (n : Nat) : val (List.replicate n 0) = 0 := by
  induction n with
  | zero => simp [val]
  | succ n ih => rw [List.replicate_succ, val, ih]; simp
/-- What is told: likelihoods, a width, a number, of how many bytes more than 4. -/
structure AS where
  l : List Int
  wd : Int
  V : Int
  n : Nat
def AS.turn (s : AS) (a : Nat) (b : Int) : AS := ⟨s.l.set a (learn (s.l.getD a 0) b), if b = 0 then part s.l s.wd a else s.wd - part s.l s.wd a, if b = 0 then s.V else s.V + part s.l s.wd a, s.n⟩
def AS.bit (s : AS) (a : Nat) (b : Int) : AS := if (s.turn a b).wd < 16777216 then ⟨(s.turn a b).l, (s.turn a b).wd * 256, (s.turn a b).V * 256, (s.turn a b).n + 1⟩ else s.turn a b
def aTo (c : Int) (s : AS) : Nat → AS × Nat
  | 0 => (s, 1)
  | j + 1 => ((aTo c s j).1.bit (aTo c s j).2 (bitOf c j), 2 * (aTo c s j).2 + (bitOf c j).toNat)
def A0 : AS := ⟨P0, 4294967295, 0, 1⟩
def aAll (b : List Int) : Nat → AS
  | 0 => A0
  | i + 1 => (aTo (b.getD i 0) (aAll b i) 8).1
structure AOk (t : AS) : Prop where
  lik : Lik t.l
  w0 : 16777216 ≤ t.wd
  w1 : t.wd < 4294967296
  v0 : 0 ≤ t.V
  n : 1 ≤ t.n
  v1 : t.V + t.wd ≤ 256 ^ (t.n - 1) * 4294967296
theorem part_b {l : List Int} {wd : Int} (a : Nat) (h : Lik l) (ha : a < 256) (h0 : 16777216 ≤ wd) (h1 : wd < 4294967296) : 253952 ≤ part l wd a ∧ 253952 ≤ wd - part l wd a := by
  obtain ⟨hp0, hp1⟩ := h.2 a ha
  obtain ⟨q0, q1, q2⟩ := part_in (by omega) h1 hp0 hp1
  omega
structure ATn (t : AS) : Prop where
  lik : Lik t.l
  w0 : 253952 ≤ t.wd
  w1 : t.wd < 4294967296
  v0 : 0 ≤ t.V
  n : 1 ≤ t.n
  v1 : t.V + t.wd ≤ 256 ^ (t.n - 1) * 4294967296
theorem AOk.turn {t : AS} (h : AOk t) {a : Nat} (ha : a < 256) (b : Int) : ATn (t.turn a b) := by
  obtain ⟨q0, q1⟩ := part_b a h.lik ha h.w0 h.w1
  have h1 := h.w1
  have h2 := h.v0
  have h3 := h.v1
  have h4 := h.n
  have hl := lik_set h.lik a b
  unfold AS.turn
  generalize part t.l t.wd a = p at *
  refine ⟨hl, ?_, ?_, ?_, h4, ?_⟩ <;> dsimp only <;> split <;> omega
theorem AOk.bit {t : AS} (h : AOk t) {a : Nat} (ha : a < 256) (b : Int) : AOk (t.bit a b) := by
  obtain ⟨h1, h2, h3, h4, h5, h6⟩ := h.turn ha b
  unfold AS.bit
  generalize t.turn a b = s at *
  split
  · rename_i hw
    have hp : (256 : Int) ^ (s.n + 1 - 1) = 256 ^ (s.n - 1) * 256 := by rw [← Int.pow_succ]; congr 1; omega
    refine ⟨h1, by dsimp only; omega, by dsimp only; omega, by dsimp only; omega, by dsimp only; omega, ?_⟩
    dsimp only
    rw [hp]
    generalize (256 : Int) ^ (s.n - 1) = q at *
    omega
  · rename_i hw
    exact ⟨h1, by omega, h3, h4, h5, h6⟩
theorem aTo_m (c : Int) (s : AS) : ∀ j, 2 ^ j ≤ (aTo c s j).2 ∧ (aTo c s j).2 < 2 ^ (j + 1)
  | 0 => by simp [aTo]
  | j + 1 => by
    have ih := aTo_m c s j
    have := bitOf_in c j
    rw [aTo, Nat.pow_succ, Nat.pow_succ]
    rw [Nat.pow_succ] at ih
    simp only
    omega
theorem aTo_m8 (c : Int) (s : AS) {j : Nat} (h : j < 8) : (aTo c s j).2 < 256 := by
  have := (aTo_m c s j).2
  have h2 : 2 ^ (j + 1) ≤ 2 ^ 8 := Nat.pow_le_pow_right (by decide) h
  omega
theorem aTo_ok (c : Int) {s : AS} (h : AOk s) : ∀ j, j ≤ 8 → AOk (aTo c s j).1
  | 0, _ => h
  | j + 1, hj => (aTo_ok c h j (by omega)).bit (aTo_m8 c s (by omega)) (bitOf c j)
theorem A0_ok : AOk A0 := ⟨lik_P0, by decide, by decide, by decide, by decide, by decide⟩
theorem aAll_ok (b : List Int) : ∀ i, AOk (aAll b i)
  | 0 => A0_ok
  | i + 1 => aTo_ok _ (aAll_ok b i) 8 (by omega)
/-- What the writer holds, as a number. -/
def WS.V (s : WS) : Int := (val s.out * 256 + s.ca + 1) * 256 ^ (s.be - 1) * 4294967296 - 4294967296 + s.lo
structure WV (s : WS) (w : Int) : Prop where
  be : 1 ≤ s.be
  o : Oct s.out
  c0 : 0 ≤ s.ca
  c1 : s.ca < 256
  l0 : 0 ≤ s.lo
  star : s.V + w ≤ (val s.out + 1) * 256 ^ s.be * 4294967296
theorem flush_oct {ca c : Int} (n : Nat) : Oct (flush ca c n) := by
  cases n with
  | zero => intro x hx; cases hx
  | succ n =>
    intro x hx
    rcases List.mem_cons.1 hx with rfl | hx
    · omega
    · rw [List.eq_of_mem_replicate hx]; omega
theorem WV.move {s : WS} {w : Int} (h : WV s w) (hw0 : 1 ≤ w) (hw1 : w ≤ 16777216) (hl : s.lo + w < 8589934592) : WV s.move (w * 256) ∧ s.move.V = s.V * 256 := by
  obtain ⟨h1, h2, h3, h4, h5, h6⟩ := h
  obtain ⟨k, hk⟩ : ∃ k, s.be = k + 1 := ⟨s.be - 1, by omega⟩
  unfold WS.V at *
  have hp := p256 k
  rw [hk, Nat.add_sub_cancel] at h6 ⊢
  rw [Int.pow_succ, ← Int.mul_assoc (val s.out + 1)] at h6
  unfold WS.move
  split
  · rename_i hc
    dsimp only
    rw [hk]
    generalize hcc : s.lo / 4294967296 = c at *
    have hc01 : c = 0 ∨ c = 1 := by omega
    have hca : c = 1 → s.ca ≤ 254 := by
      intro h
      by_cases hca : s.ca = 255
      · rw [hca] at h6
        have e : (val s.out * 256 + 255 + 1) * 256 ^ k = (val s.out + 1) * 256 ^ k * 256 := by
          rw [show val s.out * 256 + 255 + 1 = (val s.out + 1) * 256 by omega, Int.mul_assoc, Int.mul_comm 256, ← Int.mul_assoc]
        rw [e] at h6
        omega
      · omega
    have hv : val (s.out ++ flush s.ca c (k + 1)) = (val s.out * 256 + s.ca + 1) * 256 ^ k - 1 + c := by
      rw [val_append, flush_length, flush, val, List.length_replicate, Int.pow_succ, ← Int.mul_assoc]
      have e : (val s.out * 256 + s.ca + 1) * 256 ^ k = val s.out * 256 ^ k * 256 + s.ca * 256 ^ k + 256 ^ k := by
        rw [Int.add_mul, Int.add_mul, Int.one_mul, Int.mul_assoc (val s.out), Int.mul_comm 256, ← Int.mul_assoc]
      rw [e]
      rcases hc01 with rfl | rfl
      · rw [show (s.ca + 0) % 256 = s.ca by omega, show ((255 : Int) + 0) % 256 = 255 by decide, val_rep]
        omega
      · rw [show (s.ca + 1) % 256 = s.ca + 1 by have := hca rfl; omega, show ((255 : Int) + 1) % 256 = 0 by decide, val_rep0, Int.add_mul, Int.one_mul]
        omega
    generalize (val s.out * 256 + s.ca + 1) * 256 ^ k = K at *
    refine ⟨⟨Nat.le_refl _, oct_append h2 (flush_oct _), by dsimp only; omega, by dsimp only; omega, by dsimp only; omega, ?_⟩, ?_⟩
    · unfold WS.V
      dsimp only
      rw [hv]
      simp only [Nat.sub_self, Int.pow_zero, Int.mul_one, Int.pow_one]
      rcases hc01 with rfl | rfl <;> omega
    · simp only [Nat.sub_self, Int.pow_zero, Int.mul_one]
      rw [hv]
      rcases hc01 with rfl | rfl <;> omega
  · rename_i hc
    dsimp only
    rw [hk]
    have e1 : (256 : Int) ^ (k + 1 + 1 - 1) = 256 ^ k * 256 := by rw [Nat.add_sub_cancel, Int.pow_succ]
    have e2 : (256 : Int) ^ (k + 1 + 1) = 256 ^ k * 256 * 256 := by rw [Int.pow_succ, Int.pow_succ]
    refine ⟨⟨by dsimp only; omega, h2, h3, h4, by dsimp only; omega, ?_⟩, ?_⟩
    · unfold WS.V
      dsimp only
      rw [e1, e2, ← Int.mul_assoc, ← Int.mul_assoc (val s.out + 1), ← Int.mul_assoc]
      generalize (val s.out * 256 + s.ca + 1) * 256 ^ k = K at *
      generalize (val s.out + 1) * 256 ^ k = M at *
      omega
    · rw [e1, ← Int.mul_assoc]
      generalize (val s.out * 256 + s.ca + 1) * 256 ^ k = K at *
      omega
end Go.Proofs.Yteocmeidkdhmiaa.Pv
