/- CrcBursts: where up to 32 bits, one behind the other, are turned, at least one of them, the sum is another one. For every input; no condition. -/
import Derived.Test.YtmibdlapjddfoaaCrcE
import Derived.Test.YtmibdlapjddfoaaQCrcx3
namespace Go.Proofs.Ytmibdlapjddfoaa.Pure
open Go.RowKit Go.Proofs.YtmibdlapjddfoaaW.PrintWords Go.Proofs.Ytmibdlapjddfoaa.Bv Go.Proofs.Ytmibdlapjddfoaa.CrcF Go.Proofs.Ytmibdlapjddfoaa.CrcE Go.Proofs.Ytmibdlapjddfoaa.QCrc

/-- The lowest i bits. -/
def lowb (T : B32) : Nat → B32
  | 0 => 0#32
  | i + 1 => lowb T i ^^^ (if T.getLsbD i then 1#32 <<< i else 0#32)
theorem lowb_bit (T : B32) (j : Nat) (hj : j < 32) : ∀ i : Nat, i ≤ 32 → (lowb T i).getLsbD j = (decide (j < i) && T.getLsbD j)
  | 0, _ => by simp [lowb]
  | i + 1, hi => by
    have ih := lowb_bit T j hj i (by omega)
    unfold lowb
    rw [BitVec.getLsbD_xor, ih]
    have hb : (1#32 <<< i).getLsbD j = decide (j = i) := by
      rw [BitVec.getLsbD_shiftLeft]
      by_cases h1 : j < i
      · have : ¬ j = i := by omega
        simp [h1, this]
      · by_cases h2 : j = i
        · subst h2
          simp [hj]
        · have h3 : ¬ j - i = 0 := by omega
          simp [BitVec.getLsbD_one, h1, h2, h3]
    cases hT : T.getLsbD i with
    | true =>
      simp only [if_true, hb]
      by_cases h2 : j = i
      · subst h2
        simp [hT]
      · by_cases h1 : j < i
        · have : j < i + 1 := by omega
          simp [h1, h2, this]
        · have : ¬ j < i + 1 := by omega
          simp [h1, h2, this]
    | false =>
      simp only [Bool.false_eq_true, if_false, BitVec.getLsbD_zero, Bool.xor_false]
      by_cases h2 : j = i
      · subst h2
        simp [hT]
      · by_cases h1 : j < i
        · have : j < i + 1 := by omega
          simp [h1, this]
        · have : ¬ j < i + 1 := by omega
          simp [h1, this]
theorem lowb_all (T : B32) : lowb T 32 = T := by
  apply BitVec.eq_of_getLsbD_eq
  intro j hj
  rw [lowb_bit T j hj 32 (by omega)]
  simp [hj]
theorem byte_turn (a : Int) (h0 : 0 ≤ a) (h1 : a < 256) (r : Nat) (hr : r < 8) :
    BitVec.ofInt 32 (Go.bits .xor .u8 a (rd ([1, 2, 4, 8, 16, 32, 64, 128] : List Int) (r : Int))) = BitVec.ofInt 32 a ^^^ (1#32 <<< r) := by
  rw [xor8]
  have ha : BitVec.ofInt 32 a = (BitVec.ofInt 8 a).setWidth 32 := by
    apply U_inj
    rw [U_ofInt32]
    have := U_ofInt8 a
    simp only [U, BitVec.toNat_setWidth] at *
    have := (BitVec.ofInt 8 a).isLt
    omega
  have hb : ∀ v : BitVec 8, BitVec.ofInt 32 (U v) = v.setWidth 32 := by
    intro v
    apply U_inj
    rw [U_ofInt32]
    simp only [U, BitVec.toNat_setWidth]
    have := v.isLt
    omega
  rw [hb, BitVec.setWidth_xor, ← ha]
  congr 1
  have : ∀ q : Nat, q < 8 → (BitVec.ofInt 8 (rd ([1, 2, 4, 8, 16, 32, 64, 128] : List Int) (q : Int))).setWidth 32 = 1#32 <<< q := by decide +kernel
  exact this r hr
theorem set_bytes {l : List Int} (h : Bytes l) (q : Nat) (x y : Int) : Bytes (l.set q (Go.bits .xor .u8 x y)) := by
  intro z hz
  rcases List.mem_or_eq_of_mem_set hz with h' | h'
  · exact h z h'
  · subst h'
    rw [xor8]
    exact ⟨U_lo _, U8_hi _⟩
theorem loop_ev (x0 : List Int) (hx : x0.length ≤ 1000) (at_ : Int) (ha : 0 ≤ at_) (hb : at_ + 32 ≤ 8 * x0.length) (T : B32) (hT : T ≠ 0#32) (S : B32) (hS : S = ~~~ BitVec.ofInt 32 0) (d : Nat) :
    ∀ (i : Nat) (x8 : List Int), i + d = 32 → x8.length = x0.length → Bytes x8 → fold S x8 = fold S x0 ^^^ steps (8 * x0.length - at_.toNat) (lowb T i) →
      Ev (fun k => carapacelaw01_CrcBursts.l0 k x0 at_ (U (T >>> i)) true x8 (i : Int)) true := by
  induction d with
  | zero =>
    intro i x8 hi hl hy hf
    have h32 : i = 32 := by omega
    subst h32
    rw [lowb_all] at hf
    have h1 := Sum_ev x0 (by omega)
    have h2 := Sum_ev x8 (by omega)
    have hne : sum 0 x0 ≠ sum 0 x8 := by
      intro he
      have h := U_inj he
      rw [← hS, hf] at h
      have h3 : fold S x0 = fold S x0 ^^^ steps (8 * x0.length - at_.toNat) T := by
        have := congrArg (fun v => ~~~ v) h
        simpa using this
      have h4 : steps (8 * x0.length - at_.toNat) T = 0#32 := by
        have := congrArg (fun v => fold S x0 ^^^ v) h3
        simpa [← BitVec.xor_assoc] using this.symm
      exact hT (steps_zero h4)
    refine Ev.step (fun k => ?_) (Ev.bind (f := fun k t => (crc_Sum.f k x8).bind fun t1 => some (t != t1)) h1 (Ev.bind (f := fun k t => some (sum 0 x0 != t)) h2 ?_))
    · simp only [carapacelaw01_CrcBursts.l0]
      rw [if_neg (by omega), if_pos trivial]
    · have : (sum 0 x0 != sum 0 x8) = true := by simpa using hne
      simp only [this]
      exact Ev.now _
  | succ d ih =>
    intro i x8 hi hl hy hf
    have hnx : (Int.tdiv (U (T >>> i)) 2) % 4294967296 = U (T >>> (i + 1)) := by
      have := U_lo (T >>> i)
      have h3 := U32_hi (T >>> i)
      rw [Int.tdiv_eq_ediv_of_nonneg this, BitVec.shiftRight_add, ← half32 (T >>> i)]
      omega
    have hod : (Int.tmod (U (T >>> i)) 2 = 1) ↔ T.getLsbD i = true := by
      rw [Int.tmod_eq_emod_of_nonneg (U_lo _)]
      have h5 : (T >>> i).getLsbD 0 = T.getLsbD i := by rw [BitVec.getLsbD_ushiftRight, Nat.add_zero]
      rw [← h5]
      have h6 : (T >>> i).getLsbD 0 = decide ((T >>> i).toNat % 2 = 1) := by simp [BitVec.getLsbD, Nat.testBit_zero]
      rw [h6, decide_eq_true_iff]
      unfold U
      omega
    have hii : wrap64 ((i : Int) + 1) = ((i + 1 : Nat) : Int) := by rw [w64 (by omega) (by omega)]; rfl
    cases hbit : T.getLsbD i with
    | false =>
      have hf' : fold S x8 = fold S x0 ^^^ steps (8 * x0.length - at_.toNat) (lowb T (i + 1)) := by
        rw [hf]
        simp [lowb, hbit]
      refine Ev.step (fun k => ?_) (ih (i + 1) x8 (by omega) hl hy hf')
      simp only [carapacelaw01_CrcBursts.l0]
      rw [if_pos (by omega), if_neg (fun h => by rw [hod, hbit] at h; cases h), hnx, hii]
    | true =>
      have hp : wrap64 (at_ + (i : Int)) = at_ + i := w64 (by omega) (by omega)
      have hq : wrap64 (Int.tdiv (at_ + (i : Int)) 8) = (((at_ + i) / 8).toNat : Int) := by
        rw [Int.tdiv_eq_ediv_of_nonneg (by omega), w64 (by omega) (by omega)]
        omega
      have hr : Int.tmod (at_ + (i : Int)) 8 = (((at_ + i) % 8).toNat : Int) := by
        rw [Int.tmod_eq_emod_of_nonneg (by omega)]
        omega
      generalize hqe : ((at_ + (i : Int)) / 8).toNat = q at *
      generalize hre : ((at_ + (i : Int)) % 8).toNat = r at *
      have hqr : 8 * q + r = at_.toNat + i := by omega
      have hr8 : r < 8 := by omega
      have hql : q < x8.length := by omega
      have hnew := byte_turn x8[q] (hy _ (List.getElem_mem hql)).1 (hy _ (List.getElem_mem hql)).2 r hr8
      have hturn := fold_turn S x8 q hql _ _ hnew
      have hst : steps (8 * (x8.length - q)) (1#32 <<< r) = steps (8 * x0.length - at_.toNat) (1#32 <<< i) := by
        rw [show 8 * (x8.length - q) = r + (8 * x0.length - at_.toNat - i) by omega, steps_add, steps_bit r (by omega)]
        rw [show 8 * x0.length - at_.toNat = i + (8 * x0.length - at_.toNat - i) by omega, steps_add, steps_bit i (by omega)]
        congr 1
        omega
      have hf' : fold S (x8.set q (Go.bits .xor .u8 x8[q] (rd ([1, 2, 4, 8, 16, 32, 64, 128] : List Int) (r : Int)))) = fold S x0 ^^^ steps (8 * x0.length - at_.toNat) (lowb T (i + 1)) := by
        rw [hturn, hf, hst]
        simp only [lowb, hbit, if_true]
        rw [steps_xor, BitVec.xor_assoc]
      refine Ev.step (fun k => ?_) (ih (i + 1) _ (by omega) (by rw [List.length_set]; exact hl) (set_bytes hy q _ _) hf')
      simp only [carapacelaw01_CrcBursts.l0]
      rw [if_pos (by omega), if_pos (hod.2 hbit), hp, hq, hr, if_pos (by omega), if_pos (by omega), Option.bind_some, if_pos (by omega), if_pos (by simp; omega), hnx, hii, rd_lt hql]
      rfl
theorem CrcBursts : carapacelaw01_CrcBursts.Pure := by
  intro l a t hm hl hw ha ht
  have hby : Bytes l := fun x hx => wf_u8 (hw x hx)
  have ha' := wf_i64 ha
  have ht' := wf_u32 ht
  suffices h : Ev (fun k => carapacelaw01_CrcBursts.f k l a t) true from h.rounds
  have hyes : Ev (fun k => carapacelaw01_CrcBursts.j0 k l a t true true) true :=
    Ev.step (f := fun _ => some true) (fun k => by simp only [carapacelaw01_CrcBursts.j0]; rw [if_pos trivial]) (Ev.now _)
  have hun : ∀ k, carapacelaw01_CrcBursts.f k l a t = (if (l.length : Int) > 1000 then (carapacelaw01_CrcBursts.j0 k l a t true true) else (if (l.length : Int) < 4 then (carapacelaw01_CrcBursts.j0 k l a t true true) else (if t = 0 then (carapacelaw01_CrcBursts.j0 k l a t true true) else (if a < 0 then (carapacelaw01_CrcBursts.j0 k l a t true true) else (carapacelaw01_CrcBursts.j0 k l a t true (decide (a > (wrap64 ((wrap64 (8 * (l.length : Int))) - 32)))))))) ) := fun k => rfl
  refine Ev.congr hun ?_
  by_cases h1 : (l.length : Int) > 1000
  · simp only [if_pos h1]
    exact hyes
  by_cases h2 : (l.length : Int) < 4
  · simp only [if_neg h1, if_pos h2]
    exact hyes
  by_cases h3 : t = 0
  · simp only [if_neg h1, if_neg h2, if_pos h3]
    exact hyes
  by_cases h4 : a < 0
  · simp only [if_neg h1, if_neg h2, if_neg h3, if_pos h4]
    exact hyes
  simp only [if_neg h1, if_neg h2, if_neg h3, if_neg h4]
  have hw1 : wrap64 ((wrap64 (8 * (l.length : Int))) - 32) = 8 * (l.length : Int) - 32 := by
    rw [w64 (x := 8 * (l.length : Int)) (by omega) (by omega), w64 (by omega) (by omega)]
  rw [hw1]
  by_cases h5 : a > 8 * (l.length : Int) - 32
  · simp only [h5, decide_true]
    exact hyes
  · simp only [h5, decide_false]
    have hT : BitVec.ofInt 32 t ≠ 0#32 := by
      intro h
      have := congrArg U h
      rw [U_of_range32 ht'.1 ht'.2] at this
      exact h3 this
    have hloop := loop_ev l (by omega) a (by omega) (by omega) (BitVec.ofInt 32 t) hT _ rfl 32 0 l (by omega) rfl hby (by
      have hz : ∀ n, steps n 0#32 = 0#32 := fun n => by
        induction n with
        | zero => rfl
        | succ n ih => exact ih
      simp [lowb, hz])
    have h0 : U (BitVec.ofInt 32 t >>> 0) = t := by
      rw [BitVec.ushiftRight_zero]
      exact U_of_range32 ht'.1 ht'.2
    rw [h0] at hloop
    refine Ev.step (fun k => ?_) hloop
    simp only [carapacelaw01_CrcBursts.j0]
    rw [if_neg (by simp), Option.bind_some, if_pos (by simp; omega)]
    rfl
end Go.Proofs.Ytmibdlapjddfoaa.Pure
