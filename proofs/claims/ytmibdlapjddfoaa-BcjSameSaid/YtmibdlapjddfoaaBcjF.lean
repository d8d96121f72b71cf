-- The jump filter's plain law: words, one by one.
import Derived.Test.YtmibdlapjddfoaaBv
import Derived.Test.YtmibdlapjddfoaaQBcjx1
namespace Go.Proofs.Ytmibdlapjddfoaa.BcjF
open Go.RowKit Go.Proofs.YtmibdlapjddfoaaW.PrintWords Go.Proofs.Ytmibdlapjddfoaa.Bv Go.Proofs.Ytmibdlapjddfoaa.QBcj
def Bytes (l : List Int) : Prop := ∀ x ∈ l, 0 ≤ x ∧ x < 256
theorem Bytes.at {l : List Int} (h : Bytes l) (j : Nat) : 0 ≤ l.getD j 0 ∧ l.getD j 0 < 256 := by
  rw [List.getD_eq_getElem?_getD]
  rcases Nat.lt_or_ge j l.length with hj | hj
  · rw [List.getElem?_eq_getElem hj]
    exact h _ (List.getElem_mem hj)
  · rw [List.getElem?_eq_none hj]
    decide
/-- A word's step: u is the jump's new number. -/
def stepW (u : Nat → Int → Int → Int) (l : List Int) (i : Nat) (x : List Int) : List Int :=
  if l.getD (4 * i + 3) 0 = 20 then (x.set (4 * i) (u i (l.getD (4 * i) 0) (l.getD (4 * i + 1) 0) % 256)).set (4 * i + 1) (u i (l.getD (4 * i) 0) (l.getD (4 * i + 1) 0) / 256) else x
def st (u : Nat → Int → Int → Int) (l : List Int) : Nat → List Int
  | 0 => l
  | i + 1 => stepW u l i (st u l i)
theorem st_length (u : Nat → Int → Int → Int) (l : List Int) (n : Nat) : (st u l n).length = l.length := by
  induction n with
  | zero => rfl
  | succ n ih => unfold st stepW; split <;> simp [ih]
theorem getD_set (x : List Int) (i j : Nat) (v : Int) : (x.set i v).getD j 0 = if i = j ∧ j < x.length then v else x.getD j 0 := by
  simp only [List.getD_eq_getElem?_getD, List.getElem?_set]
  by_cases h : i = j
  · subst h
    by_cases h2 : i < x.length
    · simp [h2]
    · simp [h2]
  · simp [h]
/-- What stands at a place behind n words. -/
theorem st_get (u : Nat → Int → Int → Int) (l : List Int) (n : Nat) (hn : 4 * n ≤ l.length) (j : Nat) :
    (st u l n).getD j 0 = if j < 4 * n ∧ l.getD (4 * (j / 4) + 3) 0 = 20 ∧ j % 4 < 2 then (if j % 4 = 0 then u (j / 4) (l.getD (4 * (j / 4)) 0) (l.getD (4 * (j / 4) + 1) 0) % 256 else u (j / 4) (l.getD (4 * (j / 4)) 0) (l.getD (4 * (j / 4) + 1) 0) / 256) else l.getD j 0 := by
  induction n with
  | zero => rw [if_neg (by omega)]; rfl
  | succ n ih =>
    have ih := ih (by omega)
    unfold st stepW
    have hlen := st_length u l n
    by_cases h20 : l.getD (4 * n + 3) 0 = 20
    · rw [if_pos h20, getD_set, getD_set, ih, List.length_set, hlen]
      by_cases h1 : j = 4 * n + 1
      · subst h1
        rw [if_pos ⟨rfl, by omega⟩]
        have e : (4 * n + 1) / 4 = n := by omega
        rw [e, if_pos ⟨by omega, h20, by omega⟩, if_neg (by omega)]
      · rw [if_neg (by omega)]
        by_cases h0 : j = 4 * n
        · subst h0
          rw [if_pos ⟨rfl, by omega⟩]
          have e : (4 * n) / 4 = n := by omega
          rw [e, if_pos ⟨by omega, h20, by omega⟩, if_pos (by omega)]
        · rw [if_neg (by omega)]
          by_cases hj : j < 4 * n
          · have : j < 4 * (n + 1) := by omega
            simp only [hj, this, true_and]
          · rw [if_neg (by omega)]
            rw [if_neg]
            rintro ⟨h1', h2, h3⟩
            omega
    · rw [if_neg h20, ih]
      by_cases hj : j < 4 * n
      · have : j < 4 * (n + 1) := by omega
        simp only [hj, this, true_and]
      · rw [if_neg (by omega)]
        rw [if_neg]
        rintro ⟨h1', h2, h3⟩
        have e : j / 4 = n := by omega
        rw [e] at h2
        exact h20 h2
theorem st_tail (u : Nat → Int → Int → Int) (l : List Int) (n : Nat) (hn : 4 * n ≤ l.length) (j : Nat) (hj : 4 * n ≤ j) : (st u l n).getD j 0 = l.getD j 0 := by
  rw [st_get u l n hn, if_neg (by omega)]

/-- Numbers -/
theorem or_bytes (a b : Int) (ha : 0 ≤ a) (ha' : a < 256) (hb : 0 ≤ b) (hb' : b < 256) : Go.bits .or .u32 (a % 4294967296) (b % 4294967296 * 256 % 4294967296) = a + 256 * b := by
  rw [or32]
  obtain ⟨a, rfl⟩ := Int.eq_ofNat_of_zero_le ha
  obtain ⟨b, rfl⟩ := Int.eq_ofNat_of_zero_le hb
  have h1 : BitVec.ofInt 32 ((a : Int) % 4294967296) = BitVec.ofNat 32 a := by rw [ofInt_mod32]; exact BitVec.ofInt_natCast ..
  have h2 : BitVec.ofInt 32 ((b : Int) % 4294967296 * 256 % 4294967296) = BitVec.ofNat 32 (b <<< 8) := by
    rw [ofInt_mod32]
    have : (b : Int) % (4294967296 : Int) * (256 : Int) = ((b <<< 8 : Nat) : Int) := by rw [Nat.shiftLeft_eq]; omega
    rw [this]; exact BitVec.ofInt_natCast ..
  rw [h1, h2]
  unfold U
  rw [BitVec.toNat_or, BitVec.toNat_ofNat, BitVec.toNat_ofNat, Nat.mod_eq_of_lt (by omega), Nat.mod_eq_of_lt (by rw [Nat.shiftLeft_eq]; omega), Nat.or_comm, ← Nat.shiftLeft_add_eq_or_of_lt (by omega), Nat.shiftLeft_eq]
  omega
def num (s : Int) (i : Nat) (a b : Int) : Int := (a + 256 * b + s * (i : Int)) % 65536

/-- The program's words. -/
theorem stage_st (f : Int → Int → Int) (s : Int) (hf : ∀ (x : Int) (i : Nat), f x ((i : Int) % 4294967296) % 65536 = (x + s * (i : Int)) % 65536 ∧ 0 ≤ f x ((i : Int) % 4294967296)) (l : List Int) (hl : Bytes l) (n : Nat) (hn : 4 * n ≤ l.length) :
    bcjStage f l n = st (num s) l n := by
  induction n with
  | zero => rfl
  | succ n ih =>
    have ih := ih (by omega)
    unfold bcjStage st bcjStep stepW
    rw [ih, st_tail _ l n (by omega) (4 * n) (by omega), st_tail _ l n (by omega) (4 * n + 1) (by omega), st_tail _ l n (by omega) (4 * n + 3) (by omega)]
    have ha := hl.at (4 * n)
    have hb := hl.at (4 * n + 1)
    rw [or_bytes _ _ ha.1 ha.2 hb.1 hb.2]
    have h := hf (l.getD (4 * n) 0 + 256 * l.getD (4 * n + 1) 0) n
    unfold num
    have e1 : f (l.getD (4 * n) 0 + 256 * l.getD (4 * n + 1) 0) ((n : Int) % 4294967296) % 256 = (l.getD (4 * n) 0 + 256 * l.getD (4 * n + 1) 0 + s * (n : Int)) % 65536 % 256 := by rw [← h.1]; omega
    have e2 : f (l.getD (4 * n) 0 + 256 * l.getD (4 * n + 1) 0) ((n : Int) % 4294967296) / 256 % 256 = (l.getD (4 * n) 0 + 256 * l.getD (4 * n + 1) 0 + s * (n : Int)) % 65536 / 256 := by rw [← h.1]; omega
    rw [e1, e2]
def put (l : List Int) : List Int := st (num 1) l (l.length / 4)
def back (l : List Int) : List Int := st (num (-1)) l (l.length / 4)
theorem Put_f (l : List Int) (hl : Bytes l) (hn : l.length < 140737488355328) : bcj_Put.f l = some (put l) := by
  unfold bcj_Put.f put
  rw [if_pos hn, stage_st bcj_Put.g 1 (fun x i => by unfold bcj_Put.g; constructor <;> omega) l hl _ (by omega)]
theorem Back_f (l : List Int) (hl : Bytes l) (hn : l.length < 140737488355328) : bcj_Back.f l = some (back l) := by
  unfold bcj_Back.f back
  rw [if_pos hn, stage_st bcj_Back.g (-1) (fun x i => by unfold bcj_Back.g; constructor <;> omega) l hl _ (by omega)]
/-- The reference's words. -/
theorem ref_st (s : Int) (hs : s = 1 ∨ s = -1) (l : List Int) (hl : Bytes l) (n : Nat) (hn : 4 * n ≤ l.length) (hL : l.length < 140737488355328) : ref08Stage s l n = st (num s) l n := by
  induction n with
  | zero => rfl
  | succ n ih =>
    have ih := ih (by omega)
    unfold ref08Stage st ref08Step stepW
    rw [ih]
    have ha := hl.at (4 * n)
    have hb := hl.at (4 * n + 1)
    generalize l.getD (4 * n) 0 = a at *
    generalize l.getD (4 * n + 1) 0 = b at *
    have hN : ref08Num s n a b = a + 256 * b + s * ((n : Int) % 65536) + 65536 := by
      unfold ref08Num
      rw [Int.tdiv_eq_ediv_of_nonneg (by omega), show 4 * (n : Int) / 4 = (n : Int) by omega, w64 (x := (n : Int)) (by omega) (by omega), Int.tmod_eq_emod_of_nonneg (by omega)]
      rcases hs with rfl | rfl <;> unfold wrap64 <;> omega
    rw [hN]
    have h0 : 0 ≤ a + 256 * b + s * ((n : Int) % 65536) + 65536 ∧ a + 256 * b + s * ((n : Int) % 65536) + 65536 < 9223372036854775807 := by rcases hs with rfl | rfl <;> omega
    have e0 : (a + 256 * b + s * ((n : Int) % 65536) + 65536) % 65536 = num s n a b := by unfold num; rcases hs with rfl | rfl <;> omega
    generalize a + 256 * b + s * ((n : Int) % 65536) + 65536 = N at *
    rw [Int.tmod_eq_emod_of_nonneg h0.1, Int.tdiv_eq_ediv_of_nonneg h0.1, w64 (x := N / 256) (by omega) (by omega), Int.tmod_eq_emod_of_nonneg (by omega), ← e0]
    rw [show N % 256 % 256 = N % 65536 % 256 by omega, show N / 256 % 256 % 256 = N % 65536 / 256 by omega]
theorem rPut_f (l : List Int) (hl : Bytes l) (hn : l.length < 140737488355328) : carapaceref08_Put.f l = some (put l) := by
  unfold carapaceref08_Put.f carapaceref08_through.f put
  rw [if_pos hn, ref_st 1 (.inl rfl) l hl _ (by omega) hn]
  rfl
theorem rBack_f (l : List Int) (hl : Bytes l) (hn : l.length < 140737488355328) : carapaceref08_Back.f l = some (back l) := by
  unfold carapaceref08_Back.f carapaceref08_through.f back
  rw [if_pos hn, ref_st (-1) (.inr rfl) l hl _ (by omega) hn]
  rfl
/-- Two lists that read alike. -/
theorem ext_getD {x y : List Int} (hl : x.length = y.length) (h : ∀ j, x.getD j 0 = y.getD j 0) : x = y := by
  apply List.ext_getElem hl
  intro j h1 h2
  have := h j
  simpa [List.getD_eq_getElem?_getD, List.getElem?_eq_getElem h1, List.getElem?_eq_getElem h2] using this
theorem st_bytes (s : Int) (l : List Int) (hl : Bytes l) (n : Nat) (hn : 4 * n ≤ l.length) : Bytes (st (num s) l n) := by
  intro x hx
  obtain ⟨j, hj, rfl⟩ := List.getElem_of_mem hx
  have h := st_get (num s) l n hn j
  rw [List.getD_eq_getElem?_getD, List.getElem?_eq_getElem hj] at h
  have hb := hl.at j
  rw [show (st (num s) l n)[j] = _ from h]
  split
  · split <;> (unfold num; omega)
  · exact hb
theorem put_length (l : List Int) : (put l).length = l.length := st_length _ _ _
theorem back_length (l : List Int) : (back l).length = l.length := st_length _ _ _
theorem there_back (s : Int) (l : List Int) (hl : Bytes l) : st (num (-s)) (st (num s) l (l.length / 4)) (l.length / 4) = l := by
  have hlen := st_length (num s) l (l.length / 4)
  refine ext_getD (by rw [st_length, hlen]) fun j => ?_
  have hg := st_get (num s) l (l.length / 4) (by omega)
  rw [st_get (num (-s)) _ (l.length / 4) (by omega)]
  have e3 : (st (num s) l (l.length / 4)).getD (4 * (j / 4) + 3) 0 = l.getD (4 * (j / 4) + 3) 0 := by
    rw [hg, if_neg (by omega)]
  rw [e3]
  by_cases h : j < 4 * (l.length / 4) ∧ l.getD (4 * (j / 4) + 3) 0 = 20 ∧ j % 4 < 2
  · rw [if_pos h]
    have e0 : (st (num s) l (l.length / 4)).getD (4 * (j / 4)) 0 = num s (j / 4) (l.getD (4 * (j / 4)) 0) (l.getD (4 * (j / 4) + 1) 0) % 256 := by
      rw [hg, show 4 * (j / 4) / 4 = j / 4 by omega, if_pos ⟨by omega, h.2.1, by omega⟩, if_pos (by omega)]
    have e1 : (st (num s) l (l.length / 4)).getD (4 * (j / 4) + 1) 0 = num s (j / 4) (l.getD (4 * (j / 4)) 0) (l.getD (4 * (j / 4) + 1) 0) / 256 := by
      rw [hg, show (4 * (j / 4) + 1) / 4 = j / 4 by omega, if_pos ⟨by omega, h.2.1, by omega⟩, if_neg (by omega)]
    rw [e0, e1]
    have ha := hl.at (4 * (j / 4))
    have hb := hl.at (4 * (j / 4) + 1)
    have hw : num (-s) (j / 4) (num s (j / 4) (l.getD (4 * (j / 4)) 0) (l.getD (4 * (j / 4) + 1) 0) % 256) (num s (j / 4) (l.getD (4 * (j / 4)) 0) (l.getD (4 * (j / 4) + 1) 0) / 256) = l.getD (4 * (j / 4)) 0 + 256 * l.getD (4 * (j / 4) + 1) 0 := by
      unfold num
      rw [Int.neg_mul]
      generalize s * ((j / 4 : Nat) : Int) = q
      omega
    rw [hw]
    split
    · rw [show 4 * (j / 4) = j by omega] at *
      omega
    · rw [show 4 * (j / 4) + 1 = j by omega] at *
      omega
  · rw [if_neg h, hg, if_neg h]
theorem back_put (l : List Int) (hl : Bytes l) : back (put l) = l := by
  unfold back
  rw [put_length]
  exact there_back 1 l hl
theorem put_back (l : List Int) (hl : Bytes l) : put (back l) = l := by
  unfold put
  rw [back_length]
  have := there_back (-1) l hl
  rwa [Int.neg_neg] at this
theorem awake : carapacelaw08_awake.f = some true := by decide +kernel
/-- Are bytes the same? -/
theorem same_l0 (l : List Int) (hn : l.length ≤ 140737488351232) (d : Nat) : ∀ i : Nat, i + d = l.length → Ev (fun k => carapaceref01_Same.l0 k l l (i : Int)) true := by
  induction d with
  | zero =>
    intro i h
    refine Ev.step (f := fun _ => some true) (fun k => ?_) (Ev.now _)
    simp only [carapaceref01_Same.l0]
    rw [if_neg (by omega)]
  | succ d ih =>
    intro i h
    refine Ev.step (fun k => ?_) (ih (i + 1) (by omega))
    simp only [carapaceref01_Same.l0]
    rw [if_pos (by omega), if_pos (by omega), if_pos (by omega), if_pos trivial, w64 (by omega) (by omega)]
    rfl
theorem same_ev (l : List Int) (hn : l.length ≤ 140737488351232) : Ev (fun k => carapaceref01_Same.f k l l) true := by
  refine Ev.congr (fun k => ?_) (same_l0 l hn l.length 0 (by omega))
  unfold carapaceref01_Same.f
  rw [if_pos rfl]
  rfl
end Go.Proofs.Ytmibdlapjddfoaa.BcjF
