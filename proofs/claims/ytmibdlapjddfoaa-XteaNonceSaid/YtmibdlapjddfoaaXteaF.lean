-- Xtea's plain law.
import Derived.Test.YtmibdlapjddfoaaBv
import Derived.Test.YtmibdlapjddfoaaQXteax4
import Derived.Test.YtmibdlapjddfoaaQXteax5
namespace Go.Proofs.Ytmibdlapjddfoaa.XteaF
open Go.RowKit Go.Proofs.YtmibdlapjddfoaaW.PrintWords Go.Proofs.Ytmibdlapjddfoaa.Bv Go.Proofs.Ytmibdlapjddfoaa.QXtea
theorem awake : carapacelaw02_awake.f = some true := by decide +kernel
def Bytes (l : List Int) : Prop := ∀ x ∈ l, 0 ≤ x ∧ x < 256
theorem Bytes.at {l : List Int} (h : Bytes l) (j : Nat) : 0 ≤ l.getD j 0 ∧ l.getD j 0 < 256 := by
  rw [List.getD_eq_getElem?_getD]
  rcases Nat.lt_or_ge j l.length with hj | hj
  · rw [List.getElem?_eq_getElem hj]
    exact h _ (List.getElem_mem hj)
  · rw [List.getElem?_eq_none hj]
    exact ⟨by decide, by decide⟩
theorem same_l0 (l : List Int) (hn : l.length ≤ 140737488351232) (d : Nat) : ∀ i : Nat, i + d = l.length → Ev (fun k => carapaceref01_Same.l0 k l l (i : Int)) true := by
  induction d with
  | zero =>
    intro i h
    refine Ev.step (f := fun _ => some true) (fun k => ?_) (Ev.now _)
    simp only [carapaceref01_Same.l0]
    rw [if_neg (by omega)]
  | succ d ih =>
    intro i h
    refine Ev.step (fun k => ?_) (ih (i + 1) (by omega))
    simp only [carapaceref01_Same.l0]
    rw [if_pos (by omega), if_pos (by omega), if_pos (by omega), if_pos trivial, w64 (by omega) (by omega)]
    rfl
theorem same_ev (l : List Int) (hn : l.length ≤ 140737488351232) : Ev (fun k => carapaceref01_Same.f k l l) true := by
  refine Ev.congr (fun k => ?_) (same_l0 l hn l.length 0 (by omega))
  unfold carapaceref01_Same.f
  rw [if_pos rfl]
  rfl

/-- A key and a nonce within their ranges. -/
def Fits (a0_0 : Int) (a0_1 : Int) (a0_2 : Int) (a0_3 : Int) (a0_4 : Int) (a0_5 : Int) (a0_6 : Int) (a0_7 : Int) (a0_8 : Int) (a0_9 : Int) (a0_10 : Int) (a0_11 : Int) (a0_12 : Int) (a0_13 : Int) (a0_14 : Int) (a0_15 : Int) (a1_0 : Int) (a1_1 : Int) : Prop := (∀ x ∈ ([a0_0, a0_1, a0_2, a0_3, a0_4, a0_5, a0_6, a0_7, a0_8, a0_9, a0_10, a0_11, a0_12, a0_13, a0_14, a0_15] : List Int), 0 ≤ x ∧ x < 256) ∧ (0 ≤ a1_0 ∧ a1_0 < 4294967296) ∧ (0 ≤ a1_1 ∧ a1_1 < 4294967296)
def W32 (x : Int) : Prop := 0 ≤ x ∧ x < 4294967296
theorem Block_f (a0_0 : Int) (a0_1 : Int) (a0_2 : Int) (a0_3 : Int) (a0_4 : Int) (a0_5 : Int) (a0_6 : Int) (a0_7 : Int) (a0_8 : Int) (a0_9 : Int) (a0_10 : Int) (a0_11 : Int) (a0_12 : Int) (a0_13 : Int) (a0_14 : Int) (a0_15 : Int) (a1_0 : Int) (a1_1 : Int) (h : Fits a0_0 a0_1 a0_2 a0_3 a0_4 a0_5 a0_6 a0_7 a0_8 a0_9 a0_10 a0_11 a0_12 a0_13 a0_14 a0_15 a1_0 a1_1) : xtea_Block.f a0_0 a0_1 a0_2 a0_3 a0_4 a0_5 a0_6 a0_7 a0_8 a0_9 a0_10 a0_11 a0_12 a0_13 a0_14 a0_15 a1_0 a1_1 = some (xtea_blk [xtea_wd a0_0 a0_1 a0_2 a0_3, xtea_wd a0_4 a0_5 a0_6 a0_7, xtea_wd a0_8 a0_9 a0_10 a0_11, xtea_wd a0_12 a0_13 a0_14 a0_15] a1_0 a1_1) := by
  unfold xtea_Block.f
  exact if_pos h
theorem From_f (a0_0 : Int) (a0_1 : Int) (a0_2 : Int) (a0_3 : Int) (a0_4 : Int) (a0_5 : Int) (a0_6 : Int) (a0_7 : Int) (a0_8 : Int) (a0_9 : Int) (a0_10 : Int) (a0_11 : Int) (a0_12 : Int) (a0_13 : Int) (a0_14 : Int) (a0_15 : Int) (a1_0 : Int) (a1_1 : Int) (a2 : Int) (l3 : List Int) (h : Fits a0_0 a0_1 a0_2 a0_3 a0_4 a0_5 a0_6 a0_7 a0_8 a0_9 a0_10 a0_11 a0_12 a0_13 a0_14 a0_15 a1_0 a1_1) (h2 : W32 a2) (hl : l3.length < 140737488355328) : xtea_From.f a0_0 a0_1 a0_2 a0_3 a0_4 a0_5 a0_6 a0_7 a0_8 a0_9 a0_10 a0_11 a0_12 a0_13 a0_14 a0_15 a1_0 a1_1 a2 l3 = some (xtea_out (xtea_kb [xtea_wd a0_0 a0_1 a0_2 a0_3, xtea_wd a0_4 a0_5 a0_6 a0_7, xtea_wd a0_8 a0_9 a0_10 a0_11, xtea_wd a0_12 a0_13 a0_14 a0_15] a1_0 a1_1 a2) l3 l3.length) := by
  unfold xtea_From.f
  rw [if_pos ⟨h.1, h.2.1, h.2.2, h2, hl⟩]
theorem Stream_f (a0_0 : Int) (a0_1 : Int) (a0_2 : Int) (a0_3 : Int) (a0_4 : Int) (a0_5 : Int) (a0_6 : Int) (a0_7 : Int) (a0_8 : Int) (a0_9 : Int) (a0_10 : Int) (a0_11 : Int) (a0_12 : Int) (a0_13 : Int) (a0_14 : Int) (a0_15 : Int) (a1_0 : Int) (a1_1 : Int) (l3 : List Int) (h : Fits a0_0 a0_1 a0_2 a0_3 a0_4 a0_5 a0_6 a0_7 a0_8 a0_9 a0_10 a0_11 a0_12 a0_13 a0_14 a0_15 a1_0 a1_1) (hl : l3.length < 140737488355328) : xtea_Stream.f a0_0 a0_1 a0_2 a0_3 a0_4 a0_5 a0_6 a0_7 a0_8 a0_9 a0_10 a0_11 a0_12 a0_13 a0_14 a0_15 a1_0 a1_1 l3 = some (xtea_out (xtea_kb [xtea_wd a0_0 a0_1 a0_2 a0_3, xtea_wd a0_4 a0_5 a0_6 a0_7, xtea_wd a0_8 a0_9 a0_10 a0_11, xtea_wd a0_12 a0_13 a0_14 a0_15] a1_0 a1_1 0) l3 l3.length) := by
  unfold xtea_Stream.f
  rw [From_f a0_0 a0_1 a0_2 a0_3 a0_4 a0_5 a0_6 a0_7 a0_8 a0_9 a0_10 a0_11 a0_12 a0_13 a0_14 a0_15 a1_0 a1_1 0 l3 h ⟨by decide, by decide⟩ hl]
  rfl
theorem rStream_f (a0_0 : Int) (a0_1 : Int) (a0_2 : Int) (a0_3 : Int) (a0_4 : Int) (a0_5 : Int) (a0_6 : Int) (a0_7 : Int) (a0_8 : Int) (a0_9 : Int) (a0_10 : Int) (a0_11 : Int) (a0_12 : Int) (a0_13 : Int) (a0_14 : Int) (a0_15 : Int) (a1_0 : Int) (a1_1 : Int) (l3 : List Int) : carapaceref02_Stream.f a0_0 a0_1 a0_2 a0_3 a0_4 a0_5 a0_6 a0_7 a0_8 a0_9 a0_10 a0_11 a0_12 a0_13 a0_14 a0_15 a1_0 a1_1 l3 = xtea_Stream.f a0_0 a0_1 a0_2 a0_3 a0_4 a0_5 a0_6 a0_7 a0_8 a0_9 a0_10 a0_11 a0_12 a0_13 a0_14 a0_15 a1_0 a1_1 l3 := rfl
theorem out_get (g : Nat → Int) (l : List Int) (m : Nat) (j : Nat) : (xtea_out g l m)[j]? = if j < m then some (Go.bits .xor .u8 (l.getD j 0) (g j)) else none := by
  unfold xtea_out
  rw [List.getElem?_map]
  by_cases h : j < m
  · rw [if_pos h, List.getElem?_range h]
    rfl
  · rw [if_neg h, List.getElem?_eq_none (by simp; omega)]
    rfl
theorem out_ext {g g' : Nat → Int} {l l' : List Int} {m : Nat} (hg : ∀ j, j < m → g j = g' j) (hl : ∀ j, j < m → l.getD j 0 = l'.getD j 0) : xtea_out g l m = xtea_out g' l' m := by
  refine List.ext_getElem? fun j => ?_
  rw [out_get, out_get]
  by_cases h : j < m
  · rw [if_pos h, if_pos h, hg j h, hl j h]
  · rw [if_neg h, if_neg h]
theorem xor_xor (x g : Int) (hx : 0 ≤ x ∧ x < 256) : Go.bits .xor .u8 (Go.bits .xor .u8 x g) g = x := by
  rw [xor8 (Go.bits .xor .u8 x g), xor8, ofInt_U, BitVec.xor_assoc, BitVec.xor_self, BitVec.xor_zero, U_of_range8 hx.1 hx.2]
theorem out_back (g : Nat → Int) (l : List Int) (hl : Bytes l) : xtea_out g (xtea_out g l l.length) l.length = l := by
  refine List.ext_getElem? fun j => ?_
  rw [out_get]
  by_cases h : j < l.length
  · rw [if_pos h, List.getD_eq_getElem?_getD, out_get, if_pos h, Option.getD_some, xor_xor _ _ (hl.at j), List.getElem?_eq_getElem h, List.getD_eq_getElem?_getD, List.getElem?_eq_getElem h]
    rfl
  · rw [if_neg h, List.getElem?_eq_none (by omega)]
/-- The stream from a block on is that of a nonce more by as much. -/
theorem kb_nonce (ks : List Int) (n0 n1 n2 : Int) (m : Nat) : xtea_kb ks n0 n1 n2 m = xtea_kb ks ((n0 + n2) % 4294967296) n1 0 m := by
  unfold xtea_kb
  rw [show (n0 + (n2 + ((m / 8 : Nat) : Int)) % 4294967296) % 4294967296 = ((n0 + n2) % 4294967296 + (0 + ((m / 8 : Nat) : Int)) % 4294967296) % 4294967296 by omega]
/-- Parted at whole blocks it is the same. -/
theorem kb_part (ks : List Int) (n0 n1 : Int) (i m : Nat) : xtea_kb ks n0 n1 ((i : Int) % 4294967296) m = xtea_kb ks n0 n1 0 (8 * i + m) := by
  unfold xtea_kb
  rw [show (8 * i + m) / 8 = i + m / 8 by omega, show (8 * i + m) / 4 % 2 = m / 4 % 2 by omega, show (8 * i + m) % 4 = m % 4 by omega,
    show ((i : Int) % 4294967296 + ((m / 8 : Nat) : Int)) % 4294967296 = (0 + ((i + m / 8 : Nat) : Int)) % 4294967296 by omega]
theorem out_part (ks : List Int) (n0 n1 : Int) (l : List Int) (i : Nat) (h : 8 * i ≤ l.length) :
    xtea_out (xtea_kb ks n0 n1 0) (l.take (8 * i)) (l.take (8 * i)).length ++ xtea_out (xtea_kb ks n0 n1 ((i : Int) % 4294967296)) (l.drop (8 * i)) (l.drop (8 * i)).length = xtea_out (xtea_kb ks n0 n1 0) l l.length := by
  have hlt : (l.take (8 * i)).length = 8 * i := by rw [List.length_take]; omega
  have hld : (l.drop (8 * i)).length = l.length - 8 * i := List.length_drop
  refine List.ext_getElem? fun j => ?_
  rw [hlt, hld, out_get]
  by_cases h1 : j < 8 * i
  · rw [List.getElem?_append_left (by rw [xtea_out_length]; exact h1), out_get, if_pos h1, if_pos (by omega), List.getD_eq_getElem?_getD, List.getElem?_take, if_pos h1, ← List.getD_eq_getElem?_getD]
  · rw [List.getElem?_append_right (by rw [xtea_out_length]; omega), xtea_out_length, out_get, kb_part, show 8 * i + (j - 8 * i) = j by omega]
    by_cases h2 : j < l.length
    · rw [if_pos (by omega), if_pos h2, List.getD_eq_getElem?_getD, List.getElem?_drop, show 8 * i + (j - 8 * i) = j by omega, ← List.getD_eq_getElem?_getD]
    · rw [if_neg (by omega), if_neg h2]
/-- A block goes back: unlike blocks are unlike by any key. -/
theorem run_inj (ks : List Int) (n : Nat) : ∀ {a b c d : Int}, W32 a → W32 b → W32 c → W32 d → (xtea_run ks a b n).1 = (xtea_run ks c d n).1 → (xtea_run ks a b n).2.1 = (xtea_run ks c d n).2.1 → a = c ∧ b = d := by
  have sums : ∀ (a b c d : Int) (n : Nat), (xtea_run ks a b n).2.2 = (xtea_run ks c d n).2.2 := by
    intro a b c d n
    induction n with
    | zero => rfl
    | succ n ih => unfold xtea_run; simp only [ih]
  have rng : ∀ (a b : Int), W32 a → W32 b → ∀ n, W32 (xtea_run ks a b n).1 ∧ W32 (xtea_run ks a b n).2.1 := by
    intro a b ha hb n
    cases n with
    | zero => exact ⟨ha, hb⟩
    | succ n => exact ⟨⟨Int.emod_nonneg _ (by decide), Int.emod_lt_of_pos _ (by decide)⟩, ⟨Int.emod_nonneg _ (by decide), Int.emod_lt_of_pos _ (by decide)⟩⟩
  induction n with
  | zero => intro a b c d _ _ _ _ h1 h2; exact ⟨h1, h2⟩
  | succ n ih =>
    intro a b c d ha hb hc hd h1 h2
    have hs := sums a b c d n
    have r1 := rng a b ha hb n
    have r2 := rng c d hc hd n
    refine ih ha hb hc hd ?_ ?_
    all_goals
      obtain ⟨x, y, s, hx⟩ : ∃ x y s, xtea_run ks a b n = (x, y, s) := ⟨_, _, _, rfl⟩
      obtain ⟨x', y', s', hx'⟩ : ∃ x y s, xtea_run ks c d n = (x, y, s) := ⟨_, _, _, rfl⟩
      rw [xtea_run_step hx, xtea_run_step hx'] at h1 h2
      simp only [hx, hx'] at hs r1 r2
      simp only at h1 h2
      simp only [hx, hx']
      subst hs
      rw [← h1] at h2
      unfold W32 at r1 r2
      have hy : y = y' := by
        generalize xtea_mx ((x + xtea_mx y s (rd ks (s % 4))) % 4294967296) ((s + 2654435769) % 4294967296) (rd ks ((s + 2654435769) % 4294967296 / 2048 % 4)) = z at h2
        omega
      subst hy
      first
        | rfl
        | (generalize xtea_mx y s (rd ks (s % 4)) = z at h1; omega)
theorem blk_inj (ks : List Int) {a b c d : Int} (ha : W32 a) (hb : W32 b) (hc : W32 c) (hd : W32 d) (h : xtea_blk ks a b = xtea_blk ks c d) : a = c ∧ b = d := by
  unfold xtea_blk at h
  injection h with h1 h2
  exact run_inj ks 32 ha hb hc hd h1 h2
end Go.Proofs.Ytmibdlapjddfoaa.XteaF
