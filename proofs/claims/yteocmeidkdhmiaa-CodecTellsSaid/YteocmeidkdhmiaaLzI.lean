-- The plain law of lz: what is put, token by token.
import Derived.Test.YteocmeidkdhmiaaLzF
namespace Go.Proofs.Yteocmeidkdhmiaa.Pv
set_option linter.all false
open Go.RowKit Go.Proofs
inductive Tok where
  | lit (x : Int)
  | pair (far n : Nat)
def Tok.bit : Tok → Int
  | .lit _ => 0
  | .pair _ _ => 1
def Tok.body : Tok → List Int
  | .lit x => [x]
  | .pair f n => pairOf f n
def Tok.cov : Tok → Nat
  | .lit _ => 1
  | .pair _ n => n
/-- Tokens, with room for r in the group that is begun: what is still to come into its flags, and the bytes. -/
def encR : List Tok → Nat → Int × List Int
  | [], _ => (0, [])
  | t :: ts, 0 => (0, (t.bit + 2 * (encR ts 7).1) :: (t.body ++ (encR ts 7).2))
  | t :: ts, r + 1 => (t.bit + 2 * (encR ts r).1, t.body ++ (encR ts r).2)
def toks (l : List Int) : Nat → Nat → List Tok
  | 0, _ => []
  | q + 1, a => if l.length ≤ a then [] else if (find l (a : Int)).1 = 0 then .lit (l.getD a 0) :: toks l q (a + 1) else .pair (find l (a : Int)).1 (find l (a : Int)).2 :: toks l q (a + (find l (a : Int)).2)
theorem encR_bound : ∀ (ts : List Tok) (r : Nat), r ≤ 7 → 0 ≤ (encR ts r).1 ∧ (encR ts r).1 < 2 ^ r
  | [], r, _ => by simp only [encR]; exact ⟨Int.le_refl _, Int.pow_pos (by decide)⟩
  | t :: ts, 0, _ => by simp [encR]
  | t :: ts, r + 1, h => by
    have := encR_bound ts r (by omega)
    have hb : 0 ≤ t.bit ∧ t.bit ≤ 1 := by cases t <;> simp [Tok.bit]
    simp only [encR, Int.pow_succ]
    omega
theorem orBit_add (x : Int) (many : Nat) (h0 : 0 ≤ x) (h1 : x < 2 ^ (many % 8)) : orBit x many = x + 2 ^ (many % 8) := by
  unfold orBit
  rw [show ((many : Int) % 8).toNat = many % 8 by omega]
  have hm : many % 8 < 8 := Nat.mod_lt _ (by decide)
  generalize many % 8 = m at *
  have key : ∀ m : Nat, m < 8 → (1 * (2 : Int) ^ min m 8 % 256 = 2 ^ m ∧ (2 : Int) ^ m ≤ 128 ∧ ((2 : Int) ^ m).toNat = 1 * 2 ^ m) := by decide
  obtain ⟨k1, k2, k3⟩ := key m hm
  rw [k1, or_u8 x (2 ^ m) h0 (by omega) (by omega) (by omega), k3, nat_or_add m x.toNat 1 (by omega)]
  omega
theorem stepOut_new (t : Tok) (out : List Int) (flag many : Nat) (h : many % 8 = 0) : stepOut (t.bit == 1) t.body out flag many = out ++ (t.bit :: t.body) ∧ stepFlag out flag many = out.length := by
  have h' : (many : Int) % 8 = 0 := by omega
  unfold stepOut stepBit stepBase stepFlag
  rw [if_pos h', if_pos h']
  refine ⟨?_, rfl⟩
  cases t with
  | lit x => simp [Tok.bit, Tok.body]
  | pair f n =>
    have hg : (out ++ [(0 : Int)]).getD out.length 0 = 0 := by simp
    have ho := orBit_add 0 many (Int.le_refl _) (by rw [h]; decide)
    rw [h] at ho
    simp [Tok.bit, Tok.body, ho]
theorem stepOut_old (t : Tok) (out : List Int) (flag many : Nat) (h : ¬ many % 8 = 0) (h0 : 0 ≤ out.getD flag 0) (h1 : out.getD flag 0 < 2 ^ (many % 8)) (hf : flag < out.length) : stepOut (t.bit == 1) t.body out flag many = out.set flag (out.getD flag 0 + 2 ^ (many % 8) * t.bit) ++ t.body ∧ stepFlag out flag many = flag := by
  have h' : ¬ (many : Int) % 8 = 0 := by omega
  unfold stepOut stepBit stepBase stepFlag
  rw [if_neg h', if_neg h']
  refine ⟨?_, rfl⟩
  cases t with
  | lit x =>
    have : out.set flag (out.getD flag 0) = out := by
      apply List.ext_getElem?
      intro i
      rw [List.getElem?_set]
      split
      · rename_i e; subst e; simp [hf]
      · rfl
    simp [Tok.bit, Tok.body]
    simpa using this.symm
  | pair f n =>
    have ho := orBit_add (out.getD flag 0) many h0 h1
    simp only [Tok.bit, Tok.body, Int.mul_one]
    rw [← ho]
    rfl
/-- What is put from here on, out of the tokens to come. -/
def encInto (ts : List Tok) (out : List Int) (flag many : Nat) : List Int :=
  if many % 8 = 0 then out ++ (encR ts 0).2
  else out.set flag (out.getD flag 0 + 2 ^ (many % 8) * (encR ts (8 - many % 8)).1) ++ (encR ts (8 - many % 8)).2
def FlagOk (out : List Int) (flag many : Nat) : Prop := ¬ many % 8 = 0 → flag < out.length ∧ 0 ≤ out.getD flag 0 ∧ out.getD flag 0 < 2 ^ (many % 8)
theorem bit_01 (t : Tok) : t.bit = 0 ∨ t.bit = 1 := by cases t <;> simp [Tok.bit]
theorem getD_app_left {a b : List Int} {i : Nat} (h : i < a.length) : (a ++ b).getD i 0 = a.getD i 0 := by simp [List.getD, List.getElem?_append_left h]
theorem set_app_left {a b : List Int} {i : Nat} {x : Int} (h : i < a.length) : (a ++ b).set i x = a.set i x ++ b := by rw [List.set_append, if_pos h]
theorem enc_step (t : Tok) (ts : List Tok) (out : List Int) (flag many : Nat) (hf : FlagOk out flag many) :
    FlagOk (stepOut (t.bit == 1) t.body out flag many) (stepFlag out flag many) (many + 1) ∧
    encInto ts (stepOut (t.bit == 1) t.body out flag many) (stepFlag out flag many) (many + 1) = encInto (t :: ts) out flag many := by
  have hb := bit_01 t
  by_cases h : many % 8 = 0
  · obtain ⟨e1, e2⟩ := stepOut_new t out flag many h
    rw [e1, e2]
    have hg : (out ++ (t.bit :: t.body)).getD out.length 0 = t.bit := by simp
    have hm : (many + 1) % 8 = 1 := by omega
    refine ⟨fun _ => ⟨by simp, by rw [hg]; omega, by rw [hg, hm]; omega⟩, ?_⟩
    unfold encInto
    rw [if_pos h, if_neg (by omega), hg, hm]
    simp [encR]
  · obtain ⟨f1, f2, f3⟩ := hf h
    obtain ⟨e1, e2⟩ := stepOut_old t out flag many h f2 f3 f1
    rw [e1, e2]
    have hg : ∀ X : Int, (out.set flag X ++ t.body).getD flag 0 = X := fun X => by
      rw [getD_app_left (by simpa using f1)]
      simp [f1]
    have hp : (0 : Int) < 2 ^ (many % 8) := Int.pow_pos (by decide)
    have hX : 0 ≤ out.getD flag 0 + 2 ^ (many % 8) * t.bit ∧ out.getD flag 0 + 2 ^ (many % 8) * t.bit < 2 * 2 ^ (many % 8) := by
      rcases hb with hb | hb <;> rw [hb] <;> omega
    by_cases h7 : many % 8 = 7
    · have hm : (many + 1) % 8 = 0 := by omega
      refine ⟨fun h => absurd hm h, ?_⟩
      unfold encInto
      rw [if_pos hm, if_neg h, h7]
      have hz : (encR ts 0).1 = 0 := by cases ts <;> rfl
      simp [encR, hz]
    · have hm : (many + 1) % 8 = many % 8 + 1 := by omega
      refine ⟨fun _ => ⟨by simp; omega, by rw [hg]; exact hX.1, by rw [hg, hm, Int.pow_succ]; omega⟩, ?_⟩
      unfold encInto
      rw [if_neg h, if_neg (by omega), hg, hm]
      obtain ⟨r, hr⟩ : ∃ r, 8 - many % 8 = r + 1 := ⟨7 - many % 8, by omega⟩
      rw [hr, show 8 - (many % 8 + 1) = r by omega]
      rw [set_app_left (by simpa using f1), List.set_set]
      simp only [encR, List.append_assoc]
      congr 2
      rw [Int.pow_succ, Int.mul_add, ← Int.mul_assoc, Int.mul_assoc, Int.add_assoc]
theorem encInto_nil (out : List Int) (flag many : Nat) : encInto [] out flag many = out := by
  unfold encInto
  split
  · simp [encR]
  · simp only [encR, Int.mul_zero, Int.add_zero, List.append_nil]
    apply List.ext_getElem?
    intro i
    rw [List.getElem?_set]
    split
    · rename_i e
      subst e
      split
      · rename_i hf; simp [hf]
      · rename_i hf; simp at hf; simp [hf]
    · rfl
theorem putF_enc (l : List Int) : ∀ (q a : Nat) (out : List Int) (flag many : Nat), FlagOk out flag many → putF l q a out flag many = encInto (toks l q a) out flag many
  | 0, a, out, flag, many, hf => by rw [putF, toks, encInto_nil]
  | q + 1, a, out, flag, many, hf => by
    rw [putF, toks]
    split
    · rw [encInto_nil]
    · split
      · obtain ⟨h1, h2⟩ := enc_step (.lit (l.getD a 0)) (toks l q (a + 1)) out flag many hf
        rw [← h2]
        exact putF_enc l q (a + 1) _ _ _ h1
      · obtain ⟨h1, h2⟩ := enc_step (.pair (find l (a : Int)).1 (find l (a : Int)).2) (toks l q (a + (find l (a : Int)).2)) out flag many hf
        rw [← h2]
        exact putF_enc l q _ _ _ _ h1
theorem put_enc (l : List Int) : put l = (encR (toks l l.length 0) 0).2 := by
  rw [put, putF_enc l l.length 0 [] 0 0 (fun h => absurd rfl h)]
  simp [encInto]
/-- What tokens say, behind what there is. -/
def expand : List Tok → List Int → List Int
  | [], out => out
  | .lit x :: ts, out => expand ts (out ++ [x])
  | .pair f n :: ts, out => expand ts (rep f n out)
theorem rep_take (l : List Int) (a f m : Nat) (hf : 1 ≤ f) (hfa : f ≤ a) (hs : ∀ i, i < m → l.getD (a - f + i) 0 = l.getD (a + i) 0) : ∀ (k j : Nat), j + k = m → a + m ≤ l.length → rep f k (l.take (a + j)) = l.take (a + m)
  | 0, j, h1, _ => by rw [rep]; congr 1; omega
  | k + 1, j, h1, h2 => by
    rw [rep]
    have e : l.take (a + j) ++ [(l.take (a + j)).getD ((l.take (a + j)).length - f) 0] = l.take (a + (j + 1)) := by
      have h3 := hs j (by omega)
      rw [List.length_take, Nat.min_eq_left (by omega), getD_take (by omega), show a + j - f = a - f + j by omega, h3, show a + (j + 1) = (a + j) + 1 by omega, List.take_succ]
      simp [List.getElem?_eq_getElem (show a + j < l.length by omega)]
    rw [e]
    exact rep_take l a f m hf hfa hs k (j + 1) (by omega) h2
theorem same_eq' (l : List Int) (f a i : Nat) (h : i < same l f a) : l.getD (f + i) 0 = l.getD (a + i) 0 := by
  have : ∀ n k, ∀ i, k ≤ i → i < sameN l f a n k → l.getD (f + i) 0 = l.getD (a + i) 0 := by
    intro n
    induction n with
    | zero => intro k i h1 h2; simp only [sameN] at h2; omega
    | succ n ih =>
      intro k i h1 h2
      unfold sameN at h2
      split at h2
      · rename_i h3
        rcases Nat.lt_or_ge k i with h4 | h4
        · exact ih (k + 1) i h4 h2
        · obtain rfl : i = k := by omega
          exact h3.2
      · omega
  exact this 18 0 i (Nat.zero_le _) h
theorem expand_toks (l : List Int) : ∀ (q a : Nat), a ≤ l.length → l.length ≤ a + q → expand (toks l q a) (l.take a) = l
  | 0, a, h1, h2 => by rw [toks, expand, List.take_of_length_le (by omega)]
  | q + 1, a, h1, h2 => by
    rw [toks]
    split
    · rw [expand, List.take_of_length_le (by omega)]
    · have hf := find_nat l a (by omega)
      split
      · rw [expand]
        have e : l.take a ++ [l.getD a 0] = l.take (a + 1) := by
          rw [List.take_succ]
          simp [List.getElem?_eq_getElem (show a < l.length by omega)]
        rw [e]
        exact expand_toks l q (a + 1) (by omega) (by omega)
      · rename_i hz
        rcases hf with hf | hf
        · rw [hf] at hz; exact absurd rfl hz
        · rw [expand]
          have := rep_take l a (find l (a : Int)).1 (find l (a : Int)).2 hf.1 hf.2.2.1 (fun i hi => same_eq' l _ a i (by omega)) (find l (a : Int)).2 0 (by omega) (by omega)
          rw [Nat.add_zero] at this
          rw [this]
          exact expand_toks l q _ (by omega) (by omega)
def covs : List Tok → Nat
  | [] => 0
  | t :: ts => t.cov + covs ts
theorem encR_len : ∀ (ts : List Tok) (r : Nat), r ≤ 7 → (∀ t ∈ ts, 8 * t.body.length + 1 ≤ 9 * t.cov) → 8 * (encR ts r).2.length + r ≤ 9 * covs ts + 7
  | [], r, h, _ => by simp [encR, covs]; omega
  | t :: ts, 0, h, ht => by
    have h1 := encR_len ts 7 (by omega) (fun t h => ht t (by simp [h]))
    have h2 := ht t (by simp)
    simp only [encR, covs, List.length_cons, List.length_append]
    omega
  | t :: ts, r + 1, h, ht => by
    have h1 := encR_len ts r (by omega) (fun t h => ht t (by simp [h]))
    have h2 := ht t (by simp)
    simp only [encR, covs, List.length_append]
    omega
theorem rep_len' (f k : Nat) (out : List Int) : out.length ≤ (rep f k out).length := by rw [rep_length]; omega
theorem expand_len : ∀ (ts : List Tok) (out : List Int), out.length ≤ (expand ts out).length
  | [], out => Nat.le_refl _
  | .lit x :: ts, out => by
    have := expand_len ts (out ++ [x])
    simp only [expand, List.length_append, List.length_singleton] at this ⊢
    omega
  | .pair f n :: ts, out => by
    have := expand_len ts (rep f n out)
    rw [expand]
    exact Nat.le_trans (rep_len' f n out) this
def TokOk (out : List Int) : Tok → Prop
  | .lit x => True
  | .pair f n => 1 ≤ f ∧ f ≤ 4096 ∧ f ≤ out.length ∧ 3 ≤ n ∧ n ≤ 18
def ToksOk : List Tok → List Int → Prop
  | [], _ => True
  | t :: ts, out => TokOk out t ∧ ToksOk ts (expand [t] out)
theorem pair_far (f n : Nat) (bs : List Int) (h : 1 ≤ f ∧ f ≤ 4096) (h2 : 3 ≤ n ∧ n ≤ 18) : farOf (pairOf f n ++ bs) = f ∧ longOf (pairOf f n ++ bs) = n := by
  simp only [farOf, longOf, pairOf, List.cons_append, List.nil_append, List.getD_cons_zero, List.getD_cons_succ]
  omega
end Go.Proofs.Yteocmeidkdhmiaa.Pv
