-- lz: the decoder, token by token.
import Derived.Test.YteocmeidkdhmiaaLzI
namespace Go.Proofs.Yteocmeidkdhmiaa.Pv
set_option linter.all false
open Go.RowKit Go.Proofs
theorem unit1_tok (n : Int) (go : List Int → List Int → Int → Nat → List Int × Int) (t : Tok) (bs out : List Int) (fl : Int) (many : Nat) (ht : TokOk out t) (hn : ((expand [t] out).length : Int) ≤ n) :
    unit1 n go (t.body ++ bs) out (t.bit + 2 * fl) many = go bs (expand [t] out) fl (many + 1) := by
  cases t with
  | lit x =>
    show unit1 n go ([x] ++ bs) out (0 + 2 * fl) many = go bs (out ++ [x]) fl (many + 1)
    have c1 : ¬ ((([x] ++ bs).length : Int) < (0 + 2 * fl) % 2 + 1) := by simp only [List.length_append, List.length_singleton]; omega
    unfold unit1
    rw [if_neg c1, if_pos (show (0 + 2 * fl) % 2 = 0 by omega)]
    simp [show 2 * fl / 2 = fl by omega]
  | pair f m =>
    obtain ⟨h1, h2, h3, h4, h5⟩ := ht
    have hr : (expand [.pair f m] out).length = out.length + m := by simp [expand, rep_length]
    rw [hr] at hn
    obtain ⟨e1, e2⟩ := pair_far f m bs ⟨h1, h2⟩ ⟨h4, h5⟩
    show unit1 n go (pairOf f m ++ bs) out (1 + 2 * fl) many = go bs (rep f m out) fl (many + 1)
    have c1 : ¬ (((pairOf f m ++ bs).length : Int) < (1 + 2 * fl) % 2 + 1) := by simp only [List.length_append, show (pairOf f m).length = 2 from rfl]; omega
    unfold unit1
    rw [if_neg c1, if_neg (show ¬ (1 + 2 * fl) % 2 = 0 by omega), if_neg (by rw [e1, e2]; omega)]
    rw [e1, e2]
    simp [pairOf, show (1 + 2 * fl) / 2 = fl by omega]
theorem unit1_short (n : Int) (go : List Int → List Int → Int → Nat → List Int × Int) (t : Tok) (b out : List Int) (fl : Int) (many : Nat) (h : b.length < t.body.length) :
    unit1 n go b out (t.bit + 2 * fl) many = ([], 3) := by
  unfold unit1
  rw [if_pos]
  cases t with
  | lit x => simp only [Tok.bit, Tok.body, List.length_singleton] at h ⊢; omega
  | pair f m => simp only [Tok.bit, Tok.body, show (pairOf f m).length = 2 from rfl] at h ⊢; omega
theorem tok_cov (t : Tok) (out : List Int) (h : TokOk out t) : out.length < (expand [t] out).length := by
  cases t with
  | lit x => simp [expand]
  | pair f m => have := h.2.2.2; simp [expand, rep_length]; omega
theorem expand_cons (t : Tok) (ts : List Tok) (out : List Int) : expand (t :: ts) out = expand ts (expand [t] out) := by
  cases t <;> rfl
theorem dec_all (n : Nat) : ∀ (ts : List Tok) (q : Nat) (out : List Int) (r : Nat) (fl : Int) (many : Nat) (more : List Int), ToksOk ts out → (expand ts out).length = n → r ≤ 7 → many % 8 = (8 - r) % 8 → (r = 0 ∨ fl = (encR ts r).1) → n ≤ out.length + q →
    backF n q ((encR ts r).2 ++ more) out fl many = fin more (expand ts out)
  | [], q, out, r, fl, many, more, hok, hn, hr, hm, hf, hq => by
    rw [backF_end (by rw [expand] at hn; omega)]
    simp [encR, expand]
  | t :: ts, q, out, r, fl, many, more, hok, hn, hr, hm, hf, hq => by
    rw [expand_cons] at hn ⊢
    have h1 := tok_cov t out hok.1
    have h2 := expand_len ts (expand [t] out)
    obtain ⟨q, rfl⟩ : ∃ p, q = p + 1 := ⟨q - 1, by omega⟩
    cases r with
    | zero =>
      rw [backF, if_neg (by omega), if_pos (by omega), if_neg (by simp [encR]; omega)]
      simp only [encR, List.cons_append, List.drop_succ_cons, List.drop_zero, List.getD_cons_zero, List.append_assoc]
      rw [unit1_tok _ _ t _ _ _ _ hok.1 (by omega)]
      exact dec_all n ts q _ 7 _ _ more hok.2 hn (by omega) (by omega) (.inr rfl) (by omega)
    | succ r =>
      obtain rfl := hf.resolve_left (by omega)
      rw [backF, if_neg (by omega), if_neg (by omega)]
      simp only [encR, List.append_assoc]
      rw [unit1_tok _ _ t _ _ _ _ hok.1 (by omega)]
      exact dec_all n ts q _ r _ _ more hok.2 hn (by omega) (by omega) (.inr rfl) (by omega)
theorem dec_cut (n : Nat) : ∀ (ts : List Tok) (q : Nat) (out : List Int) (r : Nat) (fl : Int) (many cut : Nat), ToksOk ts out → (expand ts out).length = n → r ≤ 7 → many % 8 = (8 - r) % 8 → (r = 0 ∨ fl = (encR ts r).1) → n ≤ out.length + q → cut < (encR ts r).2.length →
    backF n q ((encR ts r).2.take cut) out fl many = ([], 3)
  | [], q, out, r, fl, many, cut, hok, hn, hr, hm, hf, hq, hc => by simp [encR] at hc
  | t :: ts, q, out, r, fl, many, cut, hok, hn, hr, hm, hf, hq, hc => by
    rw [expand_cons] at hn
    have h1 := tok_cov t out hok.1
    have h2 := expand_len ts (expand [t] out)
    obtain ⟨q, rfl⟩ : ∃ p, q = p + 1 := ⟨q - 1, by omega⟩
    cases r with
    | zero =>
      rw [backF, if_neg (by omega), if_pos (by omega)]
      cases cut with
      | zero => rw [if_pos (by simp)]
      | succ cut =>
        simp only [encR, List.length_cons, List.length_append] at hc
        rw [if_neg (by simp [encR]; omega)]
        simp only [encR, List.take_succ_cons, List.drop_succ_cons, List.drop_zero, List.getD_cons_zero]
        by_cases hb : cut < t.body.length
        · exact unit1_short _ _ t _ _ _ _ (by rw [List.length_take]; omega)
        · rw [List.take_append, List.take_of_length_le (by omega), unit1_tok _ _ t _ _ _ _ hok.1 (by omega)]
          exact dec_cut n ts q _ 7 _ _ _ hok.2 hn (by omega) (by omega) (.inr rfl) (by omega) (by omega)
    | succ r =>
      obtain rfl := hf.resolve_left (by omega)
      rw [backF, if_neg (by omega), if_neg (by omega)]
      simp only [encR, List.length_append] at hc ⊢
      by_cases hb : cut < t.body.length
      · exact unit1_short _ _ t _ _ _ _ (by rw [List.length_take]; omega)
      · rw [List.take_append, List.take_of_length_le (by omega), unit1_tok _ _ t _ _ _ _ hok.1 (by omega)]
        exact dec_cut n ts q _ r _ _ _ hok.2 hn (by omega) (by omega) (.inr rfl) (by omega) (by omega)
theorem toks_ok (l : List Int) : ∀ (q a : Nat), a ≤ l.length → ToksOk (toks l q a) (l.take a) ∧ covs (toks l q a) ≤ l.length - a ∧ ∀ t ∈ toks l q a, 8 * t.body.length + 1 ≤ 9 * t.cov
  | 0, a, h1 => by rw [toks]; exact ⟨trivial, Nat.zero_le _, by simp⟩
  | q + 1, a, h1 => by
    rw [toks]
    split
    · exact ⟨trivial, Nat.zero_le _, by simp⟩
    · have hf := find_nat l a (by omega)
      split
      · have ih := toks_ok l q (a + 1) (by omega)
        have e : l.take a ++ [l.getD a 0] = l.take (a + 1) := by
          rw [List.take_succ]
          simp [List.getElem?_eq_getElem (show a < l.length by omega)]
        refine ⟨⟨trivial, ?_⟩, ?_, ?_⟩
        · show ToksOk _ (l.take a ++ [l.getD a 0])
          rw [e]; exact ih.1
        · simp only [covs, Tok.cov]; omega
        · intro t ht
          rcases List.mem_cons.mp ht with rfl | ht
          · simp [Tok.body, Tok.cov]
          · exact ih.2.2 t ht
      · rename_i hz
        rcases hf with hf | hf
        · rw [hf] at hz; exact absurd rfl hz
        · have hr := rep_take l a (find l (a : Int)).1 (find l (a : Int)).2 hf.1 hf.2.2.1 (fun i hi => same_eq' l _ a i (by omega)) (find l (a : Int)).2 0 (by omega) (by omega)
          rw [Nat.add_zero] at hr
          have ih := toks_ok l q (a + (find l (a : Int)).2) (by omega)
          refine ⟨⟨⟨by omega, by omega, by rw [List.length_take]; omega, by omega, by omega⟩, ?_⟩, ?_, ?_⟩
          · show ToksOk _ (rep _ _ _)
            rw [hr]; exact ih.1
          · simp only [covs, Tok.cov]; omega
          · intro t ht
            rcases List.mem_cons.mp ht with rfl | ht
            · simp only [Tok.body, Tok.cov, show (pairOf (find l (a : Int)).1 (find l (a : Int)).2).length = 2 from rfl]; omega
            · exact ih.2.2 t ht
theorem back_put (l more : List Int) (h : l.length ≤ 65536) : back (put l ++ more) l.length = fin more l := by
  have e := expand_toks l l.length 0 (by omega) (by omega)
  rw [List.take_zero] at e
  have ok := (toks_ok l l.length 0 (by omega)).1
  rw [List.take_zero] at ok
  rw [back, if_neg (by omega), put_enc, Int.toNat_natCast, dec_all l.length _ _ [] 0 0 0 more ok (by rw [e]) (by omega) (by omega) (.inl rfl) (by simp), e]
theorem back_cut (l : List Int) (cut : Nat) (h : l.length ≤ 65536) (hc : cut < (put l).length) : back ((put l).take cut) l.length = ([], 3) := by
  have e := expand_toks l l.length 0 (by omega) (by omega)
  rw [List.take_zero] at e
  have ok := (toks_ok l l.length 0 (by omega)).1
  rw [List.take_zero] at ok
  rw [put_enc] at hc ⊢
  rw [back, if_neg (by omega), Int.toNat_natCast, dec_cut l.length _ _ [] 0 0 0 cut ok (by rw [e]) (by omega) (by omega) (.inl rfl) (by simp) hc]
theorem put_len (l : List Int) : 8 * (put l).length ≤ 9 * l.length + 7 := by
  have h := toks_ok l l.length 0 (by omega)
  have := encR_len (toks l l.length 0) 0 (by omega) h.2.2
  rw [put_enc]
  omega
theorem encR_bytes : ∀ (ts : List Tok) (r : Nat), r ≤ 7 → (∀ t ∈ ts, Bytes t.body) → Bytes (encR ts r).2
  | [], r, _, _ => by simp [encR, Bytes]
  | t :: ts, 0, h, hb => by
    have h1 := encR_bytes ts 7 (by omega) (fun t ht => hb t (by simp [ht]))
    have h2 := hb t (by simp)
    have h3 := encR_bound ts 7 (by omega)
    have h4 := bit_01 t
    intro x hx
    simp only [encR, List.mem_cons, List.mem_append] at hx
    rcases hx with rfl | hx | hx
    · omega
    · exact h2 x hx
    · exact h1 x hx
  | t :: ts, r + 1, h, hb => by
    have h1 := encR_bytes ts r (by omega) (fun t ht => hb t (by simp [ht]))
    have h2 := hb t (by simp)
    intro x hx
    simp only [encR, List.mem_append] at hx
    rcases hx with hx | hx
    · exact h2 x hx
    · exact h1 x hx
theorem toks_bytes (l : List Int) (hl : Bytes l) : ∀ (q a : Nat), ∀ t ∈ toks l q a, Bytes t.body
  | 0, a => by rw [toks]; simp
  | q + 1, a => by
    rw [toks]
    split
    · simp
    · rename_i ha
      have hf := find_nat l a (by omega)
      split
      · intro t ht
        rcases List.mem_cons.mp ht with rfl | ht
        · intro x hx
          simp only [Tok.body, List.mem_singleton] at hx
          rw [hx]; exact hl.getD a
        · exact toks_bytes l hl q _ t ht
      · rename_i hz
        rcases hf with hf | hf
        · rw [hf] at hz; exact absurd rfl hz
        · intro t ht
          rcases List.mem_cons.mp ht with rfl | ht
          · intro x hx
            simp only [Tok.body, pairOf, List.mem_cons, List.not_mem_nil, or_false] at hx
            omega
          · exact toks_bytes l hl q _ t ht
theorem put_bytes (l : List Int) (hl : Bytes l) : Bytes (put l) := by
  rw [put_enc]
  exact encR_bytes _ 0 (by omega) (toks_bytes l hl _ _)
end Go.Proofs.Yteocmeidkdhmiaa.Pv
