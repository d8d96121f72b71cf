-- AsmLeads.
import Derived.Test.YtjbbomchmacdjaaAsT
namespace Go.Proofs.Ytjbbomchmacdjaa.Pv
set_option linter.all false
open Go.RowKit Go.Proofs
set_option maxRecDepth 100000
set_option maxHeartbeats 8000000
theorem labGo_ext : ∀ (L : List It) (out : List (List Int × Int)) (a : Int), (labGo L out a).2 = 0 → ∃ T, (labGo L out a).1 = out ++ T
  | [], out, a, _ => ⟨[], by simp [labGo]⟩
  | x :: L, out, a, h => by
    rw [labGo] at h ⊢
    by_cases k : x.k = 0
    · rw [if_pos k] at h ⊢
      by_cases f : (findF out x.n).2 = true
      · rw [if_pos f] at h; cases h
      · rw [if_neg f] at h ⊢
        obtain ⟨T, hT⟩ := labGo_ext L _ _ h
        exact ⟨[(x.n, a)] ++ T, by rw [hT, List.append_assoc]⟩
    · rw [if_neg k] at h ⊢
      exact labGo_ext L _ _ h
theorem bGo_ext (labs : List (List Int × Int)) : ∀ (L : List It) (W : List Int) (R : List (Int × Bool)), (bGo labs L W R).2 = 0 → ∃ V T, (bGo labs L W R).1 = (W ++ V, R ++ T)
  | [], W, R, _ => ⟨[], [], by simp [bGo]⟩
  | x :: L, W, R, h => by
    rw [bGo] at h ⊢
    split at h
    · cases h
    · split at h
      · cases h
      · split at h
        · obtain ⟨V, T, hVT⟩ := bGo_ext labs L _ _ h
          rename_i h1 h2 h3
          rw [if_neg h1, if_neg h2, if_pos h3, hVT]
          exact ⟨(layF x (findF labs x.n).1 (4 * W.length)).1.1 ++ V, (layF x (findF labs x.n).1 (4 * W.length)).1.2 ++ T, by rw [List.append_assoc, List.append_assoc]⟩
        · rename_i h3
          exact absurd h h3
theorem of_word' {op a b c imm : Int} (h : rightF (form op) a b c imm) : wordOf op a b c imm / 16777216 = op ∧ wordOf op a b c imm / 1048576 % 16 = a ∧ wordOf op a b c imm / 65536 % 16 = b ∧ wC (wordOf op a b c imm) = c ∧ wI (wordOf op a b c imm) = imm ∧ 0 ≤ wordOf op a b c imm ∧ wordOf op a b c imm < 4294967296 := by
  have hf := right_facts h
  have e1 : wordOf op a b c imm / 16777216 = op := by unfold wordOf; omega
  have e2 : wordOf op a b c imm % 65536 = c + imm % 65536 := by unfold wordOf; omega
  have e3 : wC (wordOf op a b c imm) = c ∧ wI (wordOf op a b c imm) = imm := by
    unfold wC wI
    rw [e1, e2]
    rcases form_cases op with ⟨e, h1⟩ | ⟨e, h1⟩ | ⟨e, h1⟩ | ⟨e, h1⟩ | ⟨e, h1⟩ | ⟨e, h1⟩ | ⟨e, h1⟩ <;> rw [e] at h ⊢ <;> simp [rightF, lo, hi, endsIn] at h ⊢ <;> (try split) <;> omega
  refine ⟨e1, ?_, ?_, e3.1, e3.2, ?_⟩ <;> (unfold wordOf; omega)
theorem of_right {op a b c imm : Int} (h : rightF (form op) a b c imm) : PCall Try.prog 44 [.v (.int .u32 (wW op a b c imm))] (.tup [.agg [.v (.int .i64 op), .v (.int .i64 a), .v (.int .i64 b), .v (.int .i64 c), .v (.int .i64 imm)], .v (.int .i64 0)]) := by
  obtain ⟨e1, e2, e3, e4, e5, e6, e7⟩ := of_word' h
  have hw : wR (wordOf op a b c imm) := by
    unfold wR
    rw [e1, e2, e3, e4, e5]
    exact h
  have p := of_ok (wordOf op a b c imm) e6 e7
  simp only [if_pos hw, e1, e2, e3, e4, e5] at p
  unfold wW
  rw [if_pos h]
  exact p
theorem right_of_wE {op a b c imm : Int} (h : wE op a b c imm = 0) : rightF (form op) a b c imm := by
  unfold wE at h
  split at h
  · assumption
  · cases h
theorem right_1 {a b c v : Int} (h : rightF (form 1) a b c 0) (h0 : 0 ≤ v) (h1 : v ≤ 65535) : rightF (form 1) a 0 0 v ∧ rightF (form 2) a 0 0 v := by
  simp [rightF, form, lo, hi, endsIn] at h ⊢
  omega
theorem labGo_mod : ∀ (L : List It) (out : List (List Int × Int)) (a : Int), a % 4 = 0 → (∀ p ∈ out, p.2 % 4 = 0) → ∀ p ∈ (labGo L out a).1, p.2 % 4 = 0
  | [], out, a, _, h => by simpa [labGo] using h
  | x :: L, out, a, h0, h => by
    rw [labGo]
    split
    · split
      · intro p hp; cases hp
      · refine labGo_mod L _ _ (by omega) (fun p hp => ?_)
        rcases List.mem_append.1 hp with hp | hp
        · exact h p hp
        · simp only [List.mem_singleton] at hp
          subst hp
          exact h0
    · exact labGo_mod L _ _ (by omega) h
theorem findF_mod : ∀ (L : List (List Int × Int)) (n : List Int), (∀ p ∈ L, p.2 % 4 = 0) → (findF L n).1 % 4 = 0
  | [], n, _ => by simp [findF]
  | p :: L, n, h => by
    unfold findF
    split
    · exact h p (.head _)
    · exact findF_mod L n (fun q hq => h q (.tail _ hq))
theorem bGo_err (labs : List (List Int × Int)) : ∀ (L : List It) (W : List Int) (R : List (Int × Bool)), (bGo labs L W R).2 ≠ 0 → (bGo labs L W R).1 = ([], [])
  | [], W, R, h => by simp [bGo] at h
  | x :: L, W, R, h => by
    rw [bGo] at h ⊢
    split
    · rfl
    · rename_i h1
      rw [if_neg h1] at h
      split
      · rfl
      · rename_i h2
        rw [if_neg h2] at h
        split
        · rename_i h3
          rw [if_pos h3] at h
          exact bGo_err labs L _ _ h
        · rfl
theorem buildF_err {L : List It} (h : (buildF L).2 ≠ 0) : (buildF L).1 = ([], []) := by
  unfold buildF at h ⊢
  split
  · rename_i h1
    rw [if_pos h1] at h
    exact bGo_err _ _ _ _ h
  · rfl
theorem labelsF_parts {L : List It} (h : (labelsF L).2 = 0) : (∀ x ∈ L, badIt x = false) ∧ labGo L [] 0 = ((labelsF L).1, 0) := by
  have hl := labelsF_len h
  unfold labelsF at h ⊢
  rw [if_neg (by omega)] at h ⊢
  by_cases hb : L.any badIt = true
  · rw [if_pos hb] at h; cases h
  · rw [if_neg hb] at h ⊢
    refine ⟨fun x hx => ?_, Prod.ext rfl h⟩
    cases hq : badIt x
    · rfl
    · exact absurd (List.any_eq_true.2 ⟨x, hx, hq⟩) hb
theorem buildF_parts {L : List It} (h : (buildF L).2 = 0) : (labelsF L).2 = 0 ∧ bGo (labelsF L).1 L [] [] = ((buildF L).1, 0) := by
  unfold buildF at h ⊢
  by_cases h1 : (labelsF L).2 = 0
  · rw [if_pos h1] at h
    rw [if_pos h1]
    exact ⟨h1, Prod.ext rfl h⟩
  · rw [if_neg h1] at h
    exact absurd h h1
theorem layF_many {x : It} {to at_ : Int} (h : badIt x = false) : ((layF x to at_).1.1.length : Int) = manyF x.k := by
  unfold badIt at h
  have h := of_decide_eq_false h
  unfold layF manyF
  by_cases k0 : x.k = 0
  · simp [k0]
  by_cases k1 : x.k = 1
  · simp [k1]
  by_cases k2 : x.k = 2
  · simp [k2]
  by_cases k3 : x.k = 3
  · simp [k3]
  by_cases k4 : x.k = 4
  · simp [k4]
  by_cases k5 : x.k = 5
  · simp [k5]
  exfalso
  have h1 : ¬ x.k < 0 := fun k => h (.inl k)
  have h2 : ¬ 5 < x.k := fun k => h (.inr (.inl k))
  omega
theorem leads_step {labs out : List (List Int × Int)} {L : List It} {W Wf : List Int} {R Rf : List (Int × Bool)} {x : It} (hx : badIt x = false) (hb : bGo labs (x :: L) W R = ((Wf, Rf), 0)) (hl : labGo (x :: L) out (4 * (W.length : Int)) = (labs, 0)) :
    wrongB (decide x.rt) x = false ∧ ((x.k = 2 ∨ x.k = 3 ∨ x.k = 5) → (findF labs x.n).2 = true) ∧ (x.k = 0 → findF labs x.n = (4 * (W.length : Int), true)) ∧
    ∃ ws rs V T out', layF x (findF labs x.n).1 (4 * (W.length : Int)) = ((ws, rs), 0) ∧ Wf = W ++ ws ++ V ∧ Rf = R ++ rs ++ T ∧ (ws.length : Int) = manyF x.k ∧ bGo labs L (W ++ ws) (R ++ rs) = ((Wf, Rf), 0) ∧ labGo L out' (4 * ((W ++ ws).length : Int)) = (labs, 0) := by
  rw [bGo] at hb
  have hm := layF_many (to := (findF labs x.n).1) (at_ := 4 * (W.length : Int)) hx
  by_cases hw : wrongB (decide x.rt) x = true
  · rw [if_pos hw] at hb; cases hb
  rw [if_neg hw] at hb
  by_cases hn : (x.k = 2 ∨ x.k = 3 ∨ x.k = 5) ∧ (findF labs x.n).2 = false
  · rw [if_pos hn] at hb; cases hb
  rw [if_neg hn] at hb
  by_cases h0 : (layF x (findF labs x.n).1 (4 * (W.length : Int))).2 = 0
  rotate_left
  · rw [if_neg h0] at hb
    simp only [Prod.mk.injEq] at hb
    exact absurd hb.2 h0
  rw [if_pos h0] at hb
  obtain ⟨V, T, hVT⟩ := bGo_ext labs L _ _ (by rw [hb])
  rw [hb] at hVT
  generalize hlx : layF x (findF labs x.n).1 (4 * (W.length : Int)) = lx at *
  obtain ⟨⟨ws, rs⟩, e⟩ := lx
  dsimp only at *
  simp only [Prod.mk.injEq] at hVT
  subst h0
  refine ⟨by cases hq : wrongB (decide x.rt) x; rfl; exact absurd hq hw, fun hk => ?_, fun hk => ?_, ws, rs, V, T, ?_⟩
  · cases hq : (findF labs x.n).2
    · exact absurd ⟨hk, hq⟩ hn
    · rfl
  · rw [labGo, if_pos hk] at hl
    by_cases hf : (findF out x.n).2 = true
    · rw [if_pos hf] at hl; cases hl
    · rw [if_neg hf] at hl
      obtain ⟨T', hT'⟩ := labGo_ext L _ _ (by rw [hl])
      rw [hl] at hT'
      dsimp only at hT'
      have hs := findF_snoc (z := 4 * (W.length : Int)) (show (findF out x.n).2 = false by simpa using hf)
      rw [hT', findF_app (by rw [hs]), hs]
  · have hlen : 4 * ((W ++ ws).length : Int) = 4 * (W.length : Int) + 4 * manyF x.k := by rw [List.length_append]; omega
    rw [labGo] at hl
    by_cases hk : x.k = 0
    · rw [if_pos hk] at hl
      by_cases hf : (findF out x.n).2 = true
      · rw [if_pos hf] at hl; cases hl
      · rw [if_neg hf] at hl
        exact ⟨_, rfl, hVT.1, hVT.2, hm, hb, by rw [hlen]; exact hl⟩
    · rw [if_neg hk] at hl
      exact ⟨_, rfl, hVT.1, hVT.2, hm, hb, by rw [hlen]; exact hl⟩
theorem getD_mid {A B C : List Int} {i : Nat} {v : Int} (h : B[i]? = some v) : (A ++ B ++ C).getD (A.length + i) 0 = v := by
  have hi : i < B.length := (List.getElem?_eq_some_iff.1 h).1
  rw [List.getD_eq_getElem?_getD, List.append_assoc, List.getElem?_append_right (by omega), Nat.add_sub_cancel_left, List.getElem?_append_left hi, h]
  rfl
theorem get_mid {A B C : List (Int × Bool)} {v : Int × Bool} : (A ++ v :: B ++ C)[A.length]? = some v := by
  rw [List.append_assoc, List.getElem?_append_right (Nat.le_refl _), Nat.sub_self]
  rfl
theorem leads12 {x0 : PV} (h0 : SSl 8 72 (SFs [SInt .i64, SStr, SFs [SInt .i64, SInt .i64, SInt .i64, SInt .i64, SInt .i64], SInt .u32]) [x0]) : PCall Try.prog 12 [x0] (.v (.bool true)) := by
  obtain ⟨rows, e0, hB, hM, hrows⟩ := h0
  cases e0
  obtain ⟨L, rfl, hL⟩ := items_of hrows
  rw [itRows_length] at hB hM
  have hcl := itRows_length L
  have cO := own12 L (by omega)
  obtain ⟨b, hb, cL⟩ := large_ok L (by omega) (fun x hx => (hL x hx).n)
  have ho : ∀ x ∈ L, Oct x.n := fun x hx => (hL x hx).o
  clear hrows
  cases b with
  | true =>
    refine pcall_mk Try.func12 rfl [.tmp 2] Try.results12 302 rfl (tk_start ?_)
    (repeat refine ka ?_); refine kr ?_ ?_ (pops_end ?_)
    (repeat refine ka ?_); refine kr ?_ ?_ ?_
    refine ps_pcall awake12 ?_
    refine pops_go ?_ ?_ (pops_end ?_)
    (repeat refine ka ?_); refine kr ?_ ?_ ?_
    refine ps_pcall cO ?_
    refine ps_pcall cL ?_
    refine pops_go ?_ ?_ (pops_end ?_)
    (repeat refine ka ?_); refine kr ?_ ?_ (pops_end ?_)
    (repeat refine ka ?_); refine kct ?_
    (repeat refine ka ?_); refine kr ?_ ?_ (pops_end ?_)
    (repeat refine ka ?_); refine kret ?_; repeat (first | with_reducible refine beh_r ?_ | with_reducible refine blk_r ?_)
    refine ends_ret ?_ retPV_one
    rfl
  | false =>
    obtain ⟨hl, _, _⟩ := hb rfl
    have c1 := build_ok false L (by omega) ho
    have c3 := places_ok false L (by omega) ho
    by_cases he : (buildF L).2 = 0
    rotate_left
    · have hz := buildF_err he
      generalize buildF L = bf at *
      obtain ⟨⟨W, R⟩, e⟩ := bf
      simp only [Prod.mk.injEq] at hz
      obtain ⟨rfl, rfl⟩ := hz
      dsimp only at *
      refine pcall_mk Try.func12 rfl [.tmp 2] Try.results12 302 rfl (tk_start ?_)
      (repeat refine ka ?_); refine kr ?_ ?_ (pops_end ?_)
      (repeat refine ka ?_); refine kr ?_ ?_ ?_
      refine ps_pcall awake12 ?_
      refine pops_go ?_ ?_ (pops_end ?_)
      (repeat refine ka ?_); refine kr ?_ ?_ ?_
      refine ps_pcall cO ?_
      refine ps_pcall cL ?_
      refine pops_go ?_ ?_ (pops_end ?_)
      (repeat refine ka ?_); refine kr ?_ ?_ (pops_end ?_)
      (repeat refine ka ?_); refine kcf ?_
      (repeat refine ka ?_); refine ksk ?_
      (repeat refine ka ?_); refine kr ?_ ?_ ?_
      refine ps_pcall c1 ?_
      refine pops_go ?_ ?_ ?_
      refine ps_alloc fun g0 => ?_
      refine ps_store ?_
      refine pops_go ?_ ?_ (pops_end ?_)
      (repeat refine ka ?_); refine kr ?_ ?_ ?_
      refine ps_pcall c3 ?_
      refine pops_go ?_ ?_ (pops_end ?_)
      (repeat refine ka ?_); refine kr ?_ ?_ (pops_end ?_)
      (repeat refine ka ?_); refine kct ?_
      (repeat refine ka ?_); refine kr ?_ ?_ (pops_end ?_)
      (repeat refine ka ?_); refine kret ?_; repeat (first | with_reducible refine beh_r ?_ | with_reducible refine blk_r ?_)
      refine ends_ret ?_ retPV_one
      rfl
    obtain ⟨hle, hbg⟩ := buildF_parts he
    obtain ⟨hbad, hlg⟩ := labelsF_parts hle
    have hbl := buildF_len L
    have hoct := labelsF_oct L ho
    have hat := labelsF_at hle
    have hmod : ∀ p ∈ (labelsF L).1, p.2 % 4 = 0 := by
      have := labGo_mod L [] 0 (by decide) (fun p hp => by cases hp)
      rw [hlg] at this
      exact this
    generalize buildF L = bf at *
    obtain ⟨⟨Wf, Rf⟩, e⟩ := bf
    generalize labelsF L = lf at *
    obtain ⟨labs, le⟩ := lf
    dsimp only at *
    subst he hle
    have hRl := relRows_length Rf
    refine pcall_mk Try.func12 rfl [.tmp 2] Try.results12 302 rfl (tk_start ?_)
    (repeat refine ka ?_); refine kr ?_ ?_ (pops_end ?_)
    (repeat refine ka ?_); refine kr ?_ ?_ ?_
    refine ps_pcall awake12 ?_
    refine pops_go ?_ ?_ (pops_end ?_)
    (repeat refine ka ?_); refine kr ?_ ?_ ?_
    refine ps_pcall cO ?_
    refine ps_pcall cL ?_
    refine pops_go ?_ ?_ (pops_end ?_)
    (repeat refine ka ?_); refine kr ?_ ?_ (pops_end ?_)
    (repeat refine ka ?_); refine kcf ?_
    (repeat refine ka ?_); refine ksk ?_
    (repeat refine ka ?_); refine kr ?_ ?_ ?_
    refine ps_pcall c1 ?_
    refine pops_go ?_ ?_ ?_
    refine ps_alloc fun g0 => ?_
    refine ps_store ?_
    refine pops_go ?_ ?_ (pops_end ?_)
    (repeat refine ka ?_); refine kr ?_ ?_ ?_
    refine ps_pcall c3 ?_
    refine pops_go ?_ ?_ (pops_end ?_)
    (repeat refine ka ?_); refine kr ?_ ?_ (pops_end ?_)
    (repeat refine ka ?_); refine kcf ?_
    (repeat refine ka ?_); refine ksk ?_
    (repeat refine ka ?_); refine kr ?_ ?_ (pops_end ?_)
    (repeat refine ka ?_); refine kcf ?_
    (repeat refine ka ?_); refine ksk ?_
    (repeat refine ka ?_); refine kr ?_ ?_ (pops_end ?_)
    (repeat refine ka ?_); refine kr ?_ ?_ (pops_end ?_)
    (repeat refine ka ?_); refine kr ?_ ?_ (pops_end ?_)
    (repeat refine ka ?_); refine kb ?_
    refine kw (fun s : Nat × List Int × List (Int × Bool) => [(0, PV.ro 8 false (itRows L)), (3, .v (.bool true)), (5, .ptr 0 g0 0 0), (7, .rmp (mapOf labs)), (9, .v (.int .i64 s.2.1.length)), (10, .v (.int .i64 s.2.2.length)), (11, .v (.int .i64 s.1))])
      (fun _ => [⟨g0, true, 2, [[.ro 1 false (ints .u32 Wf), .ro 2 false (relRows Rf)]]⟩])
      (fun s => s.1 ≤ L.length ∧ bGo labs (L.drop s.1) s.2.1 s.2.2 = ((Wf, Rf), 0) ∧ (∃ out, labGo (L.drop s.1) out (4 * (s.2.1.length : Int)) = (labs, 0)) ∧ s.2.1.length ≤ 2 * s.1 ∧ s.2.2.length ≤ s.1) (fun s => L.length - s.1) (0, [], []) ⟨by simp, by simpa using hbg, ⟨[], by simpa using hlg⟩, by simp, by simp⟩ (holds 1 (by repeat (first | exact .nil | refine has1 ?_))) ?_
    rintro ⟨i, W, R⟩ ⟨hi, hbi, ⟨out, hli⟩, hW, hR⟩
    dsimp only at hi hbi hli hW hR ⊢
    by_cases g : (i : Int) < L.length
    · obtain ⟨x, hx⟩ : ∃ x, L[i]? = some x := ⟨L[i]'(by omega), by simp [show i < L.length by omega]⟩
      have hrow := itRows_get hx
      have hxm := List.mem_of_getElem? hx
      have hxo := ho x hxm
      have hxb := hbad x hxm
      have hxa := hL x hxm
      have hd : L.drop i = x :: L.drop (i + 1) := drop_cons hx
      rw [hd] at hbi hli
      obtain ⟨hwr, hnm, hlb, ws, rs, V, T, out', hly, rfl, rfl, hws, hbn, hln⟩ := leads_step hxb hbi hli
      obtain ⟨hm1, hm2⟩ := mfind_find hxo hoct
      have hta := findF_at labs x.n hat
      have htm := findF_mod labs x.n hmod
      have hll := layF_len x (findF labs x.n).1 (4 * (W.length : Int))
      rw [hly] at hll
      dsimp only at hll
      generalize findF labs x.n = ff at *
      obtain ⟨to, is⟩ := ff
      have hxi := hxa.i
      have hxw := hxa.w
      clear hxa hbi hli
      unfold It.rt at hwr
      obtain ⟨k, n, op, a, b', c, imm, w⟩ := x
      dsimp only at *
      have hle1 : (W ++ ws ++ V).length = W.length + ws.length + V.length := by simp [List.length_append, Nat.add_assoc]
      have hle2 : (R ++ rs ++ T).length = R.length + rs.length + T.length := by simp [List.length_append, Nat.add_assoc]
      have hnx : (W ++ ws).length = W.length + ws.length := List.length_append
      have hnr : (R ++ rs).length = R.length + rs.length := List.length_append
      by_cases k0 : k = 0
      · have hz := hlb k0
        simp only [Prod.mk.injEq] at hz
        obtain ⟨rfl, rfl⟩ := hz
        have hly' : layF ⟨k, n, op, a, b', c, imm, w⟩ (4 * (W.length : Int)) (4 * (W.length : Int)) = (([], []), 0) := by simp [layF, k0]
        rw [hly'] at hly
        simp only [Prod.mk.injEq] at hly
        obtain ⟨⟨rfl, rfl⟩, -⟩ := hly
        have hwl : ([] : List Int).length = 0 := rfl
        have hrl : ([] : List (Int × Bool)).length = 0 := rfl
        simp only [List.length_nil] at hle1 hle2 hnx hnr
        (repeat refine ka ?_); refine kr ?_ ?_ (pops_end ?_)
        (repeat refine ka ?_); refine kct ?_
        (repeat refine ka ?_); refine ksk ?_
        (repeat refine ka ?_); refine kb ?_
        (repeat refine ka ?_); refine kr ?_ ?_ ?_
        refine ps_alloc fun g1 => ?_
        refine ps_store ?_
        refine pops_nil ?_
        (repeat refine ka ?_); refine kr ?_ ?_ (pops_end ?_)
        (repeat refine ka ?_); refine kr ?_ ?_ (pops_end ?_)
        (repeat refine ka ?_); refine kct ?_
        (repeat refine ka ?_); refine kr ?_ ?_ (pops_end ?_)
        (repeat refine ka ?_); refine kr ?_ ?_ (pops_end ?_)
        (repeat refine ka ?_); refine kcf ?_
        (repeat refine ka ?_); refine ksk ?_
        (repeat refine ka ?_); refine kr ?_ ?_ (pops_end ?_)
        (repeat refine ka ?_); refine kcf ?_
        (repeat refine ka ?_); refine ksk ?_
        (repeat refine ka ?_); refine kr ?_ ?_ (pops_end ?_)
        simp only [hm1, hm2]
        (repeat refine ka ?_); refine kr ?_ ?_ (pops_end ?_)
        (repeat refine ka ?_); refine kcf ?_
        (repeat refine ka ?_); refine ksk ?_
        (repeat refine ka ?_); refine kr ?_ ?_ (pops_end ?_)
        (repeat refine ka ?_); refine kcf ?_
        (repeat refine ka ?_); refine ksk ?_
        (repeat refine ka ?_); refine kr ?_ ?_ (pops_end ?_)
        (repeat refine ka ?_); refine kcf ?_
        (repeat refine ka ?_); refine ksk ?_
        (repeat refine ka ?_); refine kr ?_ ?_ (pops_end ?_)
        (repeat refine ka ?_); refine kcf ?_
        (repeat refine ka ?_); refine ksk ?_
        (repeat refine ka ?_); refine kd ?_ ?_ (pstl_end ?_)
        (repeat refine ka ?_); refine kcf ?_
        (repeat refine ka ?_); refine ksk ?_
        (repeat refine ka ?_); refine kr ?_ ?_ (pops_end ?_)
        (repeat refine ka ?_); refine kcf ?_
        (repeat refine ka ?_); refine ksk ?_
        (repeat refine ka ?_); refine kr ?_ ?_ (pops_end ?_)
        refine kn ?_; repeat (first | with_reducible refine blk_n ?_ | with_reducible refine beh_n ?_)
        (repeat refine ka ?_); refine kr ?_ ?_ (pops_end ?_)
        refine kn ?_; repeat (first | with_reducible refine blk_n ?_ | with_reducible refine beh_n ?_)
        refine ⟨(i + 1, W ++ [], R ++ []), ⟨by simp only; omega, hbn, ⟨out', hln⟩, by simp only [hnx]; omega, by simp only [hnr]; omega⟩, by simp only; omega, ?_⟩
        simp only [hnx, hnr, hwl, hrl]
        exact (holds 1 (by repeat (first | exact .nil | refine has1 ?_)))
      by_cases k1 : k = 1
      · have hrt : rightF (form op) a b' c imm := by
          by_cases hr : rightF (form op) a b' c imm
          · exact hr
          · rw [decide_eq_false hr] at hwr
            simp [wrongB, k1] at hwr
        have hly' : layF ⟨k, n, op, a, b', c, imm, w⟩ to (4 * (W.length : Int)) = (([wW op a b' c imm], []), wE op a b' c imm) := by simp [layF, k1]
        rw [hly'] at hly
        simp only [Prod.mk.injEq] at hly
        obtain ⟨⟨rfl, rfl⟩, -⟩ := hly
        have hwl : [wW op a b' c imm].length = 1 := rfl
        have hrl : ([] : List (Int × Bool)).length = 0 := rfl
        simp only [List.length_nil, List.length_cons, Nat.zero_add] at hle1 hle2 hnx hnr
        have hg1 : (W ++ [wW op a b' c imm] ++ V).getD ((W.length : Nat) : Int).toNat 0 = wW op a b' c imm := getD_mid (i := 0) rfl
        have c4 := of_right hrt
        (repeat refine ka ?_); refine kr ?_ ?_ (pops_end ?_)
        (repeat refine ka ?_); refine kct ?_
        (repeat refine ka ?_); refine ksk ?_
        (repeat refine ka ?_); refine kb ?_
        (repeat refine ka ?_); refine kr ?_ ?_ ?_
        refine ps_alloc fun g1 => ?_
        refine ps_store ?_
        refine pops_nil ?_
        (repeat refine ka ?_); refine kr ?_ ?_ (pops_end ?_)
        (repeat refine ka ?_); refine kr ?_ ?_ (pops_end ?_)
        (repeat refine ka ?_); refine kcf ?_
        (repeat refine ka ?_); refine ksk ?_
        (repeat refine ka ?_); refine kr ?_ ?_ (pops_end ?_)
        (repeat refine ka ?_); refine kcf ?_
        (repeat refine ka ?_); refine ksk ?_
        (repeat refine ka ?_); refine kr ?_ ?_ (pops_end ?_)
        (repeat refine ka ?_); refine kcf ?_
        (repeat refine ka ?_); refine ksk ?_
        (repeat refine ka ?_); refine kr ?_ ?_ (pops_end ?_)
        simp only [hm1, hm2]
        (repeat refine ka ?_); refine kr ?_ ?_ (pops_end ?_)
        (repeat refine ka ?_); refine kcf ?_
        (repeat refine ka ?_); refine ksk ?_
        (repeat refine ka ?_); refine kr ?_ ?_ (pops_end ?_)
        (repeat refine ka ?_); refine kct ?_
        (repeat refine ka ?_); refine kr ?_ ?_ ?_
        simp only [hg1]
        refine ps_pcall c4 ?_
        refine pops_go ?_ ?_ ?_
        refine ps_alloc fun g2 => ?_
        refine ps_store ?_
        refine pops_go ?_ ?_ (pops_end ?_)
        (repeat refine ka ?_); refine kr ?_ ?_ (pops_end ?_)
        (repeat refine ka ?_); refine kcf ?_
        (repeat refine ka ?_); refine ksk ?_
        (repeat refine ka ?_); refine kr ?_ ?_ (pops_end ?_)
        (repeat refine ka ?_); refine kcf ?_
        (repeat refine ka ?_); refine ksk ?_
        (repeat refine ka ?_); refine kr ?_ ?_ (pops_end ?_)
        (repeat refine ka ?_); refine kcf ?_
        (repeat refine ka ?_); refine ksk ?_
        (repeat refine ka ?_); refine kd ?_ ?_ (pstl_end ?_)
        (repeat refine ka ?_); refine kcf ?_
        (repeat refine ka ?_); refine ksk ?_
        (repeat refine ka ?_); refine kr ?_ ?_ (pops_end ?_)
        (repeat refine ka ?_); refine kcf ?_
        (repeat refine ka ?_); refine ksk ?_
        (repeat refine ka ?_); refine kr ?_ ?_ (pops_end ?_)
        refine kn ?_; repeat (first | with_reducible refine blk_n ?_ | with_reducible refine beh_n ?_)
        (repeat refine ka ?_); refine kr ?_ ?_ (pops_end ?_)
        refine kn ?_; repeat (first | with_reducible refine blk_n ?_ | with_reducible refine beh_n ?_)
        refine ⟨(i + 1, W ++ [wW op a b' c imm], R ++ []), ⟨by simp only; omega, hbn, ⟨out', hln⟩, by simp only [hnx]; omega, by simp only [hnr]; omega⟩, by simp only; omega, ?_⟩
        simp only [hnx, hnr, hwl, hrl]
        exact (holds 1 (by repeat (first | exact .nil | refine has1 ?_)))
      by_cases k2 : k = 2
      · have his := hnm (.inl k2)
        subst his
        have hly' : layF ⟨k, n, op, a, b', c, imm, w⟩ to (4 * (W.length : Int)) = (([wW op a b' c (Int.tdiv (to - 4 * W.length - 4) 4)], []), if wE op a b' c (Int.tdiv (to - 4 * W.length - 4) 4) = 0 then 0 else 4) := by simp [layF, k2]
        rw [hly'] at hly
        have hq4 : 4 * (W.length : Int) + 4 + 4 * Int.tdiv (to - 4 * W.length - 4) 4 = to := by
          have e1 := @Int.tdiv_eq_ediv (to - 4 * W.length - 4) 4
          have e2 : Int.sign 4 = 1 := rfl
          have e3 : 4 ∣ (to - 4 * (W.length : Int) - 4) := by omega
          rw [e2, if_pos (.inr e3)] at e1
          omega
        generalize Int.tdiv (to - 4 * W.length - 4) 4 = q at *
        simp only [Prod.mk.injEq] at hly
        obtain ⟨⟨rfl, rfl⟩, hwe⟩ := hly
        have hwe' : wE op a b' c q = 0 := by
          by_cases hz : wE op a b' c q = 0
          · exact hz
          · rw [if_neg hz] at hwe; cases hwe
        have hrt := right_of_wE hwe'
        have hrf := right_facts hrt
        have hwl : [wW op a b' c q].length = 1 := rfl
        have hrl : ([] : List (Int × Bool)).length = 0 := rfl
        simp only [List.length_nil, List.length_cons, Nat.zero_add] at hle1 hle2 hnx hnr
        have hg1 : (W ++ [wW op a b' c q] ++ V).getD ((W.length : Nat) : Int).toNat 0 = wW op a b' c q := getD_mid (i := 0) rfl
        have c4 := of_right hrt
        (repeat refine ka ?_); refine kr ?_ ?_ (pops_end ?_)
        (repeat refine ka ?_); refine kct ?_
        (repeat refine ka ?_); refine ksk ?_
        (repeat refine ka ?_); refine kb ?_
        (repeat refine ka ?_); refine kr ?_ ?_ ?_
        refine ps_alloc fun g1 => ?_
        refine ps_store ?_
        refine pops_nil ?_
        (repeat refine ka ?_); refine kr ?_ ?_ (pops_end ?_)
        (repeat refine ka ?_); refine kr ?_ ?_ (pops_end ?_)
        (repeat refine ka ?_); refine kcf ?_
        (repeat refine ka ?_); refine ksk ?_
        (repeat refine ka ?_); refine kr ?_ ?_ (pops_end ?_)
        (repeat refine ka ?_); refine kcf ?_
        (repeat refine ka ?_); refine ksk ?_
        (repeat refine ka ?_); refine kr ?_ ?_ (pops_end ?_)
        (repeat refine ka ?_); refine kcf ?_
        (repeat refine ka ?_); refine ksk ?_
        (repeat refine ka ?_); refine kr ?_ ?_ (pops_end ?_)
        simp only [hm1, hm2]
        (repeat refine ka ?_); refine kr ?_ ?_ (pops_end ?_)
        (repeat refine ka ?_); refine kcf ?_
        (repeat refine ka ?_); refine ksk ?_
        (repeat refine ka ?_); refine kr ?_ ?_ (pops_end ?_)
        (repeat refine ka ?_); refine kcf ?_
        (repeat refine ka ?_); refine ksk ?_
        (repeat refine ka ?_); refine kr ?_ ?_ (pops_end ?_)
        (repeat refine ka ?_); refine kct ?_
        (repeat refine ka ?_); refine kr ?_ ?_ ?_
        simp only [hg1]
        refine ps_pcall c4 ?_
        refine pops_go ?_ ?_ ?_
        refine ps_alloc fun g2 => ?_
        refine ps_store ?_
        refine pops_go ?_ ?_ (pops_end ?_)
        (repeat refine ka ?_); refine kr ?_ ?_ (pops_end ?_)
        (repeat refine ka ?_); refine kcf ?_
        (repeat refine ka ?_); refine ksk ?_
        (repeat refine ka ?_); refine kr ?_ ?_ (pops_end ?_)
        (repeat refine ka ?_); refine kcf ?_
        (repeat refine ka ?_); refine ksk ?_
        (repeat refine ka ?_); refine kd ?_ ?_ (pstl_end ?_)
        (repeat refine ka ?_); refine kcf ?_
        (repeat refine ka ?_); refine ksk ?_
        (repeat refine ka ?_); refine kr ?_ ?_ (pops_end ?_)
        (repeat refine ka ?_); refine kcf ?_
        (repeat refine ka ?_); refine ksk ?_
        (repeat refine ka ?_); refine kr ?_ ?_ (pops_end ?_)
        refine kn ?_; repeat (first | with_reducible refine blk_n ?_ | with_reducible refine beh_n ?_)
        (repeat refine ka ?_); refine kr ?_ ?_ (pops_end ?_)
        refine kn ?_; repeat (first | with_reducible refine blk_n ?_ | with_reducible refine beh_n ?_)
        refine ⟨(i + 1, W ++ [wW op a b' c q], R ++ []), ⟨by simp only; omega, hbn, ⟨out', hln⟩, by simp only [hnx]; omega, by simp only [hnr]; omega⟩, by simp only; omega, ?_⟩
        simp only [hnx, hnr, hwl, hrl]
        exact (holds 1 (by repeat (first | exact .nil | refine has1 ?_)))
      by_cases k3 : k = 3
      · have his := hnm (.inr (.inl k3))
        subst his
        have hly' : layF ⟨k, n, op, a, b', c, imm, w⟩ to (4 * (W.length : Int)) = (([wW 1 a 0 0 (to % 65536), wW 2 a 0 0 (to / 65536)], [(4 * (W.length : Int), true)]), 0) := by simp [layF, k3]
        rw [hly'] at hly
        simp only [Prod.mk.injEq] at hly
        obtain ⟨⟨rfl, rfl⟩, -⟩ := hly
        have hrt : rightF (form 1) a b' c 0 := by
          by_cases hr : rightF (form op) a b' c imm
          · rw [decide_eq_true hr] at hwr
            simp [wrongB, k3] at hwr
            obtain ⟨h1, h2⟩ := hwr
            rw [h1, h2] at hr
            exact hr
          · rw [decide_eq_false hr] at hwr
            simp [wrongB, k3] at hwr
        have hwl : [wW 1 a 0 0 (to % 65536), wW 2 a 0 0 (to / 65536)].length = 2 := rfl
        have hrl : [(4 * (W.length : Int), true)].length = 1 := rfl
        simp only [List.length_nil, List.length_cons, Nat.zero_add] at hle1 hle2 hnx hnr
        have hg1 : (W ++ [wW 1 a 0 0 (to % 65536), wW 2 a 0 0 (to / 65536)] ++ V).getD ((W.length : Nat) : Int).toNat 0 = wW 1 a 0 0 (to % 65536) := getD_mid (i := 0) rfl
        have hg2 : (W ++ [wW 1 a 0 0 (to % 65536), wW 2 a 0 0 (to / 65536)] ++ V).getD (((W.length : Nat) : Int) + 1).toNat 0 = wW 2 a 0 0 (to / 65536) := by
          rw [show (((W.length : Nat) : Int) + 1).toNat = W.length + 1 by omega]
          exact getD_mid (i := 1) rfl
        have hrr := relRows_get (R := R ++ [(4 * (W.length : Int), true)] ++ T) (i := R.length) get_mid
        have c4 := of_right (right_1 hrt (v := to % 65536) (by omega) (by omega)).1
        have c5 := of_right (right_1 hrt (v := to / 65536) (by omega) (by omega)).2
        have hsum : to % 65536 + 65536 * (to / 65536) = to := by omega
        (repeat refine ka ?_); refine kr ?_ ?_ (pops_end ?_)
        (repeat refine ka ?_); refine kct ?_
        (repeat refine ka ?_); refine ksk ?_
        (repeat refine ka ?_); refine kb ?_
        (repeat refine ka ?_); refine kr ?_ ?_ ?_
        refine ps_alloc fun g1 => ?_
        refine ps_store ?_
        refine pops_nil ?_
        (repeat refine ka ?_); refine kr ?_ ?_ (pops_end ?_)
        (repeat refine ka ?_); refine kr ?_ ?_ (pops_end ?_)
        (repeat refine ka ?_); refine kcf ?_
        (repeat refine ka ?_); refine ksk ?_
        (repeat refine ka ?_); refine kr ?_ ?_ (pops_end ?_)
        (repeat refine ka ?_); refine kct ?_
        (repeat refine ka ?_); refine kr ?_ ?_ (pops_end ?_)
        (repeat refine ka ?_); refine kr ?_ ?_ (pops_end ?_)
        (repeat refine ka ?_); refine kcf ?_
        (repeat refine ka ?_); refine ksk ?_
        (repeat refine ka ?_); refine kr ?_ ?_ (pops_end ?_)
        simp only [hm1, hm2]
        (repeat refine ka ?_); refine kr ?_ ?_ (pops_end ?_)
        (repeat refine ka ?_); refine kcf ?_
        (repeat refine ka ?_); refine ksk ?_
        (repeat refine ka ?_); refine kr ?_ ?_ (pops_end ?_)
        (repeat refine ka ?_); refine kcf ?_
        (repeat refine ka ?_); refine ksk ?_
        (repeat refine ka ?_); refine kr ?_ ?_ (pops_end ?_)
        (repeat refine ka ?_); refine kcf ?_
        (repeat refine ka ?_); refine ksk ?_
        (repeat refine ka ?_); refine kr ?_ ?_ (pops_end ?_)
        (repeat refine ka ?_); refine kct ?_
        (repeat refine ka ?_); refine kr ?_ ?_ ?_
        simp only [hg1]
        refine ps_pcall c4 ?_
        refine pops_go ?_ ?_ ?_
        refine ps_alloc fun g2 => ?_
        refine ps_store ?_
        refine pops_go ?_ ?_ (pops_end ?_)
        (repeat refine ka ?_); refine kr ?_ ?_ ?_
        simp only [hg2]
        refine ps_pcall c5 ?_
        refine pops_go ?_ ?_ ?_
        refine ps_alloc fun g3 => ?_
        refine ps_store ?_
        refine pops_go ?_ ?_ (pops_end ?_)
        (repeat refine ka ?_); refine kr ?_ ?_ (pops_end ?_)
        (repeat refine ka ?_); refine kcf ?_
        (repeat refine ka ?_); refine ksk ?_
        (repeat refine ka ?_); refine kd ?_ ?_ (pstl_end ?_)
        (repeat refine ka ?_); refine kcf ?_
        (repeat refine ka ?_); refine ksk ?_
        (repeat refine ka ?_); refine kr ?_ ?_ (pops_end ?_)
        (repeat refine ka ?_); refine kct ?_
        (repeat refine ka ?_); refine kd ?_ ?_ (pstl_end ?_)
        (repeat refine ka ?_); refine kcf ?_
        (repeat refine ka ?_); refine ksk ?_
        (repeat refine ka ?_); refine kr ?_ ?_ (pops_end ?_)
        (repeat refine ka ?_); refine kr ?_ ?_ (pops_end ?_)
        refine kn ?_; repeat (first | with_reducible refine blk_n ?_ | with_reducible refine beh_n ?_)
        (repeat refine ka ?_); refine kr ?_ ?_ (pops_end ?_)
        refine kn ?_; repeat (first | with_reducible refine blk_n ?_ | with_reducible refine beh_n ?_)
        refine ⟨(i + 1, W ++ [wW 1 a 0 0 (to % 65536), wW 2 a 0 0 (to / 65536)], R ++ [(4 * (W.length : Int), true)]), ⟨by simp only; omega, hbn, ⟨out', hln⟩, by simp only [hnx]; omega, by simp only [hnr]; omega⟩, by simp only; omega, ?_⟩
        simp only [hnx, hnr, hwl, hrl]
        exact (holds 1 (by repeat (first | exact .nil | refine has1 ?_)))
      by_cases k4 : k = 4
      · have hly' : layF ⟨k, n, op, a, b', c, imm, w⟩ to (4 * (W.length : Int)) = (([w], []), 0) := by simp [layF, k4]
        rw [hly'] at hly
        simp only [Prod.mk.injEq] at hly
        obtain ⟨⟨rfl, rfl⟩, -⟩ := hly
        have hwl : [w].length = 1 := rfl
        have hrl : ([] : List (Int × Bool)).length = 0 := rfl
        simp only [List.length_nil, List.length_cons, Nat.zero_add] at hle1 hle2 hnx hnr
        have hg1 : (W ++ [w] ++ V).getD ((W.length : Nat) : Int).toNat 0 = w := getD_mid (i := 0) rfl
        (repeat refine ka ?_); refine kr ?_ ?_ (pops_end ?_)
        (repeat refine ka ?_); refine kct ?_
        (repeat refine ka ?_); refine ksk ?_
        (repeat refine ka ?_); refine kb ?_
        (repeat refine ka ?_); refine kr ?_ ?_ ?_
        refine ps_alloc fun g1 => ?_
        refine ps_store ?_
        refine pops_nil ?_
        (repeat refine ka ?_); refine kr ?_ ?_ (pops_end ?_)
        (repeat refine ka ?_); refine kr ?_ ?_ (pops_end ?_)
        (repeat refine ka ?_); refine kcf ?_
        (repeat refine ka ?_); refine ksk ?_
        (repeat refine ka ?_); refine kr ?_ ?_ (pops_end ?_)
        (repeat refine ka ?_); refine kcf ?_
        (repeat refine ka ?_); refine ksk ?_
        (repeat refine ka ?_); refine kr ?_ ?_ (pops_end ?_)
        (repeat refine ka ?_); refine kcf ?_
        (repeat refine ka ?_); refine ksk ?_
        (repeat refine ka ?_); refine kr ?_ ?_ (pops_end ?_)
        simp only [hm1, hm2]
        (repeat refine ka ?_); refine kr ?_ ?_ (pops_end ?_)
        (repeat refine ka ?_); refine kcf ?_
        (repeat refine ka ?_); refine ksk ?_
        (repeat refine ka ?_); refine kr ?_ ?_ (pops_end ?_)
        (repeat refine ka ?_); refine kcf ?_
        (repeat refine ka ?_); refine ksk ?_
        (repeat refine ka ?_); refine kr ?_ ?_ (pops_end ?_)
        (repeat refine ka ?_); refine kcf ?_
        (repeat refine ka ?_); refine ksk ?_
        (repeat refine ka ?_); refine kr ?_ ?_ (pops_end ?_)
        (repeat refine ka ?_); refine kcf ?_
        (repeat refine ka ?_); refine ksk ?_
        (repeat refine ka ?_); refine kd ?_ ?_ (pstl_end ?_)
        (repeat refine ka ?_); refine kcf ?_
        (repeat refine ka ?_); refine ksk ?_
        (repeat refine ka ?_); refine kr ?_ ?_ (pops_end ?_)
        (repeat refine ka ?_); refine kcf ?_
        (repeat refine ka ?_); refine ksk ?_
        (repeat refine ka ?_); refine kr ?_ ?_ (pops_end ?_)
        refine kn ?_; repeat (first | with_reducible refine blk_n ?_ | with_reducible refine beh_n ?_)
        (repeat refine ka ?_); refine kr ?_ ?_ (pops_end ?_)
        refine kn ?_; repeat (first | with_reducible refine blk_n ?_ | with_reducible refine beh_n ?_)
        refine ⟨(i + 1, W ++ [w], R ++ []), ⟨by simp only; omega, hbn, ⟨out', hln⟩, by simp only [hnx]; omega, by simp only [hnr]; omega⟩, by simp only; omega, ?_⟩
        simp only [hnx, hnr, hwl, hrl]
        exact (holds 1 (by repeat (first | exact .nil | refine has1 ?_)))
      by_cases k5 : k = 5
      · have his := hnm (.inr (.inr k5))
        subst his
        have hly' : layF ⟨k, n, op, a, b', c, imm, w⟩ to (4 * (W.length : Int)) = (([to % 4294967296], [(4 * (W.length : Int), false)]), 0) := by simp [layF, k5]
        rw [hly', show to % 4294967296 = to by omega] at hly
        simp only [Prod.mk.injEq] at hly
        obtain ⟨⟨rfl, rfl⟩, -⟩ := hly
        have hwl : [to].length = 1 := rfl
        have hrl : [(4 * (W.length : Int), false)].length = 1 := rfl
        simp only [List.length_nil, List.length_cons, Nat.zero_add] at hle1 hle2 hnx hnr
        have hg1 : (W ++ [to] ++ V).getD ((W.length : Nat) : Int).toNat 0 = to := getD_mid (i := 0) rfl
        have hrr := relRows_get (R := R ++ [(4 * (W.length : Int), false)] ++ T) (i := R.length) get_mid
        (repeat refine ka ?_); refine kr ?_ ?_ (pops_end ?_)
        (repeat refine ka ?_); refine kct ?_
        (repeat refine ka ?_); refine ksk ?_
        (repeat refine ka ?_); refine kb ?_
        (repeat refine ka ?_); refine kr ?_ ?_ ?_
        refine ps_alloc fun g1 => ?_
        refine ps_store ?_
        refine pops_nil ?_
        (repeat refine ka ?_); refine kr ?_ ?_ (pops_end ?_)
        (repeat refine ka ?_); refine kr ?_ ?_ (pops_end ?_)
        (repeat refine ka ?_); refine kcf ?_
        (repeat refine ka ?_); refine ksk ?_
        (repeat refine ka ?_); refine kr ?_ ?_ (pops_end ?_)
        (repeat refine ka ?_); refine kcf ?_
        (repeat refine ka ?_); refine ksk ?_
        (repeat refine ka ?_); refine kr ?_ ?_ (pops_end ?_)
        (repeat refine ka ?_); refine kcf ?_
        (repeat refine ka ?_); refine ksk ?_
        (repeat refine ka ?_); refine kr ?_ ?_ (pops_end ?_)
        simp only [hm1, hm2]
        (repeat refine ka ?_); refine kr ?_ ?_ (pops_end ?_)
        (repeat refine ka ?_); refine kcf ?_
        (repeat refine ka ?_); refine ksk ?_
        (repeat refine ka ?_); refine kr ?_ ?_ (pops_end ?_)
        (repeat refine ka ?_); refine kcf ?_
        (repeat refine ka ?_); refine ksk ?_
        (repeat refine ka ?_); refine kr ?_ ?_ (pops_end ?_)
        (repeat refine ka ?_); refine kcf ?_
        (repeat refine ka ?_); refine ksk ?_
        (repeat refine ka ?_); refine kr ?_ ?_ (pops_end ?_)
        (repeat refine ka ?_); refine kcf ?_
        (repeat refine ka ?_); refine ksk ?_
        (repeat refine ka ?_); refine kd ?_ ?_ (pstl_end ?_)
        (repeat refine ka ?_); refine kcf ?_
        (repeat refine ka ?_); refine ksk ?_
        (repeat refine ka ?_); refine kr ?_ ?_ (pops_end ?_)
        (repeat refine ka ?_); refine kct ?_
        (repeat refine ka ?_); refine kd ?_ ?_ (pstl_end ?_)
        (repeat refine ka ?_); refine kcf ?_
        (repeat refine ka ?_); refine ksk ?_
        (repeat refine ka ?_); refine kr ?_ ?_ (pops_end ?_)
        (repeat refine ka ?_); refine kr ?_ ?_ (pops_end ?_)
        refine kn ?_; repeat (first | with_reducible refine blk_n ?_ | with_reducible refine beh_n ?_)
        (repeat refine ka ?_); refine kr ?_ ?_ (pops_end ?_)
        refine kn ?_; repeat (first | with_reducible refine blk_n ?_ | with_reducible refine beh_n ?_)
        refine ⟨(i + 1, W ++ [to], R ++ [(4 * (W.length : Int), false)]), ⟨by simp only; omega, hbn, ⟨out', hln⟩, by simp only [hnx]; omega, by simp only [hnr]; omega⟩, by simp only; omega, ?_⟩
        simp only [hnx, hnr, hwl, hrl]
        exact (holds 1 (by repeat (first | exact .nil | refine has1 ?_)))
      exfalso
      unfold badIt at hxb
      have hxb := of_decide_eq_false hxb
      dsimp only at hxb
      have h1 : ¬ k < 0 := fun h => hxb (.inl h)
      have h2 : ¬ 5 < k := fun h => hxb (.inr (.inl h))
      omega
    · have hz : L.drop i = [] := List.drop_eq_nil_of_le (by omega)
      rw [hz] at hbi
      simp only [bGo, Prod.mk.injEq] at hbi
      obtain ⟨⟨rfl, rfl⟩, -⟩ := hbi
      (repeat refine ka ?_); refine kr ?_ ?_ (pops_end ?_)
      (repeat refine ka ?_); refine kcf ?_
      (repeat refine ka ?_); refine kx ?_; (repeat (first | with_reducible refine beh_x ?_ | with_reducible refine blk_up rfl ?_)); refine blk_here ?_; refine beh_n ?_
      (repeat refine ka ?_); refine kr ?_ ?_ (pops_end ?_)
      (repeat refine ka ?_); refine kret ?_; repeat (first | with_reducible refine beh_r ?_ | with_reducible refine blk_r ?_)
      refine ends_ret ?_ retPV_one
      rfl
end Go.Proofs.Ytjbbomchmacdjaa.Pv
