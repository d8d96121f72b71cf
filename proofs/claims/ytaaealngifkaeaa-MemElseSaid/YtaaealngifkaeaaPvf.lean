-- Thirty-first text: copy, and calls that know of some blocks alone, in a region.
import Derived.Test.YtaaealngifkaeaaPve
namespace Go.Proofs.Ytaaealngifkaeaa.Pv
set_option linter.all false
open Go.RowKit
set_option linter.unusedVariables false
theorem gcall_drop {P : Program} {f : FuncId} {as : List PV} {S : List Blk} {R : PV → List Blk → Prop} (h : GCall P f as S fun x S' => ∃ k, R x (S'.take k)) : GCall P f as S R := by
  intro c vals hi hs hl hv
  refine (h c vals hi hs hl hv).mono ?_
  rintro e w' ⟨v, x, c', rfl, rfl, ⟨k, hR⟩, hi', hst, hr⟩
  obtain ⟨h1, h2⟩ := dropBlk hi' k
  exact ⟨v, x, { c' with S := c'.S.take k }, rfl, rfl, hR, h1, hst.trans h2, hr.step h2⟩
theorem ren_ints (f : Nat → Nat) (k : IntKind) (l : List Int) : (ints k l).map (renL f) = ints k l := by
  unfold ints
  rw [List.map_map]
  apply List.map_congr_left
  intro x _
  rfl
theorem srcRows_sub {S : List Blk} {kk : IntKind} {l : List Int} {τ g gg off len : Nat} {o : Bool} (hb : S[τ]? = some ⟨gg, o, 1, ints kk l⟩) (hg : gg = g) : srcRows S 1 (.vw τ g off len) = some (ints kk ((l.drop off).take len)) := by
  subst hg
  simp [srcRows, hb, ints_drop, ints_take]
section
variable {P : Program} {ops : List Oper} {Q : PS → Prop} {rest : List Oper} {n : Nat} {tm : List (Nat × PV)} {S S' : List Blk} {d : Tmp} {ty : TypeId} {pos : String} {af : Array Edge} {t tx e : TypeId} {x s : Operand}
theorem ps_fcall {f : FuncId} [hf : FnOk P f] {args : Array Operand} {ats : Array TypeId} {as0 : List PV} {S0 : List Blk} {R : PV → List Blk → Prop} (e : List Nat) (h : GCall P f as0 S0 R)
    (k : ∀ x S', R x S' → ∀ x1 S1, ren (sg e S.length) x = x1 → putB e (S'.map (renB (sg e S.length))) S = S1 → Pops P ops Q rest ⟨n, (d, x1) :: tm, S1⟩)
    (hR : ∀ x S', R x S' → S0.length ≤ S'.length)
    (ha : args.toList.map (PS.get ⟨n, tm, S⟩) = renL (sg e S.length) as0 := by rfl)
    (hS : (e.map fun a => S[a]?) = S0.map fun b => some (renB (sg e S.length) b) := by first | rfl | (simp only [List.map_cons, List.map_nil, renB, ren_ints]; rfl))
    (hn : e.Nodup := by decide) (hb : ∀ a ∈ e, a < S.length := by first | decide | (simp only [List.length_cons, List.length_nil]; decide)) :
    Pops P ops Q (⟨some d, .call ⟨.value (.func f), args, ats⟩, ty, pos, af, none⟩ :: rest) ⟨n, tm, S⟩ := by
  have hl : e.length = S0.length := by simpa using congrArg List.length hS
  have hS' : ∀ (i a : Nat), e[i]? = some a → S[a]? = (S0[i]?).map (renB (sg e S.length)) := by
    intro i a hi
    have := congrArg (fun l => l[i]?) hS
    simp only [List.getElem?_map, hi, Option.map_some] at this
    cases h0 : S0[i]? with
    | none => rw [h0] at this; cases this
    | some b => rw [h0] at this; simpa using this
  have hfr := gcall_frame h e hn hl hb hS' hR
  refine ps_gcall hfr ?_ ha
  rintro x S' ⟨x0, S0', h1, rfl, rfl⟩
  exact k x0 S0' h1 _ _ rfl rfl
theorem ps_fcall_g {f : FuncId} [hf : FnOk P f] {args : Array Operand} {ats : Array TypeId} {as0 : List PV} {S0 : List Blk} {R : PV → List Blk → Prop} {j : Nat} {w : Bool} (e : List Nat) (h : GCall P f as0 S0 R)
    (k : ∀ x S', R x S' → ∀ x1 S1, ren (sg e S.length) x = x1 → putB e (S'.map (renB (sg e S.length))) S = S1 → Pops P ops Q rest ⟨n, (d, x1) :: tm, S1⟩)
    (hR : ∀ x S', R x S' → S0.length ≤ S'.length) (hgd : guardPV ops ⟨n, tm, S⟩ j w = some w := by ((conv => lhs; whnf) <;> fail "no"))
    (ha : args.toList.map (PS.get ⟨n, tm, S⟩) = renL (sg e S.length) as0 := by rfl)
    (hS : (e.map fun a => S[a]?) = S0.map fun b => some (renB (sg e S.length) b) := by first | rfl | (simp only [List.map_cons, List.map_nil, renB, ren_ints]; rfl))
    (hn : e.Nodup := by decide) (hb : ∀ a ∈ e, a < S.length := by first | decide | (simp only [List.length_cons, List.length_nil]; decide)) :
    Pops P ops Q (⟨some d, .call ⟨.value (.func f), args, ats⟩, ty, pos, af, some (j, w)⟩ :: rest) ⟨n, tm, S⟩ := by
  have hl : e.length = S0.length := by simpa using congrArg List.length hS
  have hS' : ∀ (i a : Nat), e[i]? = some a → S[a]? = (S0[i]?).map (renB (sg e S.length)) := by
    intro i a hi
    have := congrArg (fun l => l[i]?) hS
    simp only [List.getElem?_map, hi, Option.map_some] at this
    cases h0 : S0[i]? with
    | none => rw [h0] at this; cases this
    | some b => rw [h0] at this; simpa using this
  have hfr := gcall_frame h e hn hl hb hS' hR
  obtain ⟨fn, h1, h2, h3⟩ := hf.h
  refine ps_guard rfl hgd (pop_call rfl rfl rfl h1 h2 h3 (R := fun x' Sb' => ∃ x S', R x S' ∧ x' = ren (sg e S.length) x ∧ Sb' = putB e (S'.map (renB (sg e S.length))) S) ?_ ?_)
  · simp only [List.nil_append, List.append_nil, ha]
    exact hfr
  · rintro x S' ⟨x0, S0', g1, rfl, rfl⟩
    exact k x0 S0' g1 _ _ rfl rfl
theorem ps_copy {rows : List (List PV)} {τ g off len m sz : Nat} {blk : Blk} {de : TypeDesc} [ht : Und P t (.slice e)] [hd : Und P e de] [hc : Cel P e sz] (k : Pops P ops Q rest ⟨n, (d, .v (.int .i64 m)) :: tm, S'⟩)
    (hs : PS.get ⟨n, tm, S⟩ s = .vw τ g off len := by ((conv => lhs; whnf) <;> fail "no")) (hsrc : srcRows S sz (PS.get ⟨n, tm, S⟩ x) = some rows) (hb : S[τ]? = some blk := by first | ((conv => lhs; whnf) <;> fail "no") | exact rfl | assumption) (hg : blk.gen = g := by rfl) (how : blk.own = true := by rfl) (hbs : blk.sz = sz := by rfl)
    (hk : srcKind P tx (PS.get ⟨n, tm, S⟩ x) = true := by rfl) (hm : min rows.length len = m) (hS : S.set τ { blk with rows := blk.rows.take off ++ rows.take m ++ blk.rows.drop (off + m) } = S') :
    Pops P ops Q (⟨some d, .call ⟨.builtin .copy, #[s, x], #[t, tx]⟩, ty, pos, af, none⟩ :: rest) ⟨n, tm, S⟩ :=
  pops_one rfl (pop_copy rfl ht.h (by simp [known, hd.h]) hc.h hk hsrc hs hb hg how hbs hm (by rw [hS]; exact k))
theorem copy_nil {o : Oper} {σ : PS} {K : PV → List Blk → Prop} {rows : List (List PV)} {sz : Nat} (ho : o.op = .call { callee := .builtin .copy, args := #[s, x], argTypes := #[t, tx] })
    (ht : P.underlying t = some (.slice e)) (hke : known P e = true) (hsz : P.cellsOf e = sz) (hk : srcKind P tx (σ.get x) = true) (hsrc : srcRows σ.S sz (σ.get x) = some rows)
    (hd : σ.get s = .v (.slice none 0 0)) (hK : K (.v (.int .i64 (0 : Nat))) σ.S) : PopSem P σ o K :=
  pop_of_run fun c a r => by
    obtain ⟨ed, hed⟩ := Option.isSome_iff_exists.1 hke
    rw [← r.S] at hsrc hK
    obtain ⟨news, fn, hs, hfc⟩ := src_rel r.inv hsrc hk (r.get x)
    have hds := r.get s
    rw [hd] at hds
    have hf0 : (Builtin.firstCells sz 0 (a.eval x)).run P c.w = .ok #[] c.w := by simpa using hfc 0 (Nat.zero_le _)
    generalize hav : a.eval s = vs at hds
    cases hds
    have hmin : rows.length.min 0 = 0 := by simp [Nat.min_def]
    have hrun : (Builtin.copy_ #[t, tx] o.type #[.slice none 0 0, a.eval x]).run P c.w = .ok (.int .i64 (0 : Nat)) c.w := by
      simp [Builtin.copy_, run_underlying ht, sizeOf_run hed, hsz, hs.len, hmin, hf0, goInt]
    exact ⟨_, c, _, copy_exec ho (by rw [hav]; exact hrun), hK, r.inv, .refl c, .v _⟩
theorem ps_copy_nil {rows : List (List PV)} {sz : Nat} {de : TypeDesc} [ht : Und P t (.slice e)] [hd : Und P e de] [hc : Cel P e sz] (k : Pops P ops Q rest ⟨n, (d, .v (.int .i64 (0 : Nat))) :: tm, S⟩)
    (hsrc : srcRows S sz (PS.get ⟨n, tm, S⟩ x) = some rows) (hs : PS.get ⟨n, tm, S⟩ s = .v (.slice none 0 0) := by ((conv => lhs; whnf) <;> fail "no"))
    (hk : srcKind P tx (PS.get ⟨n, tm, S⟩ x) = true := by rfl) :
    Pops P ops Q (⟨some d, .call ⟨.builtin .copy, #[s, x], #[t, tx]⟩, ty, pos, af, none⟩ :: rest) ⟨n, tm, S⟩ :=
  pops_one rfl (copy_nil rfl ht.h (by simp [known, hd.h]) hc.h hk hsrc hs k)
end
end Go.Proofs.Ytaaealngifkaeaa.Pv
