-- Thirtieth text: copy.
import Derived.Test.YtaaealngifkaeaaPvd
namespace Go.Proofs.Ytaaealngifkaeaa.Pv
set_option linter.all false
open Go.RowKit
set_option linter.unusedVariables false
theorem copy_exec {P : Program} {a : Act} {o : Oper} {s x : Operand} {t tx : TypeId} {w w' : World} {v' : Value} (ho : o.op = .call { callee := .builtin .copy, args := #[s, x], argTypes := #[t, tx] })
    (hr : (Builtin.copy_ #[t, tx] o.type #[a.eval s, a.eval x]).run P w = .ok v' w') : (execOp a.eval o).run P w = .ok (.value v') w' := by
  simp only [execOp, ho, resolve, invoke, builtin, Sem.run_bind, Sem.run_pure, Result.andThen_ok, List.map_toArray, List.map_cons, List.map_nil, hr]
set_option maxHeartbeats 1600000 in
theorem pop_copy {P : Program} {σ : PS} {o : Oper} {K : PV → List Blk → Prop} {s x : Operand} {t tx e : TypeId} {rows : List (List PV)} {τ g off len m sz : Nat} {blk : Blk} (ho : o.op = .call { callee := .builtin .copy, args := #[s, x], argTypes := #[t, tx] })
    (ht : P.underlying t = some (.slice e)) (hke : known P e = true) (hsz : P.cellsOf e = sz) (hk : srcKind P tx (σ.get x) = true) (hsrc : srcRows σ.S sz (σ.get x) = some rows)
    (hd : σ.get s = .vw τ g off len) (hb : σ.S[τ]? = some blk) (hg : blk.gen = g) (hown : blk.own = true) (hbs : blk.sz = sz) (hm : min rows.length len = m)
    (hK : K (.v (.int .i64 m)) (σ.S.set τ { blk with rows := blk.rows.take off ++ rows.take m ++ blk.rows.drop (off + m) })) : PopSem P σ o K :=
  pop_of_run fun c a r => by
    obtain ⟨ed, hed⟩ := Option.isSome_iff_exists.1 hke
    rw [← r.S] at hsrc hK hb
    obtain ⟨news, fn, hs, hfc⟩ := src_rel r.inv hsrc hk (r.get x)
    have hds := r.get s
    rw [hd] at hds
    have hB := r.inv.blk τ blk hb
    generalize hav : a.eval s = vs at hds
    cases hds with
    | vw _ _ _ _ _ hy hN hv =>
      obtain ⟨hol, base, cap, rfl, hcap, hcm, hdis⟩ := hv blk hb hg
      have hmr : m ≤ rows.length := by omega
      have hml : m ≤ len := by omega
      have hmin : Nat.min rows.length len = m := hm
      have hfm := hfc m hmr
      have hst0 : Step c c := .refl c
      rcases hdis with ⟨p, hp, rfl, cs, e', fz, k1, k2⟩ | ⟨h0, hc0⟩
      · obtain ⟨cs', e'', fz', k1', k2', k3', k4'⟩ := hB.heap p hp
        rw [k1] at k1'
        cases k1'
        have fm := fn.take hmr
        have hnl : (news.take (m * sz)).length = m * sz := by rw [fm.size, List.length_take, Nat.min_eq_left hmr]
        obtain ⟨o1, f1, g1⟩ := flat_of_cells (c := c) (sz := sz) (rows := blk.rows.take off) p.1 p.2 (fun j row hr => by rw [List.getElem?_take] at hr; split at hr; rw [← hbs]; exact hB.len _ row hr; cases hr) (fun j row k u hr hu => by
          rw [List.getElem?_take] at hr
          split at hr
          · obtain ⟨v, v1, v2, v3⟩ := k3' _ row k u hr hu
            exact ⟨v, by rw [cell_of k1, ← v1, ← hbs], v2, v3⟩
          · cases hr)
        obtain ⟨o2, f2, g2⟩ := flat_of_cells (c := c) (sz := sz) (rows := blk.rows.drop (off + m)) p.1 (p.2 + (off + m) * sz) (fun j row hr => by rw [List.getElem?_drop] at hr; rw [← hbs]; exact hB.len _ row hr) (fun j row k u hr hu => by
          rw [List.getElem?_drop] at hr
          obtain ⟨v, v1, v2, v3⟩ := k3' _ row k u hr hu
          refine ⟨v, ?_, v2, v3⟩
          rw [cell_of k1, ← v1, ← hbs]
          congr 1
          simp only [Nat.add_mul]
          omega)
        have l1 : (blk.rows.take off).length = off := by rw [List.length_take]; omega
        have l2 : (blk.rows.drop (off + m)).length = blk.rows.length - (off + m) := List.length_drop
        have s1 := f1.size
        have s2 := f2.size
        rw [l1] at s1
        rw [l2] at s2
        have hmul : off * sz + m * sz = (off + m) * sz := (Nat.add_mul _ _ _).symm
        have hall : blk.rows.length * sz = (off + m) * sz + (blk.rows.length - (off + m)) * sz := by rw [← Nat.add_mul]; congr 1; omega
        rw [hbs] at k2'
        have hfit : p.2 + off * sz + (news.take (m * sz)).length ≤ cs.size := by rw [hnl]; omega
        have hst := storeCells_run (P := P) p.1 (p.2 + off * sz) e' fz (news.take (m * sz)) 0 cs c.w k1 (by simpa using hfit) (k4' hown) fm.one
        simp only [Nat.add_zero] at hst
        have hrun : (Builtin.copy_ #[t, tx] o.type #[.slice (some ⟨p.1, p.2 + off * blk.sz, none⟩) len cap, a.eval x]).run P c.w = .ok (.int .i64 m) (c.w.setRow p.1 (cs.toList.take (p.2 + off * sz) ++ news.take (m * sz) ++ cs.toList.drop (p.2 + off * sz + (news.take (m * sz)).length)).toArray) := by
          rw [hbs]
          simp [Builtin.copy_, run_underlying ht, sizeOf_run hed, hsz, hs.len, hmin, hfm, hst, goInt]
        obtain ⟨u1, u2⟩ := updBlk r.inv hb hown (c.w.setRow p.1 (cs.toList.take (p.2 + off * sz) ++ news.take (m * sz) ++ cs.toList.drop (p.2 + off * sz + (news.take (m * sz)).length)).toArray) p { blk with rows := blk.rows.take off ++ rows.take m ++ blk.rows.drop (off + m) } c.N
          rfl rfl rfl (by simp) (fun b hb' hne => setRow_other _ _ _ _ (hne p hp)) (fun q cs1 e1 fz1 hq hh => by
            rw [hp] at hq
            cases hq
            rw [k1] at hh
            cases hh
            exact ⟨_, _, setRow_heap _ _ _ _ _ _ k1, by rw [List.size_toArray, List.length_append, List.length_append, List.length_take, List.length_drop, Array.length_toList]; omega⟩) (.inl ⟨p, hp, rfl⟩) (Nat.le_refl _) hB.gen
          (fun _ => ⟨rfl, hp, rfl, by simp only [List.length_append, List.length_take, List.length_drop]; omega⟩)
          (fun j row hr => by rw [hbs]; exact ((f1.append fm).append f2).len j row hr)
          ⟨_, e', fz, setRow_heap _ _ _ _ _ _ k1, by
            have hcl' : cs.toList.length = cs.size := Array.length_toList
            have hrl : (blk.rows.take off ++ rows.take m ++ blk.rows.drop (off + m)).length = blk.rows.length := by simp only [List.length_append, List.length_take, List.length_drop]; omega
            simp only [hrl, hbs]
            rw [List.size_toArray, List.length_append, List.length_append, List.length_take, List.length_drop]
            omega, by
            simp only [hbs]
            refine ((f1.append fm).append f2).rowsIn (fun k v hk' => ?_)
            rw [arr_over_get _ _ _ _ hfit, hnl]
            rcases Nat.lt_or_ge k (o1 ++ news.take (m * sz)).length with h | h
            · rw [List.getElem?_append_left h] at hk'
              rcases Nat.lt_or_ge k o1.length with h' | h'
              · rw [List.getElem?_append_left h'] at hk'
                rw [if_neg (by omega)]
                have := g1 k v hk'
                rw [cell_of k1] at this
                exact this
              · rw [List.getElem?_append_right h'] at hk'
                have := (List.getElem?_eq_some_iff.1 hk').1
                rw [if_pos (by omega), ← hk']
                congr 1
                omega
            · rw [List.getElem?_append_right h] at hk'
              rw [List.length_append] at h hk'
              rw [if_neg (by omega)]
              have := g2 _ v hk'
              rw [cell_of k1] at this
              rw [← this]
              congr 1
              omega, fun k hk' => k4' hown k (by rw [List.size_toArray, List.length_append, List.length_append, List.length_take, List.length_drop, Array.length_toList] at hk'; omega)⟩
        refine ⟨_, _, _, copy_exec ho (by rw [hav]; exact hrun), hK, u1, u2, .v _⟩
      · have hm0 : m = 0 := by omega
        subst hm0
        have hrows : blk.rows.take off ++ rows.take 0 ++ blk.rows.drop (off + 0) = blk.rows := by simp
        have hrun : (Builtin.copy_ #[t, tx] o.type #[.slice base len cap, a.eval x]).run P c.w = .ok (.int .i64 (0 : Nat)) c.w := by
          have hf0 : (Builtin.firstCells sz 0 (a.eval x)).run P c.w = .ok #[] c.w := by simpa using hfm
          cases base with
          | none => simp [Builtin.copy_, run_underlying ht, sizeOf_run hed, hsz, hs.len, hmin, hf0, goInt]
          | some ad => simp [Builtin.copy_, run_underlying ht, sizeOf_run hed, hsz, hs.len, hmin, hf0, goInt, storeCells]
        refine ⟨_, c, _, copy_exec ho (by rw [hav]; exact hrun), ?_, r.inv, .refl c, .v _⟩
        rw [hrows] at hK
        have : c.S.set τ { blk with rows := blk.rows } = c.S := by
          apply List.ext_getElem?
          intro i
          rw [List.getElem?_set]
          split
          · rename_i h; subst h
            split
            · rw [hb]
            · rename_i h; exact absurd (List.getElem?_eq_some_iff.1 hb).1 h
          · rfl
        rw [this] at hK
        exact hK
end Go.Proofs.Ytaaealngifkaeaa.Pv
