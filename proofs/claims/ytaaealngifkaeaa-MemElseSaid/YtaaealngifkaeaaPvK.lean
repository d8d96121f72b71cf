-- Eleventh text: append.
import Derived.Test.YtaaealngifkaeaaPvJ
namespace Go.Proofs.Ytaaealngifkaeaa.Pv
set_option linter.all false
open Go.RowKit
set_option linter.unusedVariables false

/-- An empty slice that has no block yet stays so. -/
theorem voidBlk {c : Cx} (hi : Inv c) {τ : Nat} {blk : Blk} (hb : c.S[τ]? = some blk) (hv : c.β τ = none) (blk' : Blk) (hr : blk'.rows = []) (hg : blk'.gen = c.N) :
    Inv { c with S := c.S.set τ blk', N := c.N + 1 } ∧ Step c { c with S := c.S.set τ blk', N := c.N + 1 } := by
  have hτ : τ < c.S.length := (List.getElem?_eq_some_iff.1 hb).1
  have get : ∀ {t : Nat} {b : Blk}, (c.S.set τ blk')[t]? = some b → (t = τ ∧ b = blk') ∨ (t ≠ τ ∧ c.S[t]? = some b) := by
    intro t b h
    rw [List.getElem?_set] at h
    split at h
    · rename_i e
      cases h
      exact .inl ⟨e.symm, rfl⟩
    · rename_i e
      exact .inr ⟨fun f => e f.symm, h⟩
  have hst : Step c { c with S := c.S.set τ blk', N := c.N + 1 } := by
    refine ⟨rfl, rfl, rfl, rfl, Nat.le_refl _, Nat.le_succ _, fun _ _ _ => rfl, fun t b h1 h2 => ?_, fun b hb' => ?_, fun b cs e fz h => ⟨cs, fz, h, rfl⟩⟩
    · rcases get h1 with ⟨rfl, rfl⟩ | ⟨h3, h4⟩
      · omega
      · exact ⟨b, h4, rfl, rfl, rfl, rfl⟩
    · obtain ⟨t, b1, q, h1, h2, h3, rfl⟩ := hb'
      rcases get h1 with ⟨rfl, rfl⟩ | ⟨h4, h5⟩
      · simp only [hv] at h3; cases h3
      · exact .inl ⟨t, b1, q, h5, h2, h3, rfl⟩
  refine ⟨⟨fun t b h1 => ?_, fun t b q h1 h2 => ?_, fun t t' b1 b2 q q' h1 h2 h3 h4 h5 h6 => ?_, hi.gLt⟩, hst⟩
  · rcases get h1 with ⟨rfl, rfl⟩ | ⟨h3, h4⟩
    · exact ⟨by rw [hg]; exact Nat.lt_succ_self _, fun i row h => by rw [hr] at h; simp at h, fun _ => hr, fun q hq => by simp only [hv] at hq; cases hq⟩
    · have hB := hi.blk t b h4
      exact ⟨Nat.lt_succ_of_lt hB.gen, hB.len, hB.void, fun q hq => by
        obtain ⟨cs, e, fz, k1, k2, k3, k4⟩ := hB.heap q hq
        exact ⟨cs, e, fz, k1, k2, fun i row j x r1 r2 => by
          obtain ⟨v, v1, v2, v3⟩ := k3 i row j x r1 r2
          exact ⟨v, v1, v2, v3.step hst⟩, k4⟩⟩
  · rcases get h1 with ⟨rfl, rfl⟩ | ⟨h3, h4⟩
    · simp only [hv] at h2; cases h2
    · exact hi.notG t b q h4 h2
  · rcases get h1 with ⟨rfl, rfl⟩ | ⟨e1, e2⟩
    · simp only [hv] at h4; cases h4
    · rcases get h2 with ⟨rfl, rfl⟩ | ⟨f1, f2⟩
      · simp only [hv] at h5; cases h5
      · exact hi.inj t t' b1 b2 q q' e2 f2 h3 h4 h5 h6

/-- What an append leaves: its answer and the blocks. -/
def appRes (S : List Blk) (sz : Nat) (d : PV) (rows : List (List PV)) (g' : Nat) : Option (PV × List Blk) :=
  match d with
  | .vw τ g off len => match S[τ]? with
    | some blk => if blk.gen = g ∧ blk.own = true ∧ blk.sz = sz ∧ off + len = blk.rows.length then some (.vw τ g' 0 (len + rows.length), S.set τ ⟨g', true, sz, blk.rows.drop off ++ rows⟩) else none
    | none => none
  | .v (.slice none 0 0) => some (.vw S.length g' 0 rows.length, S ++ [⟨g', true, sz, rows⟩])
  | .ro sz' true orows => if sz' = sz ∧ (orows = [] ∨ 0 < rows.length) then some (.vw S.length g' 0 (orows.length + rows.length), S ++ [⟨g', true, sz, orows ++ rows⟩]) else none
  | _ => none

def appLen : PV → Nat
  | .vw _ _ _ len => len
  | .ro _ _ orows => orows.length
  | _ => 0

/-- The growing append, out of cells that are told: a new block. -/
theorem app_grow {P : Program} {c : Cx} {t tx ty e : TypeId} {i : TypeInfo} {z : Value} {sz : Nat} (ht : P.underlying t = some (.slice e)) (hi : P.info? e = some i) (hz : i.zero = some z) (hsz : i.size = sz) (hpos : 0 < sz) (hzs : z.cells.size = sz)
    {base : Option Addr} {sLen sCap : Nat} {orows rows : List (List PV)} {olds news : List Value} (fo : Flat c sz orows olds) (fn : Flat c sz rows news) (hol : orows.length = sLen)
    (hold : (Builtin.firstCells sz sLen (.slice base sLen sCap)).run P c.w.drew = .ok olds.toArray c.w.drew) {x : Value} (hs : Src P sz tx x rows.length news c.w) (hg : sCap < sLen + rows.length)
    (h63 : sLen + rows.length ≤ maxLen) (hb : (sLen + rows.length) * i.bytes ≤ 140737488355328) :
    ∃ w' v' cs, (Builtin.append_ #[t, tx] ty #[.slice base sLen sCap, x]).run P c.w = .ok v' w' ∧ w'.os = c.w.os ∧ w'.tape = c.w.tape ∧ w'.output = c.w.output ∧ w'.heap = c.w.heap.push (.cells cs e) ∧
      RowsIn c sz (orows ++ rows) 0 cs ∧ (orows ++ rows).length * sz ≤ cs.size ∧ ∃ cap, v' = .slice (some ⟨c.w.heap.size, 0, none⟩) (sLen + rows.length) cap ∧ sLen + rows.length ≤ cap ∧ cap ≤ maxLen ∧ cap * sz ≤ cs.size := by
  subst hsz
  have hr := run_append_grow_src (P := P) c.w t tx ty e i z ht hi hz base sLen sCap olds hold x rows.length news hs hg (by simp only [maxLen] at h63; omega) (growslice_fits (by omega) hb)
  have hge := grownCap_ge c.w (sLen + rows.length) sCap e
  have hle := grownCap_le_maxLen c.w (sLen + rows.length) sCap e h63
  have hsize : ((olds ++ news).toArray ++ Builtin.zeroCells z.cells (grownCap c.w (sLen + rows.length) sCap e - (sLen + rows.length))).size = grownCap c.w (sLen + rows.length) sCap e * i.size := by
    simp only [Array.size_append, List.size_toArray, List.length_append, size_zeroCells, hzs, fo.size, fn.size, hol, ← Nat.add_mul]
    congr 1
    omega
  refine ⟨_, _, _, hr, rfl, rfl, rfl, rfl, (fo.append fn).rowsIn (o := 0) (fun k v hk => ?_), ?_, grownCap c.w (sLen + rows.length) sCap e, rfl, hge, hle, by rw [hsize]; exact Nat.le_refl _⟩
  · have hlt : k < (olds ++ news).toArray.size := by rw [List.size_toArray]; exact (List.getElem?_eq_some_iff.1 hk).1
    rw [Nat.zero_add, Array.getElem?_append_left hlt, List.getElem?_toArray]
    exact hk
  · rw [hsize, List.length_append, hol]
    exact Nat.mul_le_mul_right _ hge

theorem append_exec {P : Program} {a : Act} {o : Oper} {s x : Operand} {t tx : TypeId} {w w' : World} {v' : Value} (ho : o.op = .call { callee := .builtin .append, args := #[s, x], argTypes := #[t, tx] })
    (hr : (Builtin.append_ #[t, tx] o.type #[a.eval s, a.eval x]).run P w = .ok v' w') : (execOp a.eval o).run P w = .ok (.value v') w' := by
  simp only [execOp, ho, resolve, invoke, builtin, Sem.run_bind, Sem.run_pure, Result.andThen_ok, List.map_toArray, List.map_cons, List.map_nil, hr]

theorem firstCells_drew {P : Program} {sz n : Nat} {v : Value} {c : Cx} {olds : List Value} (b : Option Addr) (hv : ∃ l cp, v = .slice b l cp) (hc : ∀ ad, b = some ad → ∀ (j : Nat) (u : Value), olds[j]? = some u → c.w.cell? (ad.add j) = some u) (hl : olds.length = n * sz) (hn : b = none → olds = []) :
    (Builtin.firstCells sz n v).run P c.w.drew = .ok olds.toArray c.w.drew := by
  obtain ⟨l, cp, rfl⟩ := hv
  cases b with
  | none => rw [hn rfl]; simp [Builtin.firstCells]
  | some ad => exact run_firstCells_some c.w.drew sz n ad l cp olds hl (by simpa using hc ad rfl)

set_option maxHeartbeats 1600000 in
theorem pop_append {P : Program} {σ : PS} {o : Oper} {K : PV → List Blk → Prop} {s x : Operand} {t tx e : TypeId} {zr : List PV} {rows : List (List PV)} (ho : o.op = .call { callee := .builtin .append, args := #[s, x], argTypes := #[t, tx] })
    (ht : P.underlying t = some (.slice e)) (hz : zeroRow P e = some zr) (sz : Nat) (hsz : P.cellsOf e = sz) (hzl : zr.length = sz) (hpos : 0 < sz) (hk : srcKind P tx (σ.get x) = true) (hsrc : srcRows σ.S sz (σ.get x) = some rows)
    (h63 : appLen (σ.get s) + rows.length ≤ maxLen) (hby : (appLen (σ.get s) + rows.length) * P.bytesOf e ≤ 140737488355328)
    (hK : ∀ g', match appRes σ.S sz (σ.get s) rows g' with | some (y, S') => K y S' | none => False) : PopSem P σ o K :=
  pop_of_run fun c a r => by
    obtain ⟨z, hz1, hz2, i, hi, hzi⟩ := zeroRow_run hz c
    have hsz' : i.size = sz := by rw [← hsz]; simp [Program.cellsOf, hi]
    have hbi : i.bytes = P.bytesOf e := by simp [Program.bytesOf, hi]
    have hzs : z.cells.size = sz := hz2.1.trans hzl
    rw [← r.S] at hsrc hK
    obtain ⟨news, fn, hs, -⟩ := src_rel r.inv hsrc hk (r.get x)
    have hds := r.get s
    have hK' := hK c.N
    unfold appRes at hK'
    split at hK'
    · rename_i q y S' hres
      unfold appLen at h63 hby
      split at hres
      · rename_i τ g off len hsv
        rw [hsv] at hds h63 hby
        simp only at h63 hby
        split at hres
        · rename_i blk hb
          split at hres
          · rename_i hc
            obtain ⟨hg, hown, hbs, hlen⟩ := hc
            cases hres
            have hB := r.inv.blk τ blk hb
            generalize hav : a.eval s = vs at hds
            cases hds with
            | vw _ _ _ _ _ hy hN hv =>
              obtain ⟨_, base, cap, rfl, hcap, hcm, hdis⟩ := hv blk hb hg
              have hdl : (blk.rows.drop off).length = len := by rw [List.length_drop]; omega
              -- the old cells
              obtain ⟨olds, fo, hoc, hon⟩ : ∃ olds, Flat c sz (blk.rows.drop off) olds ∧ (∀ ad, base = some ad → ∀ (j : Nat) (u : Value), olds[j]? = some u → c.w.cell? (ad.add j) = some u) ∧ (base = none → olds = []) := by
                rcases hdis with ⟨p, hp, rfl, _⟩ | ⟨h0, hc0⟩
                · obtain ⟨cs, e', fz, k1, k2, k3, k4⟩ := hB.heap p hp
                  obtain ⟨olds, f1, f2⟩ := flat_of_cells (c := c) (sz := sz) (rows := blk.rows.drop off) p.1 (p.2 + off * sz) (fun j row hr => by rw [List.getElem?_drop] at hr; rw [← hbs]; exact hB.len _ row hr) (fun j row k u hr hu => by
                    rw [List.getElem?_drop] at hr
                    obtain ⟨v, v1, v2, v3⟩ := k3 _ row k u hr hu
                    refine ⟨v, ?_, v2, v3⟩
                    rw [cell_of k1, ← v1, ← hbs, Nat.add_mul]
                    congr 1
                    omega)
                  exact ⟨olds, f1, fun ad ha j u hu => by cases ha; rw [Addr.add_mid, hbs]; exact f2 j u hu, fun h => by cases h⟩
                · have hnil : blk.rows.drop off = [] := List.eq_nil_of_length_eq_zero (by omega)
                  rw [hnil]
                  exact ⟨[], Flat.nil c sz, fun ad _ j u hu => by simp at hu, fun _ => rfl⟩
              by_cases hroom : len + rows.length ≤ cap
              · rcases hdis with ⟨p, hp, rfl, cs, e', fz, k1, k2⟩ | ⟨h0, hc0⟩
                · -- room: the cells are stored
                  obtain ⟨cs', e'', fz', k1', k2', k3', k4'⟩ := hB.heap p hp
                  rw [k1] at k1'
                  cases k1'
                  have hfit : p.2 + (off + len) * sz + news.length ≤ cs.size := by
                    rw [fn.size, Nat.add_assoc, ← Nat.add_mul]
                    have : (off + len + rows.length) * sz ≤ (off + cap) * sz := Nat.mul_le_mul_right _ (by omega)
                    rw [← hbs] at this ⊢
                    omega
                  have hst := storeCells_run (P := P) p.1 (p.2 + off * sz + len * sz) e' fz news 0 cs c.w k1 (by rw [Nat.add_mul] at hfit; omega) (k4' hown) hs.one
                  simp only [Nat.add_zero] at hst
                  have hrun : (Builtin.append_ #[t, tx] o.type #[.slice (some ⟨p.1, p.2 + off * blk.sz, none⟩) len cap, a.eval x]).run P c.w = .ok (.slice (some ⟨p.1, p.2 + off * blk.sz, none⟩) (len + rows.length) cap) (c.w.setRow p.1 (cs.toList.take (p.2 + off * sz + len * sz) ++ news ++ cs.toList.drop (p.2 + off * sz + len * sz + news.length)).toArray) := by
                    rw [hbs]
                    rcases hs.kind with ⟨e3, hk3⟩ | hk3 <;> simp [Builtin.append_, run_underlying ht, run_underlying hk3, sizeOf, typeInfo, hi, hsz', hs.len, hroom, hs.cells, Addr.add_lit, hst]
                  have hfit' : p.2 + off * sz + len * sz + news.length ≤ cs.size := by rw [Nat.add_mul] at hfit; omega
                  obtain ⟨u1, u2⟩ := updBlk r.inv hb hown (c.w.setRow p.1 (cs.toList.take (p.2 + off * sz + len * sz) ++ news ++ cs.toList.drop (p.2 + off * sz + len * sz + news.length)).toArray) (p.1, p.2 + off * sz) ⟨c.N, true, sz, blk.rows.drop off ++ rows⟩ (c.N + 1)
                    rfl rfl rfl (by simp) (fun b hb' hne => setRow_other _ _ _ _ (hne p hp)) (fun q cs1 e1 fz1 hq hh => by
                      rw [hp] at hq
                      cases hq
                      rw [k1] at hh
                      cases hh
                      exact ⟨_, _, setRow_heap _ _ _ _ _ _ k1, by rw [List.size_toArray, List.length_append, List.length_append, List.length_take, List.length_drop, Array.length_toList]; omega⟩) (.inl ⟨p, hp, rfl⟩) (Nat.le_succ _) (Nat.lt_succ_self _) (fun h => absurd h (Nat.lt_irrefl _))
                    (fun j row hr => (fo.append fn).len j row hr)
                    ⟨_, e', fz, setRow_heap _ _ _ _ _ _ k1, by (have hfs := fn.size; have hcl' : cs.toList.length = cs.size := Array.length_toList); simp only [List.size_toArray, List.length_append, List.length_take, List.length_drop, hdl, Nat.add_mul]; omega,
                      (fo.append fn).rowsIn (fun k v hk' => by
                        rw [arr_over_get _ _ _ _ hfit']
                        have hol : olds.length = len * sz := by rw [fo.size, hdl]
                        rcases Nat.lt_or_ge k olds.length with h | h
                        · rw [List.getElem?_append_left h] at hk'
                          rw [if_neg (by omega)]
                          have := hoc _ rfl k v hk'
                          rw [Addr.add_mid, hbs, cell_of k1] at this
                          exact this
                        · rw [List.getElem?_append_right h] at hk'
                          have := (List.getElem?_eq_some_iff.1 hk').1
                          rw [if_pos (by simp only; omega), ← hk']
                          congr 1
                          simp only
                          omega), fun k hk' => k4' hown k (by rw [List.size_toArray, List.length_append, List.length_append, List.length_take, List.length_drop, Array.length_toList] at hk'; omega)⟩
                  refine ⟨_, _, _, append_exec ho (by rw [hav]; exact hrun), hK', u1, u2, .vw _ _ _ _ _ rfl (Nat.lt_succ_self _) (fun blk' h1 h2 => ?_)⟩
                  have hτ : τ < c.S.length := (List.getElem?_eq_some_iff.1 hb).1
                  simp only [List.getElem?_set_self hτ, Option.some.injEq] at h1
                  subst h1
                  refine ⟨by simp [hdl], _, cap, rfl, hroom, hcm, .inl ⟨(p.1, p.2 + off * sz), by simp, by simp [hbs], _, e', fz, setRow_heap _ _ _ _ _ _ k1, ?_⟩⟩
                  rw [List.size_toArray, List.length_append, List.length_append, List.length_take, List.length_drop, Array.length_toList]
                  simp only [Nat.zero_add]
                  rw [hbs, Nat.add_mul] at k2
                  omega
                · -- nothing there, nothing comes
                  have hm0 : rows = [] := List.eq_nil_of_length_eq_zero (by omega)
                  subst hm0
                  have hnil : blk.rows.drop off = [] := List.eq_nil_of_length_eq_zero (by omega)
                  have hrun : (Builtin.append_ #[t, tx] o.type #[.slice base len cap, a.eval x]).run P c.w = .ok (.slice base len cap) c.w := by
                    have hn0 : news = [] := List.eq_nil_of_length_eq_zero (by have := fn.size; simpa using this)
                    subst hn0
                    have hcl : (Builtin.firstCells sz 0 (a.eval x)).run P c.w = .ok #[] c.w := by simpa using hs.cells
                    have h00 : len + 0 ≤ cap := by omega
                    rcases hs.kind with ⟨e3, hk3⟩ | hk3 <;> cases base <;> simp [Builtin.append_, run_underlying ht, run_underlying hk3, sizeOf, typeInfo, hi, hsz', hs.len, h0, hc0, hcl, storeCells]
                  have hτ : τ < c.S.length := (List.getElem?_eq_some_iff.1 hb).1
                  cases hβ : c.β τ with
                  | none =>
                    obtain ⟨u1, u2⟩ := voidBlk r.inv hb hβ ⟨c.N, true, sz, blk.rows.drop off ++ []⟩ (by simp [hnil]) rfl
                    refine ⟨_, _, _, append_exec ho (by rw [hav]; exact hrun), hK', u1, u2, .vw _ _ _ _ _ rfl (Nat.lt_succ_self _) (fun blk' h1 h2 => ?_)⟩
                    simp only [List.getElem?_set_self hτ, Option.some.injEq] at h1
                    subst h1
                    exact ⟨by simp [hnil, h0], base, cap, by simp, by simp; omega, hcm, .inr ⟨by simp [h0], hc0⟩⟩
                  | some p =>
                    obtain ⟨cs, e', fz, k1, k2, k3, k4⟩ := hB.heap p hβ
                    obtain ⟨u1, u2⟩ := updBlk r.inv hb hown c.w p ⟨c.N, true, sz, blk.rows.drop off ++ []⟩ (c.N + 1) rfl rfl rfl (Nat.le_refl _) (fun b _ _ => rfl) (fun q cs1 e1 fz1 hq hh => ⟨cs1, fz1, hh, rfl⟩) (.inl ⟨p, hβ, rfl⟩) (Nat.le_succ _) (Nat.lt_succ_self _) (fun h => absurd h (Nat.lt_irrefl _))
                      (fun j row hr => by simp [hnil] at hr) ⟨cs, e', fz, k1, by simp [hnil]; omega, fun j row k u hr _ => by simp [hnil] at hr, k4 hown⟩
                    refine ⟨_, _, _, append_exec ho (by rw [hav]; exact hrun), hK', u1, u2, .vw _ _ _ _ _ rfl (Nat.lt_succ_self _) (fun blk' h1 h2 => ?_)⟩
                    simp only [List.getElem?_set_self hτ, Option.some.injEq] at h1
                    subst h1
                    exact ⟨by simp [hnil, h0], base, cap, by simp, by simp; omega, hcm, .inr ⟨by simp [h0], hc0⟩⟩
              · -- it grows
                obtain ⟨w', v', cs, g1, g2, g3, g4, g5, g6, g7, cp, rfl, g8, g9, g10⟩ := app_grow (P := P) (tx := tx) (ty := o.type) ht hi hzi hsz' hpos hzs fo fn hdl (firstCells_drew base ⟨len, cap, rfl⟩ hoc (by rw [fo.size, hdl]) hon) hs (by omega) h63 (by rw [hbi]; exact hby)
                have hnew : w'.heap[c.w.heap.size]? = some (.cells cs e) := by rw [g5]; simp
                have hold : ∀ b, b < c.w.heap.size → w'.heap[b]? = c.w.heap[b]? := fun b hb' => by rw [g5, Array.getElem?_push, if_neg (by omega)]
                obtain ⟨u1, u2⟩ := updBlk r.inv hb hown w' (c.w.heap.size, 0) ⟨c.N, true, sz, blk.rows.drop off ++ rows⟩ (c.N + 1) g2 g3 g4 (by rw [g5]; simp) (fun b hb' _ => hold b hb') (fun q cs1 e1 fz1 hq hh => ⟨cs1, fz1, by rw [hold _ (Array.getElem?_eq_some_iff.1 hh).1]; exact hh, rfl⟩) (.inr (Nat.le_refl _)) (Nat.le_succ _) (Nat.lt_succ_self _) (fun h => absurd h (Nat.lt_irrefl _))
                  (fun j row hr => (fo.append fn).len j row hr) ⟨cs, e, (0, 0), hnew, by simpa using g7, g6, fun k _ hk' => by omega⟩
                have hτ : τ < c.S.length := (List.getElem?_eq_some_iff.1 hb).1
                refine ⟨_, _, _, append_exec ho (by rw [hav]; exact g1), hK', u1, u2, .vw _ _ _ _ _ rfl (Nat.lt_succ_self _) (fun blk' h1 h2 => ?_)⟩
                simp only [List.getElem?_set_self hτ, Option.some.injEq] at h1
                subst h1
                exact ⟨by simp [hdl], _, cp, rfl, g8, g9, .inl ⟨(c.w.heap.size, 0), by simp, by simp, cs, e, (0, 0), hnew, by simpa using g10⟩⟩
          · cases hres
        · cases hres
      · rename_i hsv
        rw [hsv] at hds h63 hby
        simp only at h63 hby
        cases hres
        generalize hav : a.eval s = vs at hds
        cases hds
        by_cases hm : rows = []
        · subst hm
          have hn0 : news = [] := List.eq_nil_of_length_eq_zero (by have := fn.size; simpa using this)
          subst hn0
          have hcl : (Builtin.firstCells sz 0 (a.eval x)).run P c.w = .ok #[] c.w := by simpa using hs.cells
          have hrun : (Builtin.append_ #[t, tx] o.type #[.slice none 0 0, a.eval x]).run P c.w = .ok (.slice none 0 0) c.w := by
            rcases hs.kind with ⟨e3, hk3⟩ | hk3 <;> simp [Builtin.append_, run_underlying ht, run_underlying hk3, sizeOf, typeInfo, hi, hsz', hs.len, hcl]
          obtain ⟨u1, u2⟩ := pushBlk r.inv c.w ⟨c.N, true, sz, []⟩ none rfl rfl rfl (Nat.le_refl _) (fun _ _ => rfl) rfl (fun i row h => by simp at h) (fun _ => rfl) (fun q h => by cases h)
          refine ⟨_, _, _, append_exec ho (by rw [hav]; exact hrun), hK', u1, u2, .vw _ _ _ _ _ rfl (Nat.lt_succ_self _) (fun blk' h1 h2 => ?_)⟩
          simp at h1
          subst h1
          exact ⟨by simp, none, 0, rfl, by simp, by simp [maxLen], .inr ⟨rfl, rfl⟩⟩
        · have hpos' : 0 < rows.length := List.length_pos_iff.2 hm
          obtain ⟨w', v', cs, g1, g2, g3, g4, g5, g6, g7, cp, rfl, g8, g9, g10⟩ := app_grow (P := P) (tx := tx) (ty := o.type) (base := none) (sLen := 0) (sCap := 0) ht hi hzi hsz' hpos hzs (Flat.nil c sz) fn rfl (by simp [Builtin.firstCells]) hs (by omega) h63 (by rw [hbi]; exact hby)
          have hnew : w'.heap[c.w.heap.size]? = some (.cells cs e) := by rw [g5]; simp
          obtain ⟨u1, u2⟩ := pushBlk r.inv w' ⟨c.N, true, sz, rows⟩ (some (c.w.heap.size, 0)) g2 g3 g4 (by rw [g5]; simp) (fun b hb' => by rw [g5, Array.getElem?_push, if_neg (by omega)]) rfl (fun j row hr => fn.len j row hr) (fun h => by cases h)
            (fun q hq => by cases hq; exact ⟨Nat.le_refl _, cs, e, (0, 0), hnew, by simpa using g7, by simpa using g6, fun _ k _ hk' => by omega⟩)
          refine ⟨_, _, _, append_exec ho (by rw [hav]; exact g1), hK', u1, u2, .vw _ _ _ _ _ rfl (Nat.lt_succ_self _) (fun blk' h1 h2 => ?_)⟩
          simp at h1
          subst h1
          exact ⟨by simp, some ⟨c.w.heap.size, 0, none⟩, cp, by simp, by simpa using g8, g9, .inl ⟨(c.w.heap.size, 0), by simp, by simp, cs, e, (0, 0), hnew, by simpa using g10⟩⟩
      · rename_i sz' orows hsv
        rw [hsv] at hds h63 hby
        simp only at h63 hby
        split at hres
        · rename_i hc
          obtain ⟨rfl, hc⟩ := hc
          cases hres
          generalize hav : a.eval s = vs at hds
          cases hds with
          | ro _ _ _ base cap vals hcap hmax hfull hnone hlen hcell hpure hrel =>
            have hcf := hfull rfl
            subst hcf
            by_cases hm : rows = []
            · subst hm
              have ho0 : orows = [] := by rcases hc with h | h; exact h; simp at h
              subst ho0
              have hn0 : news = [] := List.eq_nil_of_length_eq_zero (by have := fn.size; simpa using this)
              subst hn0
              have hcl : (Builtin.firstCells sz' 0 (a.eval x)).run P c.w = .ok #[] c.w := by simpa using hs.cells
              have hrun : (Builtin.append_ #[t, tx] o.type #[.slice base 0 0, a.eval x]).run P c.w = .ok (.slice base 0 0) c.w := by
                rcases hs.kind with ⟨e3, hk3⟩ | hk3 <;> cases base <;> simp [Builtin.append_, run_underlying ht, run_underlying hk3, sizeOf, typeInfo, hi, hsz', hs.len, hcl, storeCells]
              obtain ⟨u1, u2⟩ := pushBlk r.inv c.w ⟨c.N, true, sz', []⟩ none rfl rfl rfl (Nat.le_refl _) (fun _ _ => rfl) rfl (fun i row h => by simp at h) (fun _ => rfl) (fun q h => by cases h)
              refine ⟨_, _, _, append_exec ho (by rw [hav]; exact hrun), hK', u1, u2, .vw _ _ _ _ _ rfl (Nat.lt_succ_self _) (fun blk' h1 h2 => ?_)⟩
              simp at h1
              subst h1
              exact ⟨by simp, base, 0, rfl, by simp, by simp [maxLen], .inr ⟨rfl, rfl⟩⟩
            · have hpos' : 0 < rows.length := List.length_pos_iff.2 hm
              have hro : RelV c (.ro sz' true orows) (.slice base orows.length orows.length) := .ro _ _ _ _ _ vals (Nat.le_refl _) hmax (fun _ => rfl) hnone hlen hcell hpure hrel
              obtain ⟨olds, fo, hoc, hon⟩ : ∃ olds, Flat c sz' orows olds ∧ (∀ ad, base = some ad → ∀ (j : Nat) (u : Value), olds[j]? = some u → c.w.cell? (ad.add j) = some u) ∧ (base = none → olds = []) := by
                cases base with
                | none => rw [hnone rfl]; exact ⟨[], Flat.nil c _, fun ad h => (by cases h), fun _ => rfl⟩
                | some ad =>
                  by_cases hsp : ad.spot = none
                  · obtain ⟨b, o', sp⟩ := ad
                    simp only at hsp
                    subst hsp
                    obtain ⟨olds, f1, f2⟩ := flat_of_cells (c := c) (sz := sz') (rows := orows) b o' hlen (fun i row j x hr hx => by
                      obtain ⟨k1, k2, k3, k4⟩ := hcell _ rfl i row j x hr hx
                      exact ⟨_, k3, k4, hrel i row j x hr hx⟩)
                    exact ⟨olds, f1, fun ad h j u hu => by cases h; rw [Addr.add_mid]; exact f2 j u hu, fun h => by cases h⟩
                  · have hz : orows.length = 0 := by
                      rcases Nat.eq_zero_or_pos orows.length with h | h
                      · exact h
                      · have hr0 := List.getElem?_eq_getElem h
                        exact (hsp (hcell ad rfl _ _ 0 _ hr0 (List.getElem?_eq_getElem (by rw [hlen _ _ hr0]; exact hpos))).1).elim
                    rw [List.eq_nil_of_length_eq_zero hz]
                    exact ⟨[], Flat.nil c _, fun ad _ j u hu => by simp at hu, fun _ => rfl⟩
              obtain ⟨w', v', cs, g1, g2, g3, g4, g5, g6, g7, cp, rfl, g8, g9, g10⟩ := app_grow (P := P) (tx := tx) (ty := o.type) (sCap := orows.length) ht hi hzi hsz' hpos hzs fo fn rfl (firstCells_drew base ⟨_, _, rfl⟩ hoc fo.size hon) hs (by omega) h63 (by rw [hbi]; exact hby)
              have hnew : w'.heap[c.w.heap.size]? = some (.cells cs e) := by rw [g5]; simp
              obtain ⟨u1, u2⟩ := pushBlk r.inv w' ⟨c.N, true, sz', orows ++ rows⟩ (some (c.w.heap.size, 0)) g2 g3 g4 (by rw [g5]; simp) (fun b hb' => by rw [g5, Array.getElem?_push, if_neg (by omega)]) rfl (fun j row hr => (fo.append fn).len j row hr) (fun h => by cases h)
                (fun q hq => by cases hq; exact ⟨Nat.le_refl _, cs, e, (0, 0), hnew, by simpa using g7, by simpa using g6, fun _ k _ hk' => by omega⟩)
              refine ⟨_, _, _, append_exec ho (by rw [hav]; exact g1), hK', u1, u2, .vw _ _ _ _ _ rfl (Nat.lt_succ_self _) (fun blk' h1 h2 => ?_)⟩
              simp at h1
              subst h1
              exact ⟨by simp, some ⟨c.w.heap.size, 0, none⟩, cp, by simp, g8, g9, .inl ⟨(c.w.heap.size, 0), by simp, by simp, cs, e, (0, 0), hnew, by simpa using g10⟩⟩
        · cases hres
      · cases hres
    · exact hK'.elim
end Go.Proofs.Ytaaealngifkaeaa.Pv
