-- Regions of an iterator; the one where yield is called.
import Derived.Test.YteocmeidkdhmiaaRfA
namespace Go.Proofs.Yteocmeidkdhmiaa.Pv
set_option linter.all false
set_option linter.unusedVariables false
open Go.RowKit Go.Proofs
theorem put_defers (a : Act) (d : Option Tmp) (v : Value) : (a.put d v).defers = a.defers := by cases d <;> rfl
/-- Operations ahead of others. -/
theorem pops_pre {P : Program} {ops : Array Oper} {K : PS → Prop} {ro : Option Nat} {mm : Nat} {Q : Exit → Act → World → Prop} {l2 : List Oper} : ∀ (l : List Oper) (σ : PS) (c : Cx) (a : Act), (∀ o ∈ ops.toList, dstOk σ.n o = true) → (∀ o ∈ l, dstOk σ.n o = true) → Pops P ops.toList K l σ → Rel c σ a →
    (∀ c' σ' a', Step c c' → Rel c' σ' a' → a'.defers = a.defers → K σ' → wpListIn (FR ro) mm P ops Q l2 a' c'.w) → wpListIn (FR ro) mm P ops Q (l ++ l2) a c.w
  | [], σ, c, a, _, _, h, r, k => k c σ a (.refl c) r rfl h
  | o :: rest, σ, c, a, hd, hl, h, r, k => by
    have hdo : ∀ t, o.dst = some t → t < σ.n := dstOk_lt (hl o (by simp))
    have hnd := dstOk_nd (hl o (by simp))
    have hput : ∀ x S', (σ.put o.dst x S').n = σ.n := fun x S' => by cases o.dst <;> rfl
    have main : PopSem P σ o (fun x S' => Pops P ops.toList K rest (σ.put o.dst x S')) → o.wpIn (FR ro) mm P a c.w (wpListIn (FR ro) mm P ops Q (rest ++ l2)) Q := by
      intro hp
      refine wpIn_of_wp hnd (hp c a r _ _ (fun x c' v hK hi hs hv => ?_))
      exact pops_pre rest _ c' _ (fun o' ho' => by rw [hput]; exact hd o' ho') (fun o' ho' => by rw [hput]; exact hl o' (by simp [ho'])) hK (r.put hs hi hv hdo)
        (fun c2 σ2 a2 h1 h2 h3 h4 => k c2 σ2 a2 (hs.trans h1) h2 (h3.trans (put_defers _ _ _)) h4)
    unfold Pops at h
    rw [List.cons_append]
    unfold wpListIn
    split at h
    · rename_i hg
      rw [if_pos (by simp [Region.wanted, hg])]
      exact main h
    · rename_i j w hg
      obtain ⟨b, h1, h2, h3⟩ := h
      have hy := yielded_of r h1 hd
      by_cases hbw : b = w
      · rw [if_pos (by rw [show Region.wanted o (yielded ops a.tmps) = (b == w) from by unfold Region.wanted; rw [hg]; exact hy]; simp [hbw])]
        exact main (h2 hbw)
      · rw [if_neg (by rw [show Region.wanted o (yielded ops a.tmps) = (b == w) from by unfold Region.wanted; rw [hg]; exact hy]; simp [hbw])]
        have hb' : b = !w := by cases b <;> cases w <;> simp_all
        have hr := r.put (.refl c) r.inv (rel_void c) hdo
        rw [r.S] at hr
        exact ⟨fun _ _ => trivial, pops_pre rest _ c _ (fun o' ho' => by rw [hput]; exact hd o' ho') (fun o' ho' => by rw [hput]; exact hl o' (by simp [ho'])) (h3 hb') hr
          (fun c2 σ2 a2 k1 k2 k3 k4 => k c2 σ2 a2 k1 k2 (k3.trans (put_defers _ _ _)) k4)⟩
/-- What is known of slots, pure, is known of the caller's place once more. -/
theorem rel_back {c c1 : Cx} {n : Nat} {σ : PS} {a : Act} {T : List (Nat × PV)} (hi : Inv c) (hst : Step c.lent0 c1) (r : Rel c1 σ a) (hd : a.defers = []) (hT : HoldsP σ n T) : Rel (Cx.lent0 { c with w := c1.w }) ⟨n, T, []⟩ a := by
  obtain ⟨h1, h2, h3⟩ := lent0_back hi hst
  obtain ⟨t1, t2, t3⟩ := hT
  refine ⟨rfl, lent0_inv h1, r.n.trans t1, by rw [hd]; exact .nil _, fun t => ?_⟩
  refine RelV.lent0 (look_pure t3 t) (h3 _ _ (look_pure t3 t) ?_)
  rcases has_look t2.all t with h | h
  · simp only [h]; exact .undef _
  · simp only [h]; exact r.tm t
theorem ti_region {P : Program} {JS : Option Nat → Cx → Prop} {id : Nat} {ops : Array Oper} {n : Nat} {T : List (Nat × PV)} {s : Option Nat} {Q : Exit → PS → Option Nat → Prop} (hJ : Stable (JS s)) (hd : ops.toList.all (dstOk n) = true)
    (h : Pops P ops.toList (fun σ' => ∃ T', HoldsP σ' n T' ∧ Q .normal ⟨n, T', []⟩ s) ops.toList ⟨n, T, []⟩) : TI P JS (.region id ops false) ⟨n, T, []⟩ s Q := by
  rintro mm a w ⟨c, rfl, hi, hj, r, hdf⟩
  refine wpIn_region_list ?_
  have hd' := List.all_eq_true.1 hd
  have := pops_pre (ro := none) (mm := mm) (Q := fun e a' w' => ∃ σ' s', JRel (JS s') σ' a' w' ∧ Q e σ' s') (l2 := []) ops.toList ⟨n, T, []⟩ c.lent0 a hd' hd' h r (fun c1 σ1 a1 h1 h2 h3 h4 => by
    obtain ⟨T', k1, k2⟩ := h4
    obtain ⟨g1, g2, g3⟩ := lent0_back hi h1
    exact ⟨⟨n, T', []⟩, s, ⟨{ c with w := c1.w }, rfl, g1, hJ c _ hj hi g1 g2, rel_back hi h1 h2 (h3.trans hdf) k1, h3.trans hdf⟩, k2⟩)
  rw [List.append_nil] at this
  exact this
/-- What a call of yield does, round by round. -/
def Rounds (P : Program) (l : Nat) (JS : Option Nat → Cx → Prop) (items : List (List PV)) : Prop :=
  ∀ (mm k : Nat) (c : Cx) (item : List PV) (vals : Array Value), JS (some k) c → Inv c → items[k]? = some item → vals.size = item.length → (∀ (i : Nat) (x : PV) (v : Value), item[i]? = some x → vals[i]? = some v → RelV c x v) →
    YieldAt (FR none) mm P l vals c.w fun e W' => ∃ c', c'.w = W' ∧ Inv c' ∧ Kp c c' ∧ ((e = .returned (.bool true) ∧ JS (some (k + 1)) c') ∨ (e = .returned (.bool false) ∧ JS none c'))
theorem ti_yield {P : Program} {JS : Option Nat → Cx → Prop} {id l k : Nat} {items : List (List PV)} {ops : Array Oper} {n : Nat} {T : List (Nat × PV)} {Q : Exit → PS → Option Nat → Prop} (m : Nat) (o : Oper) (d : Tmp) (x : Operand) (args : Array Operand) (ats : Array TypeId) (hR : Rounds P l JS items) (hJ : ∀ s, Stable (JS s)) (hd : ops.toList.all (dstOk n) = true)
    (ho : ops.toList[m]? = some o) (hop : o.op = .call ⟨.value x, args, ats⟩) (hdst : o.dst = some d) (hgu : o.guard = none)
    (h : Pops P ops.toList (fun σ1 => ∃ (T1 : List (Nat × PV)) (item : List PV), HoldsP σ1 n T1 ∧ PS.get ⟨n, T1, []⟩ x = .v (.func (.yield l) #[] #[]) ∧ items[k]? = some item ∧ args.toList.map (PS.get ⟨n, T1, []⟩) = item ∧ (∀ y ∈ item, y.Pure) ∧
      ∀ b : Bool, Pops P ops.toList (fun σ' => ∃ T', HoldsP σ' n T' ∧ Q .normal ⟨n, T', []⟩ (if b then some (k + 1) else none)) (ops.toList.drop (m + 1)) ⟨n, (d, .v (.bool b)) :: T1, []⟩) (ops.toList.take m) ⟨n, T, []⟩) : TI P JS (.region id ops false) ⟨n, T, []⟩ (some k) Q := by
  rintro mm a w ⟨c, rfl, hi, hj, r, hdf⟩
  refine wpIn_region_list ?_
  have hd' := List.all_eq_true.1 hd
  have hm : m < ops.toList.length := (List.getElem?_eq_some_iff.1 ho).1
  have hsplit : ops.toList = ops.toList.take m ++ (o :: ops.toList.drop (m + 1)) := by
    rw [← (List.getElem?_eq_some_iff.1 ho).2, ← List.drop_eq_getElem_cons hm, List.take_append_drop]
  have key := pops_pre (ro := none) (mm := mm) (Q := fun e a' w' => ∃ σ' s', JRel (JS s') σ' a' w' ∧ Q e σ' s') (l2 := o :: ops.toList.drop (m + 1)) (ops.toList.take m) ⟨n, T, []⟩ c.lent0 a hd' (fun o' ho' => hd' o' (List.mem_of_mem_take ho')) h r (fun c1 σ1 a1 h1 h2 h3 h4 => by
    obtain ⟨T1, item, k1, hx, hit, hargs, hpu, kk⟩ := h4
    obtain ⟨g1, g2, g3⟩ := lent0_back hi h1
    have hd1 := h3.trans hdf
    have r1 := rel_back hi h1 h2 hd1 k1
    have j1 := hJ _ c _ hj hi g1 g2
    generalize hc2 : ({ c with w := c1.w } : Cx) = c2 at *
    have hw2 : c1.w = c2.w := by rw [← hc2]
    rw [hw2]
    have hev : a1.eval x = .func (.yield l) #[] #[] := by
      have := r1.get x
      rw [hx] at this
      generalize a1.eval x = v at this
      cases this
      rfl
    have hnt : o ∈ ops.toList := List.mem_of_getElem? ho
    have hvals : ∀ (i : Nat) (y : PV) (v : Value), item[i]? = some y → (args.map a1.eval)[i]? = some v → RelV c2 y v := by
      intro i y v hy hv
      rw [← hargs, List.getElem?_map, Array.getElem?_toList] at hy
      rw [Array.getElem?_map] at hv
      obtain ⟨q, hq, rfl⟩ := Option.map_eq_some_iff.1 hy
      rw [hq] at hv
      cases hv
      refine (r1.get q).pure (hpu _ ?_) (fun b hb h => hb ((lent0_X c2 b).2 h)) (fun _ _ _ h => h) (fun _ _ _ _ h => h)
      rw [← hargs]
      exact List.mem_map.2 ⟨q, by have := Array.mem_of_getElem? hq; simpa using this, rfl⟩
    obtain ⟨fn, tmps, assign, body, hy, hround⟩ := hR (mm - 1) k c2 item (args.map a1.eval) j1 g1 hit (by rw [← hargs]; simp) hvals
    unfold wpListIn
    rw [if_pos (by simp [Region.wanted, hgu])]
    refine ⟨fun _ _ => trivial, ?_⟩
    rw [Oper.semAt_eq _ _ _ (fun cc hcc => by rw [hop] at hcc; cases hcc)]
    have hrun : (execOp a1.eval o).run P c2.w = .ok (.round l fn tmps assign body) c2.w := by
      simp only [execOp, hop, resolve, hev, Deferred.ofValue, Sem.run_bind, Sem.run_pure, Result.andThen_ok, invoke, callFunc, Array.append_empty, Array.empty_append, hy]
    rw [hrun, Oper.uponIn_round]
    refine ⟨fun hh => by simp [FR, Fence.wide] at hh, RoundIn.mono hround ?_⟩
    rintro e W' ⟨c3, rfl, i3, hkp, he⟩
    have go : ∀ b : Bool, JS (if b then some (k + 1) else none) c3 → wpListIn (FR none) mm P ops (fun e a' w' => ∃ σ' s', JRel (JS s') σ' a' w' ∧ Q e σ' s') (ops.toList.drop (m + 1)) (a1.put o.dst (.bool b)) c3.w := by
      intro b hjb
      have hdn : d < n := dstOk_lt (hd' o hnt) d hdst
      have r3 : Rel c3.lent0 ⟨n, (d, .v (.bool b)) :: T1, []⟩ (a1.put o.dst (.bool b)) := by
        rw [hdst]
        refine ⟨rfl, lent0_inv i3, by simp [Act.put]; exact r1.n, by rw [show (a1.put (some d) (.bool b)).defers = a1.defers from rfl, hd1]; exact .nil _, fun t => ?_⟩
        simp only [look, Act.put]
        split
        · rename_i e; subst e
          rw [Array.getD_eq_getD_getElem?, Array.getElem?_setIfInBounds_self_of_lt (by rw [r1.n]; exact hdn)]
          exact .v _
        · rename_i e
          rw [Array.getD_eq_getD_getElem?, Array.getElem?_setIfInBounds_ne (fun h => e h.symm), ← Array.getD_eq_getD_getElem?]
          have hpt := look_pure k1.2.2 t
          refine RelV.lent0 hpt (hkp _ _ hpt ((r1.tm t).pure hpt (fun b hb h => hb ((lent0_X c2 b).2 h)) (fun _ _ _ h => h) (fun _ _ _ _ h => h)))
      have := pops_pre (ro := none) (mm := mm) (Q := fun e a' w' => ∃ σ' s', JRel (JS s') σ' a' w' ∧ Q e σ' s') (l2 := []) (ops.toList.drop (m + 1)) _ c3.lent0 _ hd' (fun o' ho' => hd' o' (List.mem_of_mem_drop ho')) (kk b) r3 (fun c4 σ4 a4 h4 h5 h6 h7 => by
        obtain ⟨T', q1, q2⟩ := h7
        obtain ⟨p1, p2, p3⟩ := lent0_back i3 h4
        have hd4 : a4.defers = [] := h6.trans ((put_defers _ _ _).trans hd1)
        exact ⟨⟨n, T', []⟩, _, ⟨{ c3 with w := c4.w }, rfl, p1, hJ _ c3 _ hjb i3 p1 p2, rel_back i3 h4 h5 hd4 q1, hd4⟩, q2⟩)
      rw [List.append_nil] at this
      exact this
    rcases he with ⟨rfl, hj3⟩ | ⟨rfl, hj3⟩
    · exact go true hj3
    · exact go false hj3)
  rw [← hsplit] at key
  exact key
theorem ti_ret {P : Program} {JS : Option Nat → Cx → Prop} {σ : PS} {s : Option Nat} {Q : Exit → PS → Option Nat → Prop} (h : Q .ret σ s) : TI P JS .ret σ s Q := fun mm a w hj => wpIn_ret ⟨σ, s, hj, h⟩
theorem ti_skip {P : Program} {JS : Option Nat → Cx → Prop} {σ : PS} {s : Option Nat} {Q : Exit → PS → Option Nat → Prop} (h : Q .normal σ s) : TI P JS .skip σ s Q := fun mm a w hj => wpIn_skip ⟨σ, s, hj, h⟩
theorem ti_exit {P : Program} {JS : Option Nat → Cx → Prop} {id : Nat} {σ : PS} {s : Option Nat} {Q : Exit → PS → Option Nat → Prop} (h : Q (.exit id) σ s) : TI P JS (.exit id) σ s Q := fun mm a w hj => wpIn_exit ⟨σ, s, hj, h⟩
end Go.Proofs.Yteocmeidkdhmiaa.Pv
