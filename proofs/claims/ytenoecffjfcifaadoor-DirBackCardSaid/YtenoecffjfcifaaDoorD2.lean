-- Merged of DrK DrL DrM DrN DrO.
import Derived.Test.YtenoecffjfcifaaDoorD1
import Derived.Test.YtenoecffjfcifaaDoorLay
import Derived.Shelf.SlSortCmp.WholeK
import Derived.Shelf.Small.Strs
import Derived.Sort.Grow
import Derived.Sort.Row
-- slices.SortFunc of files, by their paths.
namespace Go.Proofs.YtenoecffjfcifaaDoor.Pv
set_option linter.all false
set_option linter.unusedVariables false
open Go.RowKit Go.Proofs Go.Sort
set_option maxRecDepth 100000
set_option maxHeartbeats 4000000
theorem perm_map_inv {α β : Type} {f : α → β} {l1 l2 : List β} (h : l1.Perm l2) : ∀ l, l2 = l.map f → ∃ l' : List α, l'.Perm l ∧ l'.map f = l1 := by
  induction h with
  | nil => intro l hl; exact ⟨[], by rw [List.map_eq_nil_iff.1 hl.symm], rfl⟩
  | cons x _ ih =>
    intro l hl
    cases l with
    | nil => cases hl
    | cons a l =>
      rw [List.map_cons, List.cons.injEq] at hl
      obtain ⟨l', h1, h2⟩ := ih l hl.2
      exact ⟨a :: l', h1.cons a, by rw [List.map_cons, h2, hl.1]⟩
  | swap x y m =>
    intro l hl
    match l, hl with
    | a :: b :: l, hl =>
      simp only [List.map_cons, List.cons.injEq] at hl
      exact ⟨b :: a :: l, .swap .., by simp [hl.1, hl.2.1, hl.2.2]⟩
  | trans _ _ ih1 ih2 =>
    intro l hl
    obtain ⟨l2, h1, h2⟩ := ih2 l hl
    obtain ⟨l3, h3, h4⟩ := ih1 l2 h2.symm
    exact ⟨l3, h3.trans h1, h4⟩
theorem list_choose {α β : Type} [Inhabited β] {R : Nat → α → β → Prop} (L : List α) (h : ∀ i a, L[i]? = some a → ∃ b, R i a b) : ∃ M : List β, M.length = L.length ∧ ∀ i a b, L[i]? = some a → M[i]? = some b → R i a b := by
  classical
  refine ⟨L.mapIdx fun i a => if h : ∃ b, R i a b then h.choose else default, by simp, fun i a b ha hb => ?_⟩
  rw [List.getElem?_mapIdx, ha, Option.map_some, Option.some.injEq] at hb
  have := h i a ha
  rw [dif_pos this] at hb
  rw [← hb]
  exact this.choose_spec
theorem cb_lt : ∀ (a b : List UInt8), Lib.compareBytes a b < 0 ↔ a < b
  | [], [] => by simp [Lib.compareBytes]
  | [], _ :: _ => by simp [Lib.compareBytes]
  | _ :: _, [] => by simp [Lib.compareBytes]
  | x :: a, y :: b => by
    rw [Lib.compareBytes, List.cons_lt_cons_iff]
    by_cases h : x < y
    · simp [h]
    · by_cases k : y < x
      · simp only [h, k, if_true, if_false, false_or]
        constructor
        · intro h'; exact absurd h' (by decide)
        · rintro ⟨rfl, _⟩; exact absurd k h
      · have e : x = y := UInt8.le_antisymm (UInt8.not_lt.1 k) (UInt8.not_lt.1 h)
        subst e
        simp only [h, if_false, false_or, true_and]
        exact cb_lt a b
abbrev SV := List UInt8 × {v : Value // v.oneCell' = true}
instance : Inhabited SV := ⟨([], ⟨.int .i64 0, rfl⟩)⟩
def encSV (x : SV) : List Value := [.string ⟨x.1.toArray⟩, x.2.1]
def cfSV (x y : SV) : Int := Lib.compareBytes x.1 y.1
theorem lt_SV (x y : SV) : ltOf cfSV x y = lessF (i64s x.1) (i64s y.1) := by
  have h := u8s_lt (oct_i64s x.1) (oct_i64s y.1)
  rw [u8s_i64s, u8s_i64s, ← cb_lt] at h
  unfold ltOf cfSV
  cases e : lessF (i64s x.1) (i64s y.1) with
  | true => exact decide_eq_true (h.2 e)
  | false => exact decide_eq_false (fun k => by rw [h.1 k] at e; cases e)
theorem swo_SV : SWO (ltOf cfSV) where
  irrefl x := by rw [lt_SV]; exact lessF_irrefl _
  trans x y z := by rw [lt_SV, lt_SV, lt_SV]; exact lessF_trans _ _ _
  ntrans x y z := by
    rw [lt_SV, lt_SV, lt_SV]
    intro h k
    exact leF_trans (a := i64s z.1) (b := i64s y.1) (c := i64s x.1) k h
theorem of2_calls (a b : ByteArray) (va vb : Value) (W : World) : Calls Tryd.prog 39 #[.agg #[.string a, va], .agg #[.string b, vb]] W fun e w' => e = .returned (.int .i64 (Lib.compareBytes a.data.toList b.data.toList)) ∧ ∃ q os', w' = grow (W.drewN q) os' := by
  have hf : layCmp_ren.f 106 = 40 := by kernel_rfl
  have hcon := fun W' => Any.strings_Compare layCmp a b W'
  rw [hf] at hcon
  clear hf
  generalize Lib.compareBytes a.data.toList b.data.toList = r at hcon ⊢
  go_enter Tryd.func39, Tryd.ntmps39
  go_wp2_with (go_at_call 40; refine (hcon _).mono ?_; rintro e w' ⟨rfl, rfl⟩)
  go_ret
  exact ⟨rfl, 0, _, by rw [alloc_eq_grow, alloc_eq_grow, grow_grow]; rfl⟩
theorem of2_lays (blk off size : Nat) (w : World) : CmpLays Tryd.prog 39 #[] encSV 2 cfSV blk off size w :=
  fun _ _ _ _ x y => of2_calls ⟨x.1.toArray⟩ ⟨y.1.toArray⟩ x.2.1 y.2.1 _
end Go.Proofs.YtenoecffjfcifaaDoor.Pv
-- slices.SortFunc of files, by their paths: a contract.
namespace Go.Proofs.YtenoecffjfcifaaDoor.Pv
set_option linter.all false
set_option linter.unusedVariables false
open Go.RowKit Go.Proofs Go.Sort
set_option maxRecDepth 100000
set_option maxHeartbeats 4000000
theorem fils_cell {c : Cx} {cs : Array Value} {F : List Fi} {k : Nat} (h : ∀ (i : Nat) (row : List PV) (j : Nat) (x : PV), (filRows F)[i]? = some row → row[j]? = some x → ∃ v, cs[k + (i * 2 + j)]? = some v ∧ v.oneCell' = true ∧ RelV c x v) : ∀ (i : Nat) (f : Fi), F[i]? = some f → ∃ x : SV, cs[k + i * 2]? = some (.string (str f.1)) ∧ x.1 = u8s f.1 ∧ cs[k + (i * 2 + 1)]? = some x.2.1 ∧ RelV c (.ro 1 false (ints .u8 f.2)) x.2.1 := by
  intro i f hf
  have hr : (filRows F)[i]? = some [.v (.string (str f.1)), .ro 1 false (ints .u8 f.2)] := by
    have := filRows_get hf
    rwa [Int.toNat_natCast] at this
  obtain ⟨v, h1, h2, h3⟩ := h i _ 0 _ hr rfl
  cases h3
  obtain ⟨u, k1, k2, k3⟩ := h i _ 1 _ hr rfl
  exact ⟨(u8s f.1, ⟨u, k2⟩), h1, rfl, k1, k3⟩
theorem encSV_get (d : Array SV) (t : Nat) (h : t < d.size * 2) : (flatK encSV 2 d)[t]! = (encSV d[t / 2]!)[t % 2]! := get_flatK encSV 2 d t h
theorem fsort_ok (F : List Fi) (ho : ∀ f ∈ F, Oct f.1) (hl : F.length ≤ 1000000) (hne : F ≠ []) (g : Nat) : GCall Tryd.prog 38 [.vw 0 g 0 F.length, .fn (.func 39) [] []] [⟨g, true, 2, filRows F⟩] (fun x S' => ∃ G : List Fi, x = .tup [] ∧ G.Perm F ∧ (G.map (·.1)).Pairwise leF ∧ S' = [⟨g, true, 2, filRows G⟩]) := by
  intro c vals hi hS hlen hv
  have hb : c.S[0]? = some ⟨g, true, 2, filRows F⟩ := by rw [hS]; rfl
  obtain ⟨v0, v1, rfl⟩ : ∃ v0 v1, vals = #[v0, v1] := by
    have : vals.size = 2 := hlen
    refine ⟨vals[0], vals[1], ?_⟩
    apply Array.ext
    · simp [this]
    · intro i h1 h2
      simp at h2
      match i, h2 with
      | 0, _ => rfl
      | 1, _ => rfl
  have h0 := hv 0 _ v0 rfl rfl
  have hfn := hv 1 _ v1 rfl rfl
  have hv1 : v1 = .func (.func 39) #[] #[] := by
    cases hfn
    simp_all
  subst hv1
  have hpos : 0 < F.length := List.length_pos_iff.2 hne
  cases h0 with
  | vw _ _ _ _ _ hy hN hvw =>
  obtain ⟨h1, a, cap, rfl, h3, h4, h5⟩ := hvw _ hb rfl
  rcases h5 with ⟨p, hp, rfl, cs, e, fz, h6, h7⟩ | ⟨h5, _⟩
  · have hB := hi.blk 0 _ hb
    obtain ⟨_, cs', e', fz', k1, k2, k3, k4⟩ := (hB.heap p hp).cells ⟨cs, e, fz, h6⟩
    rw [h6] at k1
    cases k1
    have hfz := (k4 rfl).get
    simp only [filRows_length] at k2
    have hplt : p.1 < c.w.heap.size := (Array.getElem?_eq_some_iff.1 h6).1
    obtain ⟨D, hDl, hD⟩ := list_choose (β := SV) (R := fun i f x => cs[p.2 + i * 2]? = some (.string (str f.1)) ∧ x.1 = u8s f.1 ∧ cs[p.2 + (i * 2 + 1)]? = some x.2.1 ∧ RelV c (.ro 1 false (ints .u8 f.2)) x.2.1) F (fils_cell k3)
    have hH : HoldsK encSV 2 c.w p.1 (p.2 + 0 * 2) D.toArray := by
      intro t ht
      rw [size_flatK, List.size_toArray] at ht
      rw [encSV_get _ _ (by simpa using ht)]
      have hq : t / 2 < D.length := by omega
      have hqF : t / 2 < F.length := by omega
      obtain ⟨r1, r2, r3, r4⟩ := hD (t / 2) _ _ (List.getElem?_eq_getElem hqF) (List.getElem?_eq_getElem hq)
      have hDq : D.toArray[t / 2]! = D[t / 2] := by simp [hq]
      rw [hDq, Nat.zero_mul, Nat.add_zero]
      refine ⟨?_, ?_⟩
      · rw [World.cell?, h6]
        simp only
        rcases Nat.mod_two_eq_zero_or_one t with hm | hm
        · rw [show p.2 + t = p.2 + t / 2 * 2 by omega, r1, hm]
          simp [encSV, r2, str_u8s]
        · rw [show p.2 + t = p.2 + (t / 2 * 2 + 1) by omega, r3, hm]
          simp [encSV]
      · simp only [World.frozen?, h6]
        have := hfz (p.2 + t) (by omega)
        simpa using this
    have hf : laySF_ren.f 6 = 38 := by kernel_rfl
    have eg : ∀ args w, (callFunc 39 args).run Tryd.prog w = .ok (.enter 39 args) w := enters_of Tryd.func39 (by kernel_rfl) rfl
    have call := AnyQ.slices_SortFunc laySF 2 Tryd.isAgg56 Tryd.sizeOf56 encSV (fun _ => rfl) (fun x v hv => by
      simp only [encSV, List.mem_cons, List.not_mem_nil, or_false] at hv
      rcases hv with rfl | rfl
      · rfl
      · exact x.2.2) cfSV swo_SV 39 #[] p.1 (p.2 + 0 * 2) cap D.toArray c.w eg (of2_lays _ _ _ _) hH hplt (by rw [List.size_toArray]; omega)
    rw [hf, List.size_toArray, hDl] at call
    clear hf eg hH
    refine call.mono ?_
    rintro en w' ⟨rfl, d', n, os, ⟨hp1, _, hp3⟩, hs', rfl⟩
    have hds : d'.size = F.length := by rw [← hDl]; exact hp1
    clear hp1
    have hperm : d'.toList.Perm D := by
      rw [show d'.extract 0 F.length = d' by rw [← hds]; simp, show D.toArray.extract 0 F.length = D.toArray by rw [← hDl]; exact Array.extract_size] at hp3
      simpa using hp3
    obtain ⟨Z, z1, z2⟩ := perm_map_inv (f := Prod.snd) hperm (F.zip D) (by rw [List.map_snd_zip]; omega)
    have hGF : (Z.map Prod.fst).Perm F := by
      have := z1.map Prod.fst
      rwa [List.map_fst_zip (by omega)] at this
    have hZr : ∀ fx ∈ Z, fx.2.1 = u8s fx.1.1 ∧ RelV c (.ro 1 false (ints .u8 fx.1.2)) fx.2.2.1 := by
      intro fx hfx
      obtain ⟨i, hi'⟩ := List.getElem?_of_mem (z1.mem_iff.1 hfx)
      rw [List.getElem?_zip_eq_some] at hi'
      obtain ⟨_, r2, _, r4⟩ := hD i _ _ hi'.1 hi'.2
      exact ⟨r2, r4⟩
    have hZl : Z.length = F.length := by rw [← List.length_map (f := Prod.fst)]; exact hGF.length_eq
    have hd' : ∀ (i : Nat) (h : i < Z.length), d'[i]! = (Z[i]).2 := by
      intro i h
      have h1 : d'.toList[i]? = some (Z[i]).2 := by rw [← z2, List.getElem?_map, List.getElem?_eq_getElem h]; rfl
      rw [Array.getElem?_toList] at h1
      obtain ⟨q, hq⟩ := Array.getElem?_eq_some_iff.1 h1
      rw [getElem!_pos d' i q, hq]
    obtain ⟨st1, i1⟩ := step_drawn c hi (c.w.drawn + n)
    have hput : ∀ (j : Nat) (v : Value), cs[j]? = some v → (Go.Sort.putCells id (p.2 + 0 * 2) (flatK encSV 2 d') cs)[j]? = some (if p.2 + 0 * 2 ≤ j ∧ j < p.2 + 0 * 2 + (flatK encSV 2 d').size then id (flatK encSV 2 d')[j - (p.2 + 0 * 2)]! else v) := by
      intro j v hv
      simp only [Go.Sort.putCells, Array.getElem?_mapIdx, hv, Option.map_some]
    generalize hcs2 : Go.Sort.putCells id (p.2 + 0 * 2) (flatK encSV 2 d') cs = cs2 at hput
    have hsz2 : cs2.size = cs.size := by rw [← hcs2]; simp [Go.Sort.putCells]
    have hw2 : ∀ b, (putRowK encSV 2 (Go.Sort.ahead c.w n) p.1 (p.2 + 0 * 2) d').heap[b]? = if b = p.1 then some (.cells cs2 e fz) else c.w.heap[b]? := by
      intro b
      show (c.w.heap.modify p.1 _)[b]? = _
      rw [Array.getElem?_modify]
      by_cases hbp : p.1 = b
      · subst hbp
        rw [if_pos rfl, if_pos rfl, h6, Option.map_some]
        simp only [Go.Sort.onCells, hcs2]
      · rw [if_neg hbp, if_neg (fun h => hbp h.symm)]
    have hold : ∀ t, t < F.length * 2 → ∃ v, cs[p.2 + t]? = some v := by
      intro t ht
      exact ⟨cs[p.2 + t]'(by omega), Array.getElem?_eq_getElem (by omega)⟩
    obtain ⟨i2, st2⟩ := updBlk0 (c := { c with w := { c.w with drawn := c.w.drawn + n } }) i1 hb rfl (putRowK encSV 2 (Go.Sort.ahead c.w n) p.1 (p.2 + 0 * 2) d') p ⟨g, true, 2, filRows (Z.map Prod.fst)⟩ c.N rfl rfl rfl (by
        show c.w.heap.size ≤ (c.w.heap.modify p.1 _).size
        rw [Array.size_modify]; omega)
      (fun b _ hne' => by rw [hw2, if_neg (hne' p hp)])
      (fun q cs' e' fz' hq hh => by
        rw [hp] at hq
        cases hq
        have hh' : c.w.heap[p.1]? = some (.cells cs' e' fz') := hh
        rw [h6] at hh'
        cases hh'
        exact ⟨cs2, fz, by rw [hw2, if_pos rfl], hsz2⟩) (.inl ⟨p, hp, rfl⟩) (Nat.le_refl _) hN (fun _ => ⟨rfl, hp, rfl, by rw [filRows_length, filRows_length]; exact hGF.length_eq⟩)
      (.inl ⟨fun i row hr => by
          obtain ⟨x, _, rfl⟩ := List.mem_map.1 (List.mem_of_getElem? hr)
          rfl, cs2, e, fz, by rw [hw2, if_pos rfl], by simp only [filRows_length, hsz2, List.length_map, hZl]; omega, fun i row j x hr hx => by
          simp only [filRows, List.getElem?_map] at hr
          obtain ⟨y, hy, rfl⟩ := Option.map_eq_some_iff.1 hr
          obtain ⟨fx, hfx, rfl⟩ := Option.map_eq_some_iff.1 hy
          obtain ⟨hil, hie⟩ := List.getElem?_eq_some_iff.1 hfx
          obtain ⟨q1, q2⟩ := hZr fx (List.mem_of_getElem? hfx)
          have hdi := hd' i hil
          rw [hie] at hdi
          have get : ∀ j, j < 2 → cs2[p.2 + (i * 2 + j)]? = some ((encSV fx.2)[j]!) := by
            intro j hj
            obtain ⟨v, hv'⟩ := hold (i * 2 + j) (by omega)
            have := hput _ _ hv'
            rw [if_pos ⟨by omega, by rw [size_flatK]; omega⟩] at this
            rw [this, show p.2 + (i * 2 + j) - (p.2 + 0 * 2) = i * 2 + j by omega, id, encSV_get _ _ (by omega), show (i * 2 + j) / 2 = i by omega, show (i * 2 + j) % 2 = j by omega, hdi]
          match j, hx with
          | 0, hx =>
            simp only [filRow, List.getElem?_cons_zero, Option.some.injEq] at hx
            subst hx
            refine ⟨.string (str fx.1.1), ?_, rfl, .v _⟩
            rw [get 0 (by omega)]
            simp [encSV, q1, str_u8s]
          | 1, hx =>
            simp only [filRow, List.getElem?_cons_succ, List.getElem?_cons_zero, Option.some.injEq] at hx
            subst hx
            exact ⟨fx.2.2.1, by rw [get 1 (by omega)]; simp [encSV], fx.2.2.2, q2.step st1⟩
          | j + 2, hx => simp [filRow] at hx, fun _ => by rw [hsz2]; exact k4 rfl⟩)
    obtain ⟨st3, i3⟩ := step_grow _ i2 os
    refine ⟨.tuple #[], .tup [], _, rfl, rfl, ⟨Z.map Prod.fst, rfl, hGF, ?_, ?_⟩, i3, (st1.trans st2).trans st3, relV_tupv []⟩
    · rw [List.pairwise_iff_getElem]
      intro i j h1 h2 hij
      simp only [List.length_map] at h1 h2
      simp only [List.getElem_map]
      have := hs' i j (Nat.zero_le _) hij (by omega)
      rw [hd' i h1, hd' j h2, lt_SV, (hZr _ (List.getElem_mem h1)).1, (hZr _ (List.getElem_mem h2)).1] at this
      have o1 := ho _ (hGF.mem_iff.1 (List.mem_map_of_mem (f := Prod.fst) (List.getElem_mem h1)))
      have o2 := ho _ (hGF.mem_iff.1 (List.mem_map_of_mem (f := Prod.fst) (List.getElem_mem h2)))
      have back : ∀ l, Oct l → i64s (u8s l) = l := fun l hl => u8s_inj (oct_i64s _) hl (u8s_i64s _)
      rw [back _ o1, back _ o2] at this
      exact this
    · show c.S.set 0 _ = _
      rw [hS]
      rfl
  · omega
end Go.Proofs.YtenoecffjfcifaaDoor.Pv
-- The sort of no files; their copy; their sum.
namespace Go.Proofs.YtenoecffjfcifaaDoor.Pv
set_option linter.all false
set_option linter.unusedVariables false
open Go.RowKit Go.Proofs
set_option maxRecDepth 100000
set_option maxHeartbeats 4000000
theorem fins0 : PCall Tryd.prog 56 [.ro 2 false [], .v (.int .i64 0), .v (.int .i64 0), .fn (.func 39) [] []] (.tup []) := by
  haveI : PureC (.ro 2 false []) := ⟨.ro (by simp)⟩
  refine pcall_mk Tryd.func56 rfl [] Tryd.results56 53 rfl (tk_start ?_)
  (repeat refine ka ?_); refine kr ?_ ?_ (pops_end ?_)
  (repeat refine ka ?_); refine kb ?_
  refine kw (fun _ : Unit => [(0, .ro 2 false []), (1, .v (.int .i64 0)), (2, .v (.int .i64 0)), (8, .v (.int .i64 (0 + 1)))]) (fun _ => []) (fun _ => True) (fun _ => 0) () trivial (holds 0 (by repeat (first | exact .nil | refine has1 ?_))) ?_
  intro _ _
  (repeat refine ka ?_); refine kr ?_ ?_ (pops_end ?_)
  (repeat refine ka ?_); refine kcf ?_
  (repeat refine ka ?_); refine kx ?_; (repeat (first | with_reducible refine beh_x ?_ | with_reducible refine blk_up rfl ?_)); refine blk_here ?_; refine beh_n ?_
  refine kn ?_; repeat (first | with_reducible refine blk_n ?_ | with_reducible refine beh_n ?_)
  exact ⟨_, rfl, rfl⟩
theorem fpdq0 (z : Int) : PCall Tryd.prog 49 [.ro 2 false [], .v (.int .i64 0), .v (.int .i64 0), .v (.int .i64 z), .fn (.func 39) [] []] (.tup []) := by
  haveI : PureC (.ro 2 false []) := ⟨.ro (by simp)⟩
  refine pcall_mk Tryd.func49 rfl [] Tryd.results49 148 rfl (tk_start ?_)
  (repeat refine ka ?_); refine kr ?_ ?_ (pops_end ?_)
  (repeat refine ka ?_); refine kr ?_ ?_ (pops_end ?_)
  (repeat refine ka ?_); refine kb ?_
  refine kw (fun _ : Unit => [(0, .ro 2 false []), (1, .v (.int .i64 0)), (2, .v (.int .i64 0)), (4, .fn (.func 39) [] [])]) (fun _ => []) (fun _ => True) (fun _ => 0) () trivial (holds 0 (by repeat (first | exact .nil | refine has1 ?_))) ?_
  intro _ _
  (repeat refine ka ?_); refine kb ?_
  (repeat refine ka ?_); refine kr ?_ ?_ (pops_end ?_)
  (repeat refine ka ?_); refine kr ?_ ?_ (pops_end ?_)
  (repeat refine ka ?_); refine kct ?_
  (repeat refine ka ?_); refine kr ?_ ?_ ?_
  refine ps_pcall fins0 ?_
  refine pops_nil ?_
  (repeat refine ka ?_); refine kret ?_; repeat (first | with_reducible refine beh_r ?_ | with_reducible refine blk_r ?_)
  exact ⟨_, rfl, rfl⟩
theorem len64_callsD (w : World) : Calls Tryd.prog 65 #[.int .u64 0] w fun e w' => e = .returned (.int .i64 0) ∧ w' = w := by
  go_enter Tryd.func65, Tryd.ntmps65
  go_wp2
  go_ret
  have h8 : Lib.len8 0 = 0 := by decide
  refine ⟨?_, rfl⟩
  show Ending.returned (Value.int .i64 (wrap64 (wrap64 (Lib.len8 0)))) = _
  have h9 : wrap64 0 = 0 := by first | decide +kernel | kernel_rfl | simp [wrap64]
  rw [h8, h9, h9]
theorem len0D : PCall Tryd.prog 50 [.v (.int .u64 0)] (.v (.int .i64 0)) := by
  have c := pcall_of_calls (P := Tryd.prog) [.int .u64 0] len64_callsD
  refine pcall_mk Tryd.func50 rfl [.tmp 2] Tryd.results50 8 rfl (tk_start ?_)
  (repeat' (first | refine ka ?_ | refine ksk ?_ | (refine kr ?_ ?_ ?_; first | refine pops_end ?_ | (refine ps_split (fun hb => ?_) (fun hb => ?_); (fail_if_success (guard_hyp hb : true = true)); (fail_if_success (guard_hyp hb : false = true)); all_goals (have hp := hb; (try simp only [decide_eq_true_eq, Bool.eq_false_iff, ne_eq, Bool.not_eq_true', Bool.not_eq_false', Bool.and_eq_true, Bool.or_eq_true, decide_true, decide_false, Bool.and_true, Bool.true_and, Bool.false_eq_true, not_false_eq_true, true_and, and_true] at hp); (try rw [hb]); (try clear hb))) | refine ps_pcall (c) ?_ | refine ps_pcall_g (c) ?_ | refine ps_alloc fun g => ?_ | refine ps_box fun g => ?_ | refine ps_store ?_ | refine ps_lit fun g => ?_ | refine pops_nil ?_ | skip) | (refine kd ?_ ?_ ?_; first | refine pstl_end ?_ | (refine pd_split (fun hb => ?_) (fun hb => ?_); (fail_if_success (guard_hyp hb : true = true)); (fail_if_success (guard_hyp hb : false = true)); all_goals (have hp := hb; (try simp only [decide_eq_true_eq, Bool.eq_false_iff, ne_eq, Bool.not_eq_true', Bool.not_eq_false', Bool.and_eq_true, Bool.or_eq_true, decide_true, decide_false, Bool.and_true, Bool.true_and, Bool.false_eq_true, not_false_eq_true, true_and, and_true] at hp); (try rw [hb]); (try clear hb))) | refine pd_pcall (c) ?_ | refine pd_pcall_g (c) ?_ | skip) | refine kct ?_ | refine kcf ?_ | (refine kcs (fun hb => ?_) (fun hb => ?_) <;> (have hp := hb; (try simp only [decide_eq_true_eq, Bool.eq_false_iff, ne_eq, Bool.not_eq_true', Bool.not_eq_false', Bool.and_eq_true, Bool.or_eq_true, decide_true, decide_false, Bool.and_true, Bool.true_and, Bool.false_eq_true, not_false_eq_true, true_and, and_true] at hp); (try rw [hb]); (try clear hb))) | (refine kret ?_; repeat (first | with_reducible refine beh_r ?_ | with_reducible refine blk_r ?_)) | refine kb ?_ | (refine ps_split (fun hb => ?_) (fun hb => ?_); (fail_if_success (guard_hyp hb : true = true)); (fail_if_success (guard_hyp hb : false = true)); all_goals (have hp := hb; (try simp only [decide_eq_true_eq, Bool.eq_false_iff, ne_eq, Bool.not_eq_true', Bool.not_eq_false', Bool.and_eq_true, Bool.or_eq_true, decide_true, decide_false, Bool.and_true, Bool.true_and, Bool.false_eq_true, not_false_eq_true, true_and, and_true] at hp); (try rw [hb]); (try clear hb))) | refine ps_pcall (c) ?_ | refine ps_pcall_g (c) ?_ | refine ps_alloc fun g => ?_ | refine ps_box fun g => ?_ | refine ps_store ?_ | refine ps_lit fun g => ?_ | refine pops_nil ?_ | (refine pd_split (fun hb => ?_) (fun hb => ?_); (fail_if_success (guard_hyp hb : true = true)); (fail_if_success (guard_hyp hb : false = true)); all_goals (have hp := hb; (try simp only [decide_eq_true_eq, Bool.eq_false_iff, ne_eq, Bool.not_eq_true', Bool.not_eq_false', Bool.and_eq_true, Bool.or_eq_true, decide_true, decide_false, Bool.and_true, Bool.true_and, Bool.false_eq_true, not_false_eq_true, true_and, and_true] at hp); (try rw [hb]); (try clear hb))) | refine pd_pcall (c) ?_ | refine pd_pcall_g (c) ?_ | (refine pops_go ?_ ?_ ?_; first | refine pops_end ?_ | (refine ps_split (fun hb => ?_) (fun hb => ?_); (fail_if_success (guard_hyp hb : true = true)); (fail_if_success (guard_hyp hb : false = true)); all_goals (have hp := hb; (try simp only [decide_eq_true_eq, Bool.eq_false_iff, ne_eq, Bool.not_eq_true', Bool.not_eq_false', Bool.and_eq_true, Bool.or_eq_true, decide_true, decide_false, Bool.and_true, Bool.true_and, Bool.false_eq_true, not_false_eq_true, true_and, and_true] at hp); (try rw [hb]); (try clear hb))) | refine ps_pcall (c) ?_ | refine ps_pcall_g (c) ?_ | refine ps_alloc fun g => ?_ | refine ps_box fun g => ?_ | refine ps_store ?_ | refine ps_lit fun g => ?_ | refine pops_nil ?_) | (refine pstl_go ?_ ?_ ?_; first | refine pstl_end ?_ | (refine pd_split (fun hb => ?_) (fun hb => ?_); (fail_if_success (guard_hyp hb : true = true)); (fail_if_success (guard_hyp hb : false = true)); all_goals (have hp := hb; (try simp only [decide_eq_true_eq, Bool.eq_false_iff, ne_eq, Bool.not_eq_true', Bool.not_eq_false', Bool.and_eq_true, Bool.or_eq_true, decide_true, decide_false, Bool.and_true, Bool.true_and, Bool.false_eq_true, not_false_eq_true, true_and, and_true] at hp); (try rw [hb]); (try clear hb))) | refine pd_pcall (c) ?_ | refine pd_pcall_g (c) ?_) | (refine kn ?_; repeat (first | with_reducible refine blk_n ?_ | with_reducible refine beh_n ?_)) | (refine kx ?_; (repeat (first | with_reducible refine beh_x ?_ | with_reducible refine blk_up rfl ?_)); refine blk_here ?_; refine beh_n ?_)))
  all_goals (refine ends_ret ?_ retPV_one; rfl)
theorem fsort0 : PCall Tryd.prog 38 [.ro 2 false [], .fn (.func 39) [] []] (.tup []) := by
  haveI : PureC (.ro 2 false []) := ⟨.ro (by simp)⟩
  refine pcall_mk Tryd.func38 rfl [] Tryd.results38 14 rfl (tk_start ?_)
  (repeat refine ka ?_); refine kr ?_ ?_ (pops_end ?_)
  (repeat refine ka ?_); refine kr ?_ ?_ ?_
  refine ps_pcall len0D ?_
  refine pops_go ?_ ?_ ?_
  refine ps_pcall (fpdq0 0) ?_
  refine pops_nil ?_
  refine kn ?_; repeat (first | with_reducible refine blk_n ?_ | with_reducible refine beh_n ?_)
  exact ⟨_, rfl, rfl⟩
theorem filRows_nil {l : List Fi} (h : filRows l = []) : l = [] := by
  have := congrArg List.length h
  rw [filRows_length] at this
  exact List.eq_nil_of_length_eq_zero this
theorem clone_fil (L : List Fi) (hl : L.length ≤ 1000000) : GCall Tryd.prog 37 [.ro 2 false (filRows L)] [] (fun x S' => (x = .v (.slice none 0 0) ∧ L = [] ∧ S' = []) ∨ ∃ g, x = .vw 0 g 0 L.length ∧ S' = [⟨g, true, 2, filRows L⟩]) := by
  have la := filRows_length L
  refine gcall_of_tr Tryd.func37 rfl [.tmp 2] Tryd.results37 8 rfl (tk_start ?_)
  (repeat refine ka ?_); refine kr ?_ ?_ (pops_end ?_)
  (repeat refine ka ?_); refine kr ?_ ?_ ?_
  refine ps_eqn fun b hb => ?_
  refine pops_go ?_ ?_ (pops_end ?_)
  cases b with
  | true =>
    obtain rfl := filRows_nil (hb rfl)
    (repeat refine ka ?_); refine kct ?_
    (repeat refine ka ?_); refine kr ?_ ?_ (pops_end ?_)
    (repeat refine ka ?_); refine kret ?_; repeat (first | with_reducible refine beh_r ?_ | with_reducible refine blk_r ?_)
    refine ends_ret ?_ retPV_one
    exact .inl ⟨rfl, rfl, rfl⟩
  | false =>
    (repeat refine ka ?_); refine kcf ?_
    (repeat refine ka ?_); refine ksk ?_
    (repeat refine ka ?_); refine kr ?_ ?_ ?_
    refine ps_lit fun g0 => ?_
    refine pops_go ?_ ?_ ?_
    refine ps_app_vw (rows' := filRows L) (m := L.length) (fun g1 => ?_) (hsrc := rfl) (hrows := List.nil_append _)
    refine pops_go ?_ ?_ (pops_end ?_)
    (repeat refine ka ?_); refine kret ?_; repeat (first | with_reducible refine beh_r ?_ | with_reducible refine blk_r ?_)
    refine ends_ret ?_ retPV_one
    exact .inr ⟨g1, rfl, rfl⟩
theorem of1_ok (f : Fi) : PCall Tryd.prog 36 [.agg (filRow f)] (.v (.int .i64 f.2.length)) := by
  unfold filRow
  refine pcall_mk Tryd.func36 rfl [.tmp 2] Tryd.results36 6 rfl (tk_start ?_)
  (repeat' (first | refine ka ?_ | refine ksk ?_ | (refine kr ?_ ?_ ?_; first | refine pops_end ?_ | (refine ps_split (fun hb => ?_) (fun hb => ?_); (fail_if_success (guard_hyp hb : true = true)); (fail_if_success (guard_hyp hb : false = true)); all_goals (have hp := hb; (try simp only [decide_eq_true_eq, Bool.eq_false_iff, ne_eq, Bool.not_eq_true', Bool.not_eq_false', Bool.and_eq_true, Bool.or_eq_true, decide_true, decide_false, Bool.and_true, Bool.true_and, Bool.false_eq_true, not_false_eq_true, true_and, and_true] at hp); (try rw [hb]); (try clear hb))) | refine ps_alloc fun g => ?_ | refine ps_box fun g => ?_ | refine ps_store ?_ | refine ps_lit fun g => ?_ | refine pops_nil ?_ | skip) | (refine kd ?_ ?_ ?_; first | refine pstl_end ?_ | (refine pd_split (fun hb => ?_) (fun hb => ?_); (fail_if_success (guard_hyp hb : true = true)); (fail_if_success (guard_hyp hb : false = true)); all_goals (have hp := hb; (try simp only [decide_eq_true_eq, Bool.eq_false_iff, ne_eq, Bool.not_eq_true', Bool.not_eq_false', Bool.and_eq_true, Bool.or_eq_true, decide_true, decide_false, Bool.and_true, Bool.true_and, Bool.false_eq_true, not_false_eq_true, true_and, and_true] at hp); (try rw [hb]); (try clear hb))) | skip) | refine kct ?_ | refine kcf ?_ | (refine kcs (fun hb => ?_) (fun hb => ?_) <;> (have hp := hb; (try simp only [decide_eq_true_eq, Bool.eq_false_iff, ne_eq, Bool.not_eq_true', Bool.not_eq_false', Bool.and_eq_true, Bool.or_eq_true, decide_true, decide_false, Bool.and_true, Bool.true_and, Bool.false_eq_true, not_false_eq_true, true_and, and_true] at hp); (try rw [hb]); (try clear hb))) | (refine kret ?_; repeat (first | with_reducible refine beh_r ?_ | with_reducible refine blk_r ?_)) | refine kb ?_ | (refine ps_split (fun hb => ?_) (fun hb => ?_); (fail_if_success (guard_hyp hb : true = true)); (fail_if_success (guard_hyp hb : false = true)); all_goals (have hp := hb; (try simp only [decide_eq_true_eq, Bool.eq_false_iff, ne_eq, Bool.not_eq_true', Bool.not_eq_false', Bool.and_eq_true, Bool.or_eq_true, decide_true, decide_false, Bool.and_true, Bool.true_and, Bool.false_eq_true, not_false_eq_true, true_and, and_true] at hp); (try rw [hb]); (try clear hb))) | refine ps_alloc fun g => ?_ | refine ps_box fun g => ?_ | refine ps_store ?_ | refine ps_lit fun g => ?_ | refine pops_nil ?_ | (refine pd_split (fun hb => ?_) (fun hb => ?_); (fail_if_success (guard_hyp hb : true = true)); (fail_if_success (guard_hyp hb : false = true)); all_goals (have hp := hb; (try simp only [decide_eq_true_eq, Bool.eq_false_iff, ne_eq, Bool.not_eq_true', Bool.not_eq_false', Bool.and_eq_true, Bool.or_eq_true, decide_true, decide_false, Bool.and_true, Bool.true_and, Bool.false_eq_true, not_false_eq_true, true_and, and_true] at hp); (try rw [hb]); (try clear hb))) | (refine pops_go ?_ ?_ ?_; first | refine pops_end ?_ | (refine ps_split (fun hb => ?_) (fun hb => ?_); (fail_if_success (guard_hyp hb : true = true)); (fail_if_success (guard_hyp hb : false = true)); all_goals (have hp := hb; (try simp only [decide_eq_true_eq, Bool.eq_false_iff, ne_eq, Bool.not_eq_true', Bool.not_eq_false', Bool.and_eq_true, Bool.or_eq_true, decide_true, decide_false, Bool.and_true, Bool.true_and, Bool.false_eq_true, not_false_eq_true, true_and, and_true] at hp); (try rw [hb]); (try clear hb))) | refine ps_alloc fun g => ?_ | refine ps_box fun g => ?_ | refine ps_store ?_ | refine ps_lit fun g => ?_ | refine pops_nil ?_) | (refine pstl_go ?_ ?_ ?_; first | refine pstl_end ?_ | (refine pd_split (fun hb => ?_) (fun hb => ?_); (fail_if_success (guard_hyp hb : true = true)); (fail_if_success (guard_hyp hb : false = true)); all_goals (have hp := hb; (try simp only [decide_eq_true_eq, Bool.eq_false_iff, ne_eq, Bool.not_eq_true', Bool.not_eq_false', Bool.and_eq_true, Bool.or_eq_true, decide_true, decide_false, Bool.and_true, Bool.true_and, Bool.false_eq_true, not_false_eq_true, true_and, and_true] at hp); (try rw [hb]); (try clear hb)))) | (refine kn ?_; repeat (first | with_reducible refine blk_n ?_ | with_reducible refine beh_n ?_)) | (refine kx ?_; (repeat (first | with_reducible refine beh_x ?_ | with_reducible refine blk_up rfl ?_)); refine blk_here ?_; refine beh_n ?_)))
  all_goals (refine ends_ret ?_ retPV_one; rfl)
theorem fsum_ok (E : List Fi) (hE : ∀ e ∈ E, e.2.length ≤ 1000000000000) (hl : E.length ≤ 1000000) : PCall Tryd.prog 35 [.ro 2 false (filRows E), .fn (.func 36) [] []] (.v (.int .i64 (sumE (E.map fun f => (f.2.length : Int))))) := by
  have la := filRows_length E
  have hz : ∀ x ∈ E.map fun f => (f.2.length : Int), 0 ≤ x := by intro x hx; obtain ⟨e, he, rfl⟩ := List.mem_map.1 hx; omega
  refine pcall_mk Tryd.func35 rfl [.tmp 4] Tryd.results35 24 rfl (tk_start ?_)
  (repeat refine ka ?_); refine kr ?_ ?_ (pops_end ?_)
  (repeat refine ka ?_); refine kr ?_ ?_ (pops_end ?_)
  (repeat refine ka ?_); refine kr ?_ ?_ (pops_end ?_)
  (repeat refine ka ?_); refine kb ?_
  refine kw (fun i : Nat => [(1, .fn (.func 36) [] []), (5, .v (.int .i64 (sumE ((E.map fun f => (f.2.length : Int)).take i)))), (8, .ro 2 false (filRows E)), (9, .v (.int .i64 (filRows E).length)), (10, .v (.int .i64 i))]) (fun _ => []) (fun i => i ≤ E.length) (fun i => E.length - i) 0 (Nat.zero_le _) (holds 0 (by repeat (first | exact .nil | refine has1 ?_))) ?_
  intro i hi
  by_cases h : i < E.length
  · obtain ⟨e, he⟩ : ∃ e, E[i]? = some e := ⟨E[i], by simp [h]⟩
    have r1 := filRows_get he
    have hm := hE e (List.mem_of_getElem? he)
    have hs := sumE_take _ hz i
    have hsu := sumE_succ (E.map fun f => (f.2.length : Int)) (i := i) (x := (e.2.length : Int)) (by rw [List.getElem?_map, he]; rfl)
    have c := of1_ok e
    unfold filRow at c
    generalize sumE ((E.map fun f => (f.2.length : Int)).take i) = n at hs hsu
    (repeat refine ka ?_); refine kr ?_ ?_ (pops_end ?_)
    (repeat refine ka ?_); refine kct ?_
    (repeat refine ka ?_); refine ksk ?_
    (repeat refine ka ?_); refine kb ?_
    (repeat refine ka ?_); refine kr ?_ ?_ ?_
    refine ps_alloc fun g1 => ?_
    refine ps_store ?_
    refine pops_nil ?_
    (repeat refine ka ?_); refine kr ?_ ?_ ?_
    refine ps_vpcall c ?_
    refine pops_go ?_ ?_ (pops_end ?_)
    (repeat refine ka ?_); refine kr ?_ ?_ (pops_end ?_)
    refine kn ?_; repeat (first | with_reducible refine blk_n ?_ | with_reducible refine beh_n ?_)
    (repeat refine ka ?_); refine kr ?_ ?_ (pops_end ?_)
    refine kn ?_; repeat (first | with_reducible refine blk_n ?_ | with_reducible refine beh_n ?_)
    refine ⟨i + 1, by omega, by omega, ?_⟩
    rw [hsu]
    have em : min (n + min (e.2.length : Int) 65537) 65537 = if (65537 : Int) < n + (if (65537 : Int) < (e.2.length : Int) then 65537 else (e.2.length : Int)) then 65537 else n + (if (65537 : Int) < (e.2.length : Int) then 65537 else (e.2.length : Int)) := by
      (repeat' split) <;> omega
    rw [em]
    exact (holds 0 (by repeat (first | exact .nil | refine has1 ?_)))
  · obtain rfl : i = E.length := by omega
    rw [List.take_of_length_le (by simp)]
    (repeat refine ka ?_); refine kr ?_ ?_ (pops_end ?_)
    (repeat refine ka ?_); refine kcf ?_
    (repeat refine ka ?_); refine kx ?_; (repeat (first | with_reducible refine beh_x ?_ | with_reducible refine blk_up rfl ?_)); refine blk_here ?_; refine beh_n ?_
    (repeat refine ka ?_); refine kr ?_ ?_ (pops_end ?_)
    (repeat refine ka ?_); refine kret ?_; repeat (first | with_reducible refine beh_r ?_ | with_reducible refine blk_r ?_)
    refine ends_ret ?_ retPV_one
    rfl
end Go.Proofs.YtenoecffjfcifaaDoor.Pv
-- Files in order: the plain law; dir.Of.
namespace Go.Proofs.YtenoecffjfcifaaDoor.Pv
set_option linter.all false
set_option linter.unusedVariables false
open Go.RowKit Go.Proofs
set_option maxRecDepth 100000
set_option maxHeartbeats 4000000
/-- Files of paths, in the paths' order. -/
def pickF (F : List Fi) (P : List (List Int)) : List Fi := P.flatMap fun p => F.filter fun f => f.1 = p
def sortFi (F : List Fi) : List Fi := pickF F (rsortF (F.map (·.1)))
theorem filter_key {F : List Fi} (h : (F.map (·.1)).Nodup) {g : Fi} (hg : g ∈ F) : (F.filter fun f => f.1 = g.1) = [g] := by
  induction F with
  | nil => cases hg
  | cons x F ih =>
    rw [List.map_cons, List.nodup_cons] at h
    rcases List.mem_cons.1 hg with rfl | hg
    · rw [List.filter_cons_of_pos (by simp)]
      congr 1
      rw [List.filter_eq_nil_iff]
      intro y hy
      have : y.1 ≠ g.1 := fun e => h.1 (e ▸ List.mem_map_of_mem hy)
      simpa using this
    · have : x.1 ≠ g.1 := fun e => h.1 (e ▸ List.mem_map_of_mem hg)
      rw [List.filter_cons_of_neg (by simpa using this), ih h.2 hg]
theorem pick_self {F : List Fi} (h : (F.map (·.1)).Nodup) : ∀ (G : List Fi), (∀ g ∈ G, g ∈ F) → pickF F (G.map (·.1)) = G
  | [], _ => rfl
  | g :: G, hG => by
    have h1 := filter_key h (hG g (by simp))
    have h2 := pick_self h G fun x hx => hG x (by simp [hx])
    simp only [pickF, List.map_cons, List.flatMap_cons] at h2 ⊢
    rw [h1, h2]
    rfl
theorem sortFi_unique {F G : List Fi} (h : (F.map (·.1)).Nodup) (hp : G.Perm F) (hs : (G.map (·.1)).Pairwise leF) : G = sortFi F := by
  have e : G.map (·.1) = rsortF (F.map (·.1)) := sorted_unique (fun a b h k => leF_antisymm h k) hs (rsortF_sorted _) ((hp.map _).trans (rsort_perm _).symm)
  rw [sortFi, ← e, pick_self h G fun g hg => hp.mem_iff.1 hg]
theorem rset_nodup {L : List (List Int)} (h : rsetF L = 0) : L.Nodup := by
  obtain ⟨_, _, h3⟩ := rsetF_zero.1 h
  rw [clashes_iff] at h3
  exact Classical.byContradiction fun h => h3 (.inl h)
/-- All bytes there are. -/
def totF (F : List Fi) : Int := (F.map fun f => (f.2.length : Int)).sum
def entsOf (F : List Fi) : List En := F.map fun f => (f.1, (f.2.length : Int))
def dataOf (F : List Fi) : List Int := (F.map (·.2)).flatten
def ofF (F : List Fi) : List En × List Int × Int :=
  if rsetF (F.map (·.1)) ≠ 0 then ([], [], rsetF (F.map (·.1))) else if 65536 < totF F then ([], [], 4) else (entsOf (sortFi F), dataOf (sortFi F), 0)
theorem dataOf_len (F : List Fi) : ((dataOf F).length : Int) = totF F := by
  induction F with
  | nil => rfl
  | cons f F ih =>
    simp only [dataOf, totF, List.map_cons, List.flatten_cons, List.length_append, List.sum_cons] at *
    omega
theorem totF_perm {F G : List Fi} (h : G.Perm F) : totF G = totF F := by
  induction h with
  | nil => rfl
  | cons x _ ih => simp only [totF, List.map_cons, List.sum_cons] at *; omega
  | swap x y l => simp only [totF, List.map_cons, List.sum_cons] at *; omega
  | trans _ _ h1 h2 => rw [h1, h2]
theorem entsOf_snoc {F : List Fi} {i : Nat} {f : Fi} (h : F[i]? = some f) : entsOf (F.take (i + 1)) = entsOf (F.take i) ++ [(f.1, (f.2.length : Int))] := by
  obtain ⟨h1, h2⟩ := List.getElem?_eq_some_iff.1 h
  rw [List.take_succ_eq_append_getElem h1, h2, entsOf, List.map_append]
  rfl
theorem dataOf_snoc {F : List Fi} {i : Nat} {f : Fi} (h : F[i]? = some f) : dataOf (F.take (i + 1)) = dataOf (F.take i) ++ f.2 := by
  obtain ⟨h1, h2⟩ := List.getElem?_eq_some_iff.1 h
  rw [List.take_succ_eq_append_getElem h1, h2, dataOf, List.map_append, List.flatten_append]
  simp [dataOf]
theorem totF_take {F : List Fi} (i : Nat) : totF (F.take i) ≤ totF F := by
  have := sum_take_le (l := F.map fun f => (f.2.length : Int)) (by intro x hx; obtain ⟨e, he, rfl⟩ := List.mem_map.1 hx; omega) i
  rw [← List.map_take] at this
  exact this
theorem lend_fils {S : List Blk} {T : List Nat} {τ g gg len : Nat} {o : Bool} {L : List Fi} (hT : τ ∈ T) (hb : S[τ]? = some ⟨gg, o, 2, filRows L⟩) (hg : gg = g) (hl : L.length = len) : Lend S T (.vw τ g 0 len) (.ro 2 false (filRows L)) :=
  .vw hT hb hg (by simp only; rw [List.drop_zero, ← hl, ← filRows_length L, List.take_length]) (filRows_pure L)
theorem ren_fils (s : Nat → Nat) (F : List Fi) : (filRows F).map (renL s) = filRows F := by
  simp [filRows, filRow, renL, ren, ren_ints]
theorem ren_ents (s : Nat → Nat) (E : List En) : (entRows E).map (renL s) = entRows E := by
  simp [entRows, entRow, renL, ren]
theorem gives_rows15 {S : List Blk} {τ g gg len sz : Nat} {o : Bool} {rows : List (List PV)} (hb : S[τ]? = some ⟨gg, o, sz, rows⟩) (hg : gg = g) (hl : rows.length = len) (hp : ∀ row ∈ rows, ∀ x ∈ row, PV.Pure x) : Gives S (.vw τ g 0 len) (.ro sz false rows) :=
  .vw hb hg (by rw [List.drop_zero, ← hl, List.take_length]) hp
def FisOk (F : List Fi) : Prop := ∀ f ∈ F, FiOk f ∧ f.1.length ≤ 1000000000 ∧ f.2.length ≤ 1000000000
theorem fpathsOct {F : List Fi} (h : FisOk F) : ∀ x ∈ F.map (·.1), Oct x := by
  intro x hx
  obtain ⟨e, he, rfl⟩ := List.mem_map.1 hx
  exact (h e he).1.1
theorem fpathsLen {F : List Fi} (h : FisOk F) : ∀ x ∈ F.map (·.1), x.length ≤ 1000000000 := by
  intro x hx
  obtain ⟨e, he, rfl⟩ := List.mem_map.1 hx
  exact (h e he).2.1
theorem dof_ok (F : List Fi) (hF : FisOk F) (hl : F.length ≤ 1000000) : PCall Tryd.prog 19 [.ro 2 false (filRows F)] (.tup [.ro 2 false (entRows (ofF F).1), .ro 1 false (ints .u8 (ofF F).2.1), .v (.int .i64 (ofF F).2.2)]) := by
  have la := filRows_length F
  have lm : (F.map (·.1)).length = F.length := List.length_map ..
  refine pcall_mkg Tryd.func19 rfl [.tmp 2, .tmp 3, .tmp 4] Tryd.results19 60 rfl (tk_start ?_)
  (repeat refine ka ?_); refine kr ?_ ?_ (pops_end ?_)
  (repeat refine ka ?_); refine kr ?_ ?_ (pops_end ?_)
  (repeat refine ka ?_)
  refine kvoid 5 1 (fun g0 => ?_)
  (repeat refine ka ?_); refine kr ?_ ?_ (pops_end ?_)
  (repeat refine ka ?_); refine kb ?_
  refine kw (fun p : Nat × Nat => [(0, .ro 2 false (filRows F)), (5, .vw 0 p.2 0 p.1), (14, .ro 2 false (filRows F)), (15, .v (.int .i64 (filRows F).length)), (16, .v (.int .i64 p.1))]) (fun p => [⟨p.2, true, 1, strRows ((F.map (·.1)).take p.1)⟩]) (fun p => p.1 ≤ F.length) (fun p => F.length - p.1) (0, g0) (Nat.zero_le _) (holds 1 (by repeat (first | exact .nil | refine has1 ?_))) ?_
  rintro ⟨i, g⟩ hi
  simp only at hi ⊢
  by_cases h : i < F.length
  · obtain ⟨e, he⟩ : ∃ e, F[i]? = some e := ⟨F[i], by simp [h]⟩
    have r1 := filRows_get he
    have hs := strRows_snoc (F.map (·.1)) i e.1 (by rw [List.getElem?_map, he]; rfl)
    (repeat refine ka ?_); refine kr ?_ ?_ (pops_end ?_)
    (repeat refine ka ?_); refine kct ?_
    (repeat refine ka ?_); refine ksk ?_
    (repeat refine ka ?_); refine kb ?_
    (repeat refine ka ?_); refine kr ?_ ?_ ?_
    refine ps_alloc fun g1 => ?_
    refine ps_store ?_
    refine pops_nil ?_
    (repeat refine ka ?_); refine kr ?_ ?_ ?_
    refine ps_lit fun g2 => ?_
    refine ps_app_vw (rows' := strRows ((F.map (·.1)).take (i + 1))) (m := i + 1) (rows := [[.v (.string (str e.1))]]) (fun g3 => ?_) (hrows := hs) (hlen := by rw [strRows_length, List.length_take, lm]; omega) (hm := by rfl)
    refine pops_go ?_ ?_ (pops_end ?_)
    refine kn ?_; repeat (first | with_reducible refine blk_n ?_ | with_reducible refine beh_n ?_)
    (repeat refine ka ?_); refine kr ?_ ?_ (pops_end ?_)
    refine kn ?_; repeat (first | with_reducible refine blk_n ?_ | with_reducible refine beh_n ?_)
    exact ⟨(i + 1, g3), by simp only; omega, by simp only; omega, (holds 1 (by repeat (first | exact .nil | refine has1 ?_)))⟩
  obtain rfl : i = F.length := by omega
  have c1 := pset_ok (F.map (·.1)) (fpathsOct hF) (by omega) (fpathsLen hF)
  have c2 := fsum_ok F (fun e he => by have := (hF e he).2.2; omega) hl
  rw [sumE_eq _ (by intro x hx; obtain ⟨e, he, rfl⟩ := List.mem_map.1 hx; omega)] at c2
  rw [List.take_of_length_le (by omega)]
  (repeat refine ka ?_); refine kr ?_ ?_ (pops_end ?_)
  (repeat refine ka ?_); refine kcf ?_
  (repeat refine ka ?_); refine kx ?_; (repeat (first | with_reducible refine beh_x ?_ | with_reducible refine blk_up rfl ?_)); refine blk_here ?_; refine beh_n ?_
  (repeat refine ka ?_)
  refine kfreeze 0 ?_
  refine kfzT 5 [0] (y := .ro 1 false (strRows (F.map (·.1)))) ?_ (lend_strs (List.mem_singleton.2 rfl) rfl rfl lm) (by intro τ hτ blk hb; cases List.mem_singleton.1 hτ; cases hb; rfl)
  (repeat refine ka ?_); refine kr ?_ ?_ ?_
  refine ps_pcall c1 ?_
  refine pops_go ?_ ?_ (pops_end ?_)
  by_cases q0 : rsetF (F.map (·.1)) = 0
  case neg =>
    rw [ofF, if_pos q0]
    (repeat refine ka ?_); refine kr ?_ ?_ (pops_end ?_)
    (repeat refine ka ?_); refine kct ?_
    (repeat refine ka ?_); refine kr ?_ ?_ (pops_end ?_)
    (repeat refine ka ?_); refine kret ?_; repeat (first | with_reducible refine beh_r ?_ | with_reducible refine blk_r ?_)
    refine ends_ret ?_ (retPV_3 res_tmp res_tmp res_tmp)
    exact gives_three .nil .nil (.same (.v _))
  rw [ofF, if_neg (fun h => h q0)]
  (repeat refine ka ?_); refine kr ?_ ?_ (pops_end ?_)
  (repeat refine ka ?_); refine kcf ?_
  (repeat refine ka ?_); refine ksk ?_
  by_cases q1 : 65536 < totF F
  · rw [if_pos q1]
    rw [show min ((F.map fun f => (f.2.length : Int)).sum) 65537 = 65537 by unfold totF at q1; omega] at c2
    (repeat refine ka ?_); refine kr ?_ ?_ ?_
    refine ps_pcall c2 ?_
    refine pops_go ?_ ?_ (pops_end ?_)
    (repeat refine ka ?_); refine kct ?_
    (repeat refine ka ?_); refine kr ?_ ?_ (pops_end ?_)
    (repeat refine ka ?_); refine kret ?_; repeat (first | with_reducible refine beh_r ?_ | with_reducible refine blk_r ?_)
    refine ends_ret ?_ (retPV_3 res_tmp res_tmp res_tmp)
    exact gives_three .nil .nil (.same (.v _))
  rw [if_neg q1]
  have hle : totF F ≤ 65536 := by omega
  rw [show min ((F.map fun f => (f.2.length : Int)).sum) 65537 = totF F by unfold totF at hle ⊢; omega] at c2
  (repeat refine ka ?_); refine kr ?_ ?_ ?_
  refine ps_pcall c2 ?_
  refine pops_go ?_ ?_ (pops_end ?_)
  (repeat refine ka ?_); refine kcf ?_
  (repeat refine ka ?_); refine ksk ?_
  have cc := clone_fil F hl
  by_cases hne : F = []
  · subst hne
    haveI : PureC (.ro 2 false []) := ⟨.ro (by simp)⟩
    rw [show sortFi [] = [] from rfl]
    (repeat refine ka ?_); refine kr ?_ ?_ ?_
    refine ps_fcall [] cc ?_ (by rintro x S' _; exact Nat.zero_le _)
    rintro x S' (⟨rfl, _, rfl⟩ | ⟨g, rfl, rfl⟩)
    · (intro x1 S1 hx1 hS1; simp only [List.map_cons, List.map_nil, renB, ren_ints, putB, List.set_cons_zero, List.set_cons_succ, List.cons_append, List.nil_append, List.append_nil, renL, ren, sg, List.length_cons, List.length_nil, Nat.reduceAdd, Nat.zero_add, Nat.add_zero] at hx1 hS1; subst hx1 hS1)
      refine pops_go ?_ ?_ (pops_end ?_)
      (repeat refine ka ?_)
      refine kfzT 9 [] (y := .ro 2 false []) ?_ .nil (by intro τ hτ; cases hτ)
      (repeat refine ka ?_); refine kr ?_ ?_ ?_
      refine ps_pcall fsort0 ?_
      refine pops_nil ?_
      (repeat refine ka ?_); refine kr ?_ ?_ (pops_end ?_)
      (repeat refine ka ?_); refine kr ?_ ?_ (pops_end ?_)
      (repeat refine ka ?_); refine kr ?_ ?_ (pops_end ?_)
      (repeat refine ka ?_); refine kb ?_
      refine kw (fun _ : Unit => [(10, .v (.slice none 0 0)), (11, .v (.slice none 0 0)), (39, .v (.int .i64 0)), (40, .v (.int .i64 0))]) (fun _ => []) (fun _ => True) (fun _ => 0) () trivial (holds 0 (by repeat (first | exact .nil | refine has1 ?_))) ?_
      intro _ _
      (repeat refine ka ?_); refine kr ?_ ?_ (pops_end ?_)
      (repeat refine ka ?_); refine kcf ?_
      (repeat refine ka ?_); refine kx ?_; (repeat (first | with_reducible refine beh_x ?_ | with_reducible refine blk_up rfl ?_)); refine blk_here ?_; refine beh_n ?_
      (repeat refine ka ?_); refine kr ?_ ?_ (pops_end ?_)
      (repeat refine ka ?_); refine kret ?_; repeat (first | with_reducible refine beh_r ?_ | with_reducible refine blk_r ?_)
      refine ends_ret ?_ (retPV_3 res_tmp res_tmp res_tmp)
      exact gives_three .nil .nil (.same (.v _))
    · (intro x1 S1 hx1 hS1; simp only [List.map_cons, List.map_nil, renB, ren_ints, putB, List.set_cons_zero, List.set_cons_succ, List.cons_append, List.nil_append, List.append_nil, renL, ren, sg, List.length_cons, List.length_nil, Nat.reduceAdd, Nat.zero_add, Nat.add_zero] at hx1 hS1; subst hx1 hS1)
      refine pops_go ?_ ?_ (pops_end ?_)
      (repeat refine ka ?_)
      refine kfreeze 1 ?_
      refine kfzT 9 [1] (y := .ro 2 false []) ?_ (lend_fils (L := []) (List.mem_singleton.2 rfl) rfl rfl rfl) (by intro τ hτ blk hb; cases List.mem_singleton.1 hτ; cases hb; rfl)
      (repeat refine ka ?_); refine kr ?_ ?_ ?_
      refine ps_pcall fsort0 ?_
      refine pops_nil ?_
      (repeat refine ka ?_); refine kr ?_ ?_ (pops_end ?_)
      (repeat refine ka ?_); refine kr ?_ ?_ (pops_end ?_)
      (repeat refine ka ?_); refine kr ?_ ?_ (pops_end ?_)
      (repeat refine ka ?_); refine kb ?_
      refine kw (fun _ : Unit => [(10, .v (.slice none 0 0)), (11, .v (.slice none 0 0)), (39, .v (.int .i64 0)), (40, .v (.int .i64 0))]) (fun _ => []) (fun _ => True) (fun _ => 0) () trivial (holds 0 (by repeat (first | exact .nil | refine has1 ?_))) ?_
      intro _ _
      (repeat refine ka ?_); refine kr ?_ ?_ (pops_end ?_)
      (repeat refine ka ?_); refine kcf ?_
      (repeat refine ka ?_); refine kx ?_; (repeat (first | with_reducible refine beh_x ?_ | with_reducible refine blk_up rfl ?_)); refine blk_here ?_; refine beh_n ?_
      (repeat refine ka ?_); refine kr ?_ ?_ (pops_end ?_)
      (repeat refine ka ?_); refine kret ?_; repeat (first | with_reducible refine beh_r ?_ | with_reducible refine blk_r ?_)
      refine ends_ret ?_ (retPV_3 res_tmp res_tmp res_tmp)
      exact gives_three .nil .nil (.same (.v _))
  (repeat refine ka ?_); refine kr ?_ ?_ ?_
  refine ps_fcall [] cc ?_ (by rintro x S' _; exact Nat.zero_le _)
  rintro x S' (⟨_, h, _⟩ | ⟨g1, rfl, rfl⟩)
  · exact absurd h hne
  (intro x1 S1 hx1 hS1; simp only [List.map_cons, List.map_nil, renB, ren_ints, ren_fils, putB, List.set_cons_zero, List.set_cons_succ, List.cons_append, List.nil_append, List.append_nil, renL, ren, sg, List.length_cons, List.length_nil, Nat.reduceAdd, Nat.zero_add, Nat.add_zero] at hx1 hS1; subst hx1 hS1)
  refine pops_go ?_ ?_ (pops_end ?_)
  have cs := fsort_ok F (fun f hf => (hF f hf).1.1) hl hne g1
  (repeat refine ka ?_); refine kr ?_ ?_ ?_
  refine ps_fcall [1] cs ?_ (by rintro x S' ⟨G, rfl, _, _, rfl⟩; exact Nat.le_of_ble_eq_true rfl) (hS := by simp only [List.map_cons, List.map_nil, renB, ren_fils]; rfl)
  rintro x S' ⟨G, rfl, hG1, hG2, rfl⟩
  clear cs cc c1 c2
  (intro x1 S1 hx1 hS1; simp only [List.map_cons, List.map_nil, renB, ren_ints, ren_fils, putB, List.set_cons_zero, List.set_cons_succ, List.cons_append, List.nil_append, List.append_nil, renL, ren, sg, List.length_cons, List.length_nil, Nat.reduceAdd, Nat.zero_add, Nat.add_zero] at hx1 hS1; subst hx1 hS1)
  refine pops_nil ?_
  have hGs : G = sortFi F := sortFi_unique (rset_nodup q0) hG1 hG2
  rw [← hGs]
  have hGl : G.length = F.length := hG1.length_eq
  have hGo : FisOk G := fun f hf => hF f (hG1.mem_iff.1 hf)
  have hGt : totF G = totF F := totF_perm hG1
  have lg := filRows_length G
  clear hGs hG2
  (repeat refine ka ?_)
  refine kfreeze 1 ?_
  refine kfzT 9 [1] (y := .ro 2 false (filRows G)) ?_ (lend_fils (List.mem_singleton.2 rfl) rfl rfl hGl) (by intro τ hτ blk hb; cases List.mem_singleton.1 hτ; cases hb; rfl)
  (repeat refine ka ?_); refine kr ?_ ?_ (pops_end ?_)
  (repeat refine ka ?_)
  refine kvoid 10 2 (fun g2 => ?_)
  (repeat refine ka ?_); refine kr ?_ ?_ (pops_end ?_)
  (repeat refine ka ?_)
  refine kvoid 11 1 (fun g3 => ?_)
  (repeat refine ka ?_); refine kr ?_ ?_ (pops_end ?_)
  (repeat refine ka ?_); refine kb ?_
  refine kw (fun p : Nat × Nat × Nat => [(10, .vw 2 p.2.1 0 p.1), (11, .vw 3 p.2.2 0 (dataOf (G.take p.1)).length), (38, .ro 2 false (filRows G)), (39, .v (.int .i64 (filRows G).length)), (40, .v (.int .i64 p.1))]) (fun p => [⟨g, false, 1, strRows (F.map (·.1))⟩, ⟨g1, false, 2, filRows G⟩, ⟨p.2.1, true, 2, entRows (entsOf (G.take p.1))⟩, ⟨p.2.2, true, 1, ints .u8 (dataOf (G.take p.1))⟩]) (fun p => p.1 ≤ G.length) (fun p => G.length - p.1) (0, g2, g3) (Nat.zero_le _) (by simp only; rw [show dataOf (G.take 0) = [] from rfl, show entsOf (G.take 0) = [] from rfl]; exact (holds 4 (by repeat (first | exact .nil | refine has1 ?_)))) ?_
  rintro ⟨i, ga, gb⟩ hi
  simp only at hi ⊢
  have hel : (entsOf (G.take i)).length = i := by simp [entsOf]; omega
  by_cases h : i < G.length
  · obtain ⟨f, hf⟩ : ∃ f, G[i]? = some f := ⟨G[i], by simp [h]⟩
    have r1 := filRows_get hf
    have e1 := entsOf_snoc hf
    have e2 := dataOf_snoc hf
    have t1 := dataOf_len (G.take (i + 1))
    have t2 := totF_take (F := G) (i + 1)
    rw [e2, List.length_append] at t1
    generalize dataOf (G.take i) = B at e2 t1
    generalize entsOf (G.take i) = E at e1 hel
    have hpe := entRows_pure [(f.1, (f.2.length : Int))]
    rw [show entRows [(f.1, (f.2.length : Int))] = [[.v (.string (str f.1)), .v (.int .i64 f.2.length)]] from rfl] at hpe
    (repeat refine ka ?_); refine kr ?_ ?_ (pops_end ?_)
    (repeat refine ka ?_); refine kct ?_
    (repeat refine ka ?_); refine ksk ?_
    (repeat refine ka ?_); refine kb ?_
    (repeat refine ka ?_); refine kr ?_ ?_ ?_
    refine ps_alloc fun g4 => ?_
    refine ps_store ?_
    refine pops_nil ?_
    (repeat refine ka ?_); refine kds [0, 1, 2, 3, 4, 5, 6, 7, 9, 10, 11] [8, 12, 13, 14] ?_
    refine pstl_go ?_ ?_ ?_; refine pd_litg (rows := [[.v (.string (str f.1)), .v (.int .i64 f.2.length)]]) ?_ hpe; refine pstl_go ?_ ?_ (pstl_end ?_)
    refine hs_w [0, 1, 2, 3, 4, 5, 6, 7] [9, 10, 11] ?_ (by refine pstl_go ?_ ?_ ?_; refine pd_litg (rows := [[.v (.string (str f.1)), .v (.int .i64 f.2.length)]]) ?_ hpe; refine pstl_go ?_ ?_ (pstl_end ?_); exact rfl); refine pstl_go ?_ ?_ ?_; refine pd_litg (rows := [[.v (.string (str f.1)), .v (.int .i64 f.2.length)]]) ?_ hpe; refine pstl_nil ?_; refine ⟨rfl, ?_⟩
    refine ps_app_vw (rows' := entRows (E ++ [(f.1, (f.2.length : Int))])) (m := i + 1) (fun g5 => ?_) (hsrc := rfl) (hrows := by rw [entRows_app]; rfl) (hlen := by rw [entRows_length, hel]) (hm := by rfl)
    refine pops_nil ?_
    refine hs_w [9, 10, 11] [] ?_ (by refine pstl_go ?_ ?_ (pstl_end ?_); exact rfl); refine pstl_go ?_ ?_ (pstl_end ?_); refine ⟨rfl, ?_⟩
    refine ps_app_vw (rows' := ints .u8 (B ++ f.2)) (m := B.length + f.2.length) (fun g6 => ?_) (hsrc := rfl) (hrows := ints_append _ _ _) (hm := by rw [ints_length]) (hlen := by rw [ints_length])
    refine pops_nil ?_
    refine hs_w [] [] ?_ (by refine pstl_nil ?_; exact rfl); refine pstl_nil ?_; refine ⟨rfl, ?_⟩
    refine ps_ev (p := .vw 2 g5 0 (i + 1)) ?_ rfl
    refine pops_nil ?_
    refine hs_w [] [] ?_ (by refine pstl_nil ?_; exact rfl); refine pstl_nil ?_; refine ⟨rfl, ?_⟩
    refine ps_ev (p := .vw 3 g6 0 (B.length + f.2.length)) ?_ rfl
    refine pops_nil ?_
    refine hs_end ?_; refine pstl_nil ?_; refine ⟨rfl, ?_⟩
    refine kn ?_; repeat (first | with_reducible refine blk_n ?_ | with_reducible refine beh_n ?_)
    (repeat refine ka ?_); refine kr ?_ ?_ (pops_end ?_)
    refine kn ?_; repeat (first | with_reducible refine blk_n ?_ | with_reducible refine beh_n ?_)
    refine ⟨(i + 1, g5, g6), by simp only; omega, by simp only; omega, ?_⟩
    simp only
    rw [e1, e2, List.length_append]
    exact (holds 4 (by repeat (first | exact .nil | refine has1 ?_)))
  · obtain rfl : i = G.length := by omega
    rw [List.take_length] at hel ⊢
    (repeat refine ka ?_); refine kr ?_ ?_ (pops_end ?_)
    (repeat refine ka ?_); refine kcf ?_
    (repeat refine ka ?_); refine kx ?_; (repeat (first | with_reducible refine beh_x ?_ | with_reducible refine blk_up rfl ?_)); refine blk_here ?_; refine beh_n ?_
    (repeat refine ka ?_); refine kr ?_ ?_ (pops_end ?_)
    (repeat refine ka ?_); refine kret ?_; repeat (first | with_reducible refine beh_r ?_ | with_reducible refine blk_r ?_)
    refine ends_ret ?_ (retPV_3 res_tmp res_tmp res_tmp)
    exact gives_three (gives_rows15 rfl rfl (by rw [entRows_length, hel]) (entRows_pure _)) (gives_ints rfl rfl rfl) (.same (.v _))
end Go.Proofs.YtenoecffjfcifaaDoor.Pv
-- carapaceref15.Of.
namespace Go.Proofs.YtenoecffjfcifaaDoor.Pv
set_option linter.all false
set_option linter.unusedVariables false
open Go.RowKit Go.Proofs
set_option maxRecDepth 100000
set_option maxHeartbeats 4000000
theorem entsOf_app (L : List Fi) (f : Fi) : entsOf (L ++ [f]) = entsOf L ++ [(f.1, (f.2.length : Int))] := by simp [entsOf]
theorem dataOf_app (L : List Fi) (f : Fi) : dataOf (L ++ [f]) = dataOf L ++ f.2 := by simp [dataOf]
theorem data_len {L : List Fi} (h : ∀ f ∈ L, f.2.length ≤ 65536) : (dataOf L).length ≤ 65536 * L.length := by
  induction L with
  | nil => simp [dataOf]
  | cons f L ih =>
    have h1 := h f (by simp)
    have h2 := ih fun x hx => h x (by simp [hx])
    simp only [dataOf, List.map_cons, List.flatten_cons, List.length_append, List.length_cons] at *
    omega
theorem pick_len (F : List Fi) : ∀ P : List (List Int), (pickF F P).length ≤ P.length * F.length
  | [] => by simp [pickF]
  | p :: P => by
    have h1 := pick_len F P
    have h2 := List.length_filter_le (fun f : Fi => f.1 = p) F
    simp only [pickF, List.flatMap_cons, List.length_append, List.length_cons] at *
    rw [Nat.add_mul, Nat.one_mul]
    omega
theorem pick_mem {F : List Fi} {P : List (List Int)} {f : Fi} (h : f ∈ pickF F P) : f ∈ F := by
  obtain ⟨p, _, hf⟩ := List.mem_flatMap.1 h
  exact (List.mem_filter.1 hf).1
theorem pick_snoc {F : List Fi} {R : List (List Int)} {i : Nat} {p : List Int} (h : R[i]? = some p) : pickF F (R.take (i + 1)) = pickF F (R.take i) ++ F.filter fun f => f.1 = p := by
  obtain ⟨h1, h2⟩ := List.getElem?_eq_some_iff.1 h
  rw [List.take_succ_eq_append_getElem h1, h2]
  simp [pickF]
theorem filter_snoc {F : List Fi} {k : Nat} {f : Fi} {p : List Int} (h : F[k]? = some f) : (F.take (k + 1)).filter (fun f => f.1 = p) = (F.take k).filter (fun f => f.1 = p) ++ if f.1 = p then [f] else [] := by
  obtain ⟨h1, h2⟩ := List.getElem?_eq_some_iff.1 h
  rw [List.take_succ_eq_append_getElem h1, h2, List.filter_append]
  congr 1
  by_cases q : f.1 = p
  · simp [q]
  · simp [q]
theorem rof_ok (F : List Fi) (hF : FisOk F) (hl : F.length ≤ 1000000) : PCall Tryd.prog 20 [.ro 2 false (filRows F)] (.tup [.ro 2 false (entRows (ofF F).1), .ro 1 false (ints .u8 (ofF F).2.1), .v (.int .i64 (ofF F).2.2)]) := by
  have la := filRows_length F
  have lm : (F.map (·.1)).length = F.length := List.length_map ..
  have hnn : ∀ x ∈ F.map fun f => (f.2.length : Int), 0 ≤ x := by intro x hx; obtain ⟨e, he, rfl⟩ := List.mem_map.1 hx; omega
  refine pcall_mkg Tryd.func20 rfl [.tmp 2, .tmp 3, .tmp 4] Tryd.results20 91 rfl (tk_start ?_)
  (repeat refine ka ?_); refine kr ?_ ?_ (pops_end ?_)
  (repeat refine ka ?_); refine kr ?_ ?_ ?_
  refine ps_lit fun g0 => ?_
  refine pops_go ?_ ?_ (pops_end ?_)
  (repeat refine ka ?_); refine kr ?_ ?_ (pops_end ?_)
  (repeat refine ka ?_); refine kr ?_ ?_ (pops_end ?_)
  (repeat refine ka ?_); refine kb ?_
  refine kw (fun p : Nat × Nat => [(0, .ro 2 false (filRows F)), (5, .vw 0 p.2 0 p.1), (6, .v (.int .i64 (totF (F.take p.1)))), (7, .v (.int .i64 p.1))]) (fun p => [⟨p.2, true, 1, strRows ((F.map (·.1)).take p.1)⟩]) (fun p => p.1 ≤ F.length ∧ totF (F.take p.1) ≤ 1000000000 * p.1) (fun p => F.length - p.1) (0, g0) ⟨Nat.zero_le _, by simp [totF]⟩ (holds 1 (by repeat (first | exact .nil | refine has1 ?_))) ?_
  rintro ⟨i, g⟩ ⟨hi, hb⟩
  simp only at hi hb ⊢
  have hb0 : 0 ≤ totF (F.take i) := by
    have := sum_nonneg (l := (F.take i).map fun f => (f.2.length : Int)) (by intro x hx; obtain ⟨e, he, rfl⟩ := List.mem_map.1 hx; omega)
    exact this
  by_cases h : i < F.length
  · obtain ⟨e, he⟩ : ∃ e, F[i]? = some e := ⟨F[i], by simp [h]⟩
    have r1 := filRows_get he
    have hs := strRows_snoc (F.map (·.1)) i e.1 (by rw [List.getElem?_map, he]; rfl)
    have ht : totF (F.take (i + 1)) = totF (F.take i) + (e.2.length : Int) := by
      have := sum_take_succ (l := F.map fun f => (f.2.length : Int)) (i := i) (x := (e.2.length : Int)) (by rw [List.getElem?_map, he]; rfl)
      rw [← List.map_take, ← List.map_take] at this
      exact this
    have he2 := (hF e (List.mem_of_getElem? he)).2.2
    generalize totF (F.take i) = T at *
    (repeat refine ka ?_); refine kr ?_ ?_ (pops_end ?_)
    (repeat refine ka ?_); refine kct ?_
    (repeat refine ka ?_); refine ksk ?_
    (repeat refine ka ?_); refine kb ?_
    (repeat refine ka ?_); refine kr ?_ ?_ ?_
    refine ps_lit fun g2 => ?_
    refine ps_app_vw (rows' := strRows ((F.map (·.1)).take (i + 1))) (m := i + 1) (rows := [[.v (.string (str e.1))]]) (fun g3 => ?_) (hrows := hs) (hlen := by rw [strRows_length, List.length_take, lm]; omega) (hm := by rfl)
    refine pops_go ?_ ?_ (pops_end ?_)
    (repeat refine ka ?_); refine kr ?_ ?_ (pops_end ?_)
    refine kn ?_; repeat (first | with_reducible refine blk_n ?_ | with_reducible refine beh_n ?_)
    (repeat refine ka ?_); refine kr ?_ ?_ (pops_end ?_)
    refine kn ?_; repeat (first | with_reducible refine blk_n ?_ | with_reducible refine beh_n ?_)
    refine ⟨(i + 1, g3), ⟨by simp only; omega, by simp only; omega⟩, by simp only; omega, ?_⟩
    simp only
    rw [ht]
    exact (holds 1 (by repeat (first | exact .nil | refine has1 ?_)))
  obtain rfl : i = F.length := by omega
  rw [List.take_length] at hb hb0 ⊢
  have c1 := rset_ok (F.map (·.1)) (fpathsOct hF) (by omega) (fpathsLen hF)
  have c2 := rsorted_ok (F.map (·.1)) (fpathsOct hF) (by omega) (fpathsLen hF)
  rw [List.take_of_length_le (by omega)]
  (repeat refine ka ?_); refine kr ?_ ?_ (pops_end ?_)
  (repeat refine ka ?_); refine kcf ?_
  (repeat refine ka ?_); refine kx ?_; (repeat (first | with_reducible refine beh_x ?_ | with_reducible refine blk_up rfl ?_)); refine blk_here ?_; refine beh_n ?_
  refine kfreeze 0 ?_
  refine kfzT 5 [0] (y := .ro 1 false (strRows (F.map (·.1)))) ?_ (lend_strs (List.mem_singleton.2 rfl) rfl rfl lm) (by intro τ hτ blk hb; cases List.mem_singleton.1 hτ; cases hb; rfl)
  (repeat refine ka ?_); refine kr ?_ ?_ ?_
  refine ps_pcall c1 ?_
  refine pops_go ?_ ?_ (pops_end ?_)
  by_cases q0 : rsetF (F.map (·.1)) = 0
  case neg =>
    rw [ofF, if_pos q0]
    (repeat refine ka ?_); refine kr ?_ ?_ (pops_end ?_)
    (repeat refine ka ?_); refine kct ?_
    (repeat refine ka ?_); refine kr ?_ ?_ (pops_end ?_)
    (repeat refine ka ?_); refine kret ?_; repeat (first | with_reducible refine beh_r ?_ | with_reducible refine blk_r ?_)
    refine ends_ret ?_ (retPV_3 res_tmp res_tmp res_tmp)
    exact gives_three .nil .nil (.same (.v _))
  rw [ofF, if_neg (fun h => h q0)]
  (repeat refine ka ?_); refine kr ?_ ?_ (pops_end ?_)
  (repeat refine ka ?_); refine kcf ?_
  (repeat refine ka ?_); refine ksk ?_
  by_cases q1 : 65536 < totF F
  · rw [if_pos q1]
    (repeat refine ka ?_); refine kr ?_ ?_ (pops_end ?_)
    (repeat refine ka ?_); refine kct ?_
    (repeat refine ka ?_); refine kr ?_ ?_ (pops_end ?_)
    (repeat refine ka ?_); refine kret ?_; repeat (first | with_reducible refine beh_r ?_ | with_reducible refine blk_r ?_)
    refine ends_ret ?_ (retPV_3 res_tmp res_tmp res_tmp)
    exact gives_three .nil .nil (.same (.v _))
  rw [if_neg q1]
  (repeat refine ka ?_); refine kr ?_ ?_ (pops_end ?_)
  (repeat refine ka ?_); refine kcf ?_
  (repeat refine ka ?_); refine ksk ?_
  have hFl : F.length ≤ 200 := by have := (rsetF_zero.1 q0).1; omega
  have hRl : (rsortF (F.map (·.1))).length ≤ 200 := by rw [rsortF_length]; omega
  have hRo : ∀ x ∈ rsortF (F.map (·.1)), Oct x := fun x hx => fpathsOct hF x ((rsort_perm _).mem_iff.1 hx)
  have hd : ∀ f ∈ F, f.2.length ≤ 65536 := fun f hf => by
    have := mem_le_sum hnn (List.mem_map_of_mem (f := fun f : Fi => (f.2.length : Int)) hf)
    unfold totF at q1
    omega
  (repeat refine ka ?_); refine kr ?_ ?_ ?_
  refine ps_pcall c2 ?_
  refine pops_go ?_ ?_ (pops_end ?_)
  rw [sortFi]
  generalize rsortF (F.map (·.1)) = R at *
  have lr := strRows_length R
  have bnd : ∀ i, i ≤ R.length → (pickF F (R.take i)).length ≤ 40000 := fun i hi => by
    have h1 := pick_len F (R.take i)
    rw [List.length_take, Nat.min_eq_left hi] at h1
    have h2 : i * F.length ≤ 200 * 200 := Nat.mul_le_mul (by omega) (by omega)
    omega
  (repeat refine ka ?_); refine kr ?_ ?_ (pops_end ?_)
  (repeat refine ka ?_)
  refine kvoid 9 2 (fun g2 => ?_)
  (repeat refine ka ?_); refine kr ?_ ?_ ?_
  refine ps_lit fun g3 => ?_
  refine pops_go ?_ ?_ (pops_end ?_)
  (repeat refine ka ?_); refine kr ?_ ?_ (pops_end ?_)
  (repeat refine ka ?_); refine kb ?_
  refine kw (fun p : Nat × Nat × Nat => [(0, .ro 2 false (filRows F)), (5, .ro 1 false (strRows R)), (9, .vw 1 p.2.1 0 (entsOf (pickF F (R.take p.1))).length), (10, .vw 2 p.2.2 0 (dataOf (pickF F (R.take p.1))).length), (11, .v (.int .i64 p.1))]) (fun p => [⟨g, false, 1, strRows (F.map (·.1))⟩, ⟨p.2.1, true, 2, entRows (entsOf (pickF F (R.take p.1)))⟩, ⟨p.2.2, true, 1, ints .u8 (dataOf (pickF F (R.take p.1)))⟩]) (fun p => p.1 ≤ R.length) (fun p => R.length - p.1) (0, g2, g3) (Nat.zero_le _) (by simp only; rw [show pickF F (R.take 0) = [] from rfl, show dataOf [] = [] from rfl, show entsOf [] = [] from rfl]; exact (holds 3 (by repeat (first | exact .nil | refine has1 ?_)))) ?_
  rintro ⟨i, ga, gb⟩ hi
  simp only at hi ⊢
  by_cases h : i < R.length
  · obtain ⟨p, hp⟩ : ∃ p, R[i]? = some p := ⟨R[i], by simp [h]⟩
    have r2 := strRows_get hp
    have o2 := hRo p (List.mem_of_getElem? hp)
    have hps := pick_snoc (F := F) hp
    have hb1 := bnd i hi
    have hmem : ∀ f ∈ pickF F (R.take i), f.2.length ≤ 65536 := fun f hf => hd f (pick_mem hf)
    generalize pickF F (R.take i) = L at *
    (repeat refine ka ?_); refine kr ?_ ?_ (pops_end ?_)
    (repeat refine ka ?_); refine kct ?_
    (repeat refine ka ?_); refine ksk ?_
    (repeat refine ka ?_); refine kb ?_
    (repeat refine ka ?_); refine kr ?_ ?_ (pops_end ?_)
    (repeat refine ka ?_); refine kb ?_
    refine kw (fun q : Nat × Nat × Nat => [(0, .ro 2 false (filRows F)), (5, .ro 1 false (strRows R)), (9, .vw 1 q.2.1 0 (entsOf (L ++ (F.take q.1).filter fun f => f.1 = p)).length), (10, .vw 2 q.2.2 0 (dataOf (L ++ (F.take q.1).filter fun f => f.1 = p)).length), (11, .v (.int .i64 i)), (12, .v (.int .i64 q.1))]) (fun q => [⟨g, false, 1, strRows (F.map (·.1))⟩, ⟨q.2.1, true, 2, entRows (entsOf (L ++ (F.take q.1).filter fun f => f.1 = p))⟩, ⟨q.2.2, true, 1, ints .u8 (dataOf (L ++ (F.take q.1).filter fun f => f.1 = p))⟩]) (fun q => q.1 ≤ F.length) (fun q => F.length - q.1) (0, ga, gb) (Nat.zero_le _) (by simp only [List.take_zero, List.filter_nil, List.append_nil]; exact (holds 3 (by repeat (first | exact .nil | refine has1 ?_)))) ?_
    rintro ⟨k, gc, gd⟩ hk
    simp only at hk ⊢
    by_cases hkl : k < F.length
    · obtain ⟨f, hf⟩ : ∃ f, F[k]? = some f := ⟨F[k], by simp [hkl]⟩
      have r1 := filRows_get hf
      have o1 := (hF f (List.mem_of_getElem? hf)).1.1
      have hfs := filter_snoc (p := p) hf
      have hM : (L ++ (F.take k).filter fun f => f.1 = p).length ≤ 40200 := by
        have := List.length_filter_le (fun f : Fi => f.1 = p) (F.take k)
        rw [List.length_append]
        rw [List.length_take] at this
        omega
      have hMm : ∀ x ∈ L ++ (F.take k).filter (fun f => f.1 = p), x.2.length ≤ 65536 := fun x hx => by
        rcases List.mem_append.1 hx with hx | hx
        · exact hmem x hx
        · exact hd x (List.mem_of_mem_take ((List.mem_filter.1 hx).1))
      have hDl := data_len hMm
      have hEl : (entsOf (L ++ (F.take k).filter fun f => f.1 = p)).length = (L ++ (F.take k).filter fun f => f.1 = p).length := by simp [entsOf]
      have hfd := hd f (List.mem_of_getElem? hf)
      have hfs2 : L ++ (F.take (k + 1)).filter (fun f => f.1 = p) = (L ++ (F.take k).filter fun f => f.1 = p) ++ if f.1 = p then [f] else [] := by rw [hfs, List.append_assoc]
      generalize (L ++ (F.take k).filter fun f => f.1 = p) = M at *
      by_cases hk1 : f.1 = p
      · rw [if_pos hk1] at hfs2
        have e1 := entsOf_app M f
        have e2 := dataOf_app M f
        have hpe := entRows_pure [(p, (f.2.length : Int))]
        rw [show entRows [(p, (f.2.length : Int))] = [[.v (.string (str p)), .v (.int .i64 f.2.length)]] from rfl] at hpe
        (repeat refine ka ?_); refine kr ?_ ?_ (pops_end ?_)
        (repeat refine ka ?_); refine kct ?_
        (repeat refine ka ?_); refine ksk ?_
        (repeat refine ka ?_); refine kb ?_
        (repeat refine ka ?_); refine kd ?_ ?_ (pstl_end ?_)
        (repeat refine ka ?_); refine kct ?_
        (repeat refine ka ?_); refine kds [0, 1, 2, 3, 4, 5, 6, 7, 8, 9, 10, 11, 12] [13, 14] ?_
        refine pstl_go ?_ ?_ ?_; refine pd_litg (rows := [[.v (.string (str p)), .v (.int .i64 f.2.length)]]) ?_ hpe; refine pstl_nil ?_
        refine hs_w [0, 1, 2, 3, 4, 5, 6, 7, 8, 9, 10, 11, 12] [] ?_ (by refine pstl_go ?_ ?_ ?_; refine pd_litg (rows := [[.v (.string (str p)), .v (.int .i64 f.2.length)]]) ?_ hpe; refine pstl_nil ?_; exact rfl); refine pstl_go ?_ ?_ ?_; refine pd_litg (rows := [[.v (.string (str p)), .v (.int .i64 f.2.length)]]) ?_ hpe; refine pstl_nil ?_; refine ⟨rfl, ?_⟩
        refine ps_app_vw (rows' := entRows (entsOf M ++ [(f.1, (f.2.length : Int))])) (m := (entsOf M).length + 1) (fun g5 => ?_) (hsrc := rfl) (hrows := by rw [entRows_app, hk1]; rfl) (hlen := by rw [entRows_length]) (hm := by rfl)
        refine pops_nil ?_
        refine hs_w [] [] ?_ (by refine pstl_nil ?_; exact rfl); refine pstl_nil ?_; refine ⟨rfl, ?_⟩
        refine ps_ev (p := .vw 1 g5 0 ((entsOf M).length + 1)) ?_ rfl
        refine pops_nil ?_
        refine hs_end ?_; refine pstl_nil ?_; refine ⟨rfl, ?_⟩
        (repeat refine ka ?_); refine kr ?_ ?_ ?_
        refine ps_app_vw (rows' := ints .u8 (dataOf M ++ f.2)) (m := (dataOf M).length + f.2.length) (fun g6 => ?_) (hsrc := rfl) (hrows := ints_append _ _ _) (hm := by rw [ints_length]) (hlen := by rw [ints_length])
        refine pops_go ?_ ?_ (pops_end ?_)
        refine kn ?_; repeat (first | with_reducible refine blk_n ?_ | with_reducible refine beh_n ?_)
        (repeat refine ka ?_); refine kr ?_ ?_ (pops_end ?_)
        refine kn ?_; repeat (first | with_reducible refine blk_n ?_ | with_reducible refine beh_n ?_)
        refine ⟨(k + 1, g5, g6), by simp only; omega, by simp only; omega, ?_⟩
        simp only
        rw [hfs2, e1, e2, List.length_append, List.length_append]
        exact (holds 3 (by repeat (first | exact .nil | refine has1 ?_)))
      · rw [if_neg hk1, List.append_nil] at hfs2
        (repeat refine ka ?_); refine kr ?_ ?_ (pops_end ?_)
        (repeat refine ka ?_); refine kct ?_
        (repeat refine ka ?_); refine ksk ?_
        (repeat refine ka ?_); refine kb ?_
        (repeat refine ka ?_); refine kd ?_ ?_ (pstl_end ?_)
        (repeat refine ka ?_); refine kcf ?_
        (repeat refine ka ?_); refine ksk ?_
        refine kn ?_; repeat (first | with_reducible refine blk_n ?_ | with_reducible refine beh_n ?_)
        (repeat refine ka ?_); refine kr ?_ ?_ (pops_end ?_)
        refine kn ?_; repeat (first | with_reducible refine blk_n ?_ | with_reducible refine beh_n ?_)
        refine ⟨(k + 1, gc, gd), by simp only; omega, by simp only; omega, ?_⟩
        simp only
        rw [hfs2]
        exact (holds 3 (by repeat (first | exact .nil | refine has1 ?_)))
    · obtain rfl : k = F.length := by omega
      rw [List.take_length, ← hps]
      (repeat refine ka ?_); refine kr ?_ ?_ (pops_end ?_)
      (repeat refine ka ?_); refine kcf ?_
      (repeat refine ka ?_); refine kx ?_; (repeat (first | with_reducible refine beh_x ?_ | with_reducible refine blk_up rfl ?_)); refine blk_here ?_; refine beh_n ?_
      refine kn ?_; repeat (first | with_reducible refine blk_n ?_ | with_reducible refine beh_n ?_)
      (repeat refine ka ?_); refine kr ?_ ?_ (pops_end ?_)
      refine kn ?_; repeat (first | with_reducible refine blk_n ?_ | with_reducible refine beh_n ?_)
      exact ⟨(i + 1, gc, gd), by simp only; omega, by simp only; omega, (holds 3 (by repeat (first | exact .nil | refine has1 ?_)))⟩
  · obtain rfl : i = R.length := by omega
    rw [List.take_length]
    (repeat refine ka ?_); refine kr ?_ ?_ (pops_end ?_)
    (repeat refine ka ?_); refine kcf ?_
    (repeat refine ka ?_); refine kx ?_; (repeat (first | with_reducible refine beh_x ?_ | with_reducible refine blk_up rfl ?_)); refine blk_here ?_; refine beh_n ?_
    (repeat refine ka ?_); refine kr ?_ ?_ (pops_end ?_)
    (repeat refine ka ?_); refine kret ?_; repeat (first | with_reducible refine beh_r ?_ | with_reducible refine blk_r ?_)
    refine ends_ret ?_ (retPV_3 res_tmp res_tmp res_tmp)
    exact gives_three (gives_rows15 rfl rfl (by rw [entRows_length]) (entRows_pure _)) (gives_ints rfl rfl rfl) (.same (.v _))
end Go.Proofs.YtenoecffjfcifaaDoor.Pv
