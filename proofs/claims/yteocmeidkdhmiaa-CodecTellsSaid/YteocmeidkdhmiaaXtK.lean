-- xtea: number, keyed, mix, Block; carapaceref02: word, mix, Block.
import Derived.Test.YteocmeidkdhmiaaDe
import Derived.Test.YteocmeidkdhmiaaBt
import Derived.Test.YteocmeidkdhmiaaFz
namespace Go.Proofs.Yteocmeidkdhmiaa.Pv
set_option linter.all false
open Go.RowKit Go.Proofs
set_option maxRecDepth 100000
set_option maxHeartbeats 4000000
/-- A slice of an array of one's own that is written no more. -/
theorem pop_slarr {P : Program} {σ : PS} {o : Oper} {K : PV → List Blk → Prop} {t e : TypeId} {m : Nat} {x lo : Operand} {τ g : Nat} {sz : Nat} {row : List PV} {k0 : IntKind} {i : Int} (ho : o.op = .slice t x (some lo) none none) (hu : P.underlying t = some (.array m e)) (he : known P e = true) (hc : P.cellsOf e = 1)
    (hx : σ.get x = .ptr τ g 0 0) (hb : σ.S[τ]? = some ⟨g, false, sz, [row]⟩) (hm : row.length = m) (hmx : m ≤ maxLen) (hp : ∀ y ∈ row, PV.Pure y) (hlo : σ.get lo = .v (.int k0 i)) (h0 : 0 ≤ i) (h1 : i < m)
    (hK : K (.ro 1 false ((row.drop i.toNat).map fun y => [y])) σ.S) : PopSem P σ o K :=
  pop_of_run fun c a r => by
    obtain ⟨d, hd⟩ := Option.isSome_iff_exists.1 he
    have hb' : c.S[τ]? = some ⟨g, false, sz, [row]⟩ := by rw [r.S]; exact hb
    have hrx := r.get x
    have hrl := r.get lo
    rw [hx] at hrx
    rw [hlo] at hrl
    generalize hax : a.eval x = vx at hrx
    generalize hal : a.eval lo = vl at hrl
    cases hrl
    cases hrx with
    | ptr _ _ _ _ y hy hN hv =>
      obtain ⟨_, p, hβ, rfl, hcel⟩ := hv _ hb' rfl
      obtain ⟨hl, cs, et, fz, k1, k2, k3, k4⟩ := ((r.inv.blk τ _ hb').heap p hβ).cells hcel
      have hsz : row.length = sz := hl 0 row rfl
      have hrun : (Instr.sliceBounds false m m (some (.int k0 i)) none none).run P c.w = .ok (i.toNat, m, m) c.w := by
        simp [Instr.sliceBounds, run_sliceBound c.w k0 i m .sliceB h0 (by omega)]
      have hX : ¬ c.X p.1 := by
        rintro (h | ⟨τ', blk', p', g1, g2, g3, g4⟩)
        · exact r.inv.notG τ _ p hb' hβ h
        · have e := r.inv.inj τ' τ blk' _ p' p g1 hb' g2 g3 hβ g4
          subst e
          rw [hb'] at g1
          cases g1
          cases g2
      have hlen : ((row.drop i.toNat).map fun y => [y]).length = m - i.toNat := by simp [hm]
      refine ⟨_, c, .slice (some ⟨p.1, p.2 + i.toNat, none⟩) (m - i.toNat) (m - i.toNat), ?_, by rw [r.S]; exact hK, r.inv, .refl c, ?_⟩
      · simp only [execOp, ho]
        refine mk_run ?_
        have hne : ¬ m = i.toNat := by omega
        simp only [hax, hal, Option.map_some, Option.map_none, Instr.sliceAt, run_underlying hu, Sem.run_bind, Result.andThen_ok, Instr.sureAddr, Sem.run_pure, hrun, sizeOf_run hd, hc, Nat.mul_one, if_neg hne, Nat.zero_mul, Nat.add_zero, Addr.add_mid]
      · have key := RelV.ro (c := c) 1 false ((row.drop i.toNat).map fun y => [y]) (some ⟨p.1, p.2 + i.toNat, none⟩) (m - i.toNat) (fun j _ => (cs[p.2 + (i.toNat + j)]?).getD default) (by rw [hlen]; exact Nat.le_refl _) (by omega) (fun h => by cases h) (fun h => by cases h)
          (fun j row' hr => by
            rw [List.getElem?_map] at hr
            obtain ⟨y, _, rfl⟩ := Option.map_eq_some_iff.1 hr
            rfl)
          (fun ad ha j row' l y hr hy => by
            cases ha
            rw [List.getElem?_map] at hr
            obtain ⟨z, hz, rfl⟩ := Option.map_eq_some_iff.1 hr
            rw [List.getElem?_drop] at hz
            match l, hy with
            | 0, hy =>
              simp only [List.getElem?_cons_zero, Option.some.injEq] at hy
              subst hy
              obtain ⟨v, v1, v2, v3⟩ := k3 0 row (i.toNat + j) z rfl hz
              have e1 : p.2 + (0 * sz + (i.toNat + j)) = p.2 + (i.toNat + j) := by omega
              dsimp only at v1
              rw [e1] at v1
              refine ⟨rfl, hX, ?_, by simp only [v1]; exact v2⟩
              rw [cell_of k1, show p.2 + i.toNat + (j * 1 + 0) = p.2 + (i.toNat + j) by omega, v1]
              rfl
            | l + 1, hy => simp at hy)
          (fun j row' l y hr hy => by
            rw [List.getElem?_map] at hr
            obtain ⟨z, hz, rfl⟩ := Option.map_eq_some_iff.1 hr
            match l, hy with
            | 0, hy =>
              simp only [List.getElem?_cons_zero, Option.some.injEq] at hy
              subst hy
              exact hp z (List.mem_of_mem_drop (List.mem_of_getElem? hz))
            | l + 1, hy => simp at hy)
          (fun j row' l y hr hy => by
            rw [List.getElem?_map] at hr
            obtain ⟨z, hz, rfl⟩ := Option.map_eq_some_iff.1 hr
            rw [List.getElem?_drop] at hz
            match l, hy with
            | 0, hy =>
              simp only [List.getElem?_cons_zero, Option.some.injEq] at hy
              subst hy
              obtain ⟨v, v1, v2, v3⟩ := k3 0 row (i.toNat + j) z rfl hz
              have e1 : p.2 + (0 * sz + (i.toNat + j)) = p.2 + (i.toNat + j) := by omega
              dsimp only at v1
              rw [e1] at v1
              simp only [v1]
              exact v3
            | l + 1, hy => simp at hy)
        rw [hlen] at key
        exact key
section
variable {P : Program} {ops : List Oper} {Q : PS → Prop} {rest : List Oper} {n : Nat} {tm : List (Nat × PV)} {S : List Blk} {d : Tmp} {ty : TypeId} {pos : String} {af : Array Edge} {x lo : Operand}
theorem ps_slarr {t e : TypeId} {de : TypeDesc} {m : Nat} [hu : Und P t (.array m e)] [he : Und P e de] [hc : Cel P e 1] {τ g sz : Nat} {row : List PV} {rows : List (List PV)} {k0 : IntKind} {i : Int} (k : Pops P ops Q rest ⟨n, (d, .ro 1 false rows) :: tm, S⟩) (hp : ∀ y ∈ row, PV.Pure y)
    (hx : PS.get ⟨n, tm, S⟩ x = .ptr τ g 0 0 := by ((conv => lhs; whnf) <;> fail "no")) (hb : S[τ]? = some ⟨g, false, sz, [row]⟩ := by first | ((conv => lhs; whnf) <;> fail "no") | exact rfl | assumption) (hm : row.length = m := by first | rfl | assumption) (hmx : m ≤ maxLen := by decide) (hlo : PS.get ⟨n, tm, S⟩ lo = .v (.int k0 i) := by ((conv => lhs; whnf) <;> fail "no")) (h0 : 0 ≤ i := by omega) (h1 : i < m := by omega) (hr : ((row.drop i.toNat).map fun y => [y]) = rows := by rfl) :
    Pops P ops Q (⟨some d, .slice t x (some lo) none none, ty, pos, af, none⟩ :: rest) ⟨n, tm, S⟩ :=
  pops_one rfl (pop_slarr rfl hu.h (by simp [known, he.h]) hc.h hx hb hm hmx hp hlo h0 h1 (by subst hr; exact k))
end
def wd (l : List Int) : Int := ((l.getD 3 0 * 256 + l.getD 2 0) * 256 + l.getD 1 0) * 256 + l.getD 0 0
theorem number_ok (l : List Int) (ho : Oct l) (h4 : 4 ≤ l.length) (hl : l.length ≤ 1000000) : PCall Try.prog 72 [.ro 1 false (ints .u8 l)] (.v (.int .u32 (wd l))) := by
  have b0 := oct_getD ho (Int.toNat 0)
  have b1 := oct_getD ho (Int.toNat 1)
  have b2 := oct_getD ho (Int.toNat 2)
  have b3 := oct_getD ho (Int.toNat 3)
  have o3 := or_add_u32 8 0 (l.getD (Int.toNat 3) 0) (by decide) (by rw [show ((2 : Int) ^ 8) = 256 from rfl]; omega) b3.1 (by rw [show ((2 : Int) ^ 8) = 256 from rfl]; omega)
  have o2 := or_add_u32 8 (l.getD (Int.toNat 3) 0) (l.getD (Int.toNat 2) 0) (by omega) (by rw [show ((2 : Int) ^ 8) = 256 from rfl]; omega) b2.1 (by rw [show ((2 : Int) ^ 8) = 256 from rfl]; omega)
  have o1 := or_add_u32 8 (l.getD (Int.toNat 3) 0 * 256 + l.getD (Int.toNat 2) 0) (l.getD (Int.toNat 1) 0) (by omega) (by rw [show ((2 : Int) ^ 8) = 256 from rfl]; omega) b1.1 (by rw [show ((2 : Int) ^ 8) = 256 from rfl]; omega)
  have o0 := or_add_u32 8 ((l.getD (Int.toNat 3) 0 * 256 + l.getD (Int.toNat 2) 0) * 256 + l.getD (Int.toNat 1) 0) (l.getD (Int.toNat 0) 0) (by omega) (by rw [show ((2 : Int) ^ 8) = 256 from rfl]; omega) b0.1 (by rw [show ((2 : Int) ^ 8) = 256 from rfl]; omega)
  rw [show ((2 : Int) ^ 8) = 256 from rfl] at o0 o1 o2 o3
  rw [show (0 : Int) * 256 + l.getD (Int.toNat 3) 0 = l.getD (Int.toNat 3) 0 by omega] at o3
  refine pcall_mk Try.func72 rfl [.tmp 2] Try.results72 18 rfl (tk_start ?_)
  (repeat refine ka ?_); refine kr ?_ ?_ (pops_end ?_)
  (repeat refine ka ?_); refine kr ?_ ?_ (pops_end ?_)
  (repeat refine ka ?_); refine kr ?_ ?_ (pops_end ?_)
  (repeat refine ka ?_); refine kb ?_
  refine kw (fun s : Int × Int => [(0, PV.ro 1 false (ints .u8 l)), (3, .v (.int .u32 s.2)), (4, .v (.int .i64 s.1))]) (fun _ => []) (fun s => (s.1 = 3 ∧ s.2 = 0) ∨ (s.1 = 2 ∧ s.2 = l.getD (Int.toNat 3) 0) ∨ (s.1 = 1 ∧ s.2 = l.getD (Int.toNat 3) 0 * 256 + l.getD (Int.toNat 2) 0) ∨ (s.1 = 0 ∧ s.2 = (l.getD (Int.toNat 3) 0 * 256 + l.getD (Int.toNat 2) 0) * 256 + l.getD (Int.toNat 1) 0) ∨ (s.1 = -1 ∧ s.2 = ((l.getD (Int.toNat 3) 0 * 256 + l.getD (Int.toNat 2) 0) * 256 + l.getD (Int.toNat 1) 0) * 256 + l.getD (Int.toNat 0) 0)) (fun s => (s.1 + 1).toNat) (3, 0) (.inl ⟨rfl, rfl⟩) (holds 0 (by repeat (first | exact .nil | refine has1 ?_))) ?_
  rintro ⟨i, v⟩ hv
  simp only at hv ⊢
  rcases hv with ⟨rfl, rfl⟩ | ⟨rfl, rfl⟩ | ⟨rfl, rfl⟩ | ⟨rfl, rfl⟩ | ⟨rfl, rfl⟩
  · (repeat refine ka ?_); refine kr ?_ ?_ (pops_end ?_)
    (repeat refine ka ?_); refine kct ?_
    (repeat refine ka ?_); refine ksk ?_
    (repeat refine ka ?_); refine kb ?_
    (repeat refine ka ?_); refine kr ?_ ?_ (pops_end ?_)
    refine kn ?_; repeat (first | with_reducible refine blk_n ?_ | with_reducible refine beh_n ?_)
    (repeat refine ka ?_); refine kr ?_ ?_ (pops_end ?_)
    refine kn ?_; repeat (first | with_reducible refine blk_n ?_ | with_reducible refine beh_n ?_)
    exact ⟨(2, l.getD (Int.toNat 3) 0), .inr (.inl ⟨rfl, rfl⟩), by simp, (holds 0 (by repeat (first | exact .nil | refine has1 ?_)))⟩
  · (repeat refine ka ?_); refine kr ?_ ?_ (pops_end ?_)
    (repeat refine ka ?_); refine kct ?_
    (repeat refine ka ?_); refine ksk ?_
    (repeat refine ka ?_); refine kb ?_
    (repeat refine ka ?_); refine kr ?_ ?_ (pops_end ?_)
    refine kn ?_; repeat (first | with_reducible refine blk_n ?_ | with_reducible refine beh_n ?_)
    (repeat refine ka ?_); refine kr ?_ ?_ (pops_end ?_)
    refine kn ?_; repeat (first | with_reducible refine blk_n ?_ | with_reducible refine beh_n ?_)
    exact ⟨(1, l.getD (Int.toNat 3) 0 * 256 + l.getD (Int.toNat 2) 0), .inr (.inr (.inl ⟨rfl, rfl⟩)), by simp, (holds 0 (by repeat (first | exact .nil | refine has1 ?_)))⟩
  · (repeat refine ka ?_); refine kr ?_ ?_ (pops_end ?_)
    (repeat refine ka ?_); refine kct ?_
    (repeat refine ka ?_); refine ksk ?_
    (repeat refine ka ?_); refine kb ?_
    (repeat refine ka ?_); refine kr ?_ ?_ (pops_end ?_)
    refine kn ?_; repeat (first | with_reducible refine blk_n ?_ | with_reducible refine beh_n ?_)
    (repeat refine ka ?_); refine kr ?_ ?_ (pops_end ?_)
    refine kn ?_; repeat (first | with_reducible refine blk_n ?_ | with_reducible refine beh_n ?_)
    exact ⟨(0, (l.getD (Int.toNat 3) 0 * 256 + l.getD (Int.toNat 2) 0) * 256 + l.getD (Int.toNat 1) 0), .inr (.inr (.inr (.inl ⟨rfl, rfl⟩))), by simp, (holds 0 (by repeat (first | exact .nil | refine has1 ?_)))⟩
  · (repeat refine ka ?_); refine kr ?_ ?_ (pops_end ?_)
    (repeat refine ka ?_); refine kct ?_
    (repeat refine ka ?_); refine ksk ?_
    (repeat refine ka ?_); refine kb ?_
    (repeat refine ka ?_); refine kr ?_ ?_ (pops_end ?_)
    refine kn ?_; repeat (first | with_reducible refine blk_n ?_ | with_reducible refine beh_n ?_)
    (repeat refine ka ?_); refine kr ?_ ?_ (pops_end ?_)
    refine kn ?_; repeat (first | with_reducible refine blk_n ?_ | with_reducible refine beh_n ?_)
    exact ⟨(-1, ((l.getD (Int.toNat 3) 0 * 256 + l.getD (Int.toNat 2) 0) * 256 + l.getD (Int.toNat 1) 0) * 256 + l.getD (Int.toNat 0) 0), .inr (.inr (.inr (.inr ⟨rfl, rfl⟩))), by simp, (holds 0 (by repeat (first | exact .nil | refine has1 ?_)))⟩
  · (repeat refine ka ?_); refine kr ?_ ?_ (pops_end ?_)
    (repeat refine ka ?_); refine kcf ?_
    (repeat refine ka ?_); refine kx ?_; (repeat (first | with_reducible refine beh_x ?_ | with_reducible refine blk_up rfl ?_)); refine blk_here ?_; refine beh_n ?_
    (repeat refine ka ?_); refine kr ?_ ?_ (pops_end ?_)
    (repeat refine ka ?_); refine kret ?_; repeat (first | with_reducible refine beh_r ?_ | with_reducible refine blk_r ?_)
    refine ends_ret ?_ retPV_one
    rfl
theorem ci_pure (k : IntKind) (l : List Int) : ∀ y ∈ ci k l, PV.Pure y := fun y hy => by
  obtain ⟨b, _, rfl⟩ := List.mem_map.1 hy
  exact .v _
instance ciPureL (k : IntKind) (l : List Int) : PureL (ci k l) := ⟨ci_pure k l⟩
theorem ci_drop_map (k : IntKind) (l : List Int) (n : Nat) : ((ci k l).drop n).map (fun y => [y]) = ints k (l.drop n) := by
  simp [ci, ints, List.map_drop]
  rfl
def ksOf (K : List Int) : List Int := [wd K, wd (K.drop 4), wd (K.drop 8), wd (K.drop 12)]
def outRow (K : List Int) (j : Nat) : List PV := ci .u32 ((ksOf K).take j ++ List.replicate (4 - j) 0)
theorem keyed_ok (K : List Int) (hK : K.length = 16) (ho : Oct K) : PCall Try.prog 70 [.agg (ci .u8 K)] (.agg (ci .u32 (ksOf K))) := by
  refine pcall_mk Try.func70 rfl [.cell 2 97] Try.results70 15 rfl (tk_start ?_)
  (repeat refine ka ?_); refine kr ?_ ?_ ?_
  refine ps_box (c := ci .u8 K) (sz := 16) (fun g0 => ?_) (hs := by rw [ci_length, hK])
  refine ps_alloc fun g1 => ?_
  refine pops_nil ?_
  (repeat refine ka ?_)
  refine kfreeze 0 ?_
  (repeat refine ka ?_); refine kr ?_ ?_ (pops_end ?_)
  (repeat refine ka ?_); refine kb ?_
  refine kw (fun j : Nat => [(1, PV.ptr 0 g0 0 0), (2, .ptr 1 g1 0 0), (4, .v (.int .i64 j))]) (fun j => [⟨g0, false, 16, [ci .u8 K]⟩, ⟨g1, true, 4, [outRow K j]⟩]) (fun j => j ≤ 4) (fun j => 4 - j) 0 (by decide) (holds 2 (by repeat (first | exact .nil | refine has1 ?_))) ?_
  intro j hj
  have hc : j = 0 ∨ j = 1 ∨ j = 2 ∨ j = 3 ∨ j = 4 := by omega
  rcases hc with rfl | rfl | rfl | rfl | rfl <;> simp only [Int.cast_ofNat_Int, outRow, ksOf, ci, List.take_zero, List.take_succ_cons, List.nil_append, List.cons_append, List.replicate, List.map_cons, List.map_nil, Nat.sub_zero, Nat.reduceSub, List.take_nil, List.append_nil]
  · have c1 := number_ok (K.drop 0) (fun x hx => ho x (List.mem_of_mem_drop hx)) (by rw [List.length_drop]; omega) (by rw [List.length_drop]; omega)
    (repeat refine ka ?_); refine kr ?_ ?_ (pops_end ?_)
    (repeat refine ka ?_); refine kct ?_
    (repeat refine ka ?_); refine ksk ?_
    (repeat refine ka ?_); refine kb ?_
    (repeat refine ka ?_); refine kr ?_ ?_ (pops_end ?_)
    (repeat refine ka ?_); refine kr ?_ ?_ ?_
    refine ps_slarr (row := ci .u8 K) (rows := ints .u8 (K.drop 0)) ?_ (ci_pure .u8 K) (hm := by rw [ci_length, hK]) (hr := by rw [ci_drop_map]; rfl)
    refine ps_pcall c1 ?_
    refine pops_go ?_ ?_ ?_
    refine ps_store ?_
    refine pops_nil ?_
    refine kn ?_; repeat (first | with_reducible refine blk_n ?_ | with_reducible refine beh_n ?_)
    (repeat refine ka ?_); refine kr ?_ ?_ (pops_end ?_)
    refine kn ?_; repeat (first | with_reducible refine blk_n ?_ | with_reducible refine beh_n ?_)
    exact ⟨1, by decide, by decide, (holds 2 (by repeat (first | exact .nil | refine has1 ?_)))⟩
  · have c1 := number_ok (K.drop 4) (fun x hx => ho x (List.mem_of_mem_drop hx)) (by rw [List.length_drop]; omega) (by rw [List.length_drop]; omega)
    (repeat refine ka ?_); refine kr ?_ ?_ (pops_end ?_)
    (repeat refine ka ?_); refine kct ?_
    (repeat refine ka ?_); refine ksk ?_
    (repeat refine ka ?_); refine kb ?_
    (repeat refine ka ?_); refine kr ?_ ?_ (pops_end ?_)
    (repeat refine ka ?_); refine kr ?_ ?_ ?_
    refine ps_slarr (row := ci .u8 K) (rows := ints .u8 (K.drop 4)) ?_ (ci_pure .u8 K) (hm := by rw [ci_length, hK]) (hr := by rw [ci_drop_map]; rfl)
    refine ps_pcall c1 ?_
    refine pops_go ?_ ?_ ?_
    refine ps_store ?_
    refine pops_nil ?_
    refine kn ?_; repeat (first | with_reducible refine blk_n ?_ | with_reducible refine beh_n ?_)
    (repeat refine ka ?_); refine kr ?_ ?_ (pops_end ?_)
    refine kn ?_; repeat (first | with_reducible refine blk_n ?_ | with_reducible refine beh_n ?_)
    exact ⟨2, by decide, by decide, (holds 2 (by repeat (first | exact .nil | refine has1 ?_)))⟩
  · have c1 := number_ok (K.drop 8) (fun x hx => ho x (List.mem_of_mem_drop hx)) (by rw [List.length_drop]; omega) (by rw [List.length_drop]; omega)
    (repeat refine ka ?_); refine kr ?_ ?_ (pops_end ?_)
    (repeat refine ka ?_); refine kct ?_
    (repeat refine ka ?_); refine ksk ?_
    (repeat refine ka ?_); refine kb ?_
    (repeat refine ka ?_); refine kr ?_ ?_ (pops_end ?_)
    (repeat refine ka ?_); refine kr ?_ ?_ ?_
    refine ps_slarr (row := ci .u8 K) (rows := ints .u8 (K.drop 8)) ?_ (ci_pure .u8 K) (hm := by rw [ci_length, hK]) (hr := by rw [ci_drop_map]; rfl)
    refine ps_pcall c1 ?_
    refine pops_go ?_ ?_ ?_
    refine ps_store ?_
    refine pops_nil ?_
    refine kn ?_; repeat (first | with_reducible refine blk_n ?_ | with_reducible refine beh_n ?_)
    (repeat refine ka ?_); refine kr ?_ ?_ (pops_end ?_)
    refine kn ?_; repeat (first | with_reducible refine blk_n ?_ | with_reducible refine beh_n ?_)
    exact ⟨3, by decide, by decide, (holds 2 (by repeat (first | exact .nil | refine has1 ?_)))⟩
  · have c1 := number_ok (K.drop 12) (fun x hx => ho x (List.mem_of_mem_drop hx)) (by rw [List.length_drop]; omega) (by rw [List.length_drop]; omega)
    (repeat refine ka ?_); refine kr ?_ ?_ (pops_end ?_)
    (repeat refine ka ?_); refine kct ?_
    (repeat refine ka ?_); refine ksk ?_
    (repeat refine ka ?_); refine kb ?_
    (repeat refine ka ?_); refine kr ?_ ?_ (pops_end ?_)
    (repeat refine ka ?_); refine kr ?_ ?_ ?_
    refine ps_slarr (row := ci .u8 K) (rows := ints .u8 (K.drop 12)) ?_ (ci_pure .u8 K) (hm := by rw [ci_length, hK]) (hr := by rw [ci_drop_map]; rfl)
    refine ps_pcall c1 ?_
    refine pops_go ?_ ?_ ?_
    refine ps_store ?_
    refine pops_nil ?_
    refine kn ?_; repeat (first | with_reducible refine blk_n ?_ | with_reducible refine beh_n ?_)
    (repeat refine ka ?_); refine kr ?_ ?_ (pops_end ?_)
    refine kn ?_; repeat (first | with_reducible refine blk_n ?_ | with_reducible refine beh_n ?_)
    exact ⟨4, by decide, by decide, (holds 2 (by repeat (first | exact .nil | refine has1 ?_)))⟩
  · (repeat refine ka ?_); refine kr ?_ ?_ (pops_end ?_)
    (repeat refine ka ?_); refine kcf ?_
    (repeat refine ka ?_); refine kx ?_; (repeat (first | with_reducible refine beh_x ?_ | with_reducible refine blk_up rfl ?_)); refine blk_here ?_; refine beh_n ?_
    (repeat refine ka ?_); refine kr ?_ ?_ ?_
    refine ps_store ?_
    refine pops_nil ?_
    (repeat refine ka ?_); refine kret ?_; repeat (first | with_reducible refine beh_r ?_ | with_reducible refine blk_r ?_)
    refine ends_ret ?_ (retPV_1 res_cella)
    rfl
end Go.Proofs.Yteocmeidkdhmiaa.Pv
