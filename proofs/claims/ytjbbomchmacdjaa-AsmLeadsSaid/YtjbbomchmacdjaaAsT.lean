-- AsmTells.
import Derived.Test.YtjbbomchmacdjaaAsQ
import Derived.Test.YtjbbomchmacdjaaAsR
namespace Go.Proofs.Ytjbbomchmacdjaa.Pv
set_option linter.all false
open Go.RowKit Go.Proofs
set_option maxRecDepth 100000
set_option maxHeartbeats 4000000
abbrev SItem : List PV → Prop := SFs [SInt .i64, SStr, SFs [SInt .i64, SInt .i64, SInt .i64, SInt .i64, SInt .i64], SInt .u32]
theorem ofB_oct (b : ByteArray) : Oct (ofB b) := by
  intro x hx
  obtain ⟨c, _, rfl⟩ := List.mem_map.1 hx
  have := c.toNat_lt
  omega
theorem ofB_length (b : ByteArray) : (ofB b).length = b.size := by
  have := str_size (ofB b)
  rw [str_ofB] at this
  exact this.symm
/-- What an item that a law is handed is. -/
structure It.any (x : It) : Prop where
  o : Oct x.n
  n : x.n.length ≤ 140737488351232
  i : -9223372036854775808 ≤ x.imm ∧ x.imm ≤ 9223372036854775807
  w : 0 ≤ x.w ∧ x.w < 4294967296
theorem items_of : ∀ {rows : List (List PV)}, (∀ row ∈ rows, SItem row) → ∃ L : List It, rows = itRows L ∧ ∀ x ∈ L, x.any
  | [], _ => ⟨[], rfl, by simp⟩
  | row :: rows, h => by
    obtain ⟨L, rfl, hL⟩ := items_of (rows := rows) fun r hr => h r (by simp [hr])
    obtain ⟨p1, q1, e1, ⟨k, rfl, _⟩, p2, q2, rfl, ⟨s, rfl, hs⟩, p3, q3, rfl, ⟨_, _, rfl, ⟨op, rfl, _⟩, _, _, rfl, ⟨a, rfl, _⟩, _, _, rfl, ⟨b, rfl, _⟩, _, _, rfl, ⟨c, rfl, _⟩, _, _, rfl, ⟨imm, rfl, hi⟩, rfl⟩, p4, q4, rfl, ⟨w, rfl, hw⟩, rfl⟩ := h row (by simp)
    refine ⟨⟨k, ofB s, op, a, b, c, imm, w⟩ :: L, ?_, ?_⟩
    · rw [e1]
      simp only [itRows, List.map_cons, It.row, str_ofB, List.cons_append, List.nil_append, List.append_nil]
    · intro x hx
      rcases List.mem_cons.1 hx with rfl | hx
      · refine ⟨ofB_oct s, by simp only [ofB_length]; exact hs, ?_, ?_⟩
        · simp [Lit.wf, IntKind.min, IntKind.max, IntKind.bits, IntKind.signed] at hi
          simp only
          omega
        · simp [Lit.wf, IntKind.min, IntKind.max, IntKind.bits, IntKind.signed] at hw
          simp only
          omega
      · exact hL x hx
theorem bGo_len (labs : List (List Int × Int)) : ∀ (L : List It) (W : List Int) (R : List (Int × Bool)), (bGo labs L W R).1.1.length ≤ W.length + 2 * L.length ∧ (bGo labs L W R).1.2.length ≤ R.length + L.length
  | [], W, R => by simp [bGo]
  | x :: L, W, R => by
    rw [bGo]
    split
    · simp
    · split
      · simp
      · split
        · have h1 := layF_len x (findF labs x.n).1 (4 * W.length)
          have h2 := bGo_len labs L (W ++ (layF x (findF labs x.n).1 (4 * W.length)).1.1) (R ++ (layF x (findF labs x.n).1 (4 * W.length)).1.2)
          simp only [List.length_append, List.length_cons] at h2 ⊢
          omega
        · simp
theorem buildF_len (L : List It) : (buildF L).1.1.length ≤ 2 * L.length ∧ (buildF L).1.2.length ≤ L.length := by
  unfold buildF
  split
  · have := bGo_len (labelsF L).1 L [] []
    simpa using this
  · simp
theorem findF_none {L : List (List Int × Int)} {n : List Int} (h : (findF L n).2 = false) : ∀ p ∈ L, p.1 ≠ n := by
  induction L with
  | nil => intro p hp; cases hp
  | cons q L ih =>
    unfold findF at h
    split at h
    · cases h
    · rename_i hq
      intro p hp
      rcases List.mem_cons.1 hp with rfl | hp
      · exact hq
      · exact ih h p hp
theorem findF_app {L M : List (List Int × Int)} {n : List Int} : (findF L n).2 = true → findF (L ++ M) n = findF L n := by
  induction L with
  | nil => intro h; cases h
  | cons q L ih =>
    intro h
    unfold findF at h
    simp only [List.cons_append]
    unfold findF
    split
    · rfl
    · rename_i hq
      rw [if_neg hq] at h
      exact ih h
theorem findF_snoc {L : List (List Int × Int)} {n : List Int} {z : Int} (h : (findF L n).2 = false) : findF (L ++ [(n, z)]) n = (z, true) := by
  induction L with
  | nil => simp [findF]
  | cons q L ih =>
    unfold findF at h
    simp only [List.cons_append]
    unfold findF
    split
    · rename_i hq
      rw [if_pos hq] at h
      cases h
    · rename_i hq
      rw [if_neg hq] at h
      exact ih h
/-- No label stands twice. -/
def Once (L : List (List Int × Int)) : Prop := ∀ p ∈ L, findF L p.1 = (p.2, true)
theorem once_snoc {L : List (List Int × Int)} {n : List Int} {z : Int} (h : Once L) (hn : (findF L n).2 = false) : Once (L ++ [(n, z)]) := by
  intro p hp
  rcases List.mem_append.1 hp with hp | hp
  · have := h p hp
    rw [findF_app (by rw [this]), this]
  · simp only [List.mem_singleton] at hp
    subst hp
    exact findF_snoc hn
theorem labGo_once : ∀ (L : List It) (out : List (List Int × Int)) (a : Int), Once out → Once (labGo L out a).1
  | [], out, a, h => by simpa [labGo] using h
  | x :: L, out, a, h => by
    rw [labGo]
    split
    · split
      · intro p hp; cases hp
      · rename_i hf
        exact labGo_once L _ _ (once_snoc h (by simpa using hf))
    · exact labGo_once L _ _ h
theorem labelsF_once (L : List It) : Once (labelsF L).1 := by
  unfold labelsF
  split
  · intro p hp; cases hp
  · split
    · intro p hp; cases hp
    · exact labGo_once L [] 0 (fun p hp => by cases hp)
theorem labelsF_length (L : List It) : (labelsF L).1.length ≤ L.length := by
  unfold labelsF
  split
  · simp
  · split
    · simp
    · have := labGo_length L [] 0
      simpa using this
theorem tells12 {x0 x1 : PV} (h0 : SSl 8 72 (SFs [SInt .i64, SStr, SFs [SInt .i64, SInt .i64, SInt .i64, SInt .i64, SInt .i64], SInt .u32]) [x0]) (h1 : SStr [x1]) : PCall Try.prog 8 [x0, x1] (.v (.bool true)) := by
  obtain ⟨rows, e0, hB, hM, hrows⟩ := h0
  cases e0
  obtain ⟨s, e1, hs⟩ := h1
  cases e1
  obtain ⟨L, rfl, hL⟩ := items_of hrows
  have hno : Oct (ofB s) := ofB_oct s
  have hse : s = str (ofB s) := (str_ofB s).symm
  generalize ofB s = nm at *
  subst hse
  clear hs
  rw [itRows_length] at hB hM
  have hcl := itRows_length L
  have cO := own12 L (by omega)
  obtain ⟨b, hb, cL⟩ := large_ok L (by omega) (fun x hx => (hL x hx).n)
  have ho : ∀ x ∈ L, Oct x.n := fun x hx => (hL x hx).o
  clear hrows
  cases b with
  | true =>
    refine pcall_mk Try.func8 rfl [.tmp 4] Try.results8 124 rfl (tk_start ?_)
    (repeat refine ka ?_); refine kr ?_ ?_ (pops_end ?_)
    (repeat refine ka ?_); refine kr ?_ ?_ ?_
    refine ps_pcall awake12 ?_
    refine pops_go ?_ ?_ (pops_end ?_)
    (repeat refine ka ?_); refine kr ?_ ?_ ?_
    refine ps_pcall cO ?_
    refine ps_pcall cL ?_
    refine pops_go ?_ ?_ (pops_end ?_)
    (repeat refine ka ?_); refine kr ?_ ?_ (pops_end ?_)
    (repeat refine ka ?_); refine kct ?_
    (repeat refine ka ?_); refine kr ?_ ?_ (pops_end ?_)
    (repeat refine ka ?_); refine kret ?_; repeat (first | with_reducible refine beh_r ?_ | with_reducible refine blk_r ?_)
    refine ends_ret ?_ retPV_one
    rfl
  | false =>
    obtain ⟨hl, _, _⟩ := hb rfl
    have c1 := build_ok false L (by omega) ho
    have c2 := build12 L (by omega) ho
    have c3 := places_ok false L (by omega) ho
    have c4 := labels12 L (by omega) ho
    have hbl := buildF_len L
    have hoct := labelsF_oct L ho
    have honce := labelsF_once L
    have hll := labelsF_length L
    have c5 := find12 (labelsF L).1 (by omega) hoct nm hno
    obtain ⟨hm1, hm2⟩ := mfind_find hno hoct
    have hmz : ∀ (i : Nat) (p : List Int × Int), (labelsF L).1[i]? = some p → mfind (str p.1) (mapOf (labelsF L).1) = some p.2 := by
      intro i p hp
      have hpm := List.mem_of_getElem? hp
      rw [mfind_mapOf _ (hoct p hpm) hoct, honce p hpm]
      rfl
    generalize buildF L = bf at *
    obtain ⟨⟨W, R⟩, e⟩ := bf
    generalize labelsF L = lf at *
    obtain ⟨labs, le⟩ := lf
    dsimp only at *
    have c6 := code12 ⟨W, R⟩ (by simp only; omega)
    have c7 := same12_d ⟨W, R⟩ ⟨W, R⟩ ⟨by simp only; omega, by simp only; omega⟩ ⟨by simp only; omega, by simp only; omega⟩
    rw [decide_eq_true (show W = W ∧ R = R from ⟨rfl, rfl⟩)] at c7
    unfold Cd.pv Cd.row at c6 c7
    dsimp only at c6 c7
    have hq1 : (mapOf labs).length = labs.length := by simp [mapOf]
    have hq2 := labRows_length labs
    generalize findF labs nm = ff at *
    obtain ⟨to, was⟩ := ff
    dsimp only at *
    refine pcall_mk Try.func8 rfl [.tmp 4] Try.results8 124 rfl (tk_start ?_)
    (repeat refine ka ?_); refine kr ?_ ?_ (pops_end ?_)
    (repeat refine ka ?_); refine kr ?_ ?_ ?_
    refine ps_pcall awake12 ?_
    refine pops_go ?_ ?_ (pops_end ?_)
    (repeat refine ka ?_); refine kr ?_ ?_ ?_
    refine ps_pcall cO ?_
    refine ps_pcall cL ?_
    refine pops_go ?_ ?_ (pops_end ?_)
    (repeat refine ka ?_); refine kr ?_ ?_ (pops_end ?_)
    (repeat refine ka ?_); refine kcf ?_
    (repeat refine ka ?_); refine ksk ?_
    (repeat refine ka ?_); refine kr ?_ ?_ ?_
    refine ps_pcall c1 ?_
    refine pops_go ?_ ?_ ?_
    refine ps_alloc fun g0 => ?_
    refine ps_store ?_
    refine pops_go ?_ ?_ (pops_end ?_)
    (repeat refine ka ?_); refine kr ?_ ?_ ?_
    refine ps_pcall cO ?_
    refine ps_pcall c2 ?_
    refine pops_go ?_ ?_ ?_
    refine ps_alloc fun g1 => ?_
    refine ps_store ?_
    refine pops_go ?_ ?_ (pops_end ?_)
    (repeat refine ka ?_); refine kr ?_ ?_ ?_
    refine ps_pcall c3 ?_
    refine pops_go ?_ ?_ (pops_end ?_)
    (repeat refine ka ?_); refine kr ?_ ?_ ?_
    refine ps_pcall cO ?_
    refine ps_pcall c4 ?_
    refine pops_go ?_ ?_ (pops_end ?_)
    (repeat refine ka ?_); refine kd ?_ ?_ ?_
    refine pd_pcall c6 ?_
    refine pstl_go ?_ ?_ ?_
    refine pd_pcall c7 ?_
    refine pstl_go ?_ ?_ (pstl_end ?_)
    (repeat refine ka ?_); refine kr ?_ ?_ (pops_end ?_)
    (repeat refine ka ?_); refine kcf ?_
    (repeat refine ka ?_); refine ksk ?_
    (repeat refine ka ?_); refine kr ?_ ?_ (pops_end ?_)
    (repeat refine ka ?_); refine kb ?_
    refine kw (fun i : Nat => [(1, .v (.string (str nm))), (5, .v (.bool true)), (11, .rmp (mapOf labs)), (13, .ro 2 false (labRows labs)), (16, .v (.int .i64 i))]) (fun _ => []) (fun i => i ≤ labs.length) (fun i => labs.length - i) 0 (by simp) (holds 0 (by repeat (first | exact .nil | refine has1 ?_))) ?_
    intro i hi
    by_cases g : (i : Int) < labs.length
    · obtain ⟨p, hp⟩ : ∃ p, labs[i]? = some p := ⟨labs[i]'(by omega), by simp [show i < labs.length by omega]⟩
      have hrow := labRows_get hp
      have hz := hmz i p hp
      (repeat refine ka ?_); refine kr ?_ ?_ (pops_end ?_)
      (repeat refine ka ?_); refine kct ?_
      (repeat refine ka ?_); refine ksk ?_
      (repeat refine ka ?_); refine kb ?_
      (repeat refine ka ?_); refine kr ?_ ?_ (pops_end ?_)
      simp only [hz, Option.isSome_some, Option.getD_some]
      (repeat refine ka ?_); refine kr ?_ ?_ (pops_end ?_)
      (repeat refine ka ?_); refine kcf ?_
      (repeat refine ka ?_); refine ksk ?_
      refine kn ?_; repeat (first | with_reducible refine blk_n ?_ | with_reducible refine beh_n ?_)
      (repeat refine ka ?_); refine kr ?_ ?_ (pops_end ?_)
      refine kn ?_; repeat (first | with_reducible refine blk_n ?_ | with_reducible refine beh_n ?_)
      exact ⟨i + 1, by omega, by omega, (holds 0 (by repeat (first | exact .nil | refine has1 ?_)))⟩
    · (repeat refine ka ?_); refine kr ?_ ?_ (pops_end ?_)
      (repeat refine ka ?_); refine kcf ?_
      (repeat refine ka ?_); refine kx ?_; (repeat (first | with_reducible refine beh_x ?_ | with_reducible refine blk_up rfl ?_)); refine blk_here ?_; refine beh_n ?_
      (repeat refine ka ?_); refine kr ?_ ?_ (pops_end ?_)
      simp only [hm1, hm2]
      (repeat refine ka ?_); refine kr ?_ ?_ ?_
      refine ps_pcall c5 ?_
      refine pops_go ?_ ?_ (pops_end ?_)
      cases was
      · (repeat refine ka ?_); refine kr ?_ ?_ (pops_end ?_)
        (repeat refine ka ?_); refine kret ?_; repeat (first | with_reducible refine beh_r ?_ | with_reducible refine blk_r ?_)
        refine ends_ret ?_ retPV_one
        rfl
      · (repeat refine ka ?_); refine kr ?_ ?_ (pops_end ?_)
        (repeat refine ka ?_); refine kret ?_; repeat (first | with_reducible refine beh_r ?_ | with_reducible refine blk_r ?_)
        refine ends_ret ?_ retPV_one
        rfl
end Go.Proofs.Ytjbbomchmacdjaa.Pv
