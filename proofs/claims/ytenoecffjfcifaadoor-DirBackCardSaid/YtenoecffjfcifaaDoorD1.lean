-- Merged of DrA DrB DrC DrD DrE DrEp DrF DrG DrH DrI DrJ.
import Derived.Test.YtenoecffjfcifaaDoorStp
import Derived.Test.YtenoecffjfcifaaDoorSlt
import Derived.Test.YtenoecffjfcifaaDoorBt
import Derived.Test.YtenoecffjfcifaaDoorVp
import Derived.Test.YtenoecffjfcifaaDoorPtE
import Derived.Test.YtenoecffjfcifaaDoorSb
import Derived.Test.YtenoecffjfcifaaDoorCst
-- Entries and files as rows; dir.sum, size, laid, number.
namespace Go.Proofs.YtenoecffjfcifaaDoor.Pv
set_option linter.all false
set_option linter.unusedVariables false
open Go.RowKit Go.Proofs
set_option maxRecDepth 100000
set_option maxHeartbeats 4000000
abbrev En := List Int × Int
abbrev Fi := List Int × List Int
def entRow (e : En) : List PV := [.v (.string (str e.1)), .v (.int .i64 e.2)]
def entRows (E : List En) : List (List PV) := E.map entRow
def filRow (f : Fi) : List PV := [.v (.string (str f.1)), .ro 1 false (ints .u8 f.2)]
def filRows (F : List Fi) : List (List PV) := F.map filRow
theorem entRows_length (E) : (entRows E).length = E.length := by simp [entRows]
theorem filRows_length (F) : (filRows F).length = F.length := by simp [filRows]
theorem entRows_get {E : List En} {i : Nat} {e : En} (h : E[i]? = some e) : (entRows E)[((i : Nat) : Int).toNat]? = some [.v (.string (str e.1)), .v (.int .i64 e.2)] := by
  rw [Int.toNat_natCast, entRows, List.getElem?_map, h]; rfl
theorem filRows_get {F : List Fi} {i : Nat} {f : Fi} (h : F[i]? = some f) : (filRows F)[((i : Nat) : Int).toNat]? = some [.v (.string (str f.1)), .ro 1 false (ints .u8 f.2)] := by
  rw [Int.toNat_natCast, filRows, List.getElem?_map, h]; rfl
theorem ints_pure8 (l : List Int) : PV.Pure (.ro 1 false (ints .u8 l)) := .ro fun row hr x hx => by
  obtain ⟨b, _, rfl⟩ := List.mem_map.1 hr
  rw [List.mem_singleton] at hx
  subst hx
  exact .v _
theorem entRows_pure (E) : ∀ row ∈ entRows E, ∀ x ∈ row, PV.Pure x := by
  intro row hr x hx
  obtain ⟨e, _, rfl⟩ := List.mem_map.1 hr
  simp only [entRow, List.mem_cons, List.not_mem_nil, or_false] at hx
  rcases hx with rfl | rfl <;> exact .v _
theorem filRows_pure (F) : ∀ row ∈ filRows F, ∀ x ∈ row, PV.Pure x := by
  intro row hr x hx
  obtain ⟨e, _, rfl⟩ := List.mem_map.1 hr
  simp only [filRow, List.mem_cons, List.not_mem_nil, or_false] at hx
  rcases hx with rfl | rfl
  · exact .v _
  · exact ints_pure8 _
instance (sz : Nat) (f : Bool) (E) : PureC (.ro sz f (entRows E)) := ⟨.ro (entRows_pure E)⟩
instance (sz : Nat) (f : Bool) (F) : PureC (.ro sz f (filRows F)) := ⟨.ro (filRows_pure F)⟩
theorem entRows_app (a b : List En) : entRows (a ++ b) = entRows a ++ entRows b := by simp [entRows]
theorem filRows_app (a b : List Fi) : filRows (a ++ b) = filRows a ++ filRows b := by simp [filRows]
/-- What an entry that a law is handed is. -/
def EnOk (e : En) : Prop := Oct e.1 ∧ -9223372036854775808 ≤ e.2 ∧ e.2 ≤ 9223372036854775807
def FiOk (f : Fi) : Prop := Oct f.1 ∧ Oct f.2
theorem wf64d {n : Int} (h : (Lit.int .i64 n).wf = true) : -9223372036854775808 ≤ n ∧ n ≤ 9223372036854775807 := by
  simp [Lit.wf, IntKind.min, IntKind.max, IntKind.bits, IntKind.signed] at h
  omega
theorem wf8d {l : List Int} (h : ∀ x ∈ l, (Lit.int .u8 x).wf = true) : Oct l := by
  intro x hx
  have := h x hx
  simp [Lit.wf, IntKind.min, IntKind.max, IntKind.bits, IntKind.signed] at this
  omega
theorem arg_ents {xs : List PV} (h : SSl 2 24 (SFs [SStr, SInt .i64]) xs) : ∃ E : List En, xs = [.ro 2 false (entRows E)] ∧ (∀ e ∈ E, EnOk e ∧ e.1.length ≤ 140737488351232) ∧ E.length ≤ 5864062014635 := by
  obtain ⟨rows, rfl, hl, _, hr⟩ := h
  have : ∀ rows : List (List PV), (∀ row ∈ rows, SFs [SStr, SInt .i64] row) → ∃ E : List En, rows = entRows E ∧ ∀ e ∈ E, EnOk e ∧ e.1.length ≤ 140737488351232 := by
    intro rows
    induction rows with
    | nil => intro _; exact ⟨[], rfl, by simp⟩
    | cons row rows ih =>
      intro h
      obtain ⟨E, rfl, h1⟩ := ih fun r hr => h r (by simp [hr])
      obtain ⟨p1, q1, e1, ⟨s, rfl, hs⟩, p2, q2, rfl, ⟨k, rfl, hk⟩, rfl⟩ := h row (by simp)
      refine ⟨(ofB s, k) :: E, ?_, ?_⟩
      · rw [e1]
        simp only [entRows, List.map_cons, entRow, str_ofB, List.cons_append, List.nil_append, List.append_nil]
      · intro e he
        rcases List.mem_cons.1 he with rfl | he
        · refine ⟨⟨oct_ofB s, wf64d hk⟩, ?_⟩
          show (ofB s).length ≤ _
          rw [ofB, List.length_map, Array.length_toList]
          exact hs
        · exact h1 e he
  obtain ⟨E, rfl, h1⟩ := this rows hr
  rw [entRows_length] at hl
  exact ⟨E, rfl, h1, by omega⟩
theorem arg_fils {xs : List PV} (h : SSl 2 40 (SFs [SStr, SSl 1 1 (SInt .u8)]) xs) : ∃ F : List Fi, xs = [.ro 2 false (filRows F)] ∧ (∀ f ∈ F, FiOk f ∧ f.1.length ≤ 140737488351232 ∧ f.2.length ≤ 140737488351232) ∧ F.length ≤ 3518437208781 := by
  obtain ⟨rows, rfl, hl, _, hr⟩ := h
  have : ∀ rows : List (List PV), (∀ row ∈ rows, SFs [SStr, SSl 1 1 (SInt .u8)] row) → ∃ F : List Fi, rows = filRows F ∧ ∀ f ∈ F, FiOk f ∧ f.1.length ≤ 140737488351232 ∧ f.2.length ≤ 140737488351232 := by
    intro rows
    induction rows with
    | nil => intro _; exact ⟨[], rfl, by simp⟩
    | cons row rows ih =>
      intro h
      obtain ⟨F, rfl, h1⟩ := ih fun r hr => h r (by simp [hr])
      obtain ⟨p1, q1, e1, ⟨s, rfl, hs⟩, p2, q2, rfl, ⟨rb, rfl, r1, r2, r3⟩, rfl⟩ := h row (by simp)
      obtain ⟨b, eb, hb1, hb2⟩ := sl_ints (x := .ro 1 false rb) ⟨rb, rfl, r1, r2, r3⟩
      cases eb
      refine ⟨(ofB s, b) :: F, ?_, ?_⟩
      · rw [e1]
        simp only [filRows, List.map_cons, filRow, str_ofB, List.cons_append, List.nil_append, List.append_nil]
      · intro e he
        rcases List.mem_cons.1 he with rfl | he
        · refine ⟨⟨oct_ofB s, wf8d hb2⟩, ?_, ?_⟩
          · show (ofB s).length ≤ _
            rw [ofB, List.length_map, Array.length_toList]
            exact hs
          · rw [ints_length] at r1
            show b.length ≤ _
            omega
        · exact h1 e he
  obtain ⟨F, rfl, h1⟩ := this rows hr
  rw [filRows_length] at hl
  exact ⟨F, rfl, h1, by omega⟩
end Go.Proofs.YtenoecffjfcifaaDoor.Pv
-- cmp.Less, slices.IsSorted of texts; dir.size, sum, number.
namespace Go.Proofs.YtenoecffjfcifaaDoor.Pv
set_option linter.all false
set_option linter.unusedVariables false
open Go.RowKit Go.Proofs
set_option maxRecDepth 100000
set_option maxHeartbeats 4000000
theorem cmpless_ok (a b : List Int) (ha : Oct a) (hb : Oct b) (hl : a.length ≤ 1000000000) (hl2 : b.length ≤ 1000000000) : PCall Tryd.prog 44 [.v (.string (str a)), .v (.string (str b))] (.v (.bool (lessF a b))) := by
  have nan : ∀ l : List Int, Oct l → l.length ≤ 1000000000 → PCall Tryd.prog 54 [.v (.string (str l))] (.v (.bool false)) := by
    intro l ho hl
    have e : l = l := rfl
    refine pcall_mk Tryd.func54 rfl [.tmp 2] Tryd.results54 6 rfl (tk_start ?_)
    (repeat' (first | refine ka ?_ | refine ksk ?_ | (refine kr ?_ ?_ ?_; first | refine pops_end ?_ | (refine ps_split (fun hb => ?_) (fun hb => ?_); (fail_if_success (guard_hyp hb : true = true)); (fail_if_success (guard_hyp hb : false = true)); all_goals (have hp := hb; (try simp only [decide_eq_true_eq, Bool.eq_false_iff, ne_eq, Bool.not_eq_true', Bool.not_eq_false', Bool.and_eq_true, Bool.or_eq_true, decide_true, decide_false, Bool.and_true, Bool.true_and, Bool.false_eq_true, not_false_eq_true, true_and, and_true] at hp); (try rw [hb]); (try clear hb))) | refine ps_alloc fun g => ?_ | refine ps_box fun g => ?_ | refine ps_store ?_ | refine ps_lit fun g => ?_ | refine pops_nil ?_ | skip) | (refine kd ?_ ?_ ?_; first | refine pstl_end ?_ | (refine pd_split (fun hb => ?_) (fun hb => ?_); (fail_if_success (guard_hyp hb : true = true)); (fail_if_success (guard_hyp hb : false = true)); all_goals (have hp := hb; (try simp only [decide_eq_true_eq, Bool.eq_false_iff, ne_eq, Bool.not_eq_true', Bool.not_eq_false', Bool.and_eq_true, Bool.or_eq_true, decide_true, decide_false, Bool.and_true, Bool.true_and, Bool.false_eq_true, not_false_eq_true, true_and, and_true] at hp); (try rw [hb]); (try clear hb))) | skip) | refine kct ?_ | refine kcf ?_ | (refine kcs (fun hb => ?_) (fun hb => ?_) <;> (have hp := hb; (try simp only [decide_eq_true_eq, Bool.eq_false_iff, ne_eq, Bool.not_eq_true', Bool.not_eq_false', Bool.and_eq_true, Bool.or_eq_true, decide_true, decide_false, Bool.and_true, Bool.true_and, Bool.false_eq_true, not_false_eq_true, true_and, and_true] at hp); (try rw [hb]); (try clear hb))) | (refine kret ?_; repeat (first | with_reducible refine beh_r ?_ | with_reducible refine blk_r ?_)) | refine kb ?_ | (refine ps_split (fun hb => ?_) (fun hb => ?_); (fail_if_success (guard_hyp hb : true = true)); (fail_if_success (guard_hyp hb : false = true)); all_goals (have hp := hb; (try simp only [decide_eq_true_eq, Bool.eq_false_iff, ne_eq, Bool.not_eq_true', Bool.not_eq_false', Bool.and_eq_true, Bool.or_eq_true, decide_true, decide_false, Bool.and_true, Bool.true_and, Bool.false_eq_true, not_false_eq_true, true_and, and_true] at hp); (try rw [hb]); (try clear hb))) | refine ps_alloc fun g => ?_ | refine ps_box fun g => ?_ | refine ps_store ?_ | refine ps_lit fun g => ?_ | refine pops_nil ?_ | (refine pd_split (fun hb => ?_) (fun hb => ?_); (fail_if_success (guard_hyp hb : true = true)); (fail_if_success (guard_hyp hb : false = true)); all_goals (have hp := hb; (try simp only [decide_eq_true_eq, Bool.eq_false_iff, ne_eq, Bool.not_eq_true', Bool.not_eq_false', Bool.and_eq_true, Bool.or_eq_true, decide_true, decide_false, Bool.and_true, Bool.true_and, Bool.false_eq_true, not_false_eq_true, true_and, and_true] at hp); (try rw [hb]); (try clear hb))) | (refine pops_go ?_ ?_ ?_; first | refine pops_end ?_ | (refine ps_split (fun hb => ?_) (fun hb => ?_); (fail_if_success (guard_hyp hb : true = true)); (fail_if_success (guard_hyp hb : false = true)); all_goals (have hp := hb; (try simp only [decide_eq_true_eq, Bool.eq_false_iff, ne_eq, Bool.not_eq_true', Bool.not_eq_false', Bool.and_eq_true, Bool.or_eq_true, decide_true, decide_false, Bool.and_true, Bool.true_and, Bool.false_eq_true, not_false_eq_true, true_and, and_true] at hp); (try rw [hb]); (try clear hb))) | refine ps_alloc fun g => ?_ | refine ps_box fun g => ?_ | refine ps_store ?_ | refine ps_lit fun g => ?_ | refine pops_nil ?_) | (refine pstl_go ?_ ?_ ?_; first | refine pstl_end ?_ | (refine pd_split (fun hb => ?_) (fun hb => ?_); (fail_if_success (guard_hyp hb : true = true)); (fail_if_success (guard_hyp hb : false = true)); all_goals (have hp := hb; (try simp only [decide_eq_true_eq, Bool.eq_false_iff, ne_eq, Bool.not_eq_true', Bool.not_eq_false', Bool.and_eq_true, Bool.or_eq_true, decide_true, decide_false, Bool.and_true, Bool.true_and, Bool.false_eq_true, not_false_eq_true, true_and, and_true] at hp); (try rw [hb]); (try clear hb)))) | (refine kn ?_; repeat (first | with_reducible refine blk_n ?_ | with_reducible refine beh_n ?_)) | (refine kx ?_; (repeat (first | with_reducible refine beh_x ?_ | with_reducible refine blk_up rfl ?_)); refine blk_here ?_; refine beh_n ?_)))
    all_goals (refine ends_ret ?_ retPV_one; rfl)
  have c1 := nan a ha hl
  refine pcall_mk Tryd.func44 rfl [.tmp 4] Tryd.results44 17 rfl (tk_start ?_)
  (repeat refine ka ?_); refine kr ?_ ?_ (pops_end ?_)
  (repeat refine ka ?_); refine kr ?_ ?_ ?_
  refine ps_pcall c1 ?_
  refine pops_go ?_ ?_ ?_
  refine ps_ug ?_
  refine ps_scmp ha hb rfl ?_
  refine pops_go ?_ ?_ (pops_end ?_)
  (repeat refine ka ?_); refine kret ?_; repeat (first | with_reducible refine beh_r ?_ | with_reducible refine blk_r ?_)
  refine ends_ret ?_ retPV_one
  rfl
/-- Next to next in order: in order. -/
theorem sorted_step {L : List (List Int)} (h : ∀ i x y, L[i]? = some x → L[i + 1]? = some y → leF x y) : L.Pairwise leF := by
  rw [List.pairwise_iff_getElem]
  have : ∀ d i x y, L[i]? = some x → L[i + 1 + d]? = some y → leF x y := by
    intro d
    induction d with
    | zero => intro i x y hx hy; exact h i x y hx hy
    | succ d ih =>
      intro i x y hx hy
      have hlt := (List.getElem?_eq_some_iff.1 hy).1
      obtain ⟨z, hz⟩ : ∃ z, L[i + 1 + d]? = some z := ⟨L[i + 1 + d]'(by omega), by simp [show i + 1 + d < L.length by omega]⟩
      exact leF_trans (ih i x z hx hz) (h (i + 1 + d) z y hz (by rw [← hy]; congr 1))
  intro i j hi hj hij
  exact this (j - i - 1) i _ _ (List.getElem?_eq_getElem hi) (by rw [show i + 1 + (j - i - 1) = j by omega]; exact List.getElem?_eq_getElem hj)
theorem sorted_iff (L : List (List Int)) : L.Pairwise leF ↔ rsortF L = L :=
  ⟨fun h => sorted_unique (le := leF) (fun a b => leF_antisymm) (rsortF_sorted L) h (rsort_perm L), fun h => by rw [← h]; exact rsortF_sorted L⟩
theorem issorted_ok (L : List (List Int)) (ho : ∀ x ∈ L, Oct x) (hl : L.length ≤ 1000000) (hs : ∀ x ∈ L, x.length ≤ 1000000000) : PCall Tryd.prog 27 [.ro 1 false (strRows L)] (.v (.bool (decide (rsortF L = L)))) := by
  have la := strRows_length L
  refine pcall_mk Tryd.func27 rfl [.tmp 2] Tryd.results27 21 rfl (tk_start ?_)
  (repeat refine ka ?_); refine kr ?_ ?_ (pops_end ?_)
  (repeat refine ka ?_); refine kr ?_ ?_ (pops_end ?_)
  (repeat refine ka ?_); refine kb ?_
  refine kw (fun k : Nat => [(0, .ro 1 false (strRows L)), (3, .v (.int .i64 ((L.length : Int) - 1 - k)))]) (fun _ => []) (fun k => (k ≤ L.length) ∧ ∀ i x y, L.length < i + 2 + k → L[i]? = some x → L[i + 1]? = some y → leF x y) (fun k => L.length - k) 0 ⟨Nat.zero_le _, fun i x y hi hx hy => by have := (List.getElem?_eq_some_iff.1 hy).1; omega⟩ ?_ ?_
  · have e : (L.length : Int) - 1 - ((0 : Nat) : Int) = ((strRows L).length : Int) - 1 := by omega
    rw [e]
    exact (holds 0 (by repeat (first | exact .nil | refine has1 ?_)))
  rintro k ⟨hk, hj⟩
  by_cases h : (L.length : Int) - 1 - k > 0
  · obtain ⟨y, hy⟩ : ∃ y, L[L.length - 1 - k]? = some y := ⟨L[L.length - 1 - k]'(by omega), by simp [show L.length - 1 - k < L.length by omega]⟩
    obtain ⟨x, hx⟩ : ∃ x, L[L.length - 1 - k - 1]? = some x := ⟨L[L.length - 1 - k - 1]'(by omega), by simp [show L.length - 1 - k - 1 < L.length by omega]⟩
    have r1 := strRows_get hy
    have r2 := strRows_get hx
    have e1 : (((L.length - 1 - k : Nat) : Int)) = (L.length : Int) - 1 - k := by omega
    have e2 : (((L.length - 1 - k - 1 : Nat) : Int)) = (L.length : Int) - 1 - k - 1 := by omega
    rw [e1] at r1
    rw [e2] at r2
    have oy := ho y (List.mem_of_getElem? hy)
    have ox := ho x (List.mem_of_getElem? hx)
    have c := cmpless_ok y x oy ox (hs y (List.mem_of_getElem? hy)) (hs x (List.mem_of_getElem? hx))
    have hadj : L[L.length - 1 - k - 1 + 1]? = some y := by rw [show L.length - 1 - k - 1 + 1 = L.length - 1 - k by omega]; exact hy
    by_cases q : lessF y x = true
    · rw [q] at c
      have hne : ¬ rsortF L = L := fun hr => by
        have hp := (sorted_iff L).2 hr
        rw [List.pairwise_iff_getElem] at hp
        have := hp (L.length - 1 - k - 1) (L.length - 1 - k - 1 + 1) (by omega) (by omega) (by omega)
        rw [(List.getElem?_eq_some_iff.1 hx).2, (List.getElem?_eq_some_iff.1 hadj).2] at this
        unfold leF at this
        rw [q] at this
        cases this
      rw [decide_eq_false hne]
      (repeat refine ka ?_); refine kr ?_ ?_ (pops_end ?_)
      (repeat refine ka ?_); refine kct ?_
      (repeat refine ka ?_); refine ksk ?_
      (repeat refine ka ?_); refine kb ?_
      (repeat refine ka ?_); refine kd ?_ ?_ ?_
      refine pd_pcall c ?_
      refine pstl_go ?_ ?_ (pstl_end ?_)
      (repeat refine ka ?_); refine kct ?_
      (repeat refine ka ?_); refine kr ?_ ?_ (pops_end ?_)
      (repeat refine ka ?_); refine kret ?_; repeat (first | with_reducible refine beh_r ?_ | with_reducible refine blk_r ?_)
      refine ends_ret ?_ retPV_one
      rfl
    · have q : lessF y x = false := by simpa using q
      rw [q] at c
      (repeat refine ka ?_); refine kr ?_ ?_ (pops_end ?_)
      (repeat refine ka ?_); refine kct ?_
      (repeat refine ka ?_); refine ksk ?_
      (repeat refine ka ?_); refine kb ?_
      (repeat refine ka ?_); refine kd ?_ ?_ ?_
      refine pd_pcall c ?_
      refine pstl_go ?_ ?_ (pstl_end ?_)
      (repeat refine ka ?_); refine kcf ?_
      (repeat refine ka ?_); refine ksk ?_
      refine kn ?_; repeat (first | with_reducible refine blk_n ?_ | with_reducible refine beh_n ?_)
      (repeat refine ka ?_); refine kr ?_ ?_ (pops_end ?_)
      refine kn ?_; repeat (first | with_reducible refine blk_n ?_ | with_reducible refine beh_n ?_)
      refine ⟨k + 1, ⟨by omega, fun i a b hi ha hb => ?_⟩, by omega, ?_⟩
      · by_cases ei : i = L.length - 1 - k - 1
        · subst ei
          rw [hx] at ha
          rw [hadj] at hb
          cases ha
          cases hb
          exact q
        · exact hj i a b (by have := (List.getElem?_eq_some_iff.1 hb).1; omega) ha hb
      · rw [show (L.length : Int) - 1 - ((k + 1 : Nat) : Int) = (L.length : Int) - 1 - k - 1 by omega]
        exact (holds 0 (by repeat (first | exact .nil | refine has1 ?_)))
  · have hall : rsortF L = L := (sorted_iff L).1 (sorted_step fun i x y hx hy => hj i x y (by have := (List.getElem?_eq_some_iff.1 hy).1; omega) hx hy)
    rw [decide_eq_true hall]
    (repeat refine ka ?_); refine kr ?_ ?_ (pops_end ?_)
    (repeat refine ka ?_); refine kcf ?_
    (repeat refine ka ?_); refine kx ?_; (repeat (first | with_reducible refine beh_x ?_ | with_reducible refine blk_up rfl ?_)); refine blk_here ?_; refine beh_n ?_
    (repeat refine ka ?_); refine kr ?_ ?_ (pops_end ?_)
    (repeat refine ka ?_); refine kret ?_; repeat (first | with_reducible refine beh_r ?_ | with_reducible refine blk_r ?_)
    refine ends_ret ?_ retPV_one
    rfl
theorem dsize_ok (e : En) : PCall Tryd.prog 31 [.agg (entRow e)] (.v (.int .i64 e.2)) := by
  unfold entRow
  refine pcall_mk Tryd.func31 rfl [.tmp 2] Tryd.results31 5 rfl (tk_start ?_)
  (repeat' (first | refine ka ?_ | refine ksk ?_ | (refine kr ?_ ?_ ?_; first | refine pops_end ?_ | (refine ps_split (fun hb => ?_) (fun hb => ?_); (fail_if_success (guard_hyp hb : true = true)); (fail_if_success (guard_hyp hb : false = true)); all_goals (have hp := hb; (try simp only [decide_eq_true_eq, Bool.eq_false_iff, ne_eq, Bool.not_eq_true', Bool.not_eq_false', Bool.and_eq_true, Bool.or_eq_true, decide_true, decide_false, Bool.and_true, Bool.true_and, Bool.false_eq_true, not_false_eq_true, true_and, and_true] at hp); (try rw [hb]); (try clear hb))) | refine ps_alloc fun g => ?_ | refine ps_box fun g => ?_ | refine ps_store ?_ | refine ps_lit fun g => ?_ | refine pops_nil ?_ | skip) | (refine kd ?_ ?_ ?_; first | refine pstl_end ?_ | (refine pd_split (fun hb => ?_) (fun hb => ?_); (fail_if_success (guard_hyp hb : true = true)); (fail_if_success (guard_hyp hb : false = true)); all_goals (have hp := hb; (try simp only [decide_eq_true_eq, Bool.eq_false_iff, ne_eq, Bool.not_eq_true', Bool.not_eq_false', Bool.and_eq_true, Bool.or_eq_true, decide_true, decide_false, Bool.and_true, Bool.true_and, Bool.false_eq_true, not_false_eq_true, true_and, and_true] at hp); (try rw [hb]); (try clear hb))) | skip) | refine kct ?_ | refine kcf ?_ | (refine kcs (fun hb => ?_) (fun hb => ?_) <;> (have hp := hb; (try simp only [decide_eq_true_eq, Bool.eq_false_iff, ne_eq, Bool.not_eq_true', Bool.not_eq_false', Bool.and_eq_true, Bool.or_eq_true, decide_true, decide_false, Bool.and_true, Bool.true_and, Bool.false_eq_true, not_false_eq_true, true_and, and_true] at hp); (try rw [hb]); (try clear hb))) | (refine kret ?_; repeat (first | with_reducible refine beh_r ?_ | with_reducible refine blk_r ?_)) | refine kb ?_ | (refine ps_split (fun hb => ?_) (fun hb => ?_); (fail_if_success (guard_hyp hb : true = true)); (fail_if_success (guard_hyp hb : false = true)); all_goals (have hp := hb; (try simp only [decide_eq_true_eq, Bool.eq_false_iff, ne_eq, Bool.not_eq_true', Bool.not_eq_false', Bool.and_eq_true, Bool.or_eq_true, decide_true, decide_false, Bool.and_true, Bool.true_and, Bool.false_eq_true, not_false_eq_true, true_and, and_true] at hp); (try rw [hb]); (try clear hb))) | refine ps_alloc fun g => ?_ | refine ps_box fun g => ?_ | refine ps_store ?_ | refine ps_lit fun g => ?_ | refine pops_nil ?_ | (refine pd_split (fun hb => ?_) (fun hb => ?_); (fail_if_success (guard_hyp hb : true = true)); (fail_if_success (guard_hyp hb : false = true)); all_goals (have hp := hb; (try simp only [decide_eq_true_eq, Bool.eq_false_iff, ne_eq, Bool.not_eq_true', Bool.not_eq_false', Bool.and_eq_true, Bool.or_eq_true, decide_true, decide_false, Bool.and_true, Bool.true_and, Bool.false_eq_true, not_false_eq_true, true_and, and_true] at hp); (try rw [hb]); (try clear hb))) | (refine pops_go ?_ ?_ ?_; first | refine pops_end ?_ | (refine ps_split (fun hb => ?_) (fun hb => ?_); (fail_if_success (guard_hyp hb : true = true)); (fail_if_success (guard_hyp hb : false = true)); all_goals (have hp := hb; (try simp only [decide_eq_true_eq, Bool.eq_false_iff, ne_eq, Bool.not_eq_true', Bool.not_eq_false', Bool.and_eq_true, Bool.or_eq_true, decide_true, decide_false, Bool.and_true, Bool.true_and, Bool.false_eq_true, not_false_eq_true, true_and, and_true] at hp); (try rw [hb]); (try clear hb))) | refine ps_alloc fun g => ?_ | refine ps_box fun g => ?_ | refine ps_store ?_ | refine ps_lit fun g => ?_ | refine pops_nil ?_) | (refine pstl_go ?_ ?_ ?_; first | refine pstl_end ?_ | (refine pd_split (fun hb => ?_) (fun hb => ?_); (fail_if_success (guard_hyp hb : true = true)); (fail_if_success (guard_hyp hb : false = true)); all_goals (have hp := hb; (try simp only [decide_eq_true_eq, Bool.eq_false_iff, ne_eq, Bool.not_eq_true', Bool.not_eq_false', Bool.and_eq_true, Bool.or_eq_true, decide_true, decide_false, Bool.and_true, Bool.true_and, Bool.false_eq_true, not_false_eq_true, true_and, and_true] at hp); (try rw [hb]); (try clear hb)))) | (refine kn ?_; repeat (first | with_reducible refine blk_n ?_ | with_reducible refine beh_n ?_)) | (refine kx ?_; (repeat (first | with_reducible refine beh_x ?_ | with_reducible refine blk_up rfl ?_)); refine blk_here ?_; refine beh_n ?_)))
  all_goals (refine ends_ret ?_ retPV_one; rfl)
theorem dneg_ok (e : En) : PCall Tryd.prog 29 [.agg (entRow e)] (.v (.bool (decide (e.2 < 0)))) := by
  unfold entRow
  by_cases h : e.2 < 0
  · rw [decide_eq_true h]
    refine pcall_mk Tryd.func29 rfl [.tmp 2] Tryd.results29 6 rfl (tk_start ?_)
    (repeat' (first | refine ka ?_ | refine ksk ?_ | (refine kr ?_ ?_ ?_; first | refine pops_end ?_ | (refine ps_split (fun hb => ?_) (fun hb => ?_); (fail_if_success (guard_hyp hb : true = true)); (fail_if_success (guard_hyp hb : false = true)); all_goals (have hp := hb; (try simp only [decide_eq_true_eq, Bool.eq_false_iff, ne_eq, Bool.not_eq_true', Bool.not_eq_false', Bool.and_eq_true, Bool.or_eq_true, decide_true, decide_false, Bool.and_true, Bool.true_and, Bool.false_eq_true, not_false_eq_true, true_and, and_true] at hp); (try rw [hb]); (try clear hb))) | refine ps_alloc fun g => ?_ | refine ps_box fun g => ?_ | refine ps_store ?_ | refine ps_lit fun g => ?_ | refine pops_nil ?_ | skip) | (refine kd ?_ ?_ ?_; first | refine pstl_end ?_ | (refine pd_split (fun hb => ?_) (fun hb => ?_); (fail_if_success (guard_hyp hb : true = true)); (fail_if_success (guard_hyp hb : false = true)); all_goals (have hp := hb; (try simp only [decide_eq_true_eq, Bool.eq_false_iff, ne_eq, Bool.not_eq_true', Bool.not_eq_false', Bool.and_eq_true, Bool.or_eq_true, decide_true, decide_false, Bool.and_true, Bool.true_and, Bool.false_eq_true, not_false_eq_true, true_and, and_true] at hp); (try rw [hb]); (try clear hb))) | skip) | refine kct ?_ | refine kcf ?_ | (refine kcs (fun hb => ?_) (fun hb => ?_) <;> (have hp := hb; (try simp only [decide_eq_true_eq, Bool.eq_false_iff, ne_eq, Bool.not_eq_true', Bool.not_eq_false', Bool.and_eq_true, Bool.or_eq_true, decide_true, decide_false, Bool.and_true, Bool.true_and, Bool.false_eq_true, not_false_eq_true, true_and, and_true] at hp); (try rw [hb]); (try clear hb))) | (refine kret ?_; repeat (first | with_reducible refine beh_r ?_ | with_reducible refine blk_r ?_)) | refine kb ?_ | (refine ps_split (fun hb => ?_) (fun hb => ?_); (fail_if_success (guard_hyp hb : true = true)); (fail_if_success (guard_hyp hb : false = true)); all_goals (have hp := hb; (try simp only [decide_eq_true_eq, Bool.eq_false_iff, ne_eq, Bool.not_eq_true', Bool.not_eq_false', Bool.and_eq_true, Bool.or_eq_true, decide_true, decide_false, Bool.and_true, Bool.true_and, Bool.false_eq_true, not_false_eq_true, true_and, and_true] at hp); (try rw [hb]); (try clear hb))) | refine ps_alloc fun g => ?_ | refine ps_box fun g => ?_ | refine ps_store ?_ | refine ps_lit fun g => ?_ | refine pops_nil ?_ | (refine pd_split (fun hb => ?_) (fun hb => ?_); (fail_if_success (guard_hyp hb : true = true)); (fail_if_success (guard_hyp hb : false = true)); all_goals (have hp := hb; (try simp only [decide_eq_true_eq, Bool.eq_false_iff, ne_eq, Bool.not_eq_true', Bool.not_eq_false', Bool.and_eq_true, Bool.or_eq_true, decide_true, decide_false, Bool.and_true, Bool.true_and, Bool.false_eq_true, not_false_eq_true, true_and, and_true] at hp); (try rw [hb]); (try clear hb))) | (refine pops_go ?_ ?_ ?_; first | refine pops_end ?_ | (refine ps_split (fun hb => ?_) (fun hb => ?_); (fail_if_success (guard_hyp hb : true = true)); (fail_if_success (guard_hyp hb : false = true)); all_goals (have hp := hb; (try simp only [decide_eq_true_eq, Bool.eq_false_iff, ne_eq, Bool.not_eq_true', Bool.not_eq_false', Bool.and_eq_true, Bool.or_eq_true, decide_true, decide_false, Bool.and_true, Bool.true_and, Bool.false_eq_true, not_false_eq_true, true_and, and_true] at hp); (try rw [hb]); (try clear hb))) | refine ps_alloc fun g => ?_ | refine ps_box fun g => ?_ | refine ps_store ?_ | refine ps_lit fun g => ?_ | refine pops_nil ?_) | (refine pstl_go ?_ ?_ ?_; first | refine pstl_end ?_ | (refine pd_split (fun hb => ?_) (fun hb => ?_); (fail_if_success (guard_hyp hb : true = true)); (fail_if_success (guard_hyp hb : false = true)); all_goals (have hp := hb; (try simp only [decide_eq_true_eq, Bool.eq_false_iff, ne_eq, Bool.not_eq_true', Bool.not_eq_false', Bool.and_eq_true, Bool.or_eq_true, decide_true, decide_false, Bool.and_true, Bool.true_and, Bool.false_eq_true, not_false_eq_true, true_and, and_true] at hp); (try rw [hb]); (try clear hb)))) | (refine kn ?_; repeat (first | with_reducible refine blk_n ?_ | with_reducible refine beh_n ?_)) | (refine kx ?_; (repeat (first | with_reducible refine beh_x ?_ | with_reducible refine blk_up rfl ?_)); refine blk_here ?_; refine beh_n ?_)))
    all_goals (refine ends_ret ?_ retPV_one; rfl)
  · rw [decide_eq_false h]
    refine pcall_mk Tryd.func29 rfl [.tmp 2] Tryd.results29 6 rfl (tk_start ?_)
    (repeat' (first | refine ka ?_ | refine ksk ?_ | (refine kr ?_ ?_ ?_; first | refine pops_end ?_ | (refine ps_split (fun hb => ?_) (fun hb => ?_); (fail_if_success (guard_hyp hb : true = true)); (fail_if_success (guard_hyp hb : false = true)); all_goals (have hp := hb; (try simp only [decide_eq_true_eq, Bool.eq_false_iff, ne_eq, Bool.not_eq_true', Bool.not_eq_false', Bool.and_eq_true, Bool.or_eq_true, decide_true, decide_false, Bool.and_true, Bool.true_and, Bool.false_eq_true, not_false_eq_true, true_and, and_true] at hp); (try rw [hb]); (try clear hb))) | refine ps_alloc fun g => ?_ | refine ps_box fun g => ?_ | refine ps_store ?_ | refine ps_lit fun g => ?_ | refine pops_nil ?_ | skip) | (refine kd ?_ ?_ ?_; first | refine pstl_end ?_ | (refine pd_split (fun hb => ?_) (fun hb => ?_); (fail_if_success (guard_hyp hb : true = true)); (fail_if_success (guard_hyp hb : false = true)); all_goals (have hp := hb; (try simp only [decide_eq_true_eq, Bool.eq_false_iff, ne_eq, Bool.not_eq_true', Bool.not_eq_false', Bool.and_eq_true, Bool.or_eq_true, decide_true, decide_false, Bool.and_true, Bool.true_and, Bool.false_eq_true, not_false_eq_true, true_and, and_true] at hp); (try rw [hb]); (try clear hb))) | skip) | refine kct ?_ | refine kcf ?_ | (refine kcs (fun hb => ?_) (fun hb => ?_) <;> (have hp := hb; (try simp only [decide_eq_true_eq, Bool.eq_false_iff, ne_eq, Bool.not_eq_true', Bool.not_eq_false', Bool.and_eq_true, Bool.or_eq_true, decide_true, decide_false, Bool.and_true, Bool.true_and, Bool.false_eq_true, not_false_eq_true, true_and, and_true] at hp); (try rw [hb]); (try clear hb))) | (refine kret ?_; repeat (first | with_reducible refine beh_r ?_ | with_reducible refine blk_r ?_)) | refine kb ?_ | (refine ps_split (fun hb => ?_) (fun hb => ?_); (fail_if_success (guard_hyp hb : true = true)); (fail_if_success (guard_hyp hb : false = true)); all_goals (have hp := hb; (try simp only [decide_eq_true_eq, Bool.eq_false_iff, ne_eq, Bool.not_eq_true', Bool.not_eq_false', Bool.and_eq_true, Bool.or_eq_true, decide_true, decide_false, Bool.and_true, Bool.true_and, Bool.false_eq_true, not_false_eq_true, true_and, and_true] at hp); (try rw [hb]); (try clear hb))) | refine ps_alloc fun g => ?_ | refine ps_box fun g => ?_ | refine ps_store ?_ | refine ps_lit fun g => ?_ | refine pops_nil ?_ | (refine pd_split (fun hb => ?_) (fun hb => ?_); (fail_if_success (guard_hyp hb : true = true)); (fail_if_success (guard_hyp hb : false = true)); all_goals (have hp := hb; (try simp only [decide_eq_true_eq, Bool.eq_false_iff, ne_eq, Bool.not_eq_true', Bool.not_eq_false', Bool.and_eq_true, Bool.or_eq_true, decide_true, decide_false, Bool.and_true, Bool.true_and, Bool.false_eq_true, not_false_eq_true, true_and, and_true] at hp); (try rw [hb]); (try clear hb))) | (refine pops_go ?_ ?_ ?_; first | refine pops_end ?_ | (refine ps_split (fun hb => ?_) (fun hb => ?_); (fail_if_success (guard_hyp hb : true = true)); (fail_if_success (guard_hyp hb : false = true)); all_goals (have hp := hb; (try simp only [decide_eq_true_eq, Bool.eq_false_iff, ne_eq, Bool.not_eq_true', Bool.not_eq_false', Bool.and_eq_true, Bool.or_eq_true, decide_true, decide_false, Bool.and_true, Bool.true_and, Bool.false_eq_true, not_false_eq_true, true_and, and_true] at hp); (try rw [hb]); (try clear hb))) | refine ps_alloc fun g => ?_ | refine ps_box fun g => ?_ | refine ps_store ?_ | refine ps_lit fun g => ?_ | refine pops_nil ?_) | (refine pstl_go ?_ ?_ ?_; first | refine pstl_end ?_ | (refine pd_split (fun hb => ?_) (fun hb => ?_); (fail_if_success (guard_hyp hb : true = true)); (fail_if_success (guard_hyp hb : false = true)); all_goals (have hp := hb; (try simp only [decide_eq_true_eq, Bool.eq_false_iff, ne_eq, Bool.not_eq_true', Bool.not_eq_false', Bool.and_eq_true, Bool.or_eq_true, decide_true, decide_false, Bool.and_true, Bool.true_and, Bool.false_eq_true, not_false_eq_true, true_and, and_true] at hp); (try rw [hb]); (try clear hb)))) | (refine kn ?_; repeat (first | with_reducible refine blk_n ?_ | with_reducible refine beh_n ?_)) | (refine kx ?_; (repeat (first | with_reducible refine beh_x ?_ | with_reducible refine blk_up rfl ?_)); refine blk_here ?_; refine beh_n ?_)))
    all_goals (refine ends_ret ?_ retPV_one; rfl)
/-- The sum of sizes, or one more than may be. -/
def sumE (l : List Int) : Int := l.foldl (fun n e => min (n + min e 65537) 65537) 0
theorem sumE_go (l : List Int) (h : ∀ x ∈ l, 0 ≤ x) : ∀ n : Int, 0 ≤ n → n ≤ 65537 → l.foldl (fun n e => min (n + min e 65537) 65537) n = min (n + l.sum) 65537 := by
  induction l with
  | nil => intro n h0 h1; simp; omega
  | cons x l ih =>
    intro n h0 h1
    have hx := h x (by simp)
    have hs : 0 ≤ l.sum := by
      clear ih h1 h0 hx
      induction l with
      | nil => simp
      | cons y l ih2 =>
        have := h y (by simp)
        have := ih2 fun z hz => h z (by rcases List.mem_cons.1 hz with rfl | hz; simp; simp [hz])
        rw [List.sum_cons]
        omega
    rw [List.foldl_cons, ih (fun z hz => h z (by simp [hz])) _ (by omega) (by omega), List.sum_cons]
    omega
theorem sumE_eq (l : List Int) (h : ∀ x ∈ l, 0 ≤ x) : sumE l = min l.sum 65537 := by
  unfold sumE
  rw [sumE_go l h 0 (by omega) (by omega)]
  omega
theorem sumE_take (l : List Int) (h : ∀ x ∈ l, 0 ≤ x) (i : Nat) : 0 ≤ sumE (l.take i) ∧ sumE (l.take i) ≤ 65537 := by
  have h' : ∀ x ∈ l.take i, 0 ≤ x := fun x hx => h x (List.mem_of_mem_take hx)
  rw [sumE_eq _ h']
  have : ∀ l : List Int, (∀ x ∈ l, 0 ≤ x) → 0 ≤ l.sum := by
    intro l
    induction l with
    | nil => intro _; simp
    | cons y l ih => intro h; have := h y (by simp); have := ih fun z hz => h z (by simp [hz]); rw [List.sum_cons]; omega
  have := this _ h'
  omega
theorem sumE_succ (l : List Int) {i : Nat} {x : Int} (h : l[i]? = some x) : sumE (l.take (i + 1)) = min (sumE (l.take i) + min x 65537) 65537 := by
  obtain ⟨h1, h2⟩ := List.getElem?_eq_some_iff.1 h
  rw [List.take_succ_eq_append_getElem h1, h2]
  unfold sumE
  rw [List.foldl_append]
  rfl
theorem dsumE_ok (E : List En) (hE : ∀ e ∈ E, 0 ≤ e.2 ∧ e.2 ≤ 9223372036854775807) (hl : E.length ≤ 1000000) : PCall Tryd.prog 30 [.ro 2 false (entRows E), .fn (.func 31) [] []] (.v (.int .i64 (sumE (E.map (·.2))))) := by
  have la := entRows_length E
  have hz : ∀ x ∈ E.map (·.2), 0 ≤ x := by intro x hx; obtain ⟨e, he, rfl⟩ := List.mem_map.1 hx; exact (hE e he).1
  refine pcall_mk Tryd.func30 rfl [.tmp 4] Tryd.results30 24 rfl (tk_start ?_)
  (repeat refine ka ?_); refine kr ?_ ?_ (pops_end ?_)
  (repeat refine ka ?_); refine kr ?_ ?_ (pops_end ?_)
  (repeat refine ka ?_); refine kr ?_ ?_ (pops_end ?_)
  (repeat refine ka ?_); refine kb ?_
  refine kw (fun i : Nat => [(1, .fn (.func 31) [] []), (5, .v (.int .i64 (sumE ((E.map (·.2)).take i)))), (8, .ro 2 false (entRows E)), (9, .v (.int .i64 (entRows E).length)), (10, .v (.int .i64 i))]) (fun _ => []) (fun i => i ≤ E.length) (fun i => E.length - i) 0 (Nat.zero_le _) (holds 0 (by repeat (first | exact .nil | refine has1 ?_))) ?_
  intro i hi
  by_cases h : i < E.length
  · obtain ⟨e, he⟩ : ∃ e, E[i]? = some e := ⟨E[i], by simp [h]⟩
    have r1 := entRows_get he
    have hm := hE e (List.mem_of_getElem? he)
    have hs := sumE_take _ hz i
    have hsu := sumE_succ (E.map (·.2)) (i := i) (x := e.2) (by rw [List.getElem?_map, he]; rfl)
    have c := dsize_ok e
    unfold entRow at c
    generalize sumE ((E.map (·.2)).take i) = n at hs hsu
    (repeat refine ka ?_); refine kr ?_ ?_ (pops_end ?_)
    (repeat refine ka ?_); refine kct ?_
    (repeat refine ka ?_); refine ksk ?_
    (repeat refine ka ?_); refine kb ?_
    (repeat refine ka ?_); refine kr ?_ ?_ ?_
    refine ps_alloc fun g1 => ?_
    refine ps_store ?_
    refine pops_nil ?_
    (repeat refine ka ?_); refine kr ?_ ?_ ?_
    refine ps_vpcall c ?_
    refine pops_go ?_ ?_ (pops_end ?_)
    (repeat refine ka ?_); refine kr ?_ ?_ (pops_end ?_)
    refine kn ?_; repeat (first | with_reducible refine blk_n ?_ | with_reducible refine beh_n ?_)
    (repeat refine ka ?_); refine kr ?_ ?_ (pops_end ?_)
    refine kn ?_; repeat (first | with_reducible refine blk_n ?_ | with_reducible refine beh_n ?_)
    refine ⟨i + 1, by omega, by omega, ?_⟩
    rw [hsu]
    have em : min (n + min e.2 65537) 65537 = if (65537 : Int) < n + (if (65537 : Int) < e.2 then 65537 else e.2) then 65537 else n + (if (65537 : Int) < e.2 then 65537 else e.2) := by
      (repeat' split) <;> omega
    rw [em]
    exact (holds 0 (by repeat (first | exact .nil | refine has1 ?_)))
  · obtain rfl : i = E.length := by omega
    rw [List.take_of_length_le (by simp)]
    (repeat refine ka ?_); refine kr ?_ ?_ (pops_end ?_)
    (repeat refine ka ?_); refine kcf ?_
    (repeat refine ka ?_); refine kx ?_; (repeat (first | with_reducible refine beh_x ?_ | with_reducible refine blk_up rfl ?_)); refine blk_here ?_; refine beh_n ?_
    (repeat refine ka ?_); refine kr ?_ ?_ (pops_end ?_)
    (repeat refine ka ?_); refine kret ?_; repeat (first | with_reducible refine beh_r ?_ | with_reducible refine blk_r ?_)
    refine ends_ret ?_ retPV_one
    rfl
end Go.Proofs.YtenoecffjfcifaaDoor.Pv
-- dir.number, laid.
namespace Go.Proofs.YtenoecffjfcifaaDoor.Pv
set_option linter.all false
set_option linter.unusedVariables false
open Go.RowKit Go.Proofs
set_option maxRecDepth 100000
set_option maxHeartbeats 4000000
/-- The number of bytes, the lowest one first. -/
def numLE : List Int → Int
  | [] => 0
  | x :: l => x + 256 * numLE l
theorem numLE_app (l : List Int) (x : Int) : numLE (l ++ [x]) = numLE l + 256 ^ l.length * x := by
  induction l with
  | nil => simp [numLE]
  | cons y l ih =>
    rw [List.cons_append, numLE, ih, numLE, List.length_cons, Int.pow_succ, Int.mul_add, ← Int.mul_assoc, Int.mul_comm 256 (256 ^ l.length)]
    omega
theorem numLE_bound : ∀ {l : List Int}, Oct l → 0 ≤ numLE l ∧ numLE l < 256 ^ l.length
  | [], _ => by simp [numLE]
  | x :: l, h => by
    have hx := h x (by simp)
    have ih := numLE_bound (l := l) fun y hy => h y (by simp [hy])
    rw [numLE, List.length_cons, Int.pow_succ]
    omega
theorem or_lo_d (k : Nat) (y X : Int) (hX : 0 ≤ X) (hk : X * 2 ^ k < 4611686018427387904) (h0 : 0 ≤ y) (hy : y < 2 ^ k) (hk2 : k ≤ 40) : Go.bits .or .i64 y (X * 2 ^ k) = y + X * 2 ^ k := by
  have := or_hi k X y hX hk h0 hy hk2
  rw [Int.add_comm, ← this]
  show IntKind.i64.wrap (((BitVec.ofInt 64 y ||| BitVec.ofInt 64 (X * 2 ^ k)).toNat : Nat) : Int) = IntKind.i64.wrap (((BitVec.ofInt 64 (X * 2 ^ k) ||| BitVec.ofInt 64 y).toNat : Nat) : Int)
  rw [BitVec.or_comm]
theorem getD_oct' {l : List Int} (h : Oct l) (i : Nat) : 0 ≤ l.getD i 0 ∧ l.getD i 0 < 256 := by
  rw [List.getD_eq_getElem?_getD]
  cases hx : l[i]? with
  | none => simp
  | some x => exact h x (List.mem_of_getElem? hx)
theorem dnumber_ok (b : List Int) (hb : Oct b) (hl : b.length ≤ 4) : PCall Tryd.prog 42 [.ro 1 false (ints .u8 b)] (.v (.int .i64 (numLE b))) := by
  have step : ∀ i, i < b.length → numLE (b.take (i + 1)) = numLE (b.take i) + 256 ^ i * b.getD i 0 := by
    intro i h
    rw [List.take_succ_eq_append_getElem h, numLE_app, List.length_take, Nat.min_eq_left (by omega), List.getD_eq_getElem?_getD, List.getElem?_eq_getElem h]
    rfl
  have bnd : ∀ i, i ≤ b.length → 0 ≤ numLE (b.take i) ∧ numLE (b.take i) < 256 ^ i := by
    intro i h
    have := numLE_bound (l := b.take i) fun x hx => hb x (List.mem_of_mem_take hx)
    rwa [List.length_take, Nat.min_eq_left h] at this
  have p8 : (2 : Int) ^ 8 = 256 := rfl
  have p16 : (2 : Int) ^ 16 = 65536 := rfl
  have p24 : (2 : Int) ^ 24 = 16777216 := rfl
  have q2 : (256 : Int) ^ 2 = 65536 := rfl
  have q3 : (256 : Int) ^ 3 = 16777216 := rfl
  refine pcall_mk Tryd.func42 rfl [.tmp 2] Tryd.results42 22 rfl (tk_start ?_)
  (repeat refine ka ?_); refine kr ?_ ?_ (pops_end ?_)
  (repeat refine ka ?_); refine kr ?_ ?_ (pops_end ?_)
  (repeat refine ka ?_); refine kr ?_ ?_ (pops_end ?_)
  (repeat refine ka ?_); refine kb ?_
  refine kw (fun p : Nat => [(3, PV.v (.int .i64 (numLE (b.take p)))), (6, .ro 1 false (ints .u8 b)), (7, .v (.int .i64 b.length)), (8, .v (.int .i64 p))]) (fun _ => []) (fun p => p ≤ b.length) (fun p => b.length - p) 0 (Nat.zero_le _) (holds 0 (by repeat (first | exact .nil | refine has1 ?_))) ?_
  intro i hi
  by_cases h : i < b.length
  · have hc : i = 0 ∨ i = 1 ∨ i = 2 ∨ i = 3 := by omega
    have d := getD_oct' hb i
    have s := step i h
    have bd := bnd i hi
    generalize numLE (b.take i) = n at s bd
    rcases hc with rfl | rfl | rfl | rfl <;> simp only [Int.cast_ofNat_Int] at *
    · have e : b.getD (Int.toNat 0) 0 = b.getD 0 0 := rfl
      have c0 : 0 ≤ b.getD (Int.toNat 0) 0 ∧ b.getD (Int.toNat 0) 0 < 256 := d
      have m : (2 : Int) ^ min (Int.toNat (8 * 0)) IntKind.i64.bits = 1 := rfl
      have o := or_lo_d 0 n (b.getD (Int.toNat 0) 0) c0.1 (by rw [show ((2 : Int) ^ 0) = 1 from rfl]; omega) bd.1 (by simpa using bd.2) (by decide)
      rw [show ((2 : Int) ^ 0) = 1 from rfl] at o
      have hn : numLE (b.take (0 + 1)) = n + b.getD (Int.toNat 0) 0 * 1 := by rw [s, e]; simp
      (repeat refine ka ?_); refine kr ?_ ?_ (pops_end ?_)
      (repeat refine ka ?_); refine kct ?_
      (repeat refine ka ?_); refine ksk ?_
      (repeat refine ka ?_); refine kb ?_
      (repeat refine ka ?_); refine kr ?_ ?_ (pops_end ?_)
      (repeat refine ka ?_); refine kr ?_ ?_ (pops_end ?_)
      refine kn ?_; repeat (first | with_reducible refine blk_n ?_ | with_reducible refine beh_n ?_)
      (repeat refine ka ?_); refine kr ?_ ?_ (pops_end ?_)
      refine kn ?_; repeat (first | with_reducible refine blk_n ?_ | with_reducible refine beh_n ?_)
      refine ⟨0 + 1, by omega, by omega, ?_⟩
      rw [hn]
      exact (holds 0 (by repeat (first | exact .nil | refine has1 ?_)))
    · have e : b.getD (Int.toNat 1) 0 = b.getD 1 0 := rfl
      have c0 : 0 ≤ b.getD (Int.toNat 1) 0 ∧ b.getD (Int.toNat 1) 0 < 256 := d
      have m : (2 : Int) ^ min (Int.toNat (8 * 1)) IntKind.i64.bits = 256 := rfl
      have o := or_lo_d 8 n (b.getD (Int.toNat 1) 0) c0.1 (by rw [p8]; omega) bd.1 (by rw [p8]; simpa using bd.2) (by decide)
      rw [p8] at o
      have hn : numLE (b.take (1 + 1)) = n + b.getD (Int.toNat 1) 0 * 256 := by rw [s, e]; omega
      (repeat refine ka ?_); refine kr ?_ ?_ (pops_end ?_)
      (repeat refine ka ?_); refine kct ?_
      (repeat refine ka ?_); refine ksk ?_
      (repeat refine ka ?_); refine kb ?_
      (repeat refine ka ?_); refine kr ?_ ?_ (pops_end ?_)
      (repeat refine ka ?_); refine kr ?_ ?_ (pops_end ?_)
      refine kn ?_; repeat (first | with_reducible refine blk_n ?_ | with_reducible refine beh_n ?_)
      (repeat refine ka ?_); refine kr ?_ ?_ (pops_end ?_)
      refine kn ?_; repeat (first | with_reducible refine blk_n ?_ | with_reducible refine beh_n ?_)
      refine ⟨1 + 1, by omega, by omega, ?_⟩
      rw [hn]
      exact (holds 0 (by repeat (first | exact .nil | refine has1 ?_)))
    · have e : b.getD (Int.toNat 2) 0 = b.getD 2 0 := rfl
      have c0 : 0 ≤ b.getD (Int.toNat 2) 0 ∧ b.getD (Int.toNat 2) 0 < 256 := d
      have m : (2 : Int) ^ min (Int.toNat (8 * 2)) IntKind.i64.bits = 65536 := rfl
      have o := or_lo_d 16 n (b.getD (Int.toNat 2) 0) c0.1 (by rw [p16]; omega) bd.1 (by rw [p16]; simpa using bd.2) (by decide)
      rw [p16] at o
      have hn : numLE (b.take (2 + 1)) = n + b.getD (Int.toNat 2) 0 * 65536 := by rw [s, e, q2]; omega
      (repeat refine ka ?_); refine kr ?_ ?_ (pops_end ?_)
      (repeat refine ka ?_); refine kct ?_
      (repeat refine ka ?_); refine ksk ?_
      (repeat refine ka ?_); refine kb ?_
      (repeat refine ka ?_); refine kr ?_ ?_ (pops_end ?_)
      (repeat refine ka ?_); refine kr ?_ ?_ (pops_end ?_)
      refine kn ?_; repeat (first | with_reducible refine blk_n ?_ | with_reducible refine beh_n ?_)
      (repeat refine ka ?_); refine kr ?_ ?_ (pops_end ?_)
      refine kn ?_; repeat (first | with_reducible refine blk_n ?_ | with_reducible refine beh_n ?_)
      refine ⟨2 + 1, by omega, by omega, ?_⟩
      rw [hn]
      exact (holds 0 (by repeat (first | exact .nil | refine has1 ?_)))
    · have e : b.getD (Int.toNat 3) 0 = b.getD 3 0 := rfl
      have c0 : 0 ≤ b.getD (Int.toNat 3) 0 ∧ b.getD (Int.toNat 3) 0 < 256 := d
      have m : (2 : Int) ^ min (Int.toNat (8 * 3)) IntKind.i64.bits = 16777216 := rfl
      have o := or_lo_d 24 n (b.getD (Int.toNat 3) 0) c0.1 (by rw [p24]; omega) bd.1 (by rw [p24]; simpa using bd.2) (by decide)
      rw [p24] at o
      have hn : numLE (b.take (3 + 1)) = n + b.getD (Int.toNat 3) 0 * 16777216 := by rw [s, e, q3]; omega
      (repeat refine ka ?_); refine kr ?_ ?_ (pops_end ?_)
      (repeat refine ka ?_); refine kct ?_
      (repeat refine ka ?_); refine ksk ?_
      (repeat refine ka ?_); refine kb ?_
      (repeat refine ka ?_); refine kr ?_ ?_ (pops_end ?_)
      (repeat refine ka ?_); refine kr ?_ ?_ (pops_end ?_)
      refine kn ?_; repeat (first | with_reducible refine blk_n ?_ | with_reducible refine beh_n ?_)
      (repeat refine ka ?_); refine kr ?_ ?_ (pops_end ?_)
      refine kn ?_; repeat (first | with_reducible refine blk_n ?_ | with_reducible refine beh_n ?_)
      refine ⟨3 + 1, by omega, by omega, ?_⟩
      rw [hn]
      exact (holds 0 (by repeat (first | exact .nil | refine has1 ?_)))
  · obtain rfl : i = b.length := by omega
    rw [List.take_length]
    (repeat refine ka ?_); refine kr ?_ ?_ (pops_end ?_)
    (repeat refine ka ?_); refine kcf ?_
    (repeat refine ka ?_); refine kx ?_; (repeat (first | with_reducible refine beh_x ?_ | with_reducible refine blk_up rfl ?_)); refine blk_here ?_; refine beh_n ?_
    (repeat refine ka ?_); refine kr ?_ ?_ (pops_end ?_)
    (repeat refine ka ?_); refine kret ?_; repeat (first | with_reducible refine beh_r ?_ | with_reducible refine blk_r ?_)
    refine ends_ret ?_ retPV_one
    rfl
/-- A number's bytes, the lowest one first. -/
def leN (n : Int) : Nat → List Int
  | 0 => []
  | k + 1 => n % 256 :: leN (n / 256) k
theorem leN_length : ∀ (k : Nat) (n : Int), (leN n k).length = k
  | 0, _ => rfl
  | k + 1, n => by rw [leN, List.length_cons, leN_length k]
theorem oct_leN : ∀ (k : Nat) (n : Int), Oct (leN n k)
  | 0, _ => by intro x hx; simp [leN] at hx
  | k + 1, n => by
    intro x hx
    rw [leN] at hx
    rcases List.mem_cons.1 hx with rfl | hx
    · omega
    · exact oct_leN k _ x hx
theorem numLE_leN : ∀ (k : Nat) (n : Int), 0 ≤ n → n < 256 ^ k → numLE (leN n k) = n
  | 0, n, h0, h1 => by simp at h1; simp [leN, numLE]; omega
  | k + 1, n, h0, h1 => by
    rw [Int.pow_succ] at h1
    rw [leN, numLE, numLE_leN k (n / 256) (by omega) (by omega)]
    omega
theorem dlaid_ok (g : Nat) (l : List Int) (n : Int) (h0 : 0 ≤ n) (h1 : n < 4294967296) (many : Nat) (hm : many = 2 ∨ many = 4) (hl : l.length ≤ 1000000000) : GCall Tryd.prog 24 [.vw 0 g 0 l.length, .v (.int .i64 n), .v (.int .i64 many)] [⟨g, true, 1, ints .u8 l⟩] (fun x S' => ∃ g', x = .vw 0 g' 0 (l.length + many) ∧ S' = [⟨g', true, 1, ints .u8 (l ++ leN n many)⟩]) := by
  have tk : ∀ i, i ≤ many → (leN n many).take i = leN n i := by
    intro i hi
    rcases hm with rfl | rfl
    · have : i = 0 ∨ i = 1 ∨ i = 2 := by omega
      rcases this with rfl | rfl | rfl <;> rfl
    · have : i = 0 ∨ i = 1 ∨ i = 2 ∨ i = 3 ∨ i = 4 := by omega
      rcases this with rfl | rfl | rfl | rfl | rfl <;> rfl
  have hp : ∀ i, (l ++ leN n i).length = l.length + i := by intro i; rw [List.length_append, leN_length]
  refine gcall_of_tr Tryd.func24 rfl [.tmp 6] Tryd.results24 22 rfl (tk_start ?_)
  (repeat refine ka ?_); refine kr ?_ ?_ (pops_end ?_)
  (repeat refine ka ?_); refine kr ?_ ?_ (pops_end ?_)
  (repeat refine ka ?_); refine kb ?_
  refine kw (fun p : Nat × Nat => [(0, PV.vw 0 p.2 0 (l.length + p.1)), (1, .v (.int .i64 n)), (8, .v (.int .i64 many)), (9, .v (.int .i64 p.1))]) (fun p => [⟨p.2, true, 1, ints .u8 (l ++ leN n p.1)⟩]) (fun p => p.1 ≤ many) (fun p => many - p.1) (0, g) (Nat.zero_le _) ?_ ?_
  · simp only [leN, List.append_nil, Nat.add_zero]
    exact (holds 1 (by repeat (first | exact .nil | refine has1 ?_)))
  rintro ⟨i, g1⟩ hi
  simp only at hi ⊢
  by_cases h : i < many
  · have hw : ∀ k, IntKind.u8.wrap (n / k) = n / k % 256 := fun k => by rw [IntKind.wrap_u8]
    have hc : i = 0 ∨ i = 1 ∨ i = 2 ∨ i = 3 := by rcases hm with rfl | rfl <;> omega
    rcases hc with rfl | rfl | rfl | rfl <;> simp only [Int.cast_ofNat_Int]
    · have m : (2 : Int) ^ min (Int.toNat (8 * 0)) IntKind.i64.bits = 1 := rfl
      have hw := hw 1
      (repeat refine ka ?_); refine kr ?_ ?_ (pops_end ?_)
      (repeat refine ka ?_); refine kct ?_
      (repeat refine ka ?_); refine ksk ?_
      (repeat refine ka ?_); refine kb ?_
      (repeat refine ka ?_); refine kr ?_ ?_ (pops_end ?_)
      (repeat refine ka ?_); refine kr ?_ ?_ ?_
      refine ps_lit (fun g2 => ?_)
      refine pops_go ?_ ?_ ?_
      refine ps_app_vw (rows' := ints .u8 (l ++ leN n (0 + 1))) (m := l.length + (0 + 1)) (fun g3 => ?_) (hrows := by simp [ints, leN])
      refine pops_go ?_ ?_ (pops_end ?_)
      refine kn ?_; repeat (first | with_reducible refine blk_n ?_ | with_reducible refine beh_n ?_)
      (repeat refine ka ?_); refine kr ?_ ?_ (pops_end ?_)
      refine kn ?_; repeat (first | with_reducible refine blk_n ?_ | with_reducible refine beh_n ?_)
      exact ⟨(0 + 1, g3), by simp only; omega, by simp only; omega, (holds 1 (by repeat (first | exact .nil | refine has1 ?_)))⟩
    · have m : (2 : Int) ^ min (Int.toNat (8 * 1)) IntKind.i64.bits = 256 := rfl
      have hw := hw 256
      (repeat refine ka ?_); refine kr ?_ ?_ (pops_end ?_)
      (repeat refine ka ?_); refine kct ?_
      (repeat refine ka ?_); refine ksk ?_
      (repeat refine ka ?_); refine kb ?_
      (repeat refine ka ?_); refine kr ?_ ?_ (pops_end ?_)
      (repeat refine ka ?_); refine kr ?_ ?_ ?_
      refine ps_lit (fun g2 => ?_)
      refine pops_go ?_ ?_ ?_
      refine ps_app_vw (rows' := ints .u8 (l ++ leN n (1 + 1))) (m := l.length + (1 + 1)) (fun g3 => ?_) (hrows := by simp [ints, leN])
      refine pops_go ?_ ?_ (pops_end ?_)
      refine kn ?_; repeat (first | with_reducible refine blk_n ?_ | with_reducible refine beh_n ?_)
      (repeat refine ka ?_); refine kr ?_ ?_ (pops_end ?_)
      refine kn ?_; repeat (first | with_reducible refine blk_n ?_ | with_reducible refine beh_n ?_)
      exact ⟨(1 + 1, g3), by simp only; omega, by simp only; omega, (holds 1 (by repeat (first | exact .nil | refine has1 ?_)))⟩
    · have m : (2 : Int) ^ min (Int.toNat (8 * 2)) IntKind.i64.bits = 65536 := rfl
      have hw := hw 65536
      have hd : n / 256 / 256 = n / 65536 := by omega
      (repeat refine ka ?_); refine kr ?_ ?_ (pops_end ?_)
      (repeat refine ka ?_); refine kct ?_
      (repeat refine ka ?_); refine ksk ?_
      (repeat refine ka ?_); refine kb ?_
      (repeat refine ka ?_); refine kr ?_ ?_ (pops_end ?_)
      (repeat refine ka ?_); refine kr ?_ ?_ ?_
      refine ps_lit (fun g2 => ?_)
      refine pops_go ?_ ?_ ?_
      refine ps_app_vw (rows' := ints .u8 (l ++ leN n (2 + 1))) (m := l.length + (2 + 1)) (fun g3 => ?_) (hrows := by simp [ints, leN, hd])
      refine pops_go ?_ ?_ (pops_end ?_)
      refine kn ?_; repeat (first | with_reducible refine blk_n ?_ | with_reducible refine beh_n ?_)
      (repeat refine ka ?_); refine kr ?_ ?_ (pops_end ?_)
      refine kn ?_; repeat (first | with_reducible refine blk_n ?_ | with_reducible refine beh_n ?_)
      exact ⟨(2 + 1, g3), by simp only; omega, by simp only; omega, (holds 1 (by repeat (first | exact .nil | refine has1 ?_)))⟩
    · have m : (2 : Int) ^ min (Int.toNat (8 * 3)) IntKind.i64.bits = 16777216 := rfl
      have hw := hw 16777216
      have hd : n / 256 / 256 = n / 65536 := by omega
      have hd2 : n / 65536 / 256 = n / 16777216 := by omega
      (repeat refine ka ?_); refine kr ?_ ?_ (pops_end ?_)
      (repeat refine ka ?_); refine kct ?_
      (repeat refine ka ?_); refine ksk ?_
      (repeat refine ka ?_); refine kb ?_
      (repeat refine ka ?_); refine kr ?_ ?_ (pops_end ?_)
      (repeat refine ka ?_); refine kr ?_ ?_ ?_
      refine ps_lit (fun g2 => ?_)
      refine pops_go ?_ ?_ ?_
      refine ps_app_vw (rows' := ints .u8 (l ++ leN n (3 + 1))) (m := l.length + (3 + 1)) (fun g3 => ?_) (hrows := by simp [ints, leN, hd, hd2])
      refine pops_go ?_ ?_ (pops_end ?_)
      refine kn ?_; repeat (first | with_reducible refine blk_n ?_ | with_reducible refine beh_n ?_)
      (repeat refine ka ?_); refine kr ?_ ?_ (pops_end ?_)
      refine kn ?_; repeat (first | with_reducible refine blk_n ?_ | with_reducible refine beh_n ?_)
      exact ⟨(3 + 1, g3), by simp only; omega, by simp only; omega, (holds 1 (by repeat (first | exact .nil | refine has1 ?_)))⟩
  · obtain rfl : i = many := by omega
    (repeat refine ka ?_); refine kr ?_ ?_ (pops_end ?_)
    (repeat refine ka ?_); refine kcf ?_
    (repeat refine ka ?_); refine kx ?_; (repeat (first | with_reducible refine beh_x ?_ | with_reducible refine blk_up rfl ?_)); refine blk_here ?_; refine beh_n ?_
    (repeat refine ka ?_); refine kr ?_ ?_ (pops_end ?_)
    (repeat refine ka ?_); refine kret ?_; repeat (first | with_reducible refine beh_r ?_ | with_reducible refine blk_r ?_)
    refine ends_ret ?_ retPV_one
    exact ⟨g1, rfl, rfl⟩
end Go.Proofs.YtenoecffjfcifaaDoor.Pv
-- dir.Check; carapaceref15.Check.
namespace Go.Proofs.YtenoecffjfcifaaDoor.Pv
set_option linter.all false
set_option linter.unusedVariables false
open Go.RowKit Go.Proofs
set_option maxRecDepth 100000
set_option maxHeartbeats 4000000
theorem least_of {p : Nat → Prop} (h : ∃ m, p m) : ∃ m, p m ∧ ∀ k, k < m → ¬ p k := by
  obtain ⟨m, hm⟩ := h
  induction m using Nat.strongRecOn with
  | ind m ih =>
    by_cases hk : ∃ k, k < m ∧ p k
    · obtain ⟨k, h1, h2⟩ := hk
      exact ih k h1 h2
    · exact ⟨m, hm, fun k h1 h2 => hk ⟨k, h1, h2⟩⟩
theorem idxneg_ok (E : List En) (hl : E.length ≤ 1000000) : ∃ k : Int, (0 ≤ k ↔ ∃ e ∈ E, e.2 < 0) ∧ PCall Tryd.prog 45 [.ro 2 false (entRows E), .fn (.func 29) [] []] (.v (.int .i64 k)) := by
  have la := entRows_length E
  have key : ∀ m, m ≤ E.length → (∀ i e, i < m → E[i]? = some e → ¬ e.2 < 0) → (m < E.length → ∃ e, E[m]? = some e ∧ e.2 < 0) → PCall Tryd.prog 45 [.ro 2 false (entRows E), .fn (.func 29) [] []] (.v (.int .i64 (if m < E.length then (m : Int) else -1))) := by
    intro m hm hlo hhi
    refine pcall_mk Tryd.func45 rfl [.tmp 4] Tryd.results45 19 rfl (tk_start ?_)
    (repeat refine ka ?_); refine kr ?_ ?_ (pops_end ?_)
    (repeat refine ka ?_); refine kr ?_ ?_ (pops_end ?_)
    (repeat refine ka ?_); refine kb ?_
    refine kw (fun i : Nat => [(0, .ro 2 false (entRows E)), (1, .fn (.func 29) [] []), (7, .v (.int .i64 (entRows E).length)), (8, .v (.int .i64 i))]) (fun _ => []) (fun i => i ≤ m) (fun i => m - i) 0 (Nat.zero_le _) (holds 0 (by repeat (first | exact .nil | refine has1 ?_))) ?_
    intro i hi
    by_cases h : i < E.length
    · obtain ⟨e, he⟩ : ∃ e, E[i]? = some e := ⟨E[i], by simp [h]⟩
      have r1 := entRows_get he
      have c := dneg_ok e
      unfold entRow at c
      by_cases q : i = m
      · subst q
        obtain ⟨e', he', hn⟩ := hhi h
        rw [he] at he'
        cases he'
        rw [decide_eq_true hn] at c
        rw [if_pos h]
        (repeat refine ka ?_); refine kr ?_ ?_ (pops_end ?_)
        (repeat refine ka ?_); refine kct ?_
        (repeat refine ka ?_); refine ksk ?_
        (repeat refine ka ?_); refine kb ?_
        (repeat refine ka ?_); refine kr ?_ ?_ (pops_end ?_)
        (repeat refine ka ?_); refine kr ?_ ?_ ?_
        refine ps_vpcall c ?_
        refine pops_go ?_ ?_ (pops_end ?_)
        (repeat refine ka ?_); refine kct ?_
        (repeat refine ka ?_); refine kr ?_ ?_ (pops_end ?_)
        (repeat refine ka ?_); refine kret ?_; repeat (first | with_reducible refine beh_r ?_ | with_reducible refine blk_r ?_)
        refine ends_ret ?_ retPV_one
        rfl
      · rw [decide_eq_false (hlo i e (by omega) he)] at c
        (repeat refine ka ?_); refine kr ?_ ?_ (pops_end ?_)
        (repeat refine ka ?_); refine kct ?_
        (repeat refine ka ?_); refine ksk ?_
        (repeat refine ka ?_); refine kb ?_
        (repeat refine ka ?_); refine kr ?_ ?_ (pops_end ?_)
        (repeat refine ka ?_); refine kr ?_ ?_ ?_
        refine ps_vpcall c ?_
        refine pops_go ?_ ?_ (pops_end ?_)
        (repeat refine ka ?_); refine kcf ?_
        (repeat refine ka ?_); refine ksk ?_
        refine kn ?_; repeat (first | with_reducible refine blk_n ?_ | with_reducible refine beh_n ?_)
        (repeat refine ka ?_); refine kr ?_ ?_ (pops_end ?_)
        refine kn ?_; repeat (first | with_reducible refine blk_n ?_ | with_reducible refine beh_n ?_)
        exact ⟨i + 1, by omega, by omega, (holds 0 (by repeat (first | exact .nil | refine has1 ?_)))⟩
    · obtain rfl : i = E.length := by omega
      rw [if_neg (by omega)]
      (repeat refine ka ?_); refine kr ?_ ?_ (pops_end ?_)
      (repeat refine ka ?_); refine kcf ?_
      (repeat refine ka ?_); refine kx ?_; (repeat (first | with_reducible refine beh_x ?_ | with_reducible refine blk_up rfl ?_)); refine blk_here ?_; refine beh_n ?_
      (repeat refine ka ?_); refine kr ?_ ?_ (pops_end ?_)
      (repeat refine ka ?_); refine kret ?_; repeat (first | with_reducible refine beh_r ?_ | with_reducible refine blk_r ?_)
      refine ends_ret ?_ retPV_one
      rfl
  by_cases hex : ∃ m, m < E.length ∧ (∃ e, E[m]? = some e ∧ e.2 < 0)
  · obtain ⟨m, hmin, hlt⟩ := least_of hex
    refine ⟨_, ?_, key m (by omega) (fun i e hi he hn => hlt i hi ⟨(List.getElem?_eq_some_iff.1 he).1, e, he, hn⟩) (fun _ => hmin.2)⟩
    rw [if_pos hmin.1]
    obtain ⟨_, e, he, hn⟩ := hmin
    exact ⟨fun _ => ⟨e, List.mem_of_getElem? he, hn⟩, fun _ => by omega⟩
  · refine ⟨_, ?_, key E.length (Nat.le_refl _) (fun i e hi he hn => hex ⟨i, hi, e, he, hn⟩) (fun h => by omega)⟩
    rw [if_neg (by omega)]
    refine ⟨fun h => by omega, fun ⟨e, he, hn⟩ => ?_⟩
    obtain ⟨i, hi⟩ := List.getElem?_of_mem he
    exact absurd ⟨i, (List.getElem?_eq_some_iff.1 hi).1, e, hi, hn⟩ hex
theorem hasneg_ok (E : List En) (hl : E.length ≤ 1000000) : PCall Tryd.prog 28 [.ro 2 false (entRows E), .fn (.func 29) [] []] (.v (.bool (decide (∃ e ∈ E, e.2 < 0)))) := by
  obtain ⟨k, hk, c⟩ := idxneg_ok E hl
  by_cases h : (0 : Int) ≤ k
  · rw [decide_eq_true (hk.1 h)]
    refine pcall_mk Tryd.func28 rfl [.tmp 4] Tryd.results28 9 rfl (tk_start ?_)
    (repeat refine ka ?_); refine kr ?_ ?_ (pops_end ?_)
    (repeat refine ka ?_); refine kr ?_ ?_ ?_
    refine ps_pcall c ?_
    refine pops_go ?_ ?_ (pops_end ?_)
    (repeat refine ka ?_); refine kret ?_; repeat (first | with_reducible refine beh_r ?_ | with_reducible refine blk_r ?_)
    refine ends_ret ?_ retPV_one
    rfl
  · rw [decide_eq_false (fun he => h (hk.2 he))]
    refine pcall_mk Tryd.func28 rfl [.tmp 4] Tryd.results28 9 rfl (tk_start ?_)
    (repeat refine ka ?_); refine kr ?_ ?_ (pops_end ?_)
    (repeat refine ka ?_); refine kr ?_ ?_ ?_
    refine ps_pcall c ?_
    refine pops_go ?_ ?_ (pops_end ?_)
    (repeat refine ka ?_); refine kret ?_; repeat (first | with_reducible refine beh_r ?_ | with_reducible refine blk_r ?_)
    refine ends_ret ?_ retPV_one
    rfl
/-- Whether entries may be. -/
def checkF (E : List En) : Int :=
  if rsetF (E.map (·.1)) ≠ 0 then rsetF (E.map (·.1)) else if rsortF (E.map (·.1)) = E.map (·.1) then (if ∃ e ∈ E, e.2 < 0 then 1 else if 65536 < (E.map (·.2)).sum then 4 else 0) else 2
def EnsOk (E : List En) : Prop := ∀ e ∈ E, EnOk e ∧ e.1.length ≤ 1000000000
theorem pathsOct {E : List En} (h : EnsOk E) : ∀ x ∈ E.map (·.1), Oct x := by
  intro x hx
  obtain ⟨e, he, rfl⟩ := List.mem_map.1 hx
  exact (h e he).1.1
theorem pathsLen {E : List En} (h : EnsOk E) : ∀ x ∈ E.map (·.1), x.length ≤ 1000000000 := by
  intro x hx
  obtain ⟨e, he, rfl⟩ := List.mem_map.1 hx
  exact (h e he).2
theorem strRows_snoc (L : List (List Int)) (i : Nat) (x : List Int) (h : L[i]? = some x) : strRows (L.take i) ++ [[.v (.string (str x))]] = strRows (L.take (i + 1)) := by
  obtain ⟨h1, h2⟩ := List.getElem?_eq_some_iff.1 h
  rw [List.take_succ_eq_append_getElem h1, h2, strRows_app]
  rfl
theorem dcheck_ok (E : List En) (hE : EnsOk E) (hl : E.length ≤ 1000000) : PCall Tryd.prog 16 [.ro 2 false (entRows E)] (.v (.int .i64 (checkF E))) := by
  have la := entRows_length E
  have lm : (E.map (·.1)).length = E.length := List.length_map ..
  refine pcall_mk Tryd.func16 rfl [.tmp 2] Tryd.results16 36 rfl (tk_start ?_)
  (repeat refine ka ?_); refine kr ?_ ?_ (pops_end ?_)
  (repeat refine ka ?_); refine kr ?_ ?_ (pops_end ?_)
  (repeat refine ka ?_)
  refine kvoid 3 1 (fun g0 => ?_)
  (repeat refine ka ?_); refine kr ?_ ?_ (pops_end ?_)
  (repeat refine ka ?_); refine kb ?_
  refine kw (fun p : Nat × Nat => [(0, .ro 2 false (entRows E)), (3, .vw 0 p.2 0 p.1), (7, .ro 2 false (entRows E)), (8, .v (.int .i64 (entRows E).length)), (9, .v (.int .i64 p.1))]) (fun p => [⟨p.2, true, 1, strRows ((E.map (·.1)).take p.1)⟩]) (fun p => p.1 ≤ E.length) (fun p => E.length - p.1) (0, g0) (Nat.zero_le _) (holds 1 (by repeat (first | exact .nil | refine has1 ?_))) ?_
  rintro ⟨i, g⟩ hi
  simp only at hi ⊢
  by_cases h : i < E.length
  · obtain ⟨e, he⟩ : ∃ e, E[i]? = some e := ⟨E[i], by simp [h]⟩
    have r1 := entRows_get he
    have hs := strRows_snoc (E.map (·.1)) i e.1 (by rw [List.getElem?_map, he]; rfl)
    (repeat refine ka ?_); refine kr ?_ ?_ (pops_end ?_)
    (repeat refine ka ?_); refine kct ?_
    (repeat refine ka ?_); refine ksk ?_
    (repeat refine ka ?_); refine kb ?_
    (repeat refine ka ?_); refine kr ?_ ?_ ?_
    refine ps_alloc fun g1 => ?_
    refine ps_store ?_
    refine pops_nil ?_
    (repeat refine ka ?_); refine kr ?_ ?_ ?_
    refine ps_lit fun g2 => ?_
    refine ps_app_vw (rows' := strRows ((E.map (·.1)).take (i + 1))) (m := i + 1) (rows := [[.v (.string (str e.1))]]) (fun g3 => ?_) (hrows := hs) (hlen := by rw [strRows_length, List.length_take, lm]; omega) (hm := by rfl)
    refine pops_go ?_ ?_ (pops_end ?_)
    refine kn ?_; repeat (first | with_reducible refine blk_n ?_ | with_reducible refine beh_n ?_)
    (repeat refine ka ?_); refine kr ?_ ?_ (pops_end ?_)
    refine kn ?_; repeat (first | with_reducible refine blk_n ?_ | with_reducible refine beh_n ?_)
    exact ⟨(i + 1, g3), by simp only; omega, by simp only; omega, (holds 1 (by repeat (first | exact .nil | refine has1 ?_)))⟩
  · obtain rfl : i = E.length := by omega
    have c1 := pset_ok (E.map (·.1)) (pathsOct hE) (by omega) (pathsLen hE)
    have c2 := issorted_ok (E.map (·.1)) (pathsOct hE) (by omega) (pathsLen hE)
    have c3 := hasneg_ok E hl
    rw [List.take_of_length_le (by omega)]
    (repeat refine ka ?_); refine kr ?_ ?_ (pops_end ?_)
    (repeat refine ka ?_); refine kcf ?_
    (repeat refine ka ?_); refine kx ?_; (repeat (first | with_reducible refine beh_x ?_ | with_reducible refine blk_up rfl ?_)); refine blk_here ?_; refine beh_n ?_
    (repeat refine ka ?_)
    refine kfreeze 0 ?_
    refine kfzT 3 [0] (y := .ro 1 false (strRows (E.map (·.1)))) ?_ (lend_strs (List.mem_singleton.2 rfl) rfl rfl lm) (by intro τ hτ blk hb; cases List.mem_singleton.1 hτ; cases hb; rfl)
    (repeat refine ka ?_); refine kr ?_ ?_ ?_
    refine ps_pcall c1 ?_
    refine pops_go ?_ ?_ (pops_end ?_)
    (repeat refine ka ?_); refine kb ?_
    by_cases q0 : rsetF (E.map (·.1)) = 0
    case neg =>
      rw [checkF, if_pos q0]
      (repeat refine ka ?_); refine kr ?_ ?_ (pops_end ?_)
      (repeat refine ka ?_); refine kct ?_
      (repeat refine ka ?_); refine kr ?_ ?_ (pops_end ?_)
      (repeat refine ka ?_); refine kret ?_; repeat (first | with_reducible refine beh_r ?_ | with_reducible refine blk_r ?_)
      refine ends_ret ?_ retPV_one
      rfl
    rw [checkF, if_neg (fun h => h q0)]
    (repeat refine ka ?_); refine kr ?_ ?_ (pops_end ?_)
    (repeat refine ka ?_); refine kcf ?_
    by_cases q1 : rsortF (E.map (·.1)) = E.map (·.1)
    case neg =>
      rw [decide_eq_false q1] at c2
      rw [if_neg q1]
      (repeat refine ka ?_); refine kr ?_ ?_ ?_
      refine ps_pcall c2 ?_
      refine pops_go ?_ ?_ (pops_end ?_)
      (repeat refine ka ?_); refine kct ?_
      (repeat refine ka ?_); refine kr ?_ ?_ (pops_end ?_)
      (repeat refine ka ?_); refine kret ?_; repeat (first | with_reducible refine beh_r ?_ | with_reducible refine blk_r ?_)
      refine ends_ret ?_ retPV_one
      rfl
    rw [decide_eq_true q1] at c2
    rw [if_pos q1]
    (repeat refine ka ?_); refine kr ?_ ?_ ?_
    refine ps_pcall c2 ?_
    refine pops_go ?_ ?_ (pops_end ?_)
    (repeat refine ka ?_); refine kcf ?_
    by_cases q2 : ∃ e ∈ E, e.2 < 0
    case pos =>
      rw [decide_eq_true q2] at c3
      rw [if_pos q2]
      (repeat refine ka ?_); refine kr ?_ ?_ ?_
      refine ps_pcall c3 ?_
      refine pops_go ?_ ?_ (pops_end ?_)
      (repeat refine ka ?_); refine kct ?_
      (repeat refine ka ?_); refine kr ?_ ?_ (pops_end ?_)
      (repeat refine ka ?_); refine kret ?_; repeat (first | with_reducible refine beh_r ?_ | with_reducible refine blk_r ?_)
      refine ends_ret ?_ retPV_one
      rfl
    rw [decide_eq_false q2] at c3
    rw [if_neg q2]
    have hnn : ∀ e ∈ E, 0 ≤ e.2 ∧ e.2 ≤ 9223372036854775807 := fun e he => ⟨by
      rcases Int.lt_or_le e.2 0 with h | h
      · exact absurd ⟨e, he, h⟩ q2
      · exact h, (hE e he).1.2.2⟩
    have c4 := dsumE_ok E hnn hl
    rw [sumE_eq _ (by intro x hx; obtain ⟨e, he, rfl⟩ := List.mem_map.1 hx; exact (hnn e he).1)] at c4
    (repeat refine ka ?_); refine kr ?_ ?_ ?_
    refine ps_pcall c3 ?_
    refine pops_go ?_ ?_ (pops_end ?_)
    (repeat refine ka ?_); refine kcf ?_
    by_cases q3 : 65536 < (E.map (·.2)).sum
    · rw [if_pos q3]
      rw [show min (E.map (·.2)).sum 65537 = 65537 by omega] at c4
      (repeat refine ka ?_); refine kr ?_ ?_ ?_
      refine ps_pcall c4 ?_
      refine pops_go ?_ ?_ (pops_end ?_)
      (repeat refine ka ?_); refine kct ?_
      (repeat refine ka ?_); refine kr ?_ ?_ (pops_end ?_)
      (repeat refine ka ?_); refine kret ?_; repeat (first | with_reducible refine beh_r ?_ | with_reducible refine blk_r ?_)
      refine ends_ret ?_ retPV_one
      rfl
    · rw [if_neg q3]
      rw [show min (E.map (·.2)).sum 65537 = (E.map (·.2)).sum by omega] at c4
      (repeat refine ka ?_); refine kr ?_ ?_ ?_
      refine ps_pcall c4 ?_
      refine pops_go ?_ ?_ (pops_end ?_)
      (repeat refine ka ?_); refine kcf ?_
      (repeat refine ka ?_); refine ksk ?_
      refine kn ?_; repeat (first | with_reducible refine blk_n ?_ | with_reducible refine beh_n ?_)
      (repeat refine ka ?_); refine kr ?_ ?_ (pops_end ?_)
      (repeat refine ka ?_); refine kret ?_; repeat (first | with_reducible refine beh_r ?_ | with_reducible refine blk_r ?_)
      refine ends_ret ?_ retPV_one
      rfl
end Go.Proofs.YtenoecffjfcifaaDoor.Pv
-- carapaceref15.Check.
namespace Go.Proofs.YtenoecffjfcifaaDoor.Pv
set_option linter.all false
set_option linter.unusedVariables false
open Go.RowKit Go.Proofs
set_option maxRecDepth 100000
set_option maxHeartbeats 4000000
theorem sum_nonneg : ∀ {l : List Int}, (∀ x ∈ l, 0 ≤ x) → 0 ≤ l.sum
  | [], _ => by simp
  | x :: l, h => by
    have := h x (by simp)
    have := sum_nonneg (l := l) fun y hy => h y (by simp [hy])
    rw [List.sum_cons]
    omega
theorem sum_take_le {l : List Int} (h : ∀ x ∈ l, 0 ≤ x) (i : Nat) : (l.take i).sum ≤ l.sum := by
  have h1 : 0 ≤ (l.drop i).sum := sum_nonneg fun x hx => h x (List.mem_of_mem_drop hx)
  have h2 : (l.take i).sum + (l.drop i).sum = l.sum := by rw [← List.sum_append, List.take_append_drop]
  omega
theorem sum_take_succ {l : List Int} {i : Nat} {x : Int} (h : l[i]? = some x) : (l.take (i + 1)).sum = (l.take i).sum + x := by
  obtain ⟨h1, h2⟩ := List.getElem?_eq_some_iff.1 h
  rw [List.take_succ_eq_append_getElem h1, h2, List.sum_append]
  simp
theorem rcheck_ok (E : List En) (hE : EnsOk E) (hl : E.length ≤ 1000000) : PCall Tryd.prog 17 [.ro 2 false (entRows E)] (.v (.int .i64 (checkF E))) := by
  have la := entRows_length E
  have lm : (E.map (·.1)).length = E.length := List.length_map ..
  refine pcall_mk Tryd.func17 rfl [.tmp 2] Tryd.results17 75 rfl (tk_start ?_)
  (repeat refine ka ?_); refine kr ?_ ?_ (pops_end ?_)
  (repeat refine ka ?_); refine kr ?_ ?_ ?_
  refine ps_lit fun g0 => ?_
  refine pops_go ?_ ?_ (pops_end ?_)
  (repeat refine ka ?_); refine kr ?_ ?_ (pops_end ?_)
  (repeat refine ka ?_); refine kb ?_
  refine kw (fun p : Nat × Nat => [(0, .ro 2 false (entRows E)), (3, .vw 0 p.2 0 p.1), (4, .v (.int .i64 p.1))]) (fun p => [⟨p.2, true, 1, strRows ((E.map (·.1)).take p.1)⟩]) (fun p => p.1 ≤ E.length) (fun p => E.length - p.1) (0, g0) (Nat.zero_le _) (holds 1 (by repeat (first | exact .nil | refine has1 ?_))) ?_
  rintro ⟨i, g⟩ hi
  simp only at hi ⊢
  by_cases h : i < E.length
  · obtain ⟨e, he⟩ : ∃ e, E[i]? = some e := ⟨E[i], by simp [h]⟩
    have r1 := entRows_get he
    have hs := strRows_snoc (E.map (·.1)) i e.1 (by rw [List.getElem?_map, he]; rfl)
    (repeat refine ka ?_); refine kr ?_ ?_ (pops_end ?_)
    (repeat refine ka ?_); refine kct ?_
    (repeat refine ka ?_); refine ksk ?_
    (repeat refine ka ?_); refine kb ?_
    (repeat refine ka ?_); refine kr ?_ ?_ ?_
    refine ps_lit fun g2 => ?_
    refine ps_app_vw (rows' := strRows ((E.map (·.1)).take (i + 1))) (m := i + 1) (rows := [[.v (.string (str e.1))]]) (fun g3 => ?_) (hrows := hs) (hlen := by rw [strRows_length, List.length_take, lm]; omega) (hm := by rfl)
    refine pops_go ?_ ?_ (pops_end ?_)
    refine kn ?_; repeat (first | with_reducible refine blk_n ?_ | with_reducible refine beh_n ?_)
    (repeat refine ka ?_); refine kr ?_ ?_ (pops_end ?_)
    refine kn ?_; repeat (first | with_reducible refine blk_n ?_ | with_reducible refine beh_n ?_)
    exact ⟨(i + 1, g3), by simp only; omega, by simp only; omega, (holds 1 (by repeat (first | exact .nil | refine has1 ?_)))⟩
  obtain rfl : i = E.length := by omega
  have c1 := rset_ok (E.map (·.1)) (pathsOct hE) (by omega) (pathsLen hE)
  have c2 := rsorted_ok (E.map (·.1)) (pathsOct hE) (by omega) (pathsLen hE)
  have c3 := same06 (E.map (·.1)) (rsortF (E.map (·.1))) (pathsOct hE) (fun x hx => pathsOct hE x ((rsort_perm _).mem_iff.1 hx)) (by omega) (by rw [rsortF_length]; omega)
  rw [List.take_of_length_le (by omega)]
  (repeat refine ka ?_); refine kr ?_ ?_ (pops_end ?_)
  (repeat refine ka ?_); refine kcf ?_
  (repeat refine ka ?_); refine kx ?_; (repeat (first | with_reducible refine beh_x ?_ | with_reducible refine blk_up rfl ?_)); refine blk_here ?_; refine beh_n ?_
  refine kfreeze 0 ?_
  refine kfzT 3 [0] (y := .ro 1 false (strRows (E.map (·.1)))) ?_ (lend_strs (List.mem_singleton.2 rfl) rfl rfl lm) (by intro τ hτ blk hb; cases List.mem_singleton.1 hτ; cases hb; rfl)
  (repeat refine ka ?_); refine kr ?_ ?_ ?_
  refine ps_pcall c1 ?_
  refine pops_go ?_ ?_ (pops_end ?_)
  by_cases q0 : rsetF (E.map (·.1)) = 0
  case neg =>
    rw [checkF, if_pos q0]
    (repeat refine ka ?_); refine kr ?_ ?_ (pops_end ?_)
    (repeat refine ka ?_); refine kct ?_
    (repeat refine ka ?_); refine kr ?_ ?_ (pops_end ?_)
    (repeat refine ka ?_); refine kret ?_; repeat (first | with_reducible refine beh_r ?_ | with_reducible refine blk_r ?_)
    refine ends_ret ?_ retPV_one
    rfl
  rw [checkF, if_neg (fun h => h q0)]
  (repeat refine ka ?_); refine kr ?_ ?_ (pops_end ?_)
  (repeat refine ka ?_); refine kcf ?_
  (repeat refine ka ?_); refine ksk ?_
  by_cases q1 : rsortF (E.map (·.1)) = E.map (·.1)
  case neg =>
    rw [decide_eq_false (fun h => q1 h.symm)] at c3
    rw [if_neg q1]
    (repeat refine ka ?_); refine kr ?_ ?_ ?_
    refine ps_pcall c2 ?_
    refine pops_go ?_ ?_ ?_
    refine ps_pcall c3 ?_
    refine pops_go ?_ ?_ (pops_end ?_)
    (repeat refine ka ?_); refine kct ?_
    (repeat refine ka ?_); refine kr ?_ ?_ (pops_end ?_)
    (repeat refine ka ?_); refine kret ?_; repeat (first | with_reducible refine beh_r ?_ | with_reducible refine blk_r ?_)
    refine ends_ret ?_ retPV_one
    rfl
  rw [decide_eq_true q1.symm] at c3
  rw [if_pos q1]
  (repeat refine ka ?_); refine kr ?_ ?_ ?_
  refine ps_pcall c2 ?_
  refine pops_go ?_ ?_ ?_
  refine ps_pcall c3 ?_
  refine pops_go ?_ ?_ (pops_end ?_)
  (repeat refine ka ?_); refine kcf ?_
  (repeat refine ka ?_); refine ksk ?_
  (repeat refine ka ?_); refine kr ?_ ?_ (pops_end ?_)
  (repeat refine ka ?_); refine kr ?_ ?_ (pops_end ?_)
  (repeat refine ka ?_); refine kb ?_
  refine kw (fun i : Nat => [(0, .ro 2 false (entRows E)), (6, .v (.int .i64 0)), (7, .v (.int .i64 i))]) (fun _ => []) (fun i => i ≤ E.length ∧ ∀ e ∈ E.take i, 0 ≤ e.2) (fun i => E.length - i) 0 ⟨Nat.zero_le _, by simp⟩ (holds 0 (by repeat (first | exact .nil | refine has1 ?_))) ?_
  rintro i ⟨hi, hpos⟩
  by_cases h : i < E.length
  · obtain ⟨e, he⟩ : ∃ e, E[i]? = some e := ⟨E[i], by simp [h]⟩
    have r1 := entRows_get he
    by_cases q2 : e.2 < 0
    · rw [if_pos ⟨e, List.mem_of_getElem? he, q2⟩]
      (repeat refine ka ?_); refine kr ?_ ?_ (pops_end ?_)
      (repeat refine ka ?_); refine kct ?_
      (repeat refine ka ?_); refine ksk ?_
      (repeat refine ka ?_); refine kb ?_
      (repeat refine ka ?_); refine kr ?_ ?_ (pops_end ?_)
      (repeat refine ka ?_); refine kct ?_
      (repeat refine ka ?_); refine kr ?_ ?_ (pops_end ?_)
      (repeat refine ka ?_); refine kret ?_; repeat (first | with_reducible refine beh_r ?_ | with_reducible refine blk_r ?_)
      refine ends_ret ?_ retPV_one
      rfl
    · (repeat refine ka ?_); refine kr ?_ ?_ (pops_end ?_)
      (repeat refine ka ?_); refine kct ?_
      (repeat refine ka ?_); refine ksk ?_
      (repeat refine ka ?_); refine kb ?_
      (repeat refine ka ?_); refine kr ?_ ?_ (pops_end ?_)
      (repeat refine ka ?_); refine kcf ?_
      (repeat refine ka ?_); refine ksk ?_
      refine kn ?_; repeat (first | with_reducible refine blk_n ?_ | with_reducible refine beh_n ?_)
      (repeat refine ka ?_); refine kr ?_ ?_ (pops_end ?_)
      refine kn ?_; repeat (first | with_reducible refine blk_n ?_ | with_reducible refine beh_n ?_)
      refine ⟨i + 1, ⟨by omega, ?_⟩, by omega, (holds 0 (by repeat (first | exact .nil | refine has1 ?_)))⟩
      obtain ⟨h1, h2⟩ := List.getElem?_eq_some_iff.1 he
      rw [List.take_succ_eq_append_getElem h1, h2]
      intro z hz
      rcases List.mem_append.1 hz with hz | hz
      · exact hpos z hz
      · cases List.mem_singleton.1 hz
        omega
  obtain rfl : i = E.length := by omega
  rw [List.take_length] at hpos
  rw [if_neg (fun ⟨e, he, hn⟩ => by have := hpos e he; omega)]
  have hp2 : ∀ x ∈ E.map (·.2), 0 ≤ x := by intro x hx; obtain ⟨e, he, rfl⟩ := List.mem_map.1 hx; exact hpos e he
  (repeat refine ka ?_); refine kr ?_ ?_ (pops_end ?_)
  (repeat refine ka ?_); refine kcf ?_
  (repeat refine ka ?_); refine kx ?_; (repeat (first | with_reducible refine beh_x ?_ | with_reducible refine blk_up rfl ?_)); refine blk_here ?_; refine beh_n ?_
  (repeat refine ka ?_); refine kr ?_ ?_ (pops_end ?_)
  (repeat refine ka ?_); refine kb ?_
  refine kw (fun i : Nat => [(0, .ro 2 false (entRows E)), (6, .v (.int .i64 ((E.map (·.2)).take i).sum)), (8, .v (.int .i64 i))]) (fun _ => []) (fun i => i ≤ E.length ∧ ((E.map (·.2)).take i).sum ≤ 65536) (fun i => E.length - i) 0 ⟨Nat.zero_le _, by simp⟩ (holds 0 (by repeat (first | exact .nil | refine has1 ?_))) ?_
  rintro i ⟨hi, hsum⟩
  have hnn : 0 ≤ ((E.map (·.2)).take i).sum := sum_nonneg fun x hx => hp2 x (List.mem_of_mem_take hx)
  by_cases h : i < E.length
  · obtain ⟨e, he⟩ : ∃ e, E[i]? = some e := ⟨E[i], by simp [h]⟩
    have r1 := entRows_get he
    have he2 := hpos e (List.mem_of_getElem? he)
    have he3 := (hE e (List.mem_of_getElem? he)).1.2.2
    have hsu : ((E.map (·.2)).take (i + 1)).sum = ((E.map (·.2)).take i).sum + e.2 := sum_take_succ (by rw [List.getElem?_map, he]; rfl)
    have hle := sum_take_le hp2 (i + 1)
    by_cases q3 : 65536 < e.2
    · rw [if_pos (by omega)]
      (repeat refine ka ?_); refine kr ?_ ?_ (pops_end ?_)
      (repeat refine ka ?_); refine kct ?_
      (repeat refine ka ?_); refine ksk ?_
      (repeat refine ka ?_); refine kb ?_
      (repeat refine ka ?_); refine kr ?_ ?_ (pops_end ?_)
      (repeat refine ka ?_); refine kct ?_
      (repeat refine ka ?_); refine kr ?_ ?_ (pops_end ?_)
      (repeat refine ka ?_); refine kret ?_; repeat (first | with_reducible refine beh_r ?_ | with_reducible refine blk_r ?_)
      refine ends_ret ?_ retPV_one
      rfl
    by_cases q4 : 65536 < ((E.map (·.2)).take i).sum + e.2
    · rw [if_pos (by omega)]
      (repeat refine ka ?_); refine kr ?_ ?_ (pops_end ?_)
      (repeat refine ka ?_); refine kct ?_
      (repeat refine ka ?_); refine ksk ?_
      (repeat refine ka ?_); refine kb ?_
      (repeat refine ka ?_); refine kr ?_ ?_ (pops_end ?_)
      (repeat refine ka ?_); refine kct ?_
      (repeat refine ka ?_); refine kr ?_ ?_ (pops_end ?_)
      (repeat refine ka ?_); refine kret ?_; repeat (first | with_reducible refine beh_r ?_ | with_reducible refine blk_r ?_)
      refine ends_ret ?_ retPV_one
      rfl
    · generalize hN : ((E.map (·.2)).take i).sum = N at *
      (repeat refine ka ?_); refine kr ?_ ?_ (pops_end ?_)
      (repeat refine ka ?_); refine kct ?_
      (repeat refine ka ?_); refine ksk ?_
      (repeat refine ka ?_); refine kb ?_
      (repeat refine ka ?_); refine kr ?_ ?_ (pops_end ?_)
      (repeat refine ka ?_); refine kcf ?_
      (repeat refine ka ?_); refine ksk ?_
      (repeat refine ka ?_); refine kr ?_ ?_ (pops_end ?_)
      refine kn ?_; repeat (first | with_reducible refine blk_n ?_ | with_reducible refine beh_n ?_)
      (repeat refine ka ?_); refine kr ?_ ?_ (pops_end ?_)
      refine kn ?_; repeat (first | with_reducible refine blk_n ?_ | with_reducible refine beh_n ?_)
      refine ⟨i + 1, ⟨by omega, by omega⟩, by omega, ?_⟩
      rw [hsu]
      exact (holds 0 (by repeat (first | exact .nil | refine has1 ?_)))
  · obtain rfl : i = E.length := by omega
    rw [List.take_of_length_le (by simp)] at hsum
    rw [if_neg (by omega)]
    (repeat refine ka ?_); refine kr ?_ ?_ (pops_end ?_)
    (repeat refine ka ?_); refine kcf ?_
    (repeat refine ka ?_); refine kx ?_; (repeat (first | with_reducible refine beh_x ?_ | with_reducible refine blk_up rfl ?_)); refine blk_here ?_; refine beh_n ?_
    (repeat refine ka ?_); refine kr ?_ ?_ (pops_end ?_)
    (repeat refine ka ?_); refine kret ?_; repeat (first | with_reducible refine beh_r ?_ | with_reducible refine blk_r ?_)
    refine ends_ret ?_ retPV_one
    rfl
end Go.Proofs.YtenoecffjfcifaaDoor.Pv
-- What is told of texts together does not hang on their order.
namespace Go.Proofs.YtenoecffjfcifaaDoor.Pv
set_option linter.all false
set_option linter.unusedVariables false
open Go.RowKit Go.Proofs
set_option maxRecDepth 100000
set_option maxHeartbeats 4000000
theorem clashes_perm {L M : List (List Int)} (h : L.Perm M) : clashes L ↔ clashes M := by
  rw [clashes_iff, clashes_iff, h.nodup_iff]
  unfold begins
  simp only [h.mem_iff]
theorem rsetF_perm {L M : List (List Int)} (h : L.Perm M) : rsetF L = rsetF M := by
  unfold rsetF
  rw [h.length_eq]
  have e1 : (∀ x ∈ L, rmayP x) ↔ ∀ x ∈ M, rmayP x := ⟨fun k x hx => k x (h.mem_iff.2 hx), fun k x hx => k x (h.mem_iff.1 hx)⟩
  have e2 := clashes_perm h
  by_cases h1 : 200 < M.length
  · rw [if_pos h1, if_pos h1]
  · rw [if_neg h1, if_neg h1]
    by_cases h2 : ∀ x ∈ M, rmayP x
    · rw [if_pos h2, if_pos (e1.2 h2)]
      by_cases h3 : clashes M
      · rw [if_pos h3, if_pos (e2.2 h3)]
      · rw [if_neg h3, if_neg (fun k => h3 (e2.1 k))]
    · rw [if_neg h2, if_neg (fun k => h2 (e1.1 k))]
theorem rsetF_zero {L : List (List Int)} : rsetF L = 0 ↔ L.length ≤ 200 ∧ (∀ x ∈ L, rmayP x) ∧ ¬ clashes L := by
  unfold rsetF
  constructor
  · intro h
    split at h
    · cases h
    · split at h
      · split at h
        · cases h
        · rename_i h1 h2 h3
          exact ⟨by omega, h2, h3⟩
      · cases h
  · rintro ⟨h1, h2, h3⟩
    rw [if_neg (by omega), if_pos h2, if_neg h3]
theorem rsetF_take {L : List (List Int)} (h : rsetF L = 0) (k : Nat) : rsetF (L.take k) = 0 := by
  obtain ⟨h1, h2, h3⟩ := rsetF_zero.1 h
  refine rsetF_zero.2 ⟨by rw [List.length_take]; omega, fun x hx => h2 x (List.mem_of_mem_take hx), fun hc => h3 ?_⟩
  rw [clashes_iff] at hc ⊢
  rcases hc with hc | ⟨y, hy, q, hb⟩
  · exact .inl fun hn => hc ((List.take_sublist k L).nodup hn)
  · exact .inr ⟨y, List.mem_of_mem_take hy, q, hb.1, hb.2.1, List.mem_of_mem_take hb.2.2⟩
theorem rsortF_perm {L M : List (List Int)} (h : L.Perm M) : rsortF L = rsortF M :=
  sorted_unique (le := leF) (fun a b => leF_antisymm) (rsortF_sorted L) (rsortF_sorted M) ((rsort_perm L).trans (h.trans (rsort_perm M).symm))
end Go.Proofs.YtenoecffjfcifaaDoor.Pv
-- dir.Bytes.
namespace Go.Proofs.YtenoecffjfcifaaDoor.Pv
set_option linter.all false
set_option linter.unusedVariables false
open Go.RowKit Go.Proofs
set_option maxRecDepth 100000
set_option maxHeartbeats 4000000
theorem str_rows {l : List Int} (h : Oct l) : (str l).data.toList.map (fun b => [PV.v (.int .u8 b.toNat)]) = ints .u8 l := by
  rw [str_u8s, ints]
  simp only [u8s, List.map_map]
  apply List.map_congr_left
  intro x hx
  have := h x hx
  simp only [Function.comp_apply, UInt8.toNat_ofNat']
  rw [Nat.mod_eq_of_lt (by omega)]
  congr
  omega
theorem srcRows_str {S : List Blk} {l : List Int} (h : Oct l) : srcRows S 1 (.v (.string (str l))) = some (ints .u8 l) := by
  rw [← str_rows h]
  rfl
def entF (e : En) : List Int := leN e.1.length 2 ++ e.1 ++ leN e.2 4
def entsF (E : List En) : List Int := (E.map entF).flatten
theorem entsF_snoc {E : List En} {i : Nat} {e : En} (h : E[i]? = some e) : entsF (E.take (i + 1)) = entsF (E.take i) ++ entF e := by
  obtain ⟨h1, h2⟩ := List.getElem?_eq_some_iff.1 h
  rw [List.take_succ_eq_append_getElem h1, h2, entsF, entsF, List.map_append, List.flatten_append]
  simp
theorem entsF_len (E : List En) (h : ∀ e ∈ E, e.1.length ≤ 200) : (entsF E).length ≤ 206 * E.length := by
  induction E with
  | nil => simp [entsF]
  | cons e E ih =>
    have := ih fun x hx => h x (by simp [hx])
    have := h e (by simp)
    simp only [entsF, List.map_cons, List.flatten_cons, List.length_append, entF, leN_length, List.length_cons] at *
    omega
theorem checkF_zero {E : List En} (h : checkF E = 0) : rsetF (E.map (·.1)) = 0 ∧ rsortF (E.map (·.1)) = E.map (·.1) ∧ (∀ e ∈ E, 0 ≤ e.2) ∧ (E.map (·.2)).sum ≤ 65536 := by
  unfold checkF at h
  by_cases q0 : rsetF (E.map (·.1)) = 0
  · rw [if_neg (fun h => h q0)] at h
    by_cases q1 : rsortF (E.map (·.1)) = E.map (·.1)
    · rw [if_pos q1] at h
      by_cases q2 : ∃ e ∈ E, e.2 < 0
      · rw [if_pos q2] at h; cases h
      · rw [if_neg q2] at h
        by_cases q3 : 65536 < (E.map (·.2)).sum
        · rw [if_pos q3] at h; cases h
        · exact ⟨q0, q1, fun e he => by rcases Int.lt_or_le e.2 0 with h | h; exact absurd ⟨e, he, h⟩ q2; exact h, by omega⟩
    · rw [if_neg q1] at h; cases h
  · rw [if_pos q0] at h; exact absurd h q0
theorem mem_le_sum {l : List Int} (h : ∀ x ∈ l, 0 ≤ x) {x : Int} (hx : x ∈ l) : x ≤ l.sum := by
  induction l with
  | nil => cases hx
  | cons y l ih =>
    have h1 := h y (by simp)
    have h2 := sum_nonneg (l := l) fun z hz => h z (by simp [hz])
    rw [List.sum_cons]
    rcases List.mem_cons.1 hx with rfl | hx
    · omega
    · have := ih (fun z hz => h z (by simp [hz])) hx
      omega
theorem checkF_ents {E : List En} (h : checkF E = 0) : E.length ≤ 200 ∧ ∀ e ∈ E, e.1.length ≤ 200 ∧ 0 ≤ e.2 ∧ e.2 ≤ 65536 := by
  obtain ⟨h1, h2, h3, h4⟩ := checkF_zero h
  obtain ⟨k1, k2, k3⟩ := rsetF_zero.1 h1
  rw [List.length_map] at k1
  refine ⟨k1, fun e he => ⟨((rmay_iff _).1 (k2 e.1 (List.mem_map_of_mem he))).1, h3 e he, ?_⟩⟩
  have := mem_le_sum (l := E.map (·.2)) (by intro x hx; obtain ⟨e, he, rfl⟩ := List.mem_map.1 hx; exact h3 e he) (List.mem_map_of_mem he)
  omega
def bytesF15 (E : List En) : List Int := if checkF E = 0 then entsF E else []
theorem dbytes_ok (E : List En) (hE : EnsOk E) (hl : E.length ≤ 1000000) : PCall Tryd.prog 9 [.ro 2 false (entRows E)] (.tup [.ro 1 false (ints .u8 (bytesF15 E)), .v (.int .i64 (checkF E))]) := by
  have la := entRows_length E
  have c1 := dcheck_ok E hE hl
  by_cases q : checkF E = 0
  case neg =>
    rw [bytesF15, if_neg q]
    refine pcall_mkg Tryd.func9 rfl [.tmp 2, .tmp 3] Tryd.results9 33 rfl (tk_start ?_)
    (repeat refine ka ?_); refine kr ?_ ?_ (pops_end ?_)
    (repeat refine ka ?_); refine kr ?_ ?_ ?_
    refine ps_pcall c1 ?_
    refine pops_go ?_ ?_ (pops_end ?_)
    (repeat refine ka ?_); refine kr ?_ ?_ (pops_end ?_)
    (repeat refine ka ?_); refine kct ?_
    (repeat refine ka ?_); refine kr ?_ ?_ (pops_end ?_)
    (repeat refine ka ?_); refine kret ?_; repeat (first | with_reducible refine beh_r ?_ | with_reducible refine blk_r ?_)
    refine ends_ret ?_ retPV_two
    exact gives_two .nil (.same (.v _))
  rw [bytesF15, if_pos q]
  rw [q] at c1 ⊢
  obtain ⟨q1, q2⟩ := checkF_ents q
  refine pcall_mkg Tryd.func9 rfl [.tmp 2, .tmp 3] Tryd.results9 33 rfl (tk_start ?_)
  (repeat refine ka ?_); refine kr ?_ ?_ (pops_end ?_)
  (repeat refine ka ?_); refine kr ?_ ?_ ?_
  refine ps_pcall c1 ?_
  refine pops_go ?_ ?_ (pops_end ?_)
  (repeat refine ka ?_); refine kr ?_ ?_ (pops_end ?_)
  (repeat refine ka ?_); refine kcf ?_
  (repeat refine ka ?_); refine ksk ?_
  (repeat refine ka ?_); refine kr ?_ ?_ (pops_end ?_)
  (repeat refine ka ?_)
  refine kvoid 5 1 (fun g0 => ?_)
  (repeat refine ka ?_); refine kr ?_ ?_ (pops_end ?_)
  (repeat refine ka ?_); refine kb ?_
  refine kw (fun p : Nat × Nat => [(5, .vw 0 p.2 0 (entsF (E.take p.1)).length), (13, .ro 2 false (entRows E)), (14, .v (.int .i64 (entRows E).length)), (15, .v (.int .i64 p.1))]) (fun p => [⟨p.2, true, 1, ints .u8 (entsF (E.take p.1))⟩]) (fun p => p.1 ≤ E.length) (fun p => E.length - p.1) (0, g0) (Nat.zero_le _) (by simp only; rw [show entsF (E.take 0) = [] from rfl]; exact (holds 1 (by repeat (first | exact .nil | refine has1 ?_)))) ?_
  rintro ⟨i, g⟩ hi
  simp only at hi ⊢
  by_cases h : i < E.length
  · obtain ⟨e, he⟩ : ∃ e, E[i]? = some e := ⟨E[i], by simp [h]⟩
    have r1 := entRows_get he
    have hs := entsF_snoc he
    have hm := List.mem_of_getElem? he
    have ho := (hE e hm).1.1
    obtain ⟨b1, b2, b3⟩ := q2 e hm
    have hbl := entsF_len (E.take i) fun x hx => (q2 x (List.mem_of_mem_take hx)).1
    rw [List.length_take, Nat.min_eq_left hi] at hbl
    generalize entsF (E.take i) = B at hs hbl
    (repeat refine ka ?_); refine kr ?_ ?_ (pops_end ?_)
    (repeat refine ka ?_); refine kct ?_
    (repeat refine ka ?_); refine ksk ?_
    (repeat refine ka ?_); refine kb ?_
    (repeat refine ka ?_); refine kr ?_ ?_ ?_
    refine ps_alloc fun g1 => ?_
    refine ps_store ?_
    refine pops_nil ?_
    have hc1 := dlaid_ok g B (e.1.length : Int) (by omega) (by omega) 2 (.inl rfl) (by omega)
    (repeat refine ka ?_); refine kds [0, 1, 2, 3, 5, 6] [4, 7, 8] ?_
    have sl : ((str e.1).size : Int) = e.1.length := by rw [str_size]
    refine pstl_go ?_ ?_ (pstl_end ?_)
    refine hs_w [0, 1, 2, 3] [5, 6] ?_ (by refine pstl_go ?_ ?_ (pstl_end ?_); exact rfl); refine pstl_go ?_ ?_ (pstl_end ?_); refine ⟨rfl, ?_⟩
    refine ps_fcall [0] hc1 ?_ (by rintro x S' ⟨g', rfl, rfl⟩; exact Nat.le_of_ble_eq_true rfl)
    rintro x S' ⟨g2, rfl, rfl⟩
    (intro x1 S1 hx1 hS1; simp only [List.map_cons, List.map_nil, renB, ren_ints, putB, List.set_cons_zero, List.set_cons_succ, List.cons_append, List.nil_append, List.append_nil, renL, ren, sg, List.length_cons, List.length_nil, Nat.reduceAdd, Nat.zero_add, Nat.add_zero] at hx1 hS1; subst hx1 hS1)
    refine pops_nil ?_
    refine hs_w [5, 6] [] ?_ (by refine pstl_go ?_ ?_ (pstl_end ?_); exact rfl); refine pstl_go ?_ ?_ (pstl_end ?_); refine ⟨rfl, ?_⟩
    refine ps_app_vw (rows := ints .u8 e.1) (rows' := ints .u8 ((B ++ leN e.1.length 2) ++ e.1)) (m := B.length + 2 + e.1.length) (fun g3 => ?_) (hsrc := srcRows_str ho) (hrows := ints_append _ _ _) (hm := by rw [ints_length]) (hlen := by rw [ints_length, List.length_append, leN_length])
    refine pops_nil ?_
    refine hs_w [] [] ?_ (by refine pstl_go ?_ ?_ (pstl_end ?_); exact rfl); refine pstl_go ?_ ?_ (pstl_end ?_); refine ⟨rfl, ?_⟩
    refine ps_ev (p := .vw 0 g3 0 (B.length + 2 + e.1.length)) ?_ rfl
    refine pops_nil ?_
    refine hs_end ?_; refine pstl_go ?_ ?_ (pstl_end ?_); refine ⟨rfl, ?_⟩
    have hc2 := dlaid_ok g3 (B ++ leN e.1.length 2 ++ e.1) e.2 b2 (by omega) 4 (.inr rfl) (by simp [leN_length]; omega)
    rw [show (B ++ leN e.1.length 2 ++ e.1).length = B.length + 2 + e.1.length by simp [leN_length]; omega] at hc2
    (repeat refine ka ?_); refine kr ?_ ?_ ?_
    refine ps_fcall [0] hc2 ?_ (by rintro x S' ⟨g', rfl, rfl⟩; exact Nat.le_of_ble_eq_true rfl)
    rintro x S' ⟨g4, rfl, rfl⟩
    (intro x1 S1 hx1 hS1; simp only [List.map_cons, List.map_nil, renB, ren_ints, putB, List.set_cons_zero, List.set_cons_succ, List.cons_append, List.nil_append, List.append_nil, renL, ren, sg, List.length_cons, List.length_nil, Nat.reduceAdd, Nat.zero_add, Nat.add_zero] at hx1 hS1; subst hx1 hS1)
    refine pops_go ?_ ?_ (pops_end ?_)
    refine kn ?_; repeat (first | with_reducible refine blk_n ?_ | with_reducible refine beh_n ?_)
    (repeat refine ka ?_); refine kr ?_ ?_ (pops_end ?_)
    refine kn ?_; repeat (first | with_reducible refine blk_n ?_ | with_reducible refine beh_n ?_)
    refine ⟨(i + 1, g4), by simp only; omega, by simp only; omega, ?_⟩
    simp only
    rw [hs, show B ++ entF e = B ++ leN e.1.length 2 ++ e.1 ++ leN e.2 4 by simp [entF], show (B ++ leN e.1.length 2 ++ e.1 ++ leN e.2 4).length = B.length + 2 + e.1.length + 4 by simp [leN_length]; omega]
    exact (holds 1 (by repeat (first | exact .nil | refine has1 ?_)))
  · obtain rfl : i = E.length := by omega
    rw [List.take_length]
    (repeat refine ka ?_); refine kr ?_ ?_ (pops_end ?_)
    (repeat refine ka ?_); refine kcf ?_
    (repeat refine ka ?_); refine kx ?_; (repeat (first | with_reducible refine beh_x ?_ | with_reducible refine blk_up rfl ?_)); refine blk_here ?_; refine beh_n ?_
    (repeat refine ka ?_); refine kr ?_ ?_ (pops_end ?_)
    (repeat refine ka ?_); refine kret ?_; repeat (first | with_reducible refine beh_r ?_ | with_reducible refine blk_r ?_)
    refine ends_ret ?_ retPV_two
    exact gives_two (gives_ints rfl rfl rfl) (.same (.v _))
end Go.Proofs.YtenoecffjfcifaaDoor.Pv
-- carapaceref15.Bytes.
namespace Go.Proofs.YtenoecffjfcifaaDoor.Pv
set_option linter.all false
set_option linter.unusedVariables false
open Go.RowKit Go.Proofs
set_option maxRecDepth 100000
set_option maxHeartbeats 4000000
theorem rbytes15_ok (E : List En) (hE : EnsOk E) (hl : E.length ≤ 1000000) : PCall Tryd.prog 10 [.ro 2 false (entRows E)] (.tup [.ro 1 false (ints .u8 (bytesF15 E)), .v (.int .i64 (checkF E))]) := by
  have la := entRows_length E
  have c1 := rcheck_ok E hE hl
  by_cases q : checkF E = 0
  case neg =>
    rw [bytesF15, if_neg q]
    refine pcall_mkg Tryd.func10 rfl [.tmp 2, .tmp 3] Tryd.results10 62 rfl (tk_start ?_)
    (repeat refine ka ?_); refine kr ?_ ?_ (pops_end ?_)
    (repeat refine ka ?_); refine kr ?_ ?_ ?_
    refine ps_pcall c1 ?_
    refine pops_go ?_ ?_ (pops_end ?_)
    (repeat refine ka ?_); refine kr ?_ ?_ (pops_end ?_)
    (repeat refine ka ?_); refine kct ?_
    (repeat refine ka ?_); refine kr ?_ ?_ (pops_end ?_)
    (repeat refine ka ?_); refine kret ?_; repeat (first | with_reducible refine beh_r ?_ | with_reducible refine blk_r ?_)
    refine ends_ret ?_ retPV_two
    exact gives_two .nil (.same (.v _))
  rw [bytesF15, if_pos q]
  rw [q] at c1 ⊢
  obtain ⟨q1, q2⟩ := checkF_ents q
  refine pcall_mkg Tryd.func10 rfl [.tmp 2, .tmp 3] Tryd.results10 62 rfl (tk_start ?_)
  (repeat refine ka ?_); refine kr ?_ ?_ (pops_end ?_)
  (repeat refine ka ?_); refine kr ?_ ?_ ?_
  refine ps_pcall c1 ?_
  refine pops_go ?_ ?_ (pops_end ?_)
  (repeat refine ka ?_); refine kr ?_ ?_ (pops_end ?_)
  (repeat refine ka ?_); refine kcf ?_
  (repeat refine ka ?_); refine ksk ?_
  (repeat refine ka ?_); refine kr ?_ ?_ ?_
  refine ps_lit fun g0 => ?_
  refine pops_go ?_ ?_ (pops_end ?_)
  (repeat refine ka ?_); refine kr ?_ ?_ (pops_end ?_)
  (repeat refine ka ?_); refine kb ?_
  refine kw (fun p : Nat × Nat => [(0, .ro 2 false (entRows E)), (5, .vw 0 p.2 0 (entsF (E.take p.1)).length), (6, .v (.int .i64 p.1))]) (fun p => [⟨p.2, true, 1, ints .u8 (entsF (E.take p.1))⟩]) (fun p => p.1 ≤ E.length) (fun p => E.length - p.1) (0, g0) (Nat.zero_le _) (by simp only; rw [show entsF (E.take 0) = [] from rfl]; exact (holds 1 (by repeat (first | exact .nil | refine has1 ?_)))) ?_
  rintro ⟨i, g⟩ hi
  simp only at hi ⊢
  by_cases h : i < E.length
  · obtain ⟨e, he⟩ : ∃ e, E[i]? = some e := ⟨E[i], by simp [h]⟩
    have r1 := entRows_get he
    have hs := entsF_snoc he
    have hm := List.mem_of_getElem? he
    have ho := (hE e hm).1.1
    obtain ⟨b1, b2, b3⟩ := q2 e hm
    have hbl := entsF_len (E.take i) fun x hx => (q2 x (List.mem_of_mem_take hx)).1
    rw [List.length_take, Nat.min_eq_left hi] at hbl
    generalize entsF (E.take i) = B at hs hbl
    have sl : ((str e.1).size : Int) = e.1.length := by rw [str_size]
    have n2 : leN e.1.length 2 = [(e.1.length : Int) % 256, (e.1.length : Int) / 256] := by simp [leN]; omega
    have n4 : leN e.2 4 = [e.2 % 256, e.2 / 256 % 256, e.2 / 65536, 0] := by simp [leN]; omega
    have n2l : (leN (e.1.length : Int) 2).length = 2 := leN_length ..
    have n4l : (leN e.2 4).length = 4 := leN_length ..
    have w1 : IntKind.u8.wrap ((e.1.length : Int) % 256) = (e.1.length : Int) % 256 := by rw [IntKind.wrap_u8]; omega
    have w2 : IntKind.u8.wrap ((e.1.length : Int) / 256) = (e.1.length : Int) / 256 := by rw [IntKind.wrap_u8]; omega
    have w3 : IntKind.u8.wrap (e.2 % 256) = e.2 % 256 := by rw [IntKind.wrap_u8]; omega
    have w4 : IntKind.u8.wrap (e.2 / 256 % 256) = e.2 / 256 % 256 := by rw [IntKind.wrap_u8]; omega
    have w5 : IntKind.u8.wrap (e.2 / 65536) = e.2 / 65536 := by rw [IntKind.wrap_u8]; omega
    have hpl : ∀ row ∈ ints .u8 [(e.1.length : Int) % 256, (e.1.length : Int) / 256], ∀ z ∈ row, PV.Pure z := by
      intro row hr z hz
      obtain ⟨y, _, rfl⟩ := List.mem_map.1 hr
      rw [List.mem_singleton] at hz
      subst hz
      exact .v _
    (repeat refine ka ?_); refine kr ?_ ?_ (pops_end ?_)
    (repeat refine ka ?_); refine kct ?_
    (repeat refine ka ?_); refine ksk ?_
    (repeat refine ka ?_); refine kb ?_
    (repeat refine ka ?_); refine kr ?_ ?_ (pops_end ?_)
    (repeat refine ka ?_); refine kr ?_ ?_ (pops_end ?_)
    (repeat refine ka ?_); refine kds [0, 1, 2, 3, 4, 5, 6, 7, 9, 10, 11, 12, 13, 14] [8, 15, 16] ?_
    refine pstl_go ?_ ?_ ?_; refine pd_litg (rows := ints .u8 [(e.1.length : Int) % 256, (e.1.length : Int) / 256]) ?_ hpl; refine pstl_go ?_ ?_ ?_; refine pd_sb ho ?_; refine pstl_nil ?_
    refine hs_w [0, 1, 2, 3, 4, 5, 6, 7] [9, 10, 11, 12, 13, 14] ?_ (by refine pstl_go ?_ ?_ ?_; refine pd_litg (rows := ints .u8 [(e.1.length : Int) % 256, (e.1.length : Int) / 256]) ?_ hpl; refine pstl_go ?_ ?_ ?_; refine pd_sb ho ?_; refine pstl_nil ?_; exact rfl); refine pstl_go ?_ ?_ ?_; refine pd_litg (rows := ints .u8 [(e.1.length : Int) % 256, (e.1.length : Int) / 256]) ?_ hpl; refine pstl_nil ?_; refine ⟨rfl, ?_⟩
    refine ps_app_vw (rows' := ints .u8 (B ++ leN e.1.length 2)) (m := B.length + 2) (fun g2 => ?_) (hsrc := rfl) (hrows := by rw [n2]; exact ints_append _ _ _) (hm := by rfl) (hlen := by rw [ints_length])
    refine pops_nil ?_
    refine hs_w [9, 10, 11, 12, 13, 14] [] ?_ (by refine pstl_go ?_ ?_ ?_; refine pd_sb ho ?_; refine pstl_nil ?_; exact rfl); refine pstl_go ?_ ?_ ?_; refine pd_sb ho ?_; refine pstl_nil ?_; refine ⟨rfl, ?_⟩
    refine ps_app_vw (rows' := ints .u8 (B ++ leN e.1.length 2 ++ e.1)) (m := B.length + 2 + e.1.length) (fun g3 => ?_) (hsrc := rfl) (hrows := ints_append _ _ _) (hm := by rw [ints_length]) (hlen := by rw [ints_length, List.length_append, n2l])
    refine pops_nil ?_
    refine hs_w [] [] ?_ (by refine pstl_nil ?_; exact rfl); refine pstl_nil ?_; refine ⟨rfl, ?_⟩
    refine ps_ev (p := .vw 0 g3 0 (B.length + 2 + e.1.length)) ?_ rfl
    refine pops_nil ?_
    refine hs_end ?_; refine pstl_nil ?_; refine ⟨rfl, ?_⟩
    (repeat refine ka ?_); refine kr ?_ ?_ ?_
    refine ps_lit fun g4 => ?_
    refine ps_app_vw (rows := [[.v (.int .u8 (e.2 % 256))], [.v (.int .u8 (e.2 / 256 % 256))], [.v (.int .u8 (e.2 / 65536))], [.v (.int .u8 0)]]) (rows' := ints .u8 (B ++ leN e.1.length 2 ++ e.1 ++ leN e.2 4)) (m := B.length + 2 + e.1.length + 4) (fun g5 => ?_) (hrows := by simp [n4, ints]) (hlen := by rw [ints_length, List.length_append, List.length_append, n2l]) (hm := by rfl)
    refine pops_go ?_ ?_ (pops_end ?_)
    refine kn ?_; repeat (first | with_reducible refine blk_n ?_ | with_reducible refine beh_n ?_)
    (repeat refine ka ?_); refine kr ?_ ?_ (pops_end ?_)
    refine kn ?_; repeat (first | with_reducible refine blk_n ?_ | with_reducible refine beh_n ?_)
    refine ⟨(i + 1, g5), by simp only; omega, by simp only; omega, ?_⟩
    simp only
    rw [hs, show B ++ entF e = B ++ leN e.1.length 2 ++ e.1 ++ leN e.2 4 by simp [entF], show (B ++ leN e.1.length 2 ++ e.1 ++ leN e.2 4).length = B.length + 2 + e.1.length + 4 by simp [leN_length]; omega]
    exact (holds 1 (by repeat (first | exact .nil | refine has1 ?_)))
  · obtain rfl : i = E.length := by omega
    rw [List.take_length]
    (repeat refine ka ?_); refine kr ?_ ?_ (pops_end ?_)
    (repeat refine ka ?_); refine kcf ?_
    (repeat refine ka ?_); refine kx ?_; (repeat (first | with_reducible refine beh_x ?_ | with_reducible refine blk_up rfl ?_)); refine blk_here ?_; refine beh_n ?_
    (repeat refine ka ?_); refine kr ?_ ?_ (pops_end ?_)
    (repeat refine ka ?_); refine kret ?_; repeat (first | with_reducible refine beh_r ?_ | with_reducible refine blk_r ?_)
    refine ends_ret ?_ retPV_two
    exact gives_two (gives_ints rfl rfl rfl) (.same (.v _))
end Go.Proofs.YtenoecffjfcifaaDoor.Pv
-- dir.one.
namespace Go.Proofs.YtenoecffjfcifaaDoor.Pv
set_option linter.all false
set_option linter.unusedVariables false
open Go.RowKit Go.Proofs
set_option maxRecDepth 100000
set_option maxHeartbeats 4000000
def oneN (b : List Int) : Int := numLE (b.take (Int.toNat 2))
def oneP (b : List Int) : Prop := b.length < 2 ∨ ((b.drop (Int.toNat 2)).length : Int) < oneN b + 4
instance (b : List Int) : Decidable (oneP b) := inferInstanceAs (Decidable (_ ∨ _))
def oneE (b : List Int) : En := ((b.drop (Int.toNat 2)).take (oneN b).toNat, numLE (((b.drop (Int.toNat 2)).drop (oneN b).toNat).take ((oneN b + 4).toNat - (oneN b).toNat)))
def oneR (b : List Int) : List Int := (b.drop (Int.toNat 2)).drop (oneN b + 4).toNat
theorem oneN_bound {b : List Int} (hb : Oct b) : 0 ≤ oneN b ∧ oneN b ≤ 65535 := by
  obtain ⟨h1, h2⟩ := numLE_bound (oct_take hb (Int.toNat 2))
  refine ⟨h1, ?_⟩
  have : (b.take (Int.toNat 2)).length = 0 ∨ (b.take (Int.toNat 2)).length = 1 ∨ (b.take (Int.toNat 2)).length = 2 := by rw [List.length_take, show Int.toNat 2 = 2 from rfl]; omega
  unfold oneN
  generalize numLE (b.take (Int.toNat 2)) = n at *
  rcases this with h | h | h <;> rw [h] at h2 <;> simp at h2 <;> omega
theorem one_no (b : List Int) (hb : Oct b) (hl : b.length ≤ 1000000000) (h : oneP b) : PCall Tryd.prog 25 [.ro 1 false (ints .u8 b)] (.tup [.agg [.v (.string (str [])), .v (.int .i64 0)], .v (.slice none 0 0), .v (.bool false)]) := by
  by_cases q : b.length < 2
  · refine pcall_mk Tryd.func25 rfl [.cell 2 59, .tmp 3, .tmp 4] Tryd.results25 36 rfl (tk_start ?_)
    (repeat refine ka ?_); refine kr ?_ ?_ ?_
    refine ps_alloc fun g => ?_
    refine pops_go ?_ ?_ (pops_end ?_)
    (repeat refine ka ?_); refine kr ?_ ?_ (pops_end ?_)
    (repeat refine ka ?_); refine kct ?_
    (repeat refine ka ?_); refine kr ?_ ?_ ?_
    refine ps_store ?_
    refine pops_go ?_ ?_ (pops_end ?_)
    (repeat refine ka ?_); refine kret ?_; repeat (first | with_reducible refine beh_r ?_ | with_reducible refine blk_r ?_)
    refine ends_ret ?_ (retPV_3 res_cella res_tmp res_tmp)
    rfl
  · have h2 := h.resolve_left q
    have c := dnumber_ok (b.take (Int.toNat 2)) (oct_take hb _) (by rw [List.length_take, show Int.toNat 2 = 2 from rfl]; omega)
    obtain ⟨b1, b2⟩ := oneN_bound hb
    rw [show numLE (b.take (Int.toNat 2)) = oneN b from rfl] at c
    generalize oneN b = n at *
    refine pcall_mk Tryd.func25 rfl [.cell 2 59, .tmp 3, .tmp 4] Tryd.results25 36 rfl (tk_start ?_)
    (repeat refine ka ?_); refine kr ?_ ?_ ?_
    refine ps_alloc fun g => ?_
    refine pops_go ?_ ?_ (pops_end ?_)
    (repeat refine ka ?_); refine kr ?_ ?_ (pops_end ?_)
    (repeat refine ka ?_); refine kcf ?_
    (repeat refine ka ?_); refine ksk ?_
    (repeat refine ka ?_); refine kr ?_ ?_ ?_
    refine ps_pcall c ?_
    refine pops_go ?_ ?_ (pops_end ?_)
    (repeat refine ka ?_); refine kr ?_ ?_ (pops_end ?_)
    (repeat refine ka ?_); refine kr ?_ ?_ (pops_end ?_)
    (repeat refine ka ?_); refine kct ?_
    (repeat refine ka ?_); refine kr ?_ ?_ ?_
    refine ps_store ?_
    refine pops_go ?_ ?_ (pops_end ?_)
    (repeat refine ka ?_); refine kret ?_; repeat (first | with_reducible refine beh_r ?_ | with_reducible refine blk_r ?_)
    refine ends_ret ?_ (retPV_3 res_cella res_tmp res_tmp)
    rfl
theorem one_yes (b : List Int) (hb : Oct b) (hl : b.length ≤ 1000000000) (h : ¬ oneP b) : PCall Tryd.prog 25 [.ro 1 false (ints .u8 b)] (.tup [.agg (entRow (oneE b)), .ro 1 false (ints .u8 (oneR b)), .v (.bool true)]) := by
  obtain ⟨q, h2⟩ : ¬ b.length < 2 ∧ ¬ ((b.drop (Int.toNat 2)).length : Int) < oneN b + 4 := ⟨fun h' => h (.inl h'), fun h' => h (.inr h')⟩
  have c := dnumber_ok (b.take (Int.toNat 2)) (oct_take hb _) (by rw [List.length_take, show Int.toNat 2 = 2 from rfl]; omega)
  obtain ⟨b1, b2⟩ := oneN_bound hb
  have c2 := dnumber_ok (((b.drop (Int.toNat 2)).drop (oneN b).toNat).take ((oneN b + 4).toNat - (oneN b).toNat)) (oct_take (oct_drop (oct_drop hb _) _) _) (by rw [List.length_take]; omega)
  rw [show numLE (b.take (Int.toNat 2)) = oneN b from rfl] at c
  unfold oneE oneR entRow
  simp only
  generalize oneN b = n at *
  refine pcall_mk Tryd.func25 rfl [.cell 2 59, .tmp 3, .tmp 4] Tryd.results25 36 rfl (tk_start ?_)
  (repeat refine ka ?_); refine kr ?_ ?_ ?_
  refine ps_alloc fun g => ?_
  refine pops_go ?_ ?_ (pops_end ?_)
  (repeat refine ka ?_); refine kr ?_ ?_ (pops_end ?_)
  (repeat refine ka ?_); refine kcf ?_
  (repeat refine ka ?_); refine ksk ?_
  (repeat refine ka ?_); refine kr ?_ ?_ ?_
  refine ps_pcall c ?_
  refine pops_go ?_ ?_ (pops_end ?_)
  (repeat refine ka ?_); refine kr ?_ ?_ (pops_end ?_)
  (repeat refine ka ?_); refine kr ?_ ?_ (pops_end ?_)
  (repeat refine ka ?_); refine kcf ?_
  (repeat refine ka ?_); refine ksk ?_
  (repeat refine ka ?_); refine kds [0, 1, 2, 3, 4, 5, 6, 7, 8, 9, 10, 11, 12, 13, 14] [15, 16, 17] ?_
  refine pstl_go ?_ ?_ ?_; refine pd_cst ?_; refine pstl_go ?_ ?_ ?_; refine pd_pcall c2 ?_; refine pstl_go ?_ ?_ (pstl_end ?_)
  refine hs_w [0, 1, 2, 3, 4, 5, 6, 7, 8, 9, 10] [11, 12, 13, 14] ?_ (by refine pstl_go ?_ ?_ ?_; refine pd_cst ?_; refine pstl_go ?_ ?_ ?_; refine pd_pcall c2 ?_; refine pstl_go ?_ ?_ (pstl_end ?_); exact rfl); refine pstl_go ?_ ?_ ?_; refine pd_cst ?_; refine pstl_go ?_ ?_ ?_; refine pd_pcall c2 ?_; refine pstl_go ?_ ?_ (pstl_end ?_); refine ⟨rfl, ?_⟩
  refine ps_store ?_
  refine pops_nil ?_
  refine hs_w [11, 12, 13, 14] [] ?_ (by refine pstl_go ?_ ?_ (pstl_end ?_); exact rfl); refine pstl_go ?_ ?_ (pstl_end ?_); refine ⟨rfl, ?_⟩
  refine ps_ev (p := .ro 1 false (ints .u8 ((b.drop (Int.toNat 2)).drop (n + 4).toNat))) ?_ rfl
  refine pops_nil ?_
  refine hs_w [] [] ?_ (by refine pstl_nil ?_; exact rfl); refine pstl_nil ?_; refine ⟨rfl, ?_⟩
  refine ps_ev (p := .v (.bool true)) ?_ rfl
  refine pops_nil ?_
  refine hs_end ?_; refine pstl_nil ?_; refine ⟨rfl, ?_⟩
  (repeat refine ka ?_); refine kret ?_; repeat (first | with_reducible refine beh_r ?_ | with_reducible refine blk_r ?_)
  refine ends_ret ?_ (retPV_3 res_cella res_tmp res_tmp)
  rfl
end Go.Proofs.YtenoecffjfcifaaDoor.Pv
-- dir.Read.
namespace Go.Proofs.YtenoecffjfcifaaDoor.Pv
set_option linter.all false
set_option linter.unusedVariables false
open Go.RowKit Go.Proofs
set_option maxRecDepth 100000
set_option maxHeartbeats 4000000
def readS (b : List Int) : Nat → Option (List En × List Int)
  | 0 => some ([], b)
  | i + 1 => match readS b i with
    | none => none
    | some (L, r) => if oneP r then none else some (L ++ [oneE r], oneR r)
theorem readS_none {b : List Int} {i : Nat} (h : readS b i = none) : ∀ n, i ≤ n → readS b n = none := by
  intro n hn
  induction n with
  | zero => obtain rfl : i = 0 := by omega
            exact h
  | succ n ih =>
    by_cases q : i = n + 1
    · subst q; exact h
    · rw [readS, ih (by omega)]
def readF (b : List Int) (n : Int) : List En × Int :=
  if n < 0 ∨ 200 < n then ([], 1) else match readS b n.toNat with
    | none => ([], 3)
    | some (L, r) => if r ≠ [] then ([], 2) else if checkF L ≠ 0 then ([], checkF L) else (L, 0)
theorem readS_ok {b : List Int} (hb : Oct b) (hl : b.length ≤ 1000000000) : ∀ {i : Nat} {L : List En} {r : List Int}, readS b i = some (L, r) → Oct r ∧ r.length ≤ b.length ∧ L.length = i ∧ ∀ e ∈ L, EnOk e ∧ e.1.length ≤ 1000000000
  | 0, L, r, h => by
    rw [readS] at h
    cases h
    exact ⟨hb, Nat.le_refl _, rfl, by simp⟩
  | i + 1, L, r, h => by
    rw [readS] at h
    cases hS : readS b i with
    | none => rw [hS] at h; cases h
    | some p =>
      obtain ⟨M, q⟩ := p
      obtain ⟨h1, h2, h3, h4⟩ := readS_ok hb hl hS
      rw [hS] at h
      simp only at h
      split at h
      · cases h
      · cases h
        refine ⟨oct_drop (oct_drop h1 _) _, ?_, by simp [h3], ?_⟩
        · simp only [oneR, List.length_drop]; omega
        · intro e he
          rcases List.mem_append.1 he with he | he
          · exact h4 e he
          · cases List.mem_singleton.1 he
            refine ⟨⟨oct_take (oct_drop h1 _) _, ?_⟩, ?_⟩
            · simp only [oneE]
              obtain ⟨b1, b2⟩ := oneN_bound h1
              have hb4 := numLE_bound (l := ((q.drop (Int.toNat 2)).drop (oneN q).toNat).take ((oneN q + 4).toNat - (oneN q).toNat)) (oct_take (oct_drop (oct_drop h1 _) _) _)
              have hlen : (((q.drop (Int.toNat 2)).drop (oneN q).toNat).take ((oneN q + 4).toNat - (oneN q).toNat)).length ≤ 4 := by rw [List.length_take]; omega
              generalize ((q.drop (Int.toNat 2)).drop (oneN q).toNat).take ((oneN q + 4).toNat - (oneN q).toNat) = z at *
              generalize numLE z = m at *
              have hc : z.length = 0 ∨ z.length = 1 ∨ z.length = 2 ∨ z.length = 3 ∨ z.length = 4 := by omega
              rcases hc with hc | hc | hc | hc | hc <;> rw [hc] at hb4 <;> simp at hb4 <;> omega
            · simp only [oneE, List.length_take, List.length_drop]; omega
theorem lend_ents {S : List Blk} {T : List Nat} {τ g gg len : Nat} {o : Bool} {L : List En} (hT : τ ∈ T) (hb : S[τ]? = some ⟨gg, o, 2, entRows L⟩) (hg : gg = g) (hl : L.length = len) : Lend S T (.vw τ g 0 len) (.ro 2 false (entRows L)) :=
  .vw hT hb hg (by simp only; rw [List.drop_zero, ← hl, ← entRows_length L, List.take_length]) (entRows_pure L)
theorem dread_ok (b : List Int) (hb : Oct b) (hl : b.length ≤ 1000000000) (n : Int) : PCall Tryd.prog 12 [.ro 1 false (ints .u8 b), .v (.int .i64 n)] (.tup [.ro 2 false (entRows (readF b n).1), .v (.int .i64 (readF b n).2)]) := by
  by_cases q0 : n < 0
  · rw [readF, if_pos (.inl q0)]
    refine pcall_mkg Tryd.func12 rfl [.tmp 4, .tmp 5] Tryd.results12 43 rfl (tk_start ?_)
    (repeat refine ka ?_); refine kr ?_ ?_ (pops_end ?_)
    (repeat refine ka ?_); refine kr ?_ ?_ (pops_end ?_)
    (repeat refine ka ?_); refine kct ?_
    (repeat refine ka ?_); refine kr ?_ ?_ (pops_end ?_)
    (repeat refine ka ?_); refine kret ?_; repeat (first | with_reducible refine beh_r ?_ | with_reducible refine blk_r ?_)
    refine ends_ret ?_ retPV_two
    exact gives_two .nil (.same (.v _))
  by_cases q1 : 200 < n
  · rw [readF, if_pos (.inr q1)]
    refine pcall_mkg Tryd.func12 rfl [.tmp 4, .tmp 5] Tryd.results12 43 rfl (tk_start ?_)
    (repeat refine ka ?_); refine kr ?_ ?_ (pops_end ?_)
    (repeat refine ka ?_); refine kr ?_ ?_ (pops_end ?_)
    (repeat refine ka ?_); refine kct ?_
    (repeat refine ka ?_); refine kr ?_ ?_ (pops_end ?_)
    (repeat refine ka ?_); refine kret ?_; repeat (first | with_reducible refine beh_r ?_ | with_reducible refine blk_r ?_)
    refine ends_ret ?_ retPV_two
    exact gives_two .nil (.same (.v _))
  rw [readF, if_neg (by omega)]
  obtain ⟨N, rfl⟩ : ∃ N : Nat, n = N := ⟨n.toNat, by omega⟩
  rw [Int.toNat_natCast]
  refine pcall_mkg Tryd.func12 rfl [.tmp 4, .tmp 5] Tryd.results12 43 rfl (tk_start ?_)
  (repeat refine ka ?_); refine kr ?_ ?_ (pops_end ?_)
  (repeat refine ka ?_); refine kr ?_ ?_ (pops_end ?_)
  (repeat refine ka ?_); refine kcf ?_
  (repeat refine ka ?_); refine ksk ?_
  (repeat refine ka ?_)
  (repeat refine ka ?_); refine kr ?_ ?_ (pops_end ?_)
  (repeat refine ka ?_)
  refine kvoid 6 2 (fun g0 => ?_)
  (repeat refine ka ?_); refine kr ?_ ?_ (pops_end ?_)
  (repeat refine ka ?_); refine kb ?_
  refine kw (fun p : Nat × Nat × List En × List Int => [(0, .ro 1 false (ints .u8 p.2.2.2)), (6, .vw 0 p.2.1 0 p.1), (17, .v (.int .i64 N)), (18, .v (.int .i64 p.1))]) (fun p => [⟨p.2.1, true, 2, entRows p.2.2.1⟩]) (fun p => p.1 ≤ N ∧ readS b p.1 = some (p.2.2.1, p.2.2.2)) (fun p => N - p.1) (0, g0, [], b) ⟨Nat.zero_le _, rfl⟩ (holds 1 (by repeat (first | exact .nil | refine has1 ?_))) ?_
  rintro ⟨i, g, L, r⟩ ⟨hi, hS⟩
  simp only at hi hS ⊢
  obtain ⟨h1, h2, h3, h4⟩ := readS_ok hb hl hS
  have la := entRows_length L
  by_cases h : i < N
  · by_cases q : oneP r
    · have hn : readS b N = none := readS_none (i := i + 1) (by rw [readS, hS]; simp only; rw [if_pos q]) N (by omega)
      have c := one_no r h1 (by omega) q
      rw [hn]
      (repeat refine ka ?_); refine kr ?_ ?_ (pops_end ?_)
      (repeat refine ka ?_); refine kct ?_
      (repeat refine ka ?_); refine ksk ?_
      (repeat refine ka ?_); refine kb ?_
      (repeat refine ka ?_); refine kr ?_ ?_ ?_
      refine ps_pcall c ?_
      refine pops_go ?_ ?_ ?_
      refine ps_alloc fun g1 => ?_
      refine ps_store ?_
      refine pops_go ?_ ?_ (pops_end ?_)
      (repeat refine ka ?_); refine kr ?_ ?_ (pops_end ?_)
      (repeat refine ka ?_); refine kct ?_
      (repeat refine ka ?_); refine kr ?_ ?_ (pops_end ?_)
      (repeat refine ka ?_); refine kret ?_; repeat (first | with_reducible refine beh_r ?_ | with_reducible refine blk_r ?_)
      refine ends_ret ?_ retPV_two
      exact gives_two .nil (.same (.v _))
    · have c := one_yes r h1 (by omega) q
      have hS1 : readS b (i + 1) = some (L ++ [oneE r], oneR r) := by rw [readS, hS]; simp only; rw [if_neg q]
      unfold entRow at c
      (repeat refine ka ?_); refine kr ?_ ?_ (pops_end ?_)
      (repeat refine ka ?_); refine kct ?_
      (repeat refine ka ?_); refine ksk ?_
      (repeat refine ka ?_); refine kb ?_
      (repeat refine ka ?_); refine kr ?_ ?_ ?_
      refine ps_pcall c ?_
      refine pops_go ?_ ?_ ?_
      refine ps_alloc fun g1 => ?_
      refine ps_store ?_
      refine pops_go ?_ ?_ (pops_end ?_)
      (repeat refine ka ?_); refine kr ?_ ?_ (pops_end ?_)
      (repeat refine ka ?_); refine kcf ?_
      (repeat refine ka ?_); refine ksk ?_
      (repeat refine ka ?_); refine kr ?_ ?_ ?_
      refine ps_lit fun g2 => ?_
      refine ps_app_vw (rows := [[.v (.string (str (oneE r).1)), .v (.int .i64 (oneE r).2)]]) (rows' := entRows (L ++ [oneE r])) (m := i + 1) (fun g3 => ?_) (hrows := by rw [entRows_app]; rfl) (hlen := by rw [entRows_length, h3]) (hm := by rfl)
      refine pops_go ?_ ?_ (pops_end ?_)
      refine kn ?_; repeat (first | with_reducible refine blk_n ?_ | with_reducible refine beh_n ?_)
      (repeat refine ka ?_); refine kr ?_ ?_ (pops_end ?_)
      refine kn ?_; repeat (first | with_reducible refine blk_n ?_ | with_reducible refine beh_n ?_)
      exact ⟨(i + 1, g3, L ++ [oneE r], oneR r), ⟨by simp only; omega, hS1⟩, by simp only; omega, (holds 1 (by repeat (first | exact .nil | refine has1 ?_)))⟩
  · obtain rfl : i = N := by omega
    rw [hS]
    simp only
    have hE : EnsOk L := h4
    have c := dcheck_ok L hE (by omega)
    (repeat refine ka ?_); refine kr ?_ ?_ (pops_end ?_)
    (repeat refine ka ?_); refine kcf ?_
    (repeat refine ka ?_); refine kx ?_; (repeat (first | with_reducible refine beh_x ?_ | with_reducible refine blk_up rfl ?_)); refine blk_here ?_; refine beh_n ?_
    by_cases q2 : r = []
    case neg =>
      have hpos : 0 < (r.length : Int) := by have := List.length_pos_iff.2 q2; omega
      rw [if_pos q2]
      (repeat refine ka ?_); refine kr ?_ ?_ (pops_end ?_)
      (repeat refine ka ?_); refine kct ?_
      (repeat refine ka ?_); refine kr ?_ ?_ (pops_end ?_)
      (repeat refine ka ?_); refine kret ?_; repeat (first | with_reducible refine beh_r ?_ | with_reducible refine blk_r ?_)
      refine ends_ret ?_ retPV_two
      exact gives_two .nil (.same (.v _))
    subst q2
    rw [if_neg (fun h => h rfl)]
    have hz : ¬ ((([] : List Int).length : Int) > 0) := by simp
    (repeat refine ka ?_); refine kr ?_ ?_ (pops_end ?_)
    (repeat refine ka ?_); refine kcf ?_
    (repeat refine ka ?_); refine ksk ?_
    (repeat refine ka ?_)
    refine kfreeze 0 ?_
    refine kfzT 6 [0] (y := .ro 2 false (entRows L)) ?_ (lend_ents (List.mem_singleton.2 rfl) rfl rfl h3) (by intro τ hτ blk hb; cases List.mem_singleton.1 hτ; cases hb; rfl)
    (repeat refine ka ?_); refine kr ?_ ?_ ?_
    refine ps_pcall c ?_
    refine pops_go ?_ ?_ (pops_end ?_)
    by_cases q3 : checkF L = 0
    case neg =>
      rw [if_pos q3]
      (repeat refine ka ?_); refine kr ?_ ?_ (pops_end ?_)
      (repeat refine ka ?_); refine kct ?_
      (repeat refine ka ?_); refine kr ?_ ?_ (pops_end ?_)
      (repeat refine ka ?_); refine kret ?_; repeat (first | with_reducible refine beh_r ?_ | with_reducible refine blk_r ?_)
      refine ends_ret ?_ retPV_two
      exact gives_two .nil (.same (.v _))
    rw [if_neg (fun h => h q3)]
    (repeat refine ka ?_); refine kr ?_ ?_ (pops_end ?_)
    (repeat refine ka ?_); refine kcf ?_
    (repeat refine ka ?_); refine ksk ?_
    (repeat refine ka ?_); refine kr ?_ ?_ (pops_end ?_)
    (repeat refine ka ?_); refine kret ?_; repeat (first | with_reducible refine beh_r ?_ | with_reducible refine blk_r ?_)
    refine ends_ret ?_ retPV_two
    exact gives_two (.same (.ro (entRows_pure _))) (.same (.v _))
end Go.Proofs.YtenoecffjfcifaaDoor.Pv
-- carapaceref15.Read.
namespace Go.Proofs.YtenoecffjfcifaaDoor.Pv
set_option linter.all false
set_option linter.unusedVariables false
open Go.RowKit Go.Proofs
set_option maxRecDepth 100000
set_option maxHeartbeats 4000000
theorem drop_cons {b : List Int} {a : Nat} (h : a < b.length) : b.drop a = b.getD a 0 :: b.drop (a + 1) := by
  rw [List.drop_eq_getElem_cons h, List.getD_eq_getElem?_getD, List.getElem?_eq_getElem h]
  rfl
theorem num2 {b : List Int} {a : Nat} (h : a + 2 ≤ b.length) : numLE ((b.drop a).take 2) = b.getD a 0 + 256 * b.getD (a + 1) 0 := by
  rw [drop_cons (by omega : a < b.length), drop_cons (by omega : a + 1 < b.length)]
  simp [numLE]
theorem num4 {b : List Int} {a : Nat} (h : a + 4 ≤ b.length) : numLE ((b.drop a).take 4) = b.getD a 0 + 256 * b.getD (a + 1) 0 + 65536 * b.getD (a + 2) 0 + 16777216 * b.getD (a + 3) 0 := by
  rw [drop_cons (by omega : a < b.length), drop_cons (by omega : a + 1 < b.length), drop_cons (by omega : a + 1 + 1 < b.length), drop_cons (by omega : a + 1 + 1 + 1 < b.length)]
  simp [numLE, Nat.add_assoc]
  omega
theorem rread_ok (b : List Int) (hb : Oct b) (hl : b.length ≤ 1000000000) (n : Int) : PCall Tryd.prog 13 [.ro 1 false (ints .u8 b), .v (.int .i64 n)] (.tup [.ro 2 false (entRows (readF b n).1), .v (.int .i64 (readF b n).2)]) := by
  by_cases q0 : n < 0
  · rw [readF, if_pos (.inl q0)]
    refine pcall_mkg Tryd.func13 rfl [.tmp 4, .tmp 5] Tryd.results13 107 rfl (tk_start ?_)
    (repeat refine ka ?_); refine kr ?_ ?_ (pops_end ?_)
    (repeat refine ka ?_); refine kr ?_ ?_ (pops_end ?_)
    (repeat refine ka ?_); refine kct ?_
    (repeat refine ka ?_); refine kr ?_ ?_ (pops_end ?_)
    (repeat refine ka ?_); refine kret ?_; repeat (first | with_reducible refine beh_r ?_ | with_reducible refine blk_r ?_)
    refine ends_ret ?_ retPV_two
    exact gives_two .nil (.same (.v _))
  by_cases q1 : 200 < n
  · rw [readF, if_pos (.inr q1)]
    refine pcall_mkg Tryd.func13 rfl [.tmp 4, .tmp 5] Tryd.results13 107 rfl (tk_start ?_)
    (repeat refine ka ?_); refine kr ?_ ?_ (pops_end ?_)
    (repeat refine ka ?_); refine kr ?_ ?_ (pops_end ?_)
    (repeat refine ka ?_); refine kct ?_
    (repeat refine ka ?_); refine kr ?_ ?_ (pops_end ?_)
    (repeat refine ka ?_); refine kret ?_; repeat (first | with_reducible refine beh_r ?_ | with_reducible refine blk_r ?_)
    refine ends_ret ?_ retPV_two
    exact gives_two .nil (.same (.v _))
  rw [readF, if_neg (by omega)]
  obtain ⟨N, rfl⟩ : ∃ N : Nat, n = N := ⟨n.toNat, by omega⟩
  rw [Int.toNat_natCast]
  refine pcall_mkg Tryd.func13 rfl [.tmp 4, .tmp 5] Tryd.results13 107 rfl (tk_start ?_)
  (repeat refine ka ?_); refine kr ?_ ?_ (pops_end ?_)
  (repeat refine ka ?_); refine kr ?_ ?_ (pops_end ?_)
  (repeat refine ka ?_); refine kcf ?_
  (repeat refine ka ?_); refine ksk ?_
  (repeat refine ka ?_)
  (repeat refine ka ?_); refine kr ?_ ?_ (pops_end ?_)
  (repeat refine ka ?_)
  refine kvoid 6 2 (fun g0 => ?_)
  (repeat refine ka ?_); refine kr ?_ ?_ (pops_end ?_)
  (repeat refine ka ?_); refine kr ?_ ?_ (pops_end ?_)
  (repeat refine ka ?_); refine kb ?_
  refine kw (fun p : Nat × Nat × List En × Nat => [(0, .ro 1 false (ints .u8 b)), (1, .v (.int .i64 N)), (6, .vw 0 p.2.1 0 p.1), (7, .v (.int .i64 p.2.2.2)), (8, .v (.int .i64 p.1))]) (fun p => [⟨p.2.1, true, 2, entRows p.2.2.1⟩]) (fun p => p.1 ≤ N ∧ p.2.2.2 ≤ b.length ∧ readS b p.1 = some (p.2.2.1, b.drop p.2.2.2)) (fun p => N - p.1) (0, g0, [], 0) ⟨Nat.zero_le _, Nat.zero_le _, by simp [readS]⟩ (holds 1 (by repeat (first | exact .nil | refine has1 ?_))) ?_
  rintro ⟨i, g, L, a⟩ ⟨hi, ha, hS⟩
  simp only at hi ha hS ⊢
  obtain ⟨h1, h2, h3, h4⟩ := readS_ok hb hl hS
  have la := entRows_length L
  have hdl : (b.drop a).length = b.length - a := List.length_drop
  by_cases h : i < N
  · have fail : oneP (b.drop a) → readS b N = none := fun q => readS_none (i := i + 1) (by rw [readS, hS]; simp only; rw [if_pos q]) N (by omega)
    by_cases p1 : (b.length : Int) < a + 2
    · rw [fail (.inl (by omega))]
      (repeat refine ka ?_); refine kr ?_ ?_ (pops_end ?_)
      (repeat refine ka ?_); refine kct ?_
      (repeat refine ka ?_); refine ksk ?_
      (repeat refine ka ?_); refine kb ?_
      (repeat refine ka ?_); refine kr ?_ ?_ (pops_end ?_)
      (repeat refine ka ?_); refine kct ?_
      (repeat refine ka ?_); refine kr ?_ ?_ (pops_end ?_)
      (repeat refine ka ?_); refine kret ?_; repeat (first | with_reducible refine beh_r ?_ | with_reducible refine blk_r ?_)
      refine ends_ret ?_ retPV_two
      exact gives_two .nil (.same (.v _))
    have d0 := getD_oct' hb (a : Int).toNat
    have d1 := getD_oct' hb ((a : Int) + 1).toNat
    obtain ⟨b1, b2⟩ := oneN_bound h1
    have hK : b.getD (a : Int).toNat 0 + 256 * b.getD ((a : Int) + 1).toNat 0 = oneN (b.drop a) := by
      rw [oneN, show Int.toNat 2 = 2 from rfl, num2 (by omega), show (a : Int).toNat = a by omega, show ((a : Int) + 1).toNat = a + 1 by omega]
    have hd2 : ((b.drop a).drop (Int.toNat 2)).length = b.length - a - 2 := by rw [List.length_drop, hdl]; rfl
    have hP : oneP (b.drop a) ↔ (b.length : Int) < a + 2 + oneN (b.drop a) + 4 := by unfold oneP; rw [hd2, hdl]; omega
    have hEp : (oneE (b.drop a)).1 = (b.drop ((a : Int) + 2).toNat).take (((a : Int) + 2 + oneN (b.drop a)).toNat - ((a : Int) + 2).toNat) := by
      simp only [oneE]
      rw [List.drop_drop, show ((a : Int) + 2 + oneN (b.drop a)).toNat - ((a : Int) + 2).toNat = (oneN (b.drop a)).toNat by omega, show ((a : Int) + 2).toNat = a + Int.toNat 2 by simp; omega]
    have hER : oneR (b.drop a) = b.drop (a + 2 + (oneN (b.drop a)).toNat + 4) := by
      simp only [oneR]
      rw [List.drop_drop, List.drop_drop]
      congr 1
      simp
      omega
    have hEs : (oneE (b.drop a)).2 = numLE ((b.drop (a + 2 + (oneN (b.drop a)).toNat)).take 4) := by
      simp only [oneE]
      rw [List.drop_drop, List.drop_drop, show (oneN (b.drop a) + 4).toNat - (oneN (b.drop a)).toNat = 4 by omega, show a + (Int.toNat 2 + (oneN (b.drop a)).toNat) = a + 2 + (oneN (b.drop a)).toNat by rw [show Int.toNat 2 = 2 from rfl]; omega]
    have hyes : ¬ oneP (b.drop a) → readS b (i + 1) = some (L ++ [oneE (b.drop a)], oneR (b.drop a)) := fun q => by rw [readS, hS]; simp only; rw [if_neg q]
    have hE2 : oneE (b.drop a) = ((oneE (b.drop a)).1, (oneE (b.drop a)).2) := rfl
    generalize oneE (b.drop a) = ee at *
    generalize oneR (b.drop a) = rr at *
    generalize oneN (b.drop a) = K at *
    generalize oneP (b.drop a) = PP at *
    by_cases p2 : (b.length : Int) < a + 2 + K + 4
    · rw [fail (hP.2 p2)]
      (repeat refine ka ?_); refine kr ?_ ?_ (pops_end ?_)
      (repeat refine ka ?_); refine kct ?_
      (repeat refine ka ?_); refine ksk ?_
      (repeat refine ka ?_); refine kb ?_
      (repeat refine ka ?_); refine kr ?_ ?_ (pops_end ?_)
      (repeat refine ka ?_); refine kcf ?_
      (repeat refine ka ?_); refine ksk ?_
      (repeat refine ka ?_); refine kd ?_ ?_ (pstl_end ?_)
      rw [hK]
      (repeat refine ka ?_); refine kr ?_ ?_ (pops_end ?_)
      (repeat refine ka ?_); refine kr ?_ ?_ (pops_end ?_)
      (repeat refine ka ?_); refine kct ?_
      (repeat refine ka ?_); refine kr ?_ ?_ (pops_end ?_)
      (repeat refine ka ?_); refine kret ?_; repeat (first | with_reducible refine beh_r ?_ | with_reducible refine blk_r ?_)
      refine ends_ret ?_ retPV_two
      exact gives_two .nil (.same (.v _))
    have hS1 := hyes (fun h => p2 (hP.1 h))
    have e0 := getD_oct' hb ((a : Int) + 2 + K).toNat
    have e1 := getD_oct' hb ((a : Int) + 2 + K + 1).toNat
    have e2 := getD_oct' hb ((a : Int) + 2 + K + 2).toNat
    have e3 := getD_oct' hb ((a : Int) + 2 + K + 3).toNat
    have hsz : b.getD ((a : Int) + 2 + K).toNat 0 + 256 * b.getD ((a : Int) + 2 + K + 1).toNat 0 + 65536 * b.getD ((a : Int) + 2 + K + 2).toNat 0 + 16777216 * b.getD ((a : Int) + 2 + K + 3).toNat 0 = ee.2 := by
      rw [hEs, num4 (by omega), show ((a : Int) + 2 + K).toNat = a + 2 + K.toNat by omega, show ((a : Int) + 2 + K + 1).toNat = a + 2 + K.toNat + 1 by omega, show ((a : Int) + 2 + K + 2).toNat = a + 2 + K.toNat + 2 by omega, show ((a : Int) + 2 + K + 3).toNat = a + 2 + K.toNat + 3 by omega]
    clear hEs hP hyes fail
    (repeat refine ka ?_); refine kr ?_ ?_ (pops_end ?_)
    (repeat refine ka ?_); refine kct ?_
    (repeat refine ka ?_); refine ksk ?_
    (repeat refine ka ?_); refine kb ?_
    (repeat refine ka ?_); refine kr ?_ ?_ (pops_end ?_)
    (repeat refine ka ?_); refine kcf ?_
    (repeat refine ka ?_); refine ksk ?_
    (repeat refine ka ?_); refine kd ?_ ?_ (pstl_end ?_)
    rw [hK]
    (repeat refine ka ?_); refine kr ?_ ?_ (pops_end ?_)
    (repeat refine ka ?_); refine kr ?_ ?_ (pops_end ?_)
    (repeat refine ka ?_); refine kcf ?_
    (repeat refine ka ?_); refine ksk ?_
    (repeat refine ka ?_); refine kr ?_ ?_ ?_
    refine ps_cst ?_
    refine pops_go ?_ ?_ ?_
    refine ps_alloc fun g1 => ?_
    refine ps_store ?_
    refine pops_go ?_ ?_ (pops_end ?_)
    rw [← hEp]
    (repeat refine ka ?_); refine kr ?_ ?_ (pops_end ?_)
    (repeat refine ka ?_); refine kdt 30 ?_
    refine pstl_go ?_ ?_ (pstl_end ?_)
    rw [hsz]
    refine ps_store ?_
    refine pops_nil ?_
    (repeat refine ka ?_); refine kr ?_ ?_ (pops_end ?_)
    (repeat refine ka ?_); refine kr ?_ ?_ ?_
    refine ps_lit fun g2 => ?_
    refine ps_app_vw (rows := [[.v (.string (str ee.1)), .v (.int .i64 ee.2)]]) (rows' := entRows (L ++ [ee])) (m := i + 1) (fun g3 => ?_) (hrows := by rw [entRows_app]; rfl) (hlen := by rw [entRows_length, h3]) (hm := by rfl)
    refine pops_go ?_ ?_ (pops_end ?_)
    refine kn ?_; repeat (first | with_reducible refine blk_n ?_ | with_reducible refine beh_n ?_)
    (repeat refine ka ?_); refine kr ?_ ?_ (pops_end ?_)
    refine kn ?_; repeat (first | with_reducible refine blk_n ?_ | with_reducible refine beh_n ?_)
    refine ⟨(i + 1, g3, L ++ [ee], a + 2 + K.toNat + 4), ⟨by simp only; omega, by simp only; omega, by simp only; rw [hS1, hER]⟩, by simp only; omega, ?_⟩
    simp only
    rw [show ((a + 2 + K.toNat + 4 : Nat) : Int) = (a : Int) + 2 + K + 4 by omega]
    exact (holds 1 (by repeat (first | exact .nil | refine has1 ?_)))
  · obtain rfl : i = N := by omega
    rw [hS]
    simp only
    have hE : EnsOk L := h4
    have c := rcheck_ok L hE (by omega)
    (repeat refine ka ?_); refine kr ?_ ?_ (pops_end ?_)
    (repeat refine ka ?_); refine kcf ?_
    (repeat refine ka ?_); refine kx ?_; (repeat (first | with_reducible refine beh_x ?_ | with_reducible refine blk_up rfl ?_)); refine blk_here ?_; refine beh_n ?_
    by_cases q2 : b.drop a = []
    case neg =>
      have hpos : (a : Int) ≠ (b.length : Int) := by have := List.length_pos_iff.2 q2; omega
      rw [if_pos q2]
      (repeat refine ka ?_); refine kr ?_ ?_ (pops_end ?_)
      (repeat refine ka ?_); refine kct ?_
      (repeat refine ka ?_); refine kr ?_ ?_ (pops_end ?_)
      (repeat refine ka ?_); refine kret ?_; repeat (first | with_reducible refine beh_r ?_ | with_reducible refine blk_r ?_)
      refine ends_ret ?_ retPV_two
      exact gives_two .nil (.same (.v _))
    have hz : (a : Int) = (b.length : Int) := by rw [q2] at hdl; simp at hdl; omega
    rw [if_neg (fun h => h q2)]
    (repeat refine ka ?_); refine kr ?_ ?_ (pops_end ?_)
    (repeat refine ka ?_); refine kcf ?_
    (repeat refine ka ?_); refine ksk ?_
    (repeat refine ka ?_)
    refine kfreeze 0 ?_
    refine kfzT 6 [0] (y := .ro 2 false (entRows L)) ?_ (lend_ents (List.mem_singleton.2 rfl) rfl rfl h3) (by intro τ hτ blk hb; cases List.mem_singleton.1 hτ; cases hb; rfl)
    (repeat refine ka ?_); refine kr ?_ ?_ ?_
    refine ps_pcall c ?_
    refine pops_go ?_ ?_ (pops_end ?_)
    by_cases q3 : checkF L = 0
    case neg =>
      rw [if_pos q3]
      (repeat refine ka ?_); refine kr ?_ ?_ (pops_end ?_)
      (repeat refine ka ?_); refine kct ?_
      (repeat refine ka ?_); refine kr ?_ ?_ (pops_end ?_)
      (repeat refine ka ?_); refine kret ?_; repeat (first | with_reducible refine beh_r ?_ | with_reducible refine blk_r ?_)
      refine ends_ret ?_ retPV_two
      exact gives_two .nil (.same (.v _))
    rw [if_neg (fun h => h q3)]
    (repeat refine ka ?_); refine kr ?_ ?_ (pops_end ?_)
    (repeat refine ka ?_); refine kcf ?_
    (repeat refine ka ?_); refine ksk ?_
    (repeat refine ka ?_); refine kr ?_ ?_ (pops_end ?_)
    (repeat refine ka ?_); refine kret ?_; repeat (first | with_reducible refine beh_r ?_ | with_reducible refine blk_r ?_)
    refine ends_ret ?_ retPV_two
    exact gives_two (.same (.ro (entRows_pure _))) (.same (.v _))
end Go.Proofs.YtenoecffjfcifaaDoor.Pv
