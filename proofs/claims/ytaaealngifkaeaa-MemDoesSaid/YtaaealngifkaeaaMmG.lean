-- carapacelaw09.MemDoes: what it asks, by parts.
import Derived.Test.YtaaealngifkaeaaMmF
import Derived.Test.YtaaealngifkaeaaSameB
namespace Go.Proofs.Ytaaealngifkaeaa.Pv
set_option linter.all false
open Go.RowKit Go.Proofs
set_option maxRecDepth 100000
set_option maxHeartbeats 4000000
theorem wf_i64' {n : Int} (h : (Lit.int .i64 n).wf = true) : -9223372036854775808 ≤ n ∧ n ≤ 9223372036854775807 := by
  simp [Lit.wf, IntKind.min, IntKind.max, IntKind.bits, IntKind.signed] at h
  omega
theorem wf_oct' {l : List Int} (h : ∀ n ∈ l, (Lit.int .u8 n).wf = true) : Oct l := fun x hx => wf_u8 (h x hx)
structure Act4 where
  d : Int
  a : Int
  n : Int
  B : List Int
def Act4.row (x : Act4) : List PV := [.v (.int .i64 x.d), .v (.int .u32 x.a), .v (.int .u32 x.n), .ro 1 false (ints .u8 x.B)]
def Act4.ok (x : Act4) : Prop := (0 ≤ x.a ∧ x.a < 4294967296) ∧ (0 ≤ x.n ∧ x.n < 4294967296) ∧ Oct x.B ∧ x.B.length ≤ 140737488351232
theorem acts_of : ∀ {rows : List (List PV)}, (∀ row ∈ rows, SFs [SInt .i64, SInt .u32, SInt .u32, SSl 1 1 (SInt .u8)] row) → ∃ l : List Act4, rows = l.map Act4.row ∧ ∀ x ∈ l, x.ok
  | [], _ => ⟨[], rfl, by simp⟩
  | row :: rows, h => by
    obtain ⟨l, rfl, hl⟩ := acts_of (rows := rows) fun r hr => h r (by simp [hr])
    obtain ⟨p1, q1, e1, ⟨d, rfl, h1⟩, p2, q2, rfl, ⟨a, rfl, h2⟩, p3, q3, rfl, ⟨n, rfl, h3⟩, p4, q4, rfl, h4, rfl⟩ := h row (by simp)
    obtain ⟨rows', rfl, g2, g3, g4⟩ := h4
    obtain ⟨B, rfl, g5⟩ := rows_ints g4
    rw [ints_length] at g2
    refine ⟨⟨d, a, n, B⟩ :: l, ?_, ?_⟩
    · rw [e1]; rfl
    · intro x hx
      rcases List.mem_cons.1 hx with rfl | hx
      · exact ⟨wf_u32' h2, wf_u32' h3, wf_oct' g5, by simpa using g2⟩
      · exact hl x hx
def smallN (l : List Act4) : Nat → Int
  | 0 => 0
  | i + 1 => smallN l i + (match l[i]? with | some x => (x.B.length : Int) | none => 0) + 1
theorem smallN_le (l : List Act4) : ∀ i j : Nat, i ≤ j → smallN l i ≤ smallN l j
  | i, 0, h => by obtain rfl : i = 0 := by omega
                  exact Int.le_refl _
  | i, j + 1, h => by
    rcases Nat.lt_or_ge i (j + 1) with h1 | h1
    · have := smallN_le l i j (by omega)
      simp only [smallN]
      split
      · rename_i x _
        have := Int.natCast_nonneg x.B.length
        omega
      · omega
    · obtain rfl : i = j + 1 := by omega
      exact Int.le_refl _
theorem smallN_at (l : List Act4) (i j : Nat) (x : Act4) (h : l[i]? = some x) (hj : i < j) : (x.B.length : Int) < smallN l j := by
  have h0 := smallN_le l 0 i (by omega)
  have := smallN_le l (i + 1) j (by omega)
  simp only [smallN, h] at this h0
  omega
instance (l : List Act4) : PureC (.ro 4 false (l.map Act4.row)) := ⟨.ro fun row hr x hx => by
  obtain ⟨y, _, rfl⟩ := List.mem_map.1 hr
  simp only [Act4.row, List.mem_cons, List.not_mem_nil, or_false] at hx
  rcases hx with rfl | rfl | rfl | rfl
  · exact .v _
  · exact .v _
  · exact .v _
  · exact ints_pure _ _ _ _⟩
theorem mem_small (l : List Act4) (hl : ∀ x ∈ l, x.ok) (hlen : l.length ≤ 140737488351232) : ∃ b, (b = true → ∀ x ∈ l, x.B.length < 3000) ∧ PCall Try.prog 23 [.ro 4 false (l.map Act4.row)] (.v (.bool b)) := by
  have key : ∃ k, k ≤ l.length ∧ (k = l.length ∨ 100000 ≤ smallN l k) ∧ PCall Try.prog 23 [.ro 4 false (l.map Act4.row)] (.v (.bool (decide (smallN l k < 3000)))) := by
    obtain ⟨k, hk, hstop, hlt⟩ : ∃ k, k ≤ l.length ∧ (k = l.length ∨ 100000 ≤ smallN l k) ∧ ∀ i < k, smallN l i < 100000 := by
      have : ∀ m, m ≤ l.length → (∀ i < m, smallN l i < 100000) ∨ ∃ k, k ≤ l.length ∧ (k = l.length ∨ 100000 ≤ smallN l k) ∧ ∀ i < k, smallN l i < 100000 := by
        intro m
        induction m with
        | zero => intro _; left; intro i hi; omega
        | succ m ih =>
          intro hm
          rcases ih (by omega) with h | h
          · by_cases hc : smallN l m < 100000
            · left
              intro i hi
              rcases Nat.lt_or_ge i m with h1 | h1
              · exact h i h1
              · obtain rfl : i = m := by omega
                exact hc
            · right; exact ⟨m, by omega, .inr (by omega), h⟩
          · right; exact h
      rcases this l.length (by omega) with h | h
      · exact ⟨l.length, by omega, .inl rfl, h⟩
      · exact h
    refine ⟨k, hk, hstop, ?_⟩
    have hr : (l.map Act4.row).length = l.length := by simp
    refine pcall_mk Try.func23 rfl [.tmp 2] Try.results23 26 rfl (tk_start ?_)
    (repeat refine ka ?_); refine kr ?_ ?_ (pops_end ?_)
    (repeat refine ka ?_); refine kr ?_ ?_ (pops_end ?_)
    (repeat refine ka ?_); refine kr ?_ ?_ (pops_end ?_)
    (repeat refine ka ?_); refine kb ?_
    refine kw (fun i : Nat => [(0, .ro 4 false (l.map Act4.row)), (3, .v (.int .i64 (smallN l i))), (4, .v (.int .i64 i))]) (fun i => []) (fun i => i ≤ k) (fun i => k - i) 0 (by omega) (holds 0 (by repeat (first | exact .nil | refine has1 ?_))) ?_
    intro i hi
    have hn0 := smallN_le l 0 i (by omega)
    have hz : smallN l 0 = 0 := rfl
    by_cases hik : i < k
    · have hlti := hlt i hik
      have hil : i < l.length := by omega
      obtain ⟨x, hx⟩ : ∃ x, l[i]? = some x := ⟨l[i], by simp [hil]⟩
      have hrow : (l.map Act4.row)[((i : Nat) : Int).toNat]? = some [.v (.int .i64 x.d), .v (.int .u32 x.a), .v (.int .u32 x.n), .ro 1 false (ints .u8 x.B)] := by
        rw [Int.toNat_natCast, List.getElem?_map, hx]; rfl
      have hxb : x.B.length ≤ 140737488351232 := (hl x (List.mem_of_getElem? hx)).2.2.2
      have e1 : smallN l (i + 1) = smallN l i + x.B.length + 1 := by simp only [smallN, hx]
      (repeat refine ka ?_); refine kr ?_ ?_ (pops_end ?_)
      (repeat refine ka ?_); refine kct ?_
      (repeat refine ka ?_); refine ksk ?_
      (repeat refine ka ?_); refine kb ?_
      (repeat refine ka ?_); refine kr ?_ ?_ (pops_end ?_)
      refine kn ?_; repeat (first | with_reducible refine blk_n ?_ | with_reducible refine beh_n ?_)
      (repeat refine ka ?_); refine kr ?_ ?_ (pops_end ?_)
      refine kn ?_; repeat (first | with_reducible refine blk_n ?_ | with_reducible refine beh_n ?_)
      refine ⟨i + 1, by omega, by omega, ?_⟩
      rw [e1]
      exact (holds 0 (by repeat (first | exact .nil | refine has1 ?_)))
    · obtain rfl : i = k := by omega
      rcases hstop with hs | hs
      · (repeat refine ka ?_); refine kr ?_ ?_ (pops_end ?_)
        (repeat refine ka ?_); refine kcf ?_
        (repeat refine ka ?_); refine kx ?_; (repeat (first | with_reducible refine beh_x ?_ | with_reducible refine blk_up rfl ?_)); refine blk_here ?_; refine beh_n ?_
        (repeat refine ka ?_); refine kr ?_ ?_ (pops_end ?_)
        (repeat refine ka ?_); refine kret ?_; repeat (first | with_reducible refine beh_r ?_ | with_reducible refine blk_r ?_)
        refine ends_ret ?_ retPV_one
        rfl
      · by_cases hil : i < l.length
        · (repeat refine ka ?_); refine kr ?_ ?_ (pops_end ?_)
          (repeat refine ka ?_); refine kcf ?_
          (repeat refine ka ?_); refine kx ?_; (repeat (first | with_reducible refine beh_x ?_ | with_reducible refine blk_up rfl ?_)); refine blk_here ?_; refine beh_n ?_
          (repeat refine ka ?_); refine kr ?_ ?_ (pops_end ?_)
          (repeat refine ka ?_); refine kret ?_; repeat (first | with_reducible refine beh_r ?_ | with_reducible refine blk_r ?_)
          refine ends_ret ?_ retPV_one
          rw [decide_eq_false (by omega)]
        · (repeat refine ka ?_); refine kr ?_ ?_ (pops_end ?_)
          (repeat refine ka ?_); refine kcf ?_
          (repeat refine ka ?_); refine kx ?_; (repeat (first | with_reducible refine beh_x ?_ | with_reducible refine blk_up rfl ?_)); refine blk_here ?_; refine beh_n ?_
          (repeat refine ka ?_); refine kr ?_ ?_ (pops_end ?_)
          (repeat refine ka ?_); refine kret ?_; repeat (first | with_reducible refine beh_r ?_ | with_reducible refine blk_r ?_)
          refine ends_ret ?_ retPV_one
          rw [decide_eq_false (by omega)]
  obtain ⟨k, hk, hstop, hp⟩ := key
  refine ⟨_, fun h x hx => ?_, hp⟩
  have h := of_decide_eq_true h
  rcases hstop with rfl | hs
  · obtain ⟨i, hi, rfl⟩ := List.getElem_of_mem hx
    have := smallN_at l i l.length l[i] (by simp [hi]) hi
    omega
  · omega
/-- The blocks, by which of the two calls has been made. -/
def U2 (g0 g1 h0 h1 : Nat) (X : Blk) (L L1 : List Int) (p q : Bool) : List Blk :=
  [⟨g1, true, 1, ints .u8 (cond p L1 L)⟩, ⟨g0, true, 1, [[.vw 0 g1 0 L.length]]⟩, ⟨h1, true, 1, ints .u8 (cond q L1 L)⟩, ⟨h0, true, 1, [[.vw 2 h1 0 L.length]]⟩, X]
theorem le_two {a b : Blk} {R : PV → List Blk → Prop} {r : PV} (h : ∀ x S', R x S' → x = r ∧ S' = [a, b]) : ∀ x S', R x S' → 2 ≤ S'.length := fun x S' k => by rw [(h x S' k).2]; exact Nat.le_refl _
theorem mcall {f : FuncId} {ar : List PV} {r : Bool} {g0 g1 h0 h1 : Nat} {X : Blk} {L L1 : List Int} (hr : ∀ e, renL e ar = ar) (hL : L1.length = L.length)
    (h : GCall Try.prog f (.ptr 0 g0 0 0 :: ar) [⟨g0, true, 1, [[.vw 1 g1 0 L.length]]⟩, ⟨g1, true, 1, ints .u8 L⟩] (fun x S' => x = .v (.bool r) ∧ S' = [⟨g0, true, 1, [[.vw 1 g1 0 L1.length]]⟩, ⟨g1, true, 1, ints .u8 L1⟩])) (q : Bool) :
    GCall Try.prog f (.ptr 1 g0 0 0 :: ar) (U2 g0 g1 h0 h1 X L L1 false q) (fun y T => y = .v (.bool r) ∧ T = U2 g0 g1 h0 h1 X L L1 true q) := by
  refine gcall_at [1, 0] h ?_ ?_ ?_ ?_ (by decide) ?_
  · rintro x S' ⟨rfl, rfl⟩
    simp only [List.map_cons, List.map_nil, renB, ren_ints, putB, List.set_cons_zero, List.set_cons_succ, renL, ren, sg, List.append_nil, U2, cond_true, cond_false, hL, and_self]
  · rintro x S' ⟨rfl, rfl⟩; exact Nat.le_refl _
  · rw [renL, hr]; rfl
  · simp only [List.map_cons, List.map_nil, renB, ren_ints]; rfl
  · simp only [U2, List.length_cons, List.length_nil]; decide
theorem rcall {f : FuncId} {ar : List PV} {r : Bool} {g0 g1 h0 h1 : Nat} {X : Blk} {L L1 : List Int} (hr : ∀ e, renL e ar = ar) (hL : L1.length = L.length)
    (h : GCall Try.prog f (.ptr 0 h0 0 0 :: ar) [⟨h0, true, 1, [[.vw 1 h1 0 L.length]]⟩, ⟨h1, true, 1, ints .u8 L⟩] (fun x S' => x = .v (.bool r) ∧ S' = [⟨h0, true, 1, [[.vw 1 h1 0 L1.length]]⟩, ⟨h1, true, 1, ints .u8 L1⟩])) (p : Bool) :
    GCall Try.prog f (.ptr 3 h0 0 0 :: ar) (U2 g0 g1 h0 h1 X L L1 p false) (fun y T => y = .v (.bool r) ∧ T = U2 g0 g1 h0 h1 X L L1 p true) := by
  refine gcall_at [3, 2] h ?_ ?_ ?_ ?_ (by decide) ?_
  · rintro x S' ⟨rfl, rfl⟩
    simp only [List.map_cons, List.map_nil, renB, ren_ints, putB, List.set_cons_zero, List.set_cons_succ, renL, ren, sg, List.append_nil, U2, cond_true, cond_false, hL, and_self]
  · rintro x S' ⟨rfl, rfl⟩; exact Nat.le_refl _
  · rw [renL, hr]; rfl
  · simp only [List.map_cons, List.map_nil, renB, ren_ints]; rfl
  · simp only [U2, List.length_cons, List.length_nil]; decide
end Go.Proofs.Ytaaealngifkaeaa.Pv
