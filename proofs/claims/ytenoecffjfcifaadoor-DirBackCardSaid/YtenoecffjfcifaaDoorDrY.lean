-- What the laws of files lean on.
import Derived.Test.YtenoecffjfcifaaDoorD3
namespace Go.Proofs.YtenoecffjfcifaaDoor.Pv
set_option linter.all false
set_option linter.unusedVariables false
open Go.RowKit Go.Proofs
set_option maxRecDepth 100000
set_option maxHeartbeats 4000000
theorem ssl_oneD {xs : List PV} (h : SSl 1 1 (SInt .u8) xs) : ∃ l, xs = [.ro 1 false (ints .u8 l)] ∧ Oct l ∧ l.length ≤ 140737488351232 := by
  obtain ⟨rows, rfl, r1, r2, r3⟩ := h
  obtain ⟨b, e, hb1, hb2⟩ := sl_ints (x := .ro 1 false rows) ⟨rows, rfl, r1, r2, r3⟩
  cases e
  exact ⟨b, rfl, wf8d hb2, by omega⟩
theorem readF_ok {b : List Int} (hb : Oct b) (hl : b.length ≤ 1000000000) (n : Int) : EnsOk (readF b n).1 ∧ (readF b n).1.length ≤ 200 := by
  unfold readF
  by_cases h : n < 0 ∨ 200 < n
  · rw [if_pos h]
    exact ⟨(fun e he => by cases he), Nat.zero_le _⟩
  · rw [if_neg h]
    cases hS : readS b n.toNat with
    | none => exact ⟨(fun e he => by cases he), Nat.zero_le _⟩
    | some p =>
      obtain ⟨L, r⟩ := p
      obtain ⟨h1, h2, h3, h4⟩ := readS_ok hb hl hS
      simp only
      by_cases q : r = []
      · rw [if_neg (fun h => h q)]
        by_cases q2 : checkF L = 0
        · rw [if_neg (fun h => h q2)]
          exact ⟨h4, by simp only; omega⟩
        · rw [if_pos q2]
          exact ⟨(fun e he => by cases he), Nat.zero_le _⟩
      · rw [if_pos q]
        exact ⟨(fun e he => by cases he), Nat.zero_le _⟩
theorem checkF_cases (E : List En) : (bytesF15 E).length ≤ 1000000000 := by
  unfold bytesF15
  by_cases h : checkF E = 0
  · rw [if_pos h]
    obtain ⟨h1, h2⟩ := checkF_ents h
    have := entsF_len E fun e he => (h2 e he).1
    omega
  · rw [if_neg h]
    exact Nat.zero_le _
theorem totN_memD : ∀ {L : List (List Int)} {x : List Int}, x ∈ L → (x.length : Int) ≤ totN L
  | y :: L, x, h => by
    have := totN_nonneg L
    rw [totN]
    rcases List.mem_cons.1 h with rfl | h
    · omega
    · have := totN_memD h
      omega
theorem pick_perm_sub {F : List Fi} {P : List (List Int)} : ∀ f ∈ pickF F P, f ∈ F := fun f hf => pick_mem hf
theorem ofF_ok {F : List Fi} (hF : FisOk F) : EnsOk (ofF F).1 ∧ (ofF F).1.length ≤ 40000 ∧ (ofF F).2.1.length ≤ 2621440000 ∧ Oct (ofF F).2.1 := by
  unfold ofF
  have hnn : ∀ x ∈ F.map fun f => (f.2.length : Int), 0 ≤ x := by intro x hx; obtain ⟨e, he, rfl⟩ := List.mem_map.1 hx; omega
  by_cases q0 : rsetF (F.map (·.1)) = 0
  · rw [if_neg (fun h => h q0)]
    by_cases q1 : 65536 < totF F
    · rw [if_pos q1]
      exact ⟨(fun e he => by cases he), Nat.zero_le _, Nat.zero_le _, (fun x hx => by cases hx)⟩
    · rw [if_neg q1]
      have hFl : F.length ≤ 200 := by have := (rsetF_zero.1 q0).1; rwa [List.length_map] at this
      have hd : ∀ f ∈ F, f.2.length ≤ 65536 := fun f hf => by
        have := mem_le_sum hnn (List.mem_map_of_mem (f := fun f : Fi => (f.2.length : Int)) hf)
        unfold totF at q1
        omega
      have hm : ∀ f ∈ sortFi F, f ∈ F := fun f hf => pick_mem hf
      have hlen : (sortFi F).length ≤ 40000 := by
        have h1 := pick_len F (rsortF (F.map (·.1)))
        rw [rsortF_length, List.length_map] at h1
        have h2 : F.length * F.length ≤ 200 * 200 := Nat.mul_le_mul hFl hFl
        unfold sortFi
        omega
      refine ⟨fun e he => ?_, by simp only [entsOf, List.length_map]; exact hlen, ?_, ?_⟩
      · obtain ⟨f, hf, rfl⟩ := List.mem_map.1 he
        have h1 := hF f (hm f hf)
        have h2 := hd f (hm f hf)
        exact ⟨⟨h1.1.1, by simp only; omega, by simp only; omega⟩, h1.2.1⟩
      · have := data_len fun f hf => hd f (hm f hf)
        simp only
        omega
      · intro x hx
        simp only [dataOf, List.mem_flatten, List.mem_map] at hx
        obtain ⟨l, ⟨f, hf, rfl⟩, hx⟩ := hx
        exact (hF f (hm f hf)).1.2 x hx
  · rw [if_pos q0]
    exact ⟨(fun e he => by cases he), Nat.zero_le _, Nat.zero_le _, (fun x hx => by cases hx)⟩
theorem cutAt_ok : ∀ {E : List En} {b : List Int}, EnsOk E → Oct b → b.length ≤ 1000000000 → FisOk (cutAt E b)
  | [], b, _, _, _ => fun f hf => by cases hf
  | e :: E, b, hE, hb, hl => by
    intro f hf
    rw [cutAt] at hf
    rcases List.mem_cons.1 hf with rfl | hf
    · have := hE e (by simp)
      exact ⟨⟨this.1.1, oct_take hb _⟩, this.2, by simp only [List.length_take]; omega⟩
    · exact cutAt_ok (E := E) (b := b.drop e.2.toNat) (fun x hx => hE x (by simp [hx])) (oct_drop hb _) (by rw [List.length_drop]; omega) f hf
theorem cutF_ok {E : List En} {b : List Int} (hE : EnsOk E) (hb : Oct b) (hl : b.length ≤ 1000000000) : FisOk (cutF E b).1 ∧ (cutF E b).1.length ≤ E.length := by
  unfold cutF
  by_cases q : checkF E = 0
  · rw [if_neg (fun h => h q)]
    by_cases q1 : (E.map (·.2)).sum = b.length
    · rw [if_neg (fun h => h q1)]
      exact ⟨cutAt_ok hE hb hl, by rw [cutAt_length]; exact Nat.le_refl _⟩
    · rw [if_pos q1]
      exact ⟨(fun e he => by cases he), Nat.zero_le _⟩
  · rw [if_pos q]
    exact ⟨(fun e he => by cases he), Nat.zero_le _⟩
theorem sameb_big (a : List Int) (ha : a.length ≤ 2621440000) : PCall Tryd.prog 14 [.ro 1 false (ints .u8 a), .ro 1 false (ints .u8 a)] (.v (.bool true)) := by
  refine pcall_mk Tryd.func14 rfl [.tmp 4] Tryd.results14 26 rfl (tk_start ?_)
  (repeat refine ka ?_); refine kr ?_ ?_ (pops_end ?_)
  (repeat refine ka ?_); refine kr ?_ ?_ (pops_end ?_)
  (repeat refine ka ?_); refine kcf ?_
  (repeat refine ka ?_); refine ksk ?_
  (repeat refine ka ?_); refine kr ?_ ?_ (pops_end ?_)
  (repeat refine ka ?_); refine kb ?_
  refine kw (fun i : Nat => [(0, PV.ro 1 false (ints .u8 a)), (1, .ro 1 false (ints .u8 a)), (5, .v (.int .i64 i))]) (fun _ => []) (fun i => i ≤ a.length) (fun i => a.length - i) 0 (Nat.zero_le _) (holds 0 (by repeat (first | exact .nil | refine has1 ?_))) ?_
  rintro i hi
  by_cases g : (i : Int) < a.length
  · (repeat refine ka ?_); refine kr ?_ ?_ (pops_end ?_)
    (repeat refine ka ?_); refine kct ?_
    (repeat refine ka ?_); refine ksk ?_
    (repeat refine ka ?_); refine kb ?_
    (repeat refine ka ?_); refine kd ?_ ?_ (pstl_end ?_)
    (repeat refine ka ?_); refine kcf ?_
    (repeat refine ka ?_); refine ksk ?_
    refine kn ?_; repeat (first | with_reducible refine blk_n ?_ | with_reducible refine beh_n ?_)
    (repeat refine ka ?_); refine kr ?_ ?_ (pops_end ?_)
    refine kn ?_; repeat (first | with_reducible refine blk_n ?_ | with_reducible refine beh_n ?_)
    exact ⟨i + 1, by omega, by omega, (holds 0 (by repeat (first | exact .nil | refine has1 ?_)))⟩
  · (repeat refine ka ?_); refine kr ?_ ?_ (pops_end ?_)
    (repeat refine ka ?_); refine kcf ?_
    (repeat refine ka ?_); refine kx ?_; (repeat (first | with_reducible refine beh_x ?_ | with_reducible refine blk_up rfl ?_)); refine blk_here ?_; refine beh_n ?_
    (repeat refine ka ?_); refine kr ?_ ?_ (pops_end ?_)
    (repeat refine ka ?_); refine kret ?_; repeat (first | with_reducible refine beh_r ?_ | with_reducible refine blk_r ?_)
    refine ends_ret ?_ retPV_one
    rfl
end Go.Proofs.YtenoecffjfcifaaDoor.Pv
