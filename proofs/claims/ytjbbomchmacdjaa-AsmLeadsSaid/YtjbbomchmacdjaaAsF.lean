-- carapaceref12.Large.
import Derived.Test.YtjbbomchmacdjaaAsE
namespace Go.Proofs.Ytjbbomchmacdjaa.Pv
set_option linter.all false
open Go.RowKit Go.Proofs
set_option maxRecDepth 100000
def nameL : Option It → Nat
  | some x => x.n.length
  | none => 0
def namesN (L : List It) : Nat → Int
  | 0 => 0
  | i + 1 => namesN L i + (nameL L[i]? : Nat) + 1
theorem namesN_ge (L : List It) : ∀ i : Nat, (i : Int) ≤ namesN L i
  | 0 => by simp [namesN]
  | i + 1 => by
    have := namesN_ge L i
    rw [namesN]
    omega
theorem large_ok (L : List It) (hl : L.length * 72 ≤ 140737488351232) (hn : ∀ x ∈ L, x.n.length ≤ 140737488351232) : ∃ b, (b = false → L.length ≤ 4200 ∧ (L.length ≤ 300 ∨ 4096 < L.length) ∧ namesN L L.length ≤ 20000) ∧ PCall Try.prog 34 [.ro 8 false (itRows L)] (.v (.bool b)) := by
  have hcl := itRows_length L
  have hlen : L.length ≤ 2000000000000 := by omega
  clear hl
  have key : ∀ b, (∀ (i : Nat) (v : Int), i ≤ L.length → v = namesN L i → (i = L.length ∨ 100000 ≤ v) → b = decide (20000 < v ∨ 4200 < L.length ∨ 300 < L.length ∧ L.length ≤ 4096)) → PCall Try.prog 34 [.ro 8 false (itRows L)] (.v (.bool b)) := by
    intro b hb
    refine pcall_mk Try.func34 rfl [.tmp 2] Try.results34 41 rfl (tk_start ?_)
    (repeat refine ka ?_); refine kr ?_ ?_ (pops_end ?_)
    (repeat refine ka ?_); refine kr ?_ ?_ (pops_end ?_)
    (repeat refine ka ?_); refine kr ?_ ?_ (pops_end ?_)
    (repeat refine ka ?_); refine kb ?_
    refine kw (fun i : Nat => [(0, PV.ro 8 false (itRows L)), (3, .v (.int .i64 (namesN L i))), (4, .v (.int .i64 i))]) (fun _ => []) (fun i => i ≤ L.length ∧ namesN L i ≤ 140737488551232) (fun i => L.length - i) 0 (by simp [namesN]) (holds 0 (by repeat (first | exact .nil | refine has1 ?_))) ?_
    rintro i ⟨hi, hm⟩
    have hge := namesN_ge L i
    by_cases g : (i : Int) < L.length
    · by_cases g2 : namesN L i < 100000
      · obtain ⟨x, hx⟩ : ∃ x, L[i]? = some x := ⟨L[i]'(by omega), by simp [show i < L.length by omega]⟩
        have hrow := itRows_get hx
        have hxl := hn x (List.mem_of_getElem? hx)
        have hs : namesN L (i + 1) = namesN L i + x.n.length + 1 := by rw [namesN, hx]; rfl
        (repeat refine ka ?_); refine kr ?_ ?_ (pops_end ?_)
        (repeat refine ka ?_); refine kct ?_
        (repeat refine ka ?_); refine ksk ?_
        (repeat refine ka ?_); refine kb ?_
        (repeat refine ka ?_); refine kr ?_ ?_ (pops_end ?_)
        refine kn ?_; repeat (first | with_reducible refine blk_n ?_ | with_reducible refine beh_n ?_)
        (repeat refine ka ?_); refine kr ?_ ?_ (pops_end ?_)
        refine kn ?_; repeat (first | with_reducible refine blk_n ?_ | with_reducible refine beh_n ?_)
        refine ⟨i + 1, ⟨by omega, by omega⟩, by omega, ?_⟩
        rw [hs]
        exact (holds 0 (by repeat (first | exact .nil | refine has1 ?_)))
      · have hv := hb i _ hi rfl (.inr (by omega))
        (repeat refine ka ?_); refine kr ?_ ?_ (pops_end ?_)
        (repeat refine ka ?_); refine kcf ?_
        (repeat refine ka ?_); refine kx ?_; (repeat (first | with_reducible refine beh_x ?_ | with_reducible refine blk_up rfl ?_)); refine blk_here ?_; refine beh_n ?_
        (repeat refine ka ?_); refine kr ?_ ?_ (pops_end ?_)
        (repeat refine ka ?_); refine kret ?_; repeat (first | with_reducible refine beh_r ?_ | with_reducible refine blk_r ?_)
        refine ends_ret ?_ retPV_one
        rw [hv, decide_eq_true (.inl (by omega))]
    · have hv := hb i _ hi rfl (.inl (by omega))
      have hi' : i = L.length := by omega
      generalize namesN L i = v at *
      by_cases d1 : 20000 < v
      · (repeat refine ka ?_); refine kr ?_ ?_ (pops_end ?_)
        (repeat refine ka ?_); refine kcf ?_
        (repeat refine ka ?_); refine kx ?_; (repeat (first | with_reducible refine beh_x ?_ | with_reducible refine blk_up rfl ?_)); refine blk_here ?_; refine beh_n ?_
        (repeat refine ka ?_); refine kr ?_ ?_ (pops_end ?_)
        (repeat refine ka ?_); refine kret ?_; repeat (first | with_reducible refine beh_r ?_ | with_reducible refine blk_r ?_)
        refine ends_ret ?_ retPV_one
        rw [hv, decide_eq_true (.inl d1)]
      by_cases d2 : (4200 : Int) < L.length
      · (repeat refine ka ?_); refine kr ?_ ?_ (pops_end ?_)
        (repeat refine ka ?_); refine kcf ?_
        (repeat refine ka ?_); refine kx ?_; (repeat (first | with_reducible refine beh_x ?_ | with_reducible refine blk_up rfl ?_)); refine blk_here ?_; refine beh_n ?_
        (repeat refine ka ?_); refine kr ?_ ?_ (pops_end ?_)
        (repeat refine ka ?_); refine kret ?_; repeat (first | with_reducible refine beh_r ?_ | with_reducible refine blk_r ?_)
        refine ends_ret ?_ retPV_one
        rw [hv, decide_eq_true (.inr (.inl (by omega)))]
      by_cases d3 : (300 : Int) < L.length
      · by_cases d4 : (L.length : Int) ≤ 4096
        · (repeat refine ka ?_); refine kr ?_ ?_ (pops_end ?_)
          (repeat refine ka ?_); refine kcf ?_
          (repeat refine ka ?_); refine kx ?_; (repeat (first | with_reducible refine beh_x ?_ | with_reducible refine blk_up rfl ?_)); refine blk_here ?_; refine beh_n ?_
          (repeat refine ka ?_); refine kr ?_ ?_ (pops_end ?_)
          (repeat refine ka ?_); refine kret ?_; repeat (first | with_reducible refine beh_r ?_ | with_reducible refine blk_r ?_)
          refine ends_ret ?_ retPV_one
          rw [hv, decide_eq_true (.inr (.inr (by omega)))]
        · (repeat refine ka ?_); refine kr ?_ ?_ (pops_end ?_)
          (repeat refine ka ?_); refine kcf ?_
          (repeat refine ka ?_); refine kx ?_; (repeat (first | with_reducible refine beh_x ?_ | with_reducible refine blk_up rfl ?_)); refine blk_here ?_; refine beh_n ?_
          (repeat refine ka ?_); refine kr ?_ ?_ (pops_end ?_)
          (repeat refine ka ?_); refine kret ?_; repeat (first | with_reducible refine beh_r ?_ | with_reducible refine blk_r ?_)
          refine ends_ret ?_ retPV_one
          rw [hv, decide_eq_false (by omega)]
      · (repeat refine ka ?_); refine kr ?_ ?_ (pops_end ?_)
        (repeat refine ka ?_); refine kcf ?_
        (repeat refine ka ?_); refine kx ?_; (repeat (first | with_reducible refine beh_x ?_ | with_reducible refine blk_up rfl ?_)); refine blk_here ?_; refine beh_n ?_
        (repeat refine ka ?_); refine kr ?_ ?_ (pops_end ?_)
        (repeat refine ka ?_); refine kret ?_; repeat (first | with_reducible refine beh_r ?_ | with_reducible refine blk_r ?_)
        refine ends_ret ?_ retPV_one
        rw [hv, decide_eq_false (by omega)]
  have mono : ∀ i, i ≤ L.length → namesN L i ≤ namesN L L.length := by
    intro i hi
    obtain ⟨d, hd⟩ : ∃ d, L.length = i + d := ⟨L.length - i, by omega⟩
    rw [hd]
    clear hd hi
    induction d with
    | zero => exact Int.le_refl _
    | succ d ih =>
      rw [← Nat.add_assoc, namesN]
      omega
  refine ⟨decide (20000 < namesN L L.length ∨ 4200 < L.length ∨ 300 < L.length ∧ L.length ≤ 4096), fun h => ?_, key _ fun i v hi hv he => ?_⟩
  · rw [decide_eq_false_iff_not] at h
    omega
  · subst hv
    rcases he with rfl | he
    · rfl
    · have := mono i hi
      rw [decide_eq_true (.inl (by omega)), decide_eq_true (.inl (by omega))]
end Go.Proofs.Ytjbbomchmacdjaa.Pv
