-- carapacelaw04.LzTells.
import Derived.Test.YtaaealngifkaeaaLzM
import Derived.Test.YtaaealngifkaeaaLzK
namespace Go.Proofs.Ytaaealngifkaeaa.Pv
set_option linter.all false
open Go.RowKit Go.Proofs
set_option maxRecDepth 100000
set_option maxHeartbeats 4000000
theorem backF_len (n : Int) : ∀ (q : Nat) (b out : List Int) (fl : Int) (many : Nat), (backF n q b out fl many).1.length ≤ out.length ∨ ((backF n q b out fl many).1.length : Int) ≤ n
  | 0, b, out, fl, many => by
    left; rw [backF, fin]; split <;> simp
  | q + 1, b, out, fl, many => by
    have hu : ∀ b fl, (unit1 n (backF n q) b out fl many).1.length ≤ out.length ∨ ((unit1 n (backF n q) b out fl many).1.length : Int) ≤ n ∨ n ≤ out.length := by
      intro b fl
      unfold unit1
      split
      · left; simp
      · split
        · rcases backF_len n q (b.drop 1) (out ++ [b.getD 0 0]) (fl / 2) (many + 1) with h | h
          · rw [List.length_append, List.length_singleton] at h
            rcases Int.lt_or_le out.length n with h2 | h2
            · right; left; omega
            · right; right; exact h2
          · right; left; exact h
        · split
          · left; simp
          · rename_i h3
            rcases backF_len n q (b.drop 2) (rep (farOf b).toNat (longOf b).toNat out) (fl / 2) (many + 1) with h | h
            · rw [rep_length] at h
              rcases Int.lt_or_le out.length n with h2 | h2
              · right; left; omega
              · right; right; exact h2
            · right; left; exact h
    rw [backF]
    split
    · left; rw [fin]; split <;> simp
    · rename_i h4
      split
      · split
        · left; simp
        · rcases hu (b.drop 1) (b.getD 0 0) with h | h | h
          · exact .inl h
          · exact .inr h
          · omega
      · rcases hu b fl with h | h | h
        · exact .inl h
        · exact .inr h
        · omega
theorem back_len (b : List Int) (n : Int) : (back b n).1.length ≤ 65536 := by
  unfold back
  split
  · simp
  · have := backF_len n n.toNat b [] 0 0
    simp only [List.length_nil] at this
    omega
theorem tells_walk {x0 x1 x2 : PV} (h0 : SSl 1 1 (SInt .u8) [x0]) (h1 : SSl 1 1 (SInt .u8) [x1]) (h2 : ∃ xs, x2 = .agg xs ∧ SArr 2 (SInt .i64) xs) : PCall Try.prog 12 [x0, x1, x2] (.v (.bool true)) := by
  obtain ⟨b, rfl, hl, hb⟩ := sl_ints h0
  obtain ⟨c, rfl, hcl, hc⟩ := sl_ints h1
  obtain ⟨xs, rfl, hxs⟩ := h2
  obtain ⟨ns, rfl, hn, hnw⟩ := arr_ints hxs
  clear h0 h1 hxs
  have hb := bytes_wf hb
  have hc := bytes_wf hc
  match ns, hn with
  | [m, n], _ =>
  simp only [List.map_cons, List.map_nil]
  refine pcall_mk Try.func12 rfl [.tmp 6] Try.results12 86 rfl (tk_start ?_)
  (repeat refine ka ?_); refine kr ?_ ?_ ?_
  refine ps_box fun g0 => ?_
  refine pops_go ?_ ?_ (pops_end ?_)
  (repeat refine ka ?_); refine kr ?_ ?_ ?_
  refine ps_pcall awake_ok ?_
  refine pops_go ?_ ?_ (pops_end ?_)
  by_cases k1 : (400 : Int) < b.length
  · (repeat refine ka ?_); refine kr ?_ ?_ (pops_end ?_)
    (repeat refine ka ?_); refine kct ?_
    (repeat refine ka ?_); refine kr ?_ ?_ (pops_end ?_)
    (repeat refine ka ?_); refine kret ?_; repeat (first | with_reducible refine beh_r ?_ | with_reducible refine blk_r ?_)
    exact ends_ret rfl retPV_one
  by_cases k2 : (400 : Int) < c.length
  · (repeat refine ka ?_); refine kr ?_ ?_ (pops_end ?_)
    (repeat refine ka ?_); refine kct ?_
    (repeat refine ka ?_); refine kr ?_ ?_ (pops_end ?_)
    (repeat refine ka ?_); refine kret ?_; repeat (first | with_reducible refine beh_r ?_ | with_reducible refine blk_r ?_)
    exact ends_ret rfl retPV_one
  have p1 := find_ok b m (by omega)
  have p2 := rfind_ok b m (by omega)
  have p3 := put_ok b hb (by omega)
  have p4 := rput_ok b hb (by omega)
  have hpl := put_len b
  have p5 := sameb_ok (put b) (put b) (by omega) (by omega)
  rw [decide_eq_true (rfl : put b = put b)] at p5
  have p6 := back_ok c n hc (by omega)
  have p7 := rback_ok c n hc (by omega)
  have hbl := back_len c n
  have p8 := sameb_ok (back c n).1 (back c n).1 (by omega) (by omega)
  rw [decide_eq_true (rfl : (back c n).1 = (back c n).1)] at p8
  generalize find b m = F at *
  generalize put b = p at *
  generalize back c n = K at *
  obtain ⟨f1, f2⟩ := F
  obtain ⟨k, e⟩ := K
  simp only at p1 p2 p6 p7 p8
  (repeat refine ka ?_); refine kr ?_ ?_ (pops_end ?_)
  (repeat refine ka ?_); refine kcf ?_
  (repeat refine ka ?_); refine ksk ?_
  (repeat refine ka ?_); refine kr ?_ ?_ ?_
  refine ps_pcall p1 ?_
  refine pops_go ?_ ?_ (pops_end ?_)
  (repeat refine ka ?_); refine kr ?_ ?_ ?_
  refine ps_pcall p2 ?_
  refine pops_go ?_ ?_ (pops_end ?_)
  (repeat refine ka ?_); refine kr ?_ ?_ ?_
  refine ps_pcall p3 ?_
  refine pops_go ?_ ?_ ?_
  refine ps_pcall p4 ?_
  refine ps_pcall p5 ?_
  refine pops_go ?_ ?_ (pops_end ?_)
  (repeat refine ka ?_); refine kr ?_ ?_ ?_
  refine ps_pcall p6 ?_
  refine pops_go ?_ ?_ (pops_end ?_)
  (repeat refine ka ?_); refine kr ?_ ?_ ?_
  refine ps_pcall p7 ?_
  refine pops_go ?_ ?_ (pops_end ?_)
  (repeat refine ka ?_); refine kr ?_ ?_ ?_
  refine ps_pcall p8 ?_
  refine pops_go ?_ ?_ (pops_end ?_)
  (repeat refine ka ?_); refine kr ?_ ?_ (pops_end ?_)
  (repeat refine ka ?_); refine kret ?_; repeat (first | with_reducible refine beh_r ?_ | with_reducible refine blk_r ?_)
  exact ends_ret rfl retPV_one
end Go.Proofs.Ytaaealngifkaeaa.Pv
